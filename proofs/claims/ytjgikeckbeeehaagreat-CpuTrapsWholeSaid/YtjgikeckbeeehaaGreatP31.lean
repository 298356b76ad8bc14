import Derived.Test.YtjgikeckbeeehaaGreatP29
import Derived.Test.YtjgikeckbeeehaaGreatP36
set_option linter.unusedSimpArgs false
set_option linter.unusedVariables false
set_option maxHeartbeats 100000000
set_option maxRecDepth 100000
namespace Go.Proofs.YtjgikeckbeeehaaGreat
open Go Go.RowKit
theorem Qn7 (M:Mc) (hM:M.ok) (hl:M.m.length=256) (w a:Int) (h:w%24=0):Fn Tryz.prog 16 [.agg (M.C 0),.s (.int .i64 w),.s (.int .i64 a)] [⟨false,1,wsv M.m⟩] QbF:=by
 have q0:=Qa1 M hM
 have q1:=QaK w 24 (by decide) (by decide)
 rw [h] at q1
 have hu:IntKind.u32.wrap (bits .and .i64 a 4294967295)=((w32 (bits .and .i64 a 4294967295):Nat):Int):=Qav _
 have hul:=Qax (bits .and .i64 a 4294967295)
 have hsm:=Qaa M.m
 generalize w32 (bits .and .i64 a 4294967295)=u at *
 obtain ⟨hx,hc,hxr,hcr,hpr,hmr,hml,hdk,hnk,hdv⟩:=hM
 obtain ⟨_,_,_,m,ks,ta,td,tf,d,n,bt,bg,ct,wt,ht⟩:=M
 dsimp only at *
 obtain ⟨x0,x1,x2,x3,x4,x5,x6,x7,x8,x9,x10,x11,x12,x13,x14,x15,rfl⟩:=Qaq hx
 obtain ⟨c0,c1,c2,c3,c4,c5,c6,c7,rfl⟩:=QaJ hc
 obtain ⟨d0,d1,d2,d3,d4,d5,d6,d7⟩:=d
 obtain ⟨n0,n1,n2,n3,n4,n5⟩:=n
 dsimp only [Mc.C,Mc.D,Dk.C,Nk.C,Dk.ok,Nk.ok] at *
 have hfinQ:QbF ⟨.a (.agg ((Mc.mk [x0,x1,x2,x3,x4,x5,x6,x7,x8,x9,x10,x11,x12,x13,x14,x15] u [c0,c1,c2,c3,c4,c5,c6,c7] m ks ta td tf ⟨d0,d1,d2,d3,d4,d5,d6,d7⟩ ⟨n0,n1,n2,n3,n4,n5⟩ bt bg ct wt ht).C 1)),[],[⟨true,1,wsv m⟩]⟩:=⟨Mc.mk [x0,x1,x2,x3,x4,x5,x6,x7,x8,x9,x10,x11,x12,x13,x14,x15] u [c0,c1,c2,c3,c4,c5,c6,c7] m ks ta td tf ⟨d0,d1,d2,d3,d4,d5,d6,d7⟩ ⟨n0,n1,n2,n3,n4,n5⟩ bt bg ct wt ht,[],⟨rfl,rfl,hxr,hcr,hul,hmr,hml,hdk,hnk,hdv⟩,by rw [List.append_nil]⟩
 simp only [hl] at q0 ⊢
 dsimp only [Mc.C,Mc.D,Dk.C,Nk.C] at hfinQ
 rw [hl] at hfinQ
 generalize wsv m=XX at *
 clear hxr hcr hdk hnk hmr hdv hpr hml
 simp only [Qaf,List.cons_append,List.nil_append] at *
 refine fnW Tryz.func16 ?_
 (repeat' ((conv=>whnf);first|(intro hb;first|exact zk4 hb|(try (replace hb:=zn4 hb)))|(with_reducible refine zv hu ?_)|(refine Qay q0 ?_)|(refine zpu q1 ?_)|refine zst ?_|refine zbx ?_ ?_|refine zgx ?_ ?_|refine eqR ?_));(all_goals (try (conv=>whnf)))
 all_goals first|(exfalso;omega)|(exfalso;simp at hb;done)|(refine QaS hfinQ ?_;(exact Qa2))
theorem QoQ (M:Mc) (hM:M.ok) (hl:M.m.length=256) (w a:Int) (h:w%24=1):Fn Tryz.prog 16 [.agg (M.C 0),.s (.int .i64 w),.s (.int .i64 a)] [⟨false,1,wsv M.m⟩] QbF:=by
 have q0:=Qa1 M hM
 have q1:=QaK w 24 (by decide) (by decide)
 rw [h] at q1
 have hu:IntKind.u32.wrap (bits .and .i64 a 4294967295)=((w32 (bits .and .i64 a 4294967295):Nat):Int):=Qav _
 have hul:=Qax (bits .and .i64 a 4294967295)
 have hsm:=Qaa M.m
 generalize w32 (bits .and .i64 a 4294967295)=u at *
 have qr:=QaK a 16 (by decide) (by decide)
 obtain ⟨r,er,lr⟩:∃ r:Nat,a%16=(r:Int)∧r<16:=⟨(a%16).toNat,by omega,by omega⟩
 rw [er] at qr
 obtain ⟨hx,hc,hxr,hcr,hpr,hmr,hml,hdk,hnk,hdv⟩:=hM
 obtain ⟨_,pc,_,m,ks,ta,td,tf,d,n,bt,bg,ct,wt,ht⟩:=M
 dsimp only at *
 obtain ⟨x0,x1,x2,x3,x4,x5,x6,x7,x8,x9,x10,x11,x12,x13,x14,x15,rfl⟩:=Qaq hx
 obtain ⟨c0,c1,c2,c3,c4,c5,c6,c7,rfl⟩:=QaJ hc
 obtain ⟨d0,d1,d2,d3,d4,d5,d6,d7⟩:=d
 obtain ⟨n0,n1,n2,n3,n4,n5⟩:=n
 dsimp only [Mc.C,Mc.D,Dk.C,Nk.C,Dk.ok,Nk.ok] at *
 have hxs:([x0,x1,x2,x3,x4,x5,x6,x7,x8,x9,x10,x11,x12,x13,x14,x15]:List Nat).length=16:=rfl
 have hxr2:=Qbw hxr r u hul
 have hset0:=Qfo [x0,x1,x2,x3,x4,x5,x6,x7,x8,x9,x10,x11,x12,x13,x14,x15] pc [c0,c1,c2,c3,c4,c5,c6,c7] r u rfl lr
 have hl2:(List.set [x0,x1,x2,x3,x4,x5,x6,x7,x8,x9,x10,x11,x12,x13,x14,x15] r u).length=16:=by simp
 generalize List.set [x0,x1,x2,x3,x4,x5,x6,x7,x8,x9,x10,x11,x12,x13,x14,x15] r u=ys at *
 obtain ⟨y0,y1,y2,y3,y4,y5,y6,y7,y8,y9,y10,y11,y12,y13,y14,y15,rfl⟩:=Qaq hl2
 have hfinQ:QbF ⟨.a (.agg ((Mc.mk [y0,y1,y2,y3,y4,y5,y6,y7,y8,y9,y10,y11,y12,y13,y14,y15] pc [c0,c1,c2,c3,c4,c5,c6,c7] m ks ta td tf ⟨d0,d1,d2,d3,d4,d5,d6,d7⟩ ⟨n0,n1,n2,n3,n4,n5⟩ bt bg ct wt ht).C 1)),[],[⟨true,1,wsv m⟩]⟩:=⟨Mc.mk [y0,y1,y2,y3,y4,y5,y6,y7,y8,y9,y10,y11,y12,y13,y14,y15] pc [c0,c1,c2,c3,c4,c5,c6,c7] m ks ta td tf ⟨d0,d1,d2,d3,d4,d5,d6,d7⟩ ⟨n0,n1,n2,n3,n4,n5⟩ bt bg ct wt ht,[],⟨rfl,rfl,hxr2,hcr,hpr,hmr,hml,hdk,hnk,hdv⟩,by rw [List.append_nil]⟩
 simp only [hl] at q0 ⊢
 dsimp only [Mc.C,Mc.D,Dk.C,Nk.C] at hfinQ
 rw [hl] at hfinQ
 generalize wsv m=XX at *
 clear hxr hcr hdk hnk hmr hdv hpr hml
 have hset:∀ (tl:List SV) o,o=r→QaF (Qao [x0,x1,x2,x3,x4,x5,x6,x7,x8,x9,x10,x11,x12,x13,x14,x15] pc [c0,c1,c2,c3,c4,c5,c6,c7]++tl) o [.int .u32 (u:Nat)]=Qao [y0,y1,y2,y3,y4,y5,y6,y7,y8,y9,y10,y11,y12,y13,y14,y15] pc [c0,c1,c2,c3,c4,c5,c6,c7]++tl:=fun tl o ho=>by rw [ho,QiI (by rw [Qai _ _ _ rfl rfl];omega),hset0]
 clear hset0
 simp only [Qaf,List.cons_append,List.nil_append] at *
 refine fnW Tryz.func16 ?_
 (repeat' ((conv=>whnf);first|(intro hb;first|exact zk4 hb|(try (replace hb:=zn4 hb)))|(refine zpu qr ?_)|(apply Sd.mk; · first|(show (0:Int)≤r∧(r:Int)<16;omega)|(refine ⟨rfl,rfl,rfl,?_⟩;(show r+1≤49);omega))|((with_reducible apply Vl.mk (α:=List SV)); · (with_reducible refine hset _ _ ?_);first|exact rfl|(show r=r;omega))|(with_reducible refine zv hu ?_)|(refine Qay q0 ?_)|(refine zpu q1 ?_)|refine zst ?_|refine zbx ?_ ?_|refine zgx ?_ ?_|refine eqR ?_));(all_goals (try (conv=>whnf)))
 all_goals first|(exfalso;omega)|(exfalso;simp at hb;done)|(refine QaS hfinQ ?_;(exact Qa2))
theorem Qo4 (M:Mc) (hM:M.ok) (hl:M.m.length=256) (w a:Int) (h:w%24=2):Fn Tryz.prog 16 [.agg (M.C 0),.s (.int .i64 w),.s (.int .i64 a)] [⟨false,1,wsv M.m⟩] QbF:=by
 have q0:=Qa1 M hM
 have q1:=QaK w 24 (by decide) (by decide)
 rw [h] at q1
 have hu:IntKind.u32.wrap (bits .and .i64 a 4294967295)=((w32 (bits .and .i64 a 4294967295):Nat):Int):=Qav _
 have hul:=Qax (bits .and .i64 a 4294967295)
 have hsm:=Qaa M.m
 generalize w32 (bits .and .i64 a 4294967295)=u at *
 have qr:=QaK a 8 (by decide) (by decide)
 obtain ⟨r,er,lr⟩:∃ r:Nat,a%8=(r:Int)∧r<8:=⟨(a%8).toNat,by omega,by omega⟩
 rw [er] at qr
 obtain ⟨v,ev,lv⟩:∃ v:Nat,(u:Int) / 2^min (Int.toNat 3) IntKind.u32.bits=(v:Int)∧v<4294967296:=⟨u / 8,by show (u:Int) / 8=_;omega,by omega⟩
 obtain ⟨hx,hc,hxr,hcr,hpr,hmr,hml,hdk,hnk,hdv⟩:=hM
 obtain ⟨_,pc,_,m,ks,ta,td,tf,d,n,bt,bg,ct,wt,ht⟩:=M
 dsimp only at *
 obtain ⟨x0,x1,x2,x3,x4,x5,x6,x7,x8,x9,x10,x11,x12,x13,x14,x15,rfl⟩:=Qaq hx
 obtain ⟨c0,c1,c2,c3,c4,c5,c6,c7,rfl⟩:=QaJ hc
 obtain ⟨d0,d1,d2,d3,d4,d5,d6,d7⟩:=d
 obtain ⟨n0,n1,n2,n3,n4,n5⟩:=n
 dsimp only [Mc.C,Mc.D,Dk.C,Nk.C,Dk.ok,Nk.ok] at *
 have hcr2:=Qbw hcr r v lv
 have hset0:=QjG [x0,x1,x2,x3,x4,x5,x6,x7,x8,x9,x10,x11,x12,x13,x14,x15] pc [c0,c1,c2,c3,c4,c5,c6,c7] r v rfl rfl lr
 have hl2:(List.set [c0,c1,c2,c3,c4,c5,c6,c7] r v).length=8:=by simp
 generalize List.set [c0,c1,c2,c3,c4,c5,c6,c7] r v=ys at *
 obtain ⟨y0,y1,y2,y3,y4,y5,y6,y7,rfl⟩:=QaJ hl2
 have hfinQ:QbF ⟨.a (.agg ((Mc.mk [x0,x1,x2,x3,x4,x5,x6,x7,x8,x9,x10,x11,x12,x13,x14,x15] pc [y0,y1,y2,y3,y4,y5,y6,y7] m ks ta td tf ⟨d0,d1,d2,d3,d4,d5,d6,d7⟩ ⟨n0,n1,n2,n3,n4,n5⟩ bt bg ct wt ht).C 1)),[],[⟨true,1,wsv m⟩]⟩:=⟨Mc.mk [x0,x1,x2,x3,x4,x5,x6,x7,x8,x9,x10,x11,x12,x13,x14,x15] pc [y0,y1,y2,y3,y4,y5,y6,y7] m ks ta td tf ⟨d0,d1,d2,d3,d4,d5,d6,d7⟩ ⟨n0,n1,n2,n3,n4,n5⟩ bt bg ct wt ht,[],⟨rfl,rfl,hxr,hcr2,hpr,hmr,hml,hdk,hnk,hdv⟩,by rw [List.append_nil]⟩
 simp only [hl] at q0 ⊢
 dsimp only [Mc.C,Mc.D,Dk.C,Nk.C] at hfinQ
 rw [hl] at hfinQ
 generalize wsv m=XX at *
 clear hxr hcr hdk hnk hmr hdv hpr hml
 have hset:∀ (tl:List SV) o,o=17+r→QaF (Qao [x0,x1,x2,x3,x4,x5,x6,x7,x8,x9,x10,x11,x12,x13,x14,x15] pc [c0,c1,c2,c3,c4,c5,c6,c7]++tl) o [.int .u32 (v:Nat)]=Qao [x0,x1,x2,x3,x4,x5,x6,x7,x8,x9,x10,x11,x12,x13,x14,x15] pc [y0,y1,y2,y3,y4,y5,y6,y7]++tl:=fun tl o ho=>by rw [ho,QiI (by rw [Qai _ _ _ rfl rfl];omega),hset0]
 clear hset0
 simp only [Qaf,List.cons_append,List.nil_append] at *
 refine fnW Tryz.func16 ?_
 (repeat' ((conv=>whnf);first|(intro hb;first|exact zk4 hb|(try (replace hb:=zn4 hb)))|(refine zpu qr ?_)|(apply Sd.mk; · first|(show (0:Int)≤r∧(r:Int)<8;omega)|(refine ⟨rfl,rfl,rfl,?_⟩;(show 17+r+1≤49);omega))|((with_reducible apply Vl.mk (α:=List SV)); · (with_reducible refine hset _ _ ?_);first|exact rfl|(show 17+r=17+r;omega))|(with_reducible first|refine zv hu ?_|refine zv ev ?_)|(refine Qay q0 ?_)|(refine zpu q1 ?_)|refine zst ?_|refine zbx ?_ ?_|refine zgx ?_ ?_|refine eqR ?_));(all_goals (try (conv=>whnf)))
 all_goals first|(exfalso;omega)|(exfalso;simp at hb;done)|(refine QaS hfinQ ?_;(exact Qa2))
theorem QnS (M:Mc) (hM:M.ok) (hl:M.m.length=256) (w a:Int) (h:w%24=3):Fn Tryz.prog 16 [.agg (M.C 0),.s (.int .i64 w),.s (.int .i64 a)] [⟨false,1,wsv M.m⟩] QbF:=by
 have q0:=Qa1 M hM
 have q1:=QaK w 24 (by decide) (by decide)
 rw [h] at q1
 have hu:IntKind.u32.wrap (bits .and .i64 a 4294967295)=((w32 (bits .and .i64 a 4294967295):Nat):Int):=Qav _
 have hul:=Qax (bits .and .i64 a 4294967295)
 have hsm:=Qaa M.m
 generalize w32 (bits .and .i64 a 4294967295)=u at *
 obtain ⟨v,ev,lv⟩:∃ v:Nat,bits .and .u32 (u:Int) 31=(v:Int)∧v<4294967296:=⟨(bits .and .u32 (u:Int) 31).toNat,by have:=QaC .and (u:Int) 31;omega,by have:=QaC .and (u:Int) 31;omega⟩
 obtain ⟨hx,hc,hxr,hcr,hpr,hmr,hml,hdk,hnk,hdv⟩:=hM
 obtain ⟨_,pc,_,m,ks,ta,td,tf,d,n,bt,bg,ct,wt,ht⟩:=M
 dsimp only at *
 obtain ⟨x0,x1,x2,x3,x4,x5,x6,x7,x8,x9,x10,x11,x12,x13,x14,x15,rfl⟩:=Qaq hx
 obtain ⟨_,c1,c2,c3,c4,c5,c6,c7,rfl⟩:=QaJ hc
 obtain ⟨d0,d1,d2,d3,d4,d5,d6,d7⟩:=d
 obtain ⟨n0,n1,n2,n3,n4,n5⟩:=n
 dsimp only [Mc.C,Mc.D,Dk.C,Nk.C,Dk.ok,Nk.ok] at *
 have hfinQ:QbF ⟨.a (.agg ((Mc.mk [x0,x1,x2,x3,x4,x5,x6,x7,x8,x9,x10,x11,x12,x13,x14,x15] pc [v,c1,c2,c3,c4,c5,c6,c7] m ks ta td tf ⟨d0,d1,d2,d3,d4,d5,d6,d7⟩ ⟨n0,n1,n2,n3,n4,n5⟩ bt bg ct wt ht).C 1)),[],[⟨true,1,wsv m⟩]⟩:=⟨Mc.mk [x0,x1,x2,x3,x4,x5,x6,x7,x8,x9,x10,x11,x12,x13,x14,x15] pc [v,c1,c2,c3,c4,c5,c6,c7] m ks ta td tf ⟨d0,d1,d2,d3,d4,d5,d6,d7⟩ ⟨n0,n1,n2,n3,n4,n5⟩ bt bg ct wt ht,[],⟨rfl,rfl,hxr,Qbw hcr 0 v lv,hpr,hmr,hml,hdk,hnk,hdv⟩,by rw [List.append_nil]⟩
 simp only [hl] at q0 ⊢
 dsimp only [Mc.C,Mc.D,Dk.C,Nk.C] at hfinQ
 rw [hl] at hfinQ
 generalize wsv m=XX at *
 clear hxr hcr hdk hnk hmr hdv hpr hml
 simp only [Qaf,List.cons_append,List.nil_append] at *
 refine fnW Tryz.func16 ?_
 (repeat' ((conv=>whnf);first|(intro hb;first|exact zk4 hb|(try (replace hb:=zn4 hb)))|(with_reducible first|refine zv hu ?_|refine zv ev ?_)|(refine Qay q0 ?_)|(refine zpu q1 ?_)|refine zst ?_|refine zbx ?_ ?_|refine zgx ?_ ?_|refine eqR ?_));(all_goals (try (conv=>whnf)))
 all_goals first|(exfalso;omega)|(exfalso;simp at hb;done)|(refine QaS hfinQ ?_;(exact Qa2))
theorem QnC (M:Mc) (hM:M.ok) (hl:M.m.length=256) (w a:Int) (h:w%24=4):Fn Tryz.prog 16 [.agg (M.C 0),.s (.int .i64 w),.s (.int .i64 a)] [⟨false,1,wsv M.m⟩] QbF:=by
 have q0:=Qa1 M hM
 have q1:=QaK w 24 (by decide) (by decide)
 rw [h] at q1
 have hu:IntKind.u32.wrap (bits .and .i64 a 4294967295)=((w32 (bits .and .i64 a 4294967295):Nat):Int):=Qav _
 have hul:=Qax (bits .and .i64 a 4294967295)
 have hsm:=Qaa M.m
 generalize w32 (bits .and .i64 a 4294967295)=u at *
 obtain ⟨v,ev,lv⟩:∃ v:Nat,bits .and .u32 (u:Int) 31=(v:Int)∧v<4294967296:=⟨(bits .and .u32 (u:Int) 31).toNat,by have:=QaC .and (u:Int) 31;omega,by have:=QaC .and (u:Int) 31;omega⟩
 obtain ⟨hx,hc,hxr,hcr,hpr,hmr,hml,hdk,hnk,hdv⟩:=hM
 obtain ⟨_,pc,_,m,ks,ta,td,tf,d,n,bt,bg,ct,wt,ht⟩:=M
 dsimp only at *
 obtain ⟨x0,x1,x2,x3,x4,x5,x6,x7,x8,x9,x10,x11,x12,x13,x14,x15,rfl⟩:=Qaq hx
 obtain ⟨c0,c1,c2,c3,c4,c5,c6,_,rfl⟩:=QaJ hc
 obtain ⟨d0,d1,d2,d3,d4,d5,d6,d7⟩:=d
 obtain ⟨n0,n1,n2,n3,n4,n5⟩:=n
 dsimp only [Mc.C,Mc.D,Dk.C,Nk.C,Dk.ok,Nk.ok] at *
 have hfinQ:QbF ⟨.a (.agg ((Mc.mk [x0,x1,x2,x3,x4,x5,x6,x7,x8,x9,x10,x11,x12,x13,x14,x15] pc [c0,c1,c2,c3,c4,c5,c6,v] m ks ta td tf ⟨d0,d1,d2,d3,d4,d5,d6,d7⟩ ⟨n0,n1,n2,n3,n4,n5⟩ bt bg ct wt ht).C 1)),[],[⟨true,1,wsv m⟩]⟩:=⟨Mc.mk [x0,x1,x2,x3,x4,x5,x6,x7,x8,x9,x10,x11,x12,x13,x14,x15] pc [c0,c1,c2,c3,c4,c5,c6,v] m ks ta td tf ⟨d0,d1,d2,d3,d4,d5,d6,d7⟩ ⟨n0,n1,n2,n3,n4,n5⟩ bt bg ct wt ht,[],⟨rfl,rfl,hxr,Qbw hcr 7 v lv,hpr,hmr,hml,hdk,hnk,hdv⟩,by rw [List.append_nil]⟩
 simp only [hl] at q0 ⊢
 dsimp only [Mc.C,Mc.D,Dk.C,Nk.C] at hfinQ
 rw [hl] at hfinQ
 generalize wsv m=XX at *
 clear hxr hcr hdk hnk hmr hdv hpr hml
 simp only [Qaf,List.cons_append,List.nil_append] at *
 refine fnW Tryz.func16 ?_
 (repeat' ((conv=>whnf);first|(intro hb;first|exact zk4 hb|(try (replace hb:=zn4 hb)))|(with_reducible first|refine zv hu ?_|refine zv ev ?_)|(refine Qay q0 ?_)|(refine zpu q1 ?_)|refine zst ?_|refine zbx ?_ ?_|refine zgx ?_ ?_|refine eqR ?_));(all_goals (try (conv=>whnf)))
 all_goals first|(exfalso;omega)|(exfalso;simp at hb;done)|(refine QaS hfinQ ?_;(exact Qa2))
theorem Qpr (M:Mc) (hM:M.ok) (hl:M.m.length=256) (w a:Int) (h:w%24=5):Fn Tryz.prog 16 [.agg (M.C 0),.s (.int .i64 w),.s (.int .i64 a)] [⟨false,1,wsv M.m⟩] QbF:=by
 have q0:=Qa1 M hM
 have q1:=QaK w 24 (by decide) (by decide)
 rw [h] at q1
 have hu:IntKind.u32.wrap (bits .and .i64 a 4294967295)=((w32 (bits .and .i64 a 4294967295):Nat):Int):=Qav _
 have hul:=Qax (bits .and .i64 a 4294967295)
 have hsm:=Qaa M.m
 generalize w32 (bits .and .i64 a 4294967295)=u at *
 have qr:=QaK a 256 (by decide) (by decide)
 obtain ⟨r,er,lr⟩:∃ r:Nat,a%256=(r:Int)∧r<256:=⟨(a%256).toNat,by omega,by omega⟩
 rw [er] at qr
 obtain ⟨hx,hc,hxr,hcr,hpr,hmr,hml,hdk,hnk,hdv⟩:=hM
 obtain ⟨_,pc,_,m,ks,ta,td,tf,d,n,bt,bg,ct,wt,ht⟩:=M
 dsimp only at *
 obtain ⟨x0,x1,x2,x3,x4,x5,x6,x7,x8,x9,x10,x11,x12,x13,x14,x15,rfl⟩:=Qaq hx
 obtain ⟨c0,c1,c2,c3,c4,c5,c6,c7,rfl⟩:=QaJ hc
 obtain ⟨d0,d1,d2,d3,d4,d5,d6,d7⟩:=d
 obtain ⟨n0,n1,n2,n3,n4,n5⟩:=n
 dsimp only [Mc.C,Mc.D,Dk.C,Nk.C,Dk.ok,Nk.ok] at *
 have hset:=Qbv m r u (by omega)
 have hmr2:=Qbw hmr r u hul
 have hl2:(m.set r u).length=256:=by simpa using hl
 have hXl:(wsv m).length=256:=by rw [wsv_length,hl]
 have hsm2:=Qaa (m.set r u)
 generalize m.set r u=m2 at *
 have hfinQ:QbF ⟨.a (.agg ((Mc.mk [x0,x1,x2,x3,x4,x5,x6,x7,x8,x9,x10,x11,x12,x13,x14,x15] pc [c0,c1,c2,c3,c4,c5,c6,c7] m2 ks ta td tf ⟨d0,d1,d2,d3,d4,d5,d6,d7⟩ ⟨n0,n1,n2,n3,n4,n5⟩ bt bg ct wt ht).C 1)),[],[⟨true,1,wsv m2⟩]⟩:=⟨Mc.mk [x0,x1,x2,x3,x4,x5,x6,x7,x8,x9,x10,x11,x12,x13,x14,x15] pc [c0,c1,c2,c3,c4,c5,c6,c7] m2 ks ta td tf ⟨d0,d1,d2,d3,d4,d5,d6,d7⟩ ⟨n0,n1,n2,n3,n4,n5⟩ bt bg ct wt ht,[],⟨rfl,rfl,hxr,hcr,hpr,hmr2,(by show m2.length≤1000000;omega),hdk,hnk,hdv⟩,by rw [List.append_nil]⟩
 simp only [hl] at q0 ⊢
 dsimp only [Mc.C,Mc.D,Dk.C,Nk.C] at hfinQ
 rw [hl2] at hfinQ
 generalize wsv m=XX at *
 clear hxr hcr hdk hnk hmr hdv hpr hml
 generalize wsv m2=XX2 at *
 simp only [Qaf,List.cons_append,List.nil_append] at *
 refine fnW Tryz.func16 ?_
 (repeat' ((conv=>whnf);first|(intro hb;first|exact zk4 hb|(try (replace hb:=zn4 hb)))|(refine zpu qr ?_)|(apply Sd.mk; · first|(show (0:Int)≤r∧(r:Int)<256;omega)|(refine ⟨rfl,rfl,rfl,?_⟩;(with_reducible refine Qp1 ?_ ?_);(focus exact rfl);(show r+1≤XX.length);omega))|((with_reducible apply Vl.mk (α:=List SV)); · (with_reducible refine Qml ?_ hset);exact rfl)|(with_reducible refine zv hu ?_)|(refine Qay q0 ?_)|(refine zpu q1 ?_)|refine zst ?_|refine zbx ?_ ?_|refine zgx ?_ ?_|refine eqR ?_));(all_goals (try (conv=>whnf)))
 all_goals first|(exfalso;omega)|(exfalso;simp at hb;done)|(refine QaS hfinQ ?_;(apply Fin.mk (m:= [(0,some 0),(1,some 131136)]);(focus exact rfl);(all_goals ((try (show HlS _ _ [] _));first|(exact aFi)|exact rfl))))
theorem QnD (M:Mc) (hM:M.ok) (hl:M.m.length=256) (w a:Int) (h:w%24=6):Fn Tryz.prog 16 [.agg (M.C 0),.s (.int .i64 w),.s (.int .i64 a)] [⟨false,1,wsv M.m⟩] QbF:=by
 have q0:=Qa1 M hM
 have q1:=QaK w 24 (by decide) (by decide)
 rw [h] at q1
 have hu:IntKind.u32.wrap (bits .and .i64 a 4294967295)=((w32 (bits .and .i64 a 4294967295):Nat):Int):=Qav _
 have hul:=Qax (bits .and .i64 a 4294967295)
 have hsm:=Qaa M.m
 generalize w32 (bits .and .i64 a 4294967295)=u at *
 have qr:=QaK a 256 (by decide) (by decide)
 obtain ⟨r,er,lr⟩:∃ r:Nat,a%256=(r:Int)∧r<256:=⟨(a%256).toNat,by omega,by omega⟩
 rw [er] at qr
 have qi:=Qle a
 obtain ⟨qe,le,io,ia,ib,ic,im,hi⟩:=Qh2 a
 rw [hi] at qi qe le
 generalize Qrh (iv io ia ib ic im)=E at *
 obtain ⟨hx,hc,hxr,hcr,hpr,hmr,hml,hdk,hnk,hdv⟩:=hM
 obtain ⟨_,pc,_,m,ks,ta,td,tf,d,n,bt,bg,ct,wt,ht⟩:=M
 dsimp only at *
 obtain ⟨x0,x1,x2,x3,x4,x5,x6,x7,x8,x9,x10,x11,x12,x13,x14,x15,rfl⟩:=Qaq hx
 obtain ⟨c0,c1,c2,c3,c4,c5,c6,c7,rfl⟩:=QaJ hc
 obtain ⟨d0,d1,d2,d3,d4,d5,d6,d7⟩:=d
 obtain ⟨n0,n1,n2,n3,n4,n5⟩:=n
 dsimp only [Mc.C,Mc.D,Dk.C,Nk.C,Dk.ok,Nk.ok] at *
 have hset:=Qbv m r E (by omega)
 have hmr2:=Qbw hmr r E le
 have hl2:(m.set r E).length=256:=by simpa using hl
 have hXl:(wsv m).length=256:=by rw [wsv_length,hl]
 have hsm2:=Qaa (m.set r E)
 generalize m.set r E=m2 at *
 have hfinQ:QbF ⟨.a (.agg ((Mc.mk [x0,x1,x2,x3,x4,x5,x6,x7,x8,x9,x10,x11,x12,x13,x14,x15] pc [c0,c1,c2,c3,c4,c5,c6,c7] m2 ks ta td tf ⟨d0,d1,d2,d3,d4,d5,d6,d7⟩ ⟨n0,n1,n2,n3,n4,n5⟩ bt bg ct wt ht).C 1)),[],[⟨true,1,wsv m2⟩]⟩:=⟨Mc.mk [x0,x1,x2,x3,x4,x5,x6,x7,x8,x9,x10,x11,x12,x13,x14,x15] pc [c0,c1,c2,c3,c4,c5,c6,c7] m2 ks ta td tf ⟨d0,d1,d2,d3,d4,d5,d6,d7⟩ ⟨n0,n1,n2,n3,n4,n5⟩ bt bg ct wt ht,[],⟨rfl,rfl,hxr,hcr,hpr,hmr2,(by show m2.length≤1000000;omega),hdk,hnk,hdv⟩,by rw [List.append_nil]⟩
 simp only [hl] at q0 ⊢
 dsimp only [Mc.C,Mc.D,Dk.C,Nk.C] at hfinQ
 rw [hl2] at hfinQ
 generalize wsv m=XX at *
 clear hxr hcr hdk hnk hmr hdv hpr hml
 generalize wsv m2=XX2 at *
 simp only [Qaf,List.cons_append,List.nil_append] at *
 refine fnW Tryz.func16 ?_
 (repeat' ((conv=>whnf);first|(intro hb;first|exact zk4 hb|(try (replace hb:=zn4 hb)))|(refine zpu qr ?_)|(refine zpu qi ?_)|(refine zpu qe ?_)|(apply Sd.mk; · first|(show (0:Int)≤r∧(r:Int)<256;omega)|(refine ⟨rfl,rfl,rfl,?_⟩;(with_reducible refine Qp1 ?_ ?_);(focus exact rfl);(show r+1≤XX.length);omega))|((with_reducible apply Vl.mk (α:=List SV)); · (with_reducible refine Qml ?_ hset);exact rfl)|(with_reducible refine zv hu ?_)|(refine Qay q0 ?_)|(refine zpu q1 ?_)|refine zst ?_|refine zbx ?_ ?_|refine zgx ?_ ?_|refine eqR ?_));(all_goals (try (conv=>whnf)))
 all_goals first|(exfalso;omega)|(exfalso;simp at hb;done)|(refine QaS hfinQ ?_;(apply Fin.mk (m:= [(0,some 0),(1,some 131136)]);(focus exact rfl);(all_goals ((try (show HlS _ _ [] _));first|(exact aFi)|exact rfl))))
theorem QoM (M:Mc) (hM:M.ok) (hl:M.m.length=256) (w a:Int) (h:w%24=7):Fn Tryz.prog 16 [.agg (M.C 0),.s (.int .i64 w),.s (.int .i64 a)] [⟨false,1,wsv M.m⟩] QbF:=by
 have q0:=Qa1 M hM
 have q1:=QaK w 24 (by decide) (by decide)
 rw [h] at q1
 have hu:IntKind.u32.wrap (bits .and .i64 a 4294967295)=((w32 (bits .and .i64 a 4294967295):Nat):Int):=Qav _
 have hul:=Qax (bits .and .i64 a 4294967295)
 have hsm:=Qaa M.m
 generalize w32 (bits .and .i64 a 4294967295)=u at *
 have qr:=QaK a 18 (by decide) (by decide)
 obtain ⟨r,er,lr⟩:∃ r:Nat,a%18=(r:Int)∧r<18:=⟨(a%18).toNat,by omega,by omega⟩
 rw [er] at qr
 have qd:=Qfq a r (by omega)
 have hSz:(strOfNums (QdN a r)).size≤1000000:=by rw [strOfNums_size,QcX];omega
 generalize strOfNums (QdN a r)=S at *
 obtain ⟨hx,hc,hxr,hcr,hpr,hmr,hml,hdk,hnk,hdv⟩:=hM
 obtain ⟨_,pc,_,m,_,ta,td,tf,d,n,bt,bg,ct,wt,ht⟩:=M
 dsimp only at *
 obtain ⟨x0,x1,x2,x3,x4,x5,x6,x7,x8,x9,x10,x11,x12,x13,x14,x15,rfl⟩:=Qaq hx
 obtain ⟨c0,c1,c2,c3,c4,c5,c6,c7,rfl⟩:=QaJ hc
 obtain ⟨d0,d1,d2,d3,d4,d5,d6,d7⟩:=d
 obtain ⟨n0,n1,n2,n3,n4,n5⟩:=n
 dsimp only [Mc.C,Mc.D,Dk.C,Nk.C,Dk.ok,Nk.ok] at *
 have hfinQ:QbF ⟨.a (.agg ((Mc.mk [x0,x1,x2,x3,x4,x5,x6,x7,x8,x9,x10,x11,x12,x13,x14,x15] pc [c0,c1,c2,c3,c4,c5,c6,c7] m S ta td tf ⟨d0,d1,d2,d3,d4,d5,d6,d7⟩ ⟨n0,n1,n2,n3,n4,n5⟩ bt bg ct wt ht).C 1)),[],[⟨true,1,wsv m⟩]⟩:=⟨Mc.mk [x0,x1,x2,x3,x4,x5,x6,x7,x8,x9,x10,x11,x12,x13,x14,x15] pc [c0,c1,c2,c3,c4,c5,c6,c7] m S ta td tf ⟨d0,d1,d2,d3,d4,d5,d6,d7⟩ ⟨n0,n1,n2,n3,n4,n5⟩ bt bg ct wt ht,[],⟨rfl,rfl,hxr,hcr,hpr,hmr,hml,hdk,hnk,⟨hdv.1,hdv.2.1,hdv.2.2.1,hdv.2.2.2.1,hSz⟩⟩,by rw [List.append_nil]⟩
 simp only [hl] at q0 ⊢
 dsimp only [Mc.C,Mc.D,Dk.C,Nk.C] at hfinQ
 rw [hl] at hfinQ
 generalize wsv m=XX at *
 clear hxr hcr hdk hnk hmr hdv hpr hml
 simp only [Qaf,List.cons_append,List.nil_append] at *
 refine fnW Tryz.func16 ?_
 (repeat' ((conv=>whnf);first|(intro hb;first|exact zk4 hb|(try (replace hb:=zn4 hb)))|(refine zpu qr ?_)|(refine zpu qd ?_)|(with_reducible refine zv hu ?_)|(refine Qay q0 ?_)|(refine zpu q1 ?_)|refine zst ?_|refine zbx ?_ ?_|refine zgx ?_ ?_|refine eqR ?_));(all_goals (try (conv=>whnf)))
 all_goals first|(exfalso;omega)|(exfalso;simp at hb;done)|(refine QaS hfinQ ?_;(exact Qa2))
theorem Qm7 (M:Mc) (hM:M.ok) (hl:M.m.length=256) (w a:Int) (h:w%24=8):Fn Tryz.prog 16 [.agg (M.C 0),.s (.int .i64 w),.s (.int .i64 a)] [⟨false,1,wsv M.m⟩] QbF:=by
 have q0:=Qa1 M hM
 have q1:=QaK w 24 (by decide) (by decide)
 rw [h] at q1
 have hu:IntKind.u32.wrap (bits .and .i64 a 4294967295)=((w32 (bits .and .i64 a 4294967295):Nat):Int):=Qav _
 have hul:=Qax (bits .and .i64 a 4294967295)
 have hsm:=Qaa M.m
 generalize w32 (bits .and .i64 a 4294967295)=u at *
 obtain ⟨v,ev,lv⟩:∃ v:Nat,bits .and .u32 (u:Int) 6=(v:Int)∧v<4294967296:=⟨(bits .and .u32 (u:Int) 6).toNat,by have:=QaC .and (u:Int) 6;omega,by have:=QaC .and (u:Int) 6;omega⟩
 obtain ⟨hx,hc,hxr,hcr,hpr,hmr,hml,hdk,hnk,hdv⟩:=hM
 obtain ⟨_,pc,_,m,ks,_,_,_,d,n,bt,bg,ct,wt,ht⟩:=M
 dsimp only at *
 obtain ⟨x0,x1,x2,x3,x4,x5,x6,x7,x8,x9,x10,x11,x12,x13,x14,x15,rfl⟩:=Qaq hx
 obtain ⟨c0,c1,c2,c3,c4,c5,c6,c7,rfl⟩:=QaJ hc
 obtain ⟨d0,d1,d2,d3,d4,d5,d6,d7⟩:=d
 obtain ⟨n0,n1,n2,n3,n4,n5⟩:=n
 dsimp only [Mc.C,Mc.D,Dk.C,Nk.C,Dk.ok,Nk.ok] at *
 have hfinQ:QbF ⟨.a (.agg ((Mc.mk [x0,x1,x2,x3,x4,x5,x6,x7,x8,x9,x10,x11,x12,x13,x14,x15] pc [c0,c1,c2,c3,c4,c5,c6,c7] m ks (bits .and .i64 a 1==1) v (bits .and .i64 a 8==8) ⟨d0,d1,d2,d3,d4,d5,d6,d7⟩ ⟨n0,n1,n2,n3,n4,n5⟩ bt bg ct wt ht).C 1)),[],[⟨true,1,wsv m⟩]⟩:=⟨Mc.mk [x0,x1,x2,x3,x4,x5,x6,x7,x8,x9,x10,x11,x12,x13,x14,x15] pc [c0,c1,c2,c3,c4,c5,c6,c7] m ks (bits .and .i64 a 1==1) v (bits .and .i64 a 8==8) ⟨d0,d1,d2,d3,d4,d5,d6,d7⟩ ⟨n0,n1,n2,n3,n4,n5⟩ bt bg ct wt ht,[],⟨rfl,rfl,hxr,hcr,hpr,hmr,hml,hdk,hnk,⟨lv,hdv.2⟩⟩,by rw [List.append_nil]⟩
 simp only [hl] at q0 ⊢
 dsimp only [Mc.C,Mc.D,Dk.C,Nk.C] at hfinQ
 rw [hl] at hfinQ
 generalize wsv m=XX at *
 clear hxr hcr hdk hnk hmr hdv hpr hml
 simp only [Qaf,List.cons_append,List.nil_append] at *
 refine fnW Tryz.func16 ?_
 (repeat' ((conv=>whnf);first|(intro hb;first|exact zk4 hb|(try (replace hb:=zn4 hb)))|(with_reducible first|refine zv hu ?_|refine zv ev ?_)|(refine Qay q0 ?_)|(refine zpu q1 ?_)|refine zst ?_|refine zbx ?_ ?_|refine zgx ?_ ?_|refine eqR ?_));(all_goals (try (conv=>whnf)))
 all_goals first|(exfalso;omega)|(exfalso;simp at hb;done)|(refine QaS hfinQ ?_;(exact Qa2))
theorem Qpu (M:Mc) (hM:M.ok) (hl:M.m.length=256) (w a:Int) (h:w%24=9):Fn Tryz.prog 16 [.agg (M.C 0),.s (.int .i64 w),.s (.int .i64 a)] [⟨false,1,wsv M.m⟩] QbF:=by
 have q0:=Qa1 M hM
 have q1:=QaK w 24 (by decide) (by decide)
 rw [h] at q1
 have hu:IntKind.u32.wrap (bits .and .i64 a 4294967295)=((w32 (bits .and .i64 a 4294967295):Nat):Int):=Qav _
 have hul:=Qax (bits .and .i64 a 4294967295)
 have hsm:=Qaa M.m
 generalize w32 (bits .and .i64 a 4294967295)=u at *
 obtain ⟨hx,hc,hxr,hcr,hpr,hmr,hml,hdk,hnk,hdv⟩:=hM
 obtain ⟨_,pc,_,m,ks,ta,td,tf,d,n,bt,bg,ct,wt,ht⟩:=M
 dsimp only at *
 obtain ⟨x0,x1,x2,x3,x4,x5,x6,x7,x8,x9,x10,x11,x12,x13,x14,x15,rfl⟩:=Qaq hx
 obtain ⟨c0,c1,c2,c3,c4,c5,c6,c7,rfl⟩:=QaJ hc
 obtain ⟨d0,d1,d2,_,d4,d5,d6,d7⟩:=d
 obtain ⟨n0,n1,n2,n3,n4,n5⟩:=n
 dsimp only [Mc.C,Mc.D,Dk.C,Nk.C,Dk.ok,Nk.ok] at *
 have hfinQ:QbF ⟨.a (.agg ((Mc.mk [x0,x1,x2,x3,x4,x5,x6,x7,x8,x9,x10,x11,x12,x13,x14,x15] pc [c0,c1,c2,c3,c4,c5,c6,c7] m ks ta td tf ⟨d0,d1,d2,bits .and .i64 a 3,d4,d5,d6,d7⟩ ⟨n0,n1,n2,n3,n4,n5⟩ bt bg ct wt ht).C 1)),[],[⟨true,1,wsv m⟩]⟩:=⟨Mc.mk [x0,x1,x2,x3,x4,x5,x6,x7,x8,x9,x10,x11,x12,x13,x14,x15] pc [c0,c1,c2,c3,c4,c5,c6,c7] m ks ta td tf ⟨d0,d1,d2,bits .and .i64 a 3,d4,d5,d6,d7⟩ ⟨n0,n1,n2,n3,n4,n5⟩ bt bg ct wt ht,[],⟨rfl,rfl,hxr,hcr,hpr,hmr,hml,⟨hdk.1,hdk.2.1,hdk.2.2.1,hdk.2.2.2.1,hdk.2.2.2.2.1,hdk.2.2.2.2.2.1,wf_bits .and .i64 a 3,hdk.2.2.2.2.2.2.2⟩,hnk,hdv⟩,by rw [List.append_nil]⟩
 simp only [hl] at q0 ⊢
 dsimp only [Mc.C,Mc.D,Dk.C,Nk.C] at hfinQ
 rw [hl] at hfinQ
 generalize wsv m=XX at *
 clear hxr hcr hdk hnk hmr hdv hpr hml
 simp only [Qaf,List.cons_append,List.nil_append] at *
 refine fnW Tryz.func16 ?_
 (repeat' ((conv=>whnf);first|(intro hb;first|exact zk4 hb|(try (replace hb:=zn4 hb)))|(with_reducible refine zv hu ?_)|(refine Qay q0 ?_)|(refine zpu q1 ?_)|refine zst ?_|refine zbx ?_ ?_|refine zgx ?_ ?_|refine eqR ?_));(all_goals (try (conv=>whnf)))
 all_goals first|(exfalso;omega)|(exfalso;simp at hb;done)|(refine QaS hfinQ ?_;(exact Qa2))
theorem Qlk (M:Mc) (hM:M.ok) (hl:M.m.length=256) (w a:Int) (h:w%24=11):Fn Tryz.prog 16 [.agg (M.C 0),.s (.int .i64 w),.s (.int .i64 a)] [⟨false,1,wsv M.m⟩] QbF:=by
 have q0:=Qa1 M hM
 have q1:=QaK w 24 (by decide) (by decide)
 rw [h] at q1
 have hu:IntKind.u32.wrap (bits .and .i64 a 4294967295)=((w32 (bits .and .i64 a 4294967295):Nat):Int):=Qav _
 have hul:=Qax (bits .and .i64 a 4294967295)
 have hsm:=Qaa M.m
 generalize w32 (bits .and .i64 a 4294967295)=u at *
 obtain ⟨v,ev,lv⟩:∃ v:Nat,bits .and .u32 (u:Int) 7=(v:Int)∧v<4294967296:=⟨(bits .and .u32 (u:Int) 7).toNat,by have:=QaC .and (u:Int) 7;omega,by have:=QaC .and (u:Int) 7;omega⟩
 obtain ⟨v2,ev2,lv2⟩:∃ v:Nat,bits .and .u32 ((u:Int) / 2^min (Int.toNat 3) IntKind.u32.bits) 15=(v:Int)∧v<4294967296:=⟨(bits .and .u32 ((u:Int) / 2^min (Int.toNat 3) IntKind.u32.bits) 15).toNat,by have:=QaC .and ((u:Int) / 2^min (Int.toNat 3) IntKind.u32.bits) 15;omega,by have:=QaC .and ((u:Int) / 2^min (Int.toNat 3) IntKind.u32.bits) 15;omega⟩
 obtain ⟨hx,hc,hxr,hcr,hpr,hmr,hml,hdk,hnk,hdv⟩:=hM
 obtain ⟨_,pc,_,m,ks,ta,td,tf,d,n,bt,bg,ct,wt,ht⟩:=M
 dsimp only at *
 obtain ⟨x0,x1,x2,x3,x4,x5,x6,x7,x8,x9,x10,x11,x12,x13,x14,x15,rfl⟩:=Qaq hx
 obtain ⟨c0,c1,c2,c3,c4,c5,c6,c7,rfl⟩:=QaJ hc
 obtain ⟨d0,_,_,d3,d4,d5,d6,d7⟩:=d
 obtain ⟨n0,n1,n2,n3,n4,n5⟩:=n
 dsimp only [Mc.C,Mc.D,Dk.C,Nk.C,Dk.ok,Nk.ok] at *
 have hfinQ:QbF ⟨.a (.agg ((Mc.mk [x0,x1,x2,x3,x4,x5,x6,x7,x8,x9,x10,x11,x12,x13,x14,x15] pc [c0,c1,c2,c3,c4,c5,c6,c7] m ks ta td tf ⟨d0,v,v2,d3,d4,d5,d6,d7⟩ ⟨n0,n1,n2,n3,n4,n5⟩ bt bg ct wt ht).C 1)),[],[⟨true,1,wsv m⟩]⟩:=⟨Mc.mk [x0,x1,x2,x3,x4,x5,x6,x7,x8,x9,x10,x11,x12,x13,x14,x15] pc [c0,c1,c2,c3,c4,c5,c6,c7] m ks ta td tf ⟨d0,v,v2,d3,d4,d5,d6,d7⟩ ⟨n0,n1,n2,n3,n4,n5⟩ bt bg ct wt ht,[],⟨rfl,rfl,hxr,hcr,hpr,hmr,hml,⟨hdk.1,lv,lv2,hdk.2.2.2⟩,hnk,hdv⟩,by rw [List.append_nil]⟩
 simp only [hl] at q0 ⊢
 dsimp only [Mc.C,Mc.D,Dk.C,Nk.C] at hfinQ
 rw [hl] at hfinQ
 generalize wsv m=XX at *
 clear hxr hcr hdk hnk hmr hdv hpr hml
 simp only [Qaf,List.cons_append,List.nil_append] at *
 refine fnW Tryz.func16 ?_
 (repeat' ((conv=>whnf);first|(intro hb;first|exact zk4 hb|(try (replace hb:=zn4 hb)))|(with_reducible first|refine zv hu ?_|refine zv ev ?_|refine zv ev2 ?_)|(refine Qay q0 ?_)|(refine zpu q1 ?_)|refine zst ?_|refine zbx ?_ ?_|refine zgx ?_ ?_|refine eqR ?_));(all_goals (try (conv=>whnf)))
 all_goals first|(exfalso;omega)|(exfalso;simp at hb;done)|(refine QaS hfinQ ?_;(exact Qa2))
theorem QkP (M:Mc) (hM:M.ok) (hl:M.m.length=256) (w a:Int) (h:w%24=12):Fn Tryz.prog 16 [.agg (M.C 0),.s (.int .i64 w),.s (.int .i64 a)] [⟨false,1,wsv M.m⟩] QbF:=by
 have q0:=Qa1 M hM
 have q1:=QaK w 24 (by decide) (by decide)
 rw [h] at q1
 have hu:IntKind.u32.wrap (bits .and .i64 a 4294967295)=((w32 (bits .and .i64 a 4294967295):Nat):Int):=Qav _
 have hul:=Qax (bits .and .i64 a 4294967295)
 have hsm:=Qaa M.m
 generalize w32 (bits .and .i64 a 4294967295)=u at *
 obtain ⟨v,ev,lv⟩:∃ v:Nat,bits .and .u32 (u:Int) 7=(v:Int)∧v<4294967296:=⟨(bits .and .u32 (u:Int) 7).toNat,by have:=QaC .and (u:Int) 7;omega,by have:=QaC .and (u:Int) 7;omega⟩
 obtain ⟨v2,ev2,lv2⟩:∃ v:Nat,bits .and .u32 ((u:Int) / 2^min (Int.toNat 3) IntKind.u32.bits) 255=(v:Int)∧v<4294967296:=⟨(bits .and .u32 ((u:Int) / 2^min (Int.toNat 3) IntKind.u32.bits) 255).toNat,by have:=QaC .and ((u:Int) / 2^min (Int.toNat 3) IntKind.u32.bits) 255;omega,by have:=QaC .and ((u:Int) / 2^min (Int.toNat 3) IntKind.u32.bits) 255;omega⟩
 obtain ⟨v3,ev3,lv3⟩:∃ v:Nat,bits .and .u32 ((u:Int) / 2^min (Int.toNat 12) IntKind.u32.bits) 7=(v:Int)∧v<4294967296:=⟨(bits .and .u32 ((u:Int) / 2^min (Int.toNat 12) IntKind.u32.bits) 7).toNat,by have:=QaC .and ((u:Int) / 2^min (Int.toNat 12) IntKind.u32.bits) 7;omega,by have:=QaC .and ((u:Int) / 2^min (Int.toNat 12) IntKind.u32.bits) 7;omega⟩
 obtain ⟨hx,hc,hxr,hcr,hpr,hmr,hml,hdk,hnk,hdv⟩:=hM
 obtain ⟨_,pc,_,m,ks,ta,td,tf,d,n,bt,bg,ct,wt,ht⟩:=M
 dsimp only at *
 obtain ⟨x0,x1,x2,x3,x4,x5,x6,x7,x8,x9,x10,x11,x12,x13,x14,x15,rfl⟩:=Qaq hx
 obtain ⟨c0,c1,c2,c3,c4,c5,c6,c7,rfl⟩:=QaJ hc
 obtain ⟨d0,d1,d2,d3,d4,d5,d6,d7⟩:=d
 obtain ⟨_,_,_,_,_,_⟩:=n
 dsimp only [Mc.C,Mc.D,Dk.C,Nk.C,Dk.ok,Nk.ok] at *
 have hfinQ:QbF ⟨.a (.agg ((Mc.mk [x0,x1,x2,x3,x4,x5,x6,x7,x8,x9,x10,x11,x12,x13,x14,x15] pc [c0,c1,c2,c3,c4,c5,c6,c7] m ks ta td tf ⟨d0,d1,d2,d3,d4,d5,d6,d7⟩ ⟨v,v2,(bits .and .i64 a 2048 !=0),v3,false,0⟩ bt bg ct wt ht).C 1)),[],[⟨true,1,wsv m⟩]⟩:=⟨Mc.mk [x0,x1,x2,x3,x4,x5,x6,x7,x8,x9,x10,x11,x12,x13,x14,x15] pc [c0,c1,c2,c3,c4,c5,c6,c7] m ks ta td tf ⟨d0,d1,d2,d3,d4,d5,d6,d7⟩ ⟨v,v2,(bits .and .i64 a 2048 !=0),v3,false,0⟩ bt bg ct wt ht,[],⟨rfl,rfl,hxr,hcr,hpr,hmr,hml,hdk,⟨lv,lv2,lv3,by show (0:Nat)<4294967296;decide⟩,hdv⟩,by rw [List.append_nil]⟩
 simp only [hl] at q0 ⊢
 dsimp only [Mc.C,Mc.D,Dk.C,Nk.C] at hfinQ
 rw [hl] at hfinQ
 generalize wsv m=XX at *
 clear hxr hcr hdk hnk hmr hdv hpr hml
 simp only [Qaf,List.cons_append,List.nil_append] at *
 refine fnW Tryz.func16 ?_
 (repeat' ((conv=>whnf);first|(intro hb;first|exact zk4 hb|(try (replace hb:=zn4 hb)))|(with_reducible first|refine zv hu ?_|refine zv ev ?_|refine zv ev2 ?_|refine zv ev3 ?_)|(refine Qay q0 ?_)|(refine zpu q1 ?_)|refine zst ?_|refine zbx ?_ ?_|refine zgx ?_ ?_|refine eqR ?_));(all_goals (try (conv=>whnf)))
 all_goals first|(exfalso;omega)|(exfalso;simp at hb;done)|(refine QaS hfinQ ?_;(exact Qa2))
theorem QkV (M:Mc) (hM:M.ok) (hl:M.m.length=256) (w a:Int) (h:w%24=13):Fn Tryz.prog 16 [.agg (M.C 0),.s (.int .i64 w),.s (.int .i64 a)] [⟨false,1,wsv M.m⟩] QbF:=by
 have q0:=Qa1 M hM
 have q1:=QaK w 24 (by decide) (by decide)
 rw [h] at q1
 have hu:IntKind.u32.wrap (bits .and .i64 a 4294967295)=((w32 (bits .and .i64 a 4294967295):Nat):Int):=Qav _
 have hul:=Qax (bits .and .i64 a 4294967295)
 have hsm:=Qaa M.m
 generalize w32 (bits .and .i64 a 4294967295)=u at *
 obtain ⟨v,ev,lv⟩:∃ v:Nat,bits .and .u32 (u:Int) 255=(v:Int)∧v<4294967296:=⟨(bits .and .u32 (u:Int) 255).toNat,by have:=QaC .and (u:Int) 255;omega,by have:=QaC .and (u:Int) 255;omega⟩
 obtain ⟨hx,hc,hxr,hcr,hpr,hmr,hml,hdk,hnk,hdv⟩:=hM
 obtain ⟨_,pc,_,m,ks,ta,td,tf,d,n,bt,bg,ct,wt,ht⟩:=M
 dsimp only at *
 obtain ⟨x0,x1,x2,x3,x4,x5,x6,x7,x8,x9,x10,x11,x12,x13,x14,x15,rfl⟩:=Qaq hx
 obtain ⟨c0,c1,c2,c3,c4,c5,c6,c7,rfl⟩:=QaJ hc
 obtain ⟨d0,d1,d2,d3,d4,d5,d6,d7⟩:=d
 obtain ⟨_,_,_,_,_,_⟩:=n
 dsimp only [Mc.C,Mc.D,Dk.C,Nk.C,Dk.ok,Nk.ok] at *
 have hfinQ:QbF ⟨.a (.agg ((Mc.mk [x0,x1,x2,x3,x4,x5,x6,x7,x8,x9,x10,x11,x12,x13,x14,x15] pc [c0,c1,c2,c3,c4,c5,c6,c7] m ks ta td tf ⟨d0,d1,d2,d3,d4,d5,d6,d7⟩ ⟨0,0,false,0,true,v⟩ bt bg ct wt ht).C 1)),[],[⟨true,1,wsv m⟩]⟩:=⟨Mc.mk [x0,x1,x2,x3,x4,x5,x6,x7,x8,x9,x10,x11,x12,x13,x14,x15] pc [c0,c1,c2,c3,c4,c5,c6,c7] m ks ta td tf ⟨d0,d1,d2,d3,d4,d5,d6,d7⟩ ⟨0,0,false,0,true,v⟩ bt bg ct wt ht,[],⟨rfl,rfl,hxr,hcr,hpr,hmr,hml,hdk,⟨by show (0:Nat)<4294967296;decide,by show (0:Nat)<4294967296;decide,by show (0:Nat)<4294967296;decide,lv⟩,hdv⟩,by rw [List.append_nil]⟩
 simp only [hl] at q0 ⊢
 dsimp only [Mc.C,Mc.D,Dk.C,Nk.C] at hfinQ
 rw [hl] at hfinQ
 generalize wsv m=XX at *
 clear hxr hcr hdk hnk hmr hdv hpr hml
 simp only [Qaf,List.cons_append,List.nil_append] at *
 refine fnW Tryz.func16 ?_
 (repeat' ((conv=>whnf);first|(intro hb;first|exact zk4 hb|(try (replace hb:=zn4 hb)))|(with_reducible first|refine zv hu ?_|refine zv ev ?_)|(refine Qay q0 ?_)|(refine zpu q1 ?_)|refine zst ?_|refine zbx ?_ ?_|refine zgx ?_ ?_|refine eqR ?_));(all_goals (try (conv=>whnf)))
 all_goals first|(exfalso;omega)|(exfalso;simp at hb;done)|(refine QaS hfinQ ?_;(exact Qa2))
theorem QkQ (M:Mc) (hM:M.ok) (hl:M.m.length=256) (w a:Int) (h:w%24=14):Fn Tryz.prog 16 [.agg (M.C 0),.s (.int .i64 w),.s (.int .i64 a)] [⟨false,1,wsv M.m⟩] QbF:=by
 have q0:=Qa1 M hM
 have q1:=QaK w 24 (by decide) (by decide)
 rw [h] at q1
 have hu:IntKind.u32.wrap (bits .and .i64 a 4294967295)=((w32 (bits .and .i64 a 4294967295):Nat):Int):=Qav _
 have hul:=Qax (bits .and .i64 a 4294967295)
 have hsm:=Qaa M.m
 generalize w32 (bits .and .i64 a 4294967295)=u at *
 obtain ⟨v,ev,lv⟩:∃ v:Nat,bits .and .u32 (u:Int) 7=(v:Int)∧v<4294967296:=⟨(bits .and .u32 (u:Int) 7).toNat,by have:=QaC .and (u:Int) 7;omega,by have:=QaC .and (u:Int) 7;omega⟩
 obtain ⟨v2,ev2,lv2⟩:∃ v:Nat,bits .and .u32 ((u:Int) / 2^min (Int.toNat 3) IntKind.u32.bits) 511=(v:Int)∧v<4294967296:=⟨(bits .and .u32 ((u:Int) / 2^min (Int.toNat 3) IntKind.u32.bits) 511).toNat,by have:=QaC .and ((u:Int) / 2^min (Int.toNat 3) IntKind.u32.bits) 511;omega,by have:=QaC .and ((u:Int) / 2^min (Int.toNat 3) IntKind.u32.bits) 511;omega⟩
 obtain ⟨hx,hc,hxr,hcr,hpr,hmr,hml,hdk,hnk,hdv⟩:=hM
 obtain ⟨_,pc,_,m,ks,ta,td,tf,d,n,_,_,ct,wt,ht⟩:=M
 dsimp only at *
 obtain ⟨x0,x1,x2,x3,x4,x5,x6,x7,x8,x9,x10,x11,x12,x13,x14,x15,rfl⟩:=Qaq hx
 obtain ⟨c0,c1,c2,c3,c4,c5,c6,c7,rfl⟩:=QaJ hc
 obtain ⟨d0,d1,d2,d3,d4,d5,d6,d7⟩:=d
 obtain ⟨n0,n1,n2,n3,n4,n5⟩:=n
 dsimp only [Mc.C,Mc.D,Dk.C,Nk.C,Dk.ok,Nk.ok] at *
 have hfinQ:QbF ⟨.a (.agg ((Mc.mk [x0,x1,x2,x3,x4,x5,x6,x7,x8,x9,x10,x11,x12,x13,x14,x15] pc [c0,c1,c2,c3,c4,c5,c6,c7] m ks ta td tf ⟨d0,d1,d2,d3,d4,d5,d6,d7⟩ ⟨n0,n1,n2,n3,n4,n5⟩ v v2 ct wt ht).C 1)),[],[⟨true,1,wsv m⟩]⟩:=⟨Mc.mk [x0,x1,x2,x3,x4,x5,x6,x7,x8,x9,x10,x11,x12,x13,x14,x15] pc [c0,c1,c2,c3,c4,c5,c6,c7] m ks ta td tf ⟨d0,d1,d2,d3,d4,d5,d6,d7⟩ ⟨n0,n1,n2,n3,n4,n5⟩ v v2 ct wt ht,[],⟨rfl,rfl,hxr,hcr,hpr,hmr,hml,hdk,hnk,⟨hdv.1,lv,lv2,hdv.2.2.2⟩⟩,by rw [List.append_nil]⟩
 simp only [hl] at q0 ⊢
 dsimp only [Mc.C,Mc.D,Dk.C,Nk.C] at hfinQ
 rw [hl] at hfinQ
 generalize wsv m=XX at *
 clear hxr hcr hdk hnk hmr hdv hpr hml
 simp only [Qaf,List.cons_append,List.nil_append] at *
 refine fnW Tryz.func16 ?_
 (repeat' ((conv=>whnf);first|(intro hb;first|exact zk4 hb|(try (replace hb:=zn4 hb)))|(with_reducible first|refine zv hu ?_|refine zv ev ?_|refine zv ev2 ?_)|(refine Qay q0 ?_)|(refine zpu q1 ?_)|refine zst ?_|refine zbx ?_ ?_|refine zgx ?_ ?_|refine eqR ?_));(all_goals (try (conv=>whnf)))
 all_goals first|(exfalso;omega)|(exfalso;simp at hb;done)|(refine QaS hfinQ ?_;(exact Qa2))
theorem Qmf (M:Mc) (hM:M.ok) (hl:M.m.length=256) (w a:Int) (h:w%24=15):Fn Tryz.prog 16 [.agg (M.C 0),.s (.int .i64 w),.s (.int .i64 a)] [⟨false,1,wsv M.m⟩] QbF:=by
 have q0:=Qa1 M hM
 have q1:=QaK w 24 (by decide) (by decide)
 rw [h] at q1
 have hu:IntKind.u32.wrap (bits .and .i64 a 4294967295)=((w32 (bits .and .i64 a 4294967295):Nat):Int):=Qav _
 have hul:=Qax (bits .and .i64 a 4294967295)
 have hsm:=Qaa M.m
 generalize w32 (bits .and .i64 a 4294967295)=u at *
 obtain ⟨hx,hc,hxr,hcr,hpr,hmr,hml,hdk,hnk,hdv⟩:=hM
 obtain ⟨_,pc,_,m,ks,ta,td,tf,d,n,bt,bg,ct,wt,ht⟩:=M
 dsimp only at *
 obtain ⟨x0,x1,x2,x3,x4,x5,x6,x7,x8,x9,x10,x11,x12,x13,x14,x15,rfl⟩:=Qaq hx
 obtain ⟨c0,c1,c2,c3,c4,c5,c6,c7,rfl⟩:=QaJ hc
 obtain ⟨d0,d1,d2,d3,d4,d5,d6,d7⟩:=d
 obtain ⟨n0,n1,n2,n3,n4,n5⟩:=n
 dsimp only [Mc.C,Mc.D,Dk.C,Nk.C,Dk.ok,Nk.ok] at *
 have hfinQ:QbF ⟨.a (.agg ((Mc.mk [x0,x1,x2,x3,x4,x5,x6,x7,x8,x9,x10,x11,x12,x13,x14,x15] pc [c0,c1,c2,c3,c4,c5,c6,c7] m ks ta td tf ⟨d0,d1,d2,d3,d4,d5,d6,d7⟩ ⟨n0,n1,n2,n3,n4,n5⟩ bt bg ct (!wt) ht).C 1)),[],[⟨true,1,wsv m⟩]⟩:=⟨Mc.mk [x0,x1,x2,x3,x4,x5,x6,x7,x8,x9,x10,x11,x12,x13,x14,x15] pc [c0,c1,c2,c3,c4,c5,c6,c7] m ks ta td tf ⟨d0,d1,d2,d3,d4,d5,d6,d7⟩ ⟨n0,n1,n2,n3,n4,n5⟩ bt bg ct (!wt) ht,[],⟨rfl,rfl,hxr,hcr,hpr,hmr,hml,hdk,hnk,hdv⟩,by rw [List.append_nil]⟩
 simp only [hl] at q0 ⊢
 dsimp only [Mc.C,Mc.D,Dk.C,Nk.C] at hfinQ
 rw [hl] at hfinQ
 generalize wsv m=XX at *
 clear hxr hcr hdk hnk hmr hdv hpr hml
 simp only [Qaf,List.cons_append,List.nil_append] at *
 refine fnW Tryz.func16 ?_
 (repeat' ((conv=>whnf);first|(intro hb;first|exact zk4 hb|(try (replace hb:=zn4 hb)))|(with_reducible refine zv hu ?_)|(refine Qay q0 ?_)|(refine zpu q1 ?_)|refine zst ?_|refine zbx ?_ ?_|refine zgx ?_ ?_|refine eqR ?_));(all_goals (try (conv=>whnf)))
 all_goals first|(exfalso;omega)|(exfalso;simp at hb;done)|(refine QaS hfinQ ?_;(exact Qa2))
theorem Qmt (M:Mc) (hM:M.ok) (hl:M.m.length=256) (w a:Int) (h:w%24=16):Fn Tryz.prog 16 [.agg (M.C 0),.s (.int .i64 w),.s (.int .i64 a)] [⟨false,1,wsv M.m⟩] QbF:=by
 have q0:=Qa1 M hM
 have q1:=QaK w 24 (by decide) (by decide)
 rw [h] at q1
 have hu:IntKind.u32.wrap (bits .and .i64 a 4294967295)=((w32 (bits .and .i64 a 4294967295):Nat):Int):=Qav _
 have hul:=Qax (bits .and .i64 a 4294967295)
 have hsm:=Qaa M.m
 generalize w32 (bits .and .i64 a 4294967295)=u at *
 obtain ⟨hx,hc,hxr,hcr,hpr,hmr,hml,hdk,hnk,hdv⟩:=hM
 obtain ⟨_,pc,_,m,ks,ta,td,tf,d,n,bt,bg,ct,wt,ht⟩:=M
 dsimp only at *
 obtain ⟨x0,x1,x2,x3,x4,x5,x6,x7,x8,x9,x10,x11,x12,x13,x14,x15,rfl⟩:=Qaq hx
 obtain ⟨c0,c1,c2,c3,c4,c5,c6,c7,rfl⟩:=QaJ hc
 obtain ⟨d0,d1,d2,d3,d4,d5,d6,d7⟩:=d
 obtain ⟨n0,n1,n2,n3,n4,n5⟩:=n
 dsimp only [Mc.C,Mc.D,Dk.C,Nk.C,Dk.ok,Nk.ok] at *
 have hfinQ:QbF ⟨.a (.agg ((Mc.mk [x0,x1,x2,x3,x4,x5,x6,x7,x8,x9,x10,x11,x12,x13,x14,x15] pc [c0,c1,c2,c3,c4,c5,c6,c7] m ks ta td tf ⟨d0,d1,d2,d3,d4,d5,d6,d7⟩ ⟨n0,n1,n2,n3,n4,n5⟩ bt bg ct wt (!ht)).C 1)),[],[⟨true,1,wsv m⟩]⟩:=⟨Mc.mk [x0,x1,x2,x3,x4,x5,x6,x7,x8,x9,x10,x11,x12,x13,x14,x15] pc [c0,c1,c2,c3,c4,c5,c6,c7] m ks ta td tf ⟨d0,d1,d2,d3,d4,d5,d6,d7⟩ ⟨n0,n1,n2,n3,n4,n5⟩ bt bg ct wt (!ht),[],⟨rfl,rfl,hxr,hcr,hpr,hmr,hml,hdk,hnk,hdv⟩,by rw [List.append_nil]⟩
 simp only [hl] at q0 ⊢
 dsimp only [Mc.C,Mc.D,Dk.C,Nk.C] at hfinQ
 rw [hl] at hfinQ
 generalize wsv m=XX at *
 clear hxr hcr hdk hnk hmr hdv hpr hml
 simp only [Qaf,List.cons_append,List.nil_append] at *
 refine fnW Tryz.func16 ?_
 (repeat' ((conv=>whnf);first|(intro hb;first|exact zk4 hb|(try (replace hb:=zn4 hb)))|(with_reducible refine zv hu ?_)|(refine Qay q0 ?_)|(refine zpu q1 ?_)|refine zst ?_|refine zbx ?_ ?_|refine zgx ?_ ?_|refine eqR ?_));(all_goals (try (conv=>whnf)))
 all_goals first|(exfalso;omega)|(exfalso;simp at hb;done)|(refine QaS hfinQ ?_;(exact Qa2))
theorem Qkd (M:Mc) (hM:M.ok) (hl:M.m.length=256) (w a:Int) (h:w%24=17):Fn Tryz.prog 16 [.agg (M.C 0),.s (.int .i64 w),.s (.int .i64 a)] [⟨false,1,wsv M.m⟩] QbF:=by
 have q0:=Qa1 M hM
 have q1:=QaK w 24 (by decide) (by decide)
 rw [h] at q1
 have hu:IntKind.u32.wrap (bits .and .i64 a 4294967295)=((w32 (bits .and .i64 a 4294967295):Nat):Int):=Qav _
 have hul:=Qax (bits .and .i64 a 4294967295)
 have hsm:=Qaa M.m
 generalize w32 (bits .and .i64 a 4294967295)=u at *
 obtain ⟨v,ev,lv⟩:∃ v:Nat,IntKind.u64.wrap a=(v:Int)∧v<18446744073709551616:=⟨(IntKind.u64.wrap a).toNat,by rw [QjF];omega,by rw [QjF];omega⟩
 obtain ⟨hx,hc,hxr,hcr,hpr,hmr,hml,hdk,hnk,hdv⟩:=hM
 obtain ⟨_,pc,_,m,ks,ta,td,tf,d,n,bt,bg,_,wt,ht⟩:=M
 dsimp only at *
 obtain ⟨x0,x1,x2,x3,x4,x5,x6,x7,x8,x9,x10,x11,x12,x13,x14,x15,rfl⟩:=Qaq hx
 obtain ⟨c0,c1,c2,c3,c4,c5,c6,c7,rfl⟩:=QaJ hc
 obtain ⟨d0,d1,d2,d3,d4,d5,d6,d7⟩:=d
 obtain ⟨n0,n1,n2,n3,n4,n5⟩:=n
 dsimp only [Mc.C,Mc.D,Dk.C,Nk.C,Dk.ok,Nk.ok] at *
 have hfinQ:QbF ⟨.a (.agg ((Mc.mk [x0,x1,x2,x3,x4,x5,x6,x7,x8,x9,x10,x11,x12,x13,x14,x15] pc [c0,c1,c2,c3,c4,c5,c6,c7] m ks ta td tf ⟨d0,d1,d2,d3,d4,d5,d6,d7⟩ ⟨n0,n1,n2,n3,n4,n5⟩ bt bg v wt ht).C 1)),[],[⟨true,1,wsv m⟩]⟩:=⟨Mc.mk [x0,x1,x2,x3,x4,x5,x6,x7,x8,x9,x10,x11,x12,x13,x14,x15] pc [c0,c1,c2,c3,c4,c5,c6,c7] m ks ta td tf ⟨d0,d1,d2,d3,d4,d5,d6,d7⟩ ⟨n0,n1,n2,n3,n4,n5⟩ bt bg v wt ht,[],⟨rfl,rfl,hxr,hcr,hpr,hmr,hml,hdk,hnk,⟨hdv.1,hdv.2.1,hdv.2.2.1,lv,hdv.2.2.2.2⟩⟩,by rw [List.append_nil]⟩
 simp only [hl] at q0 ⊢
 dsimp only [Mc.C,Mc.D,Dk.C,Nk.C] at hfinQ
 rw [hl] at hfinQ
 generalize wsv m=XX at *
 clear hxr hcr hdk hnk hmr hdv hpr hml
 simp only [Qaf,List.cons_append,List.nil_append] at *
 refine fnW Tryz.func16 ?_
 (repeat' ((conv=>whnf);first|(intro hb;first|exact zk4 hb|(try (replace hb:=zn4 hb)))|(with_reducible first|refine zv hu ?_|refine zv ev ?_)|(refine Qay q0 ?_)|(refine zpu q1 ?_)|refine zst ?_|refine zbx ?_ ?_|refine zgx ?_ ?_|refine eqR ?_));(all_goals (try (conv=>whnf)))
 all_goals first|(exfalso;omega)|(exfalso;simp at hb;done)|(refine QaS hfinQ ?_;(exact Qa2))
theorem QkB (M:Mc) (hM:M.ok) (hl:M.m.length=256) (w a:Int) (h:w%24=18):Fn Tryz.prog 16 [.agg (M.C 0),.s (.int .i64 w),.s (.int .i64 a)] [⟨false,1,wsv M.m⟩] QbF:=by
 have q0:=Qa1 M hM
 have q1:=QaK w 24 (by decide) (by decide)
 rw [h] at q1
 have hu:IntKind.u32.wrap (bits .and .i64 a 4294967295)=((w32 (bits .and .i64 a 4294967295):Nat):Int):=Qav _
 have hul:=Qax (bits .and .i64 a 4294967295)
 have hsm:=Qaa M.m
 generalize w32 (bits .and .i64 a 4294967295)=u at *
 have qr:=QaK a 256 (by decide) (by decide)
 obtain ⟨r,er,lr⟩:∃ r:Nat,a%256=(r:Int)∧r<256:=⟨(a%256).toNat,by omega,by omega⟩
 rw [er] at qr
 obtain ⟨hx,hc,hxr,hcr,hpr,hmr,hml,hdk,hnk,hdv⟩:=hM
 obtain ⟨_,pc,_,m,ks,ta,td,tf,d,n,bt,bg,ct,wt,ht⟩:=M
 dsimp only at *
 obtain ⟨x0,x1,x2,x3,x4,x5,x6,x7,x8,x9,x10,x11,x12,x13,x14,x15,rfl⟩:=Qaq hx
 obtain ⟨c0,c1,c2,c3,c4,c5,c6,c7,rfl⟩:=QaJ hc
 obtain ⟨d0,d1,d2,d3,d4,d5,d6,d7⟩:=d
 obtain ⟨n0,n1,n2,n3,n4,n5⟩:=n
 dsimp only [Mc.C,Mc.D,Dk.C,Nk.C,Dk.ok,Nk.ok] at *
 have hmr2:∀ y∈m.take r,y<4294967296:=fun y hy=>hmr y (List.mem_of_mem_take hy)
 have hl2:(m.take r).length=r:=by rw [List.length_take];omega
 generalize hm2:m.take r=m2 at *
 have hfinQ:QbF ⟨.a (.agg ((Mc.mk [x0,x1,x2,x3,x4,x5,x6,x7,x8,x9,x10,x11,x12,x13,x14,x15] pc [c0,c1,c2,c3,c4,c5,c6,c7] m2 ks ta td tf ⟨d0,d1,d2,d3,d4,d5,d6,d7⟩ ⟨n0,n1,n2,n3,n4,n5⟩ bt bg ct wt ht).C 1)),[],[⟨true,1,wsv m⟩]⟩:=⟨Mc.mk [x0,x1,x2,x3,x4,x5,x6,x7,x8,x9,x10,x11,x12,x13,x14,x15] pc [c0,c1,c2,c3,c4,c5,c6,c7] m2 ks ta td tf ⟨d0,d1,d2,d3,d4,d5,d6,d7⟩ ⟨n0,n1,n2,n3,n4,n5⟩ bt bg ct wt ht,(m.drop r),⟨rfl,rfl,hxr,hcr,hpr,hmr2,(by show m2.length≤1000000;omega),hdk,hnk,hdv⟩,by rw [← hm2,List.take_append_drop]⟩
 simp only [hl] at q0 ⊢
 dsimp only [Mc.C,Mc.D,Dk.C,Nk.C] at hfinQ
 rw [hl2] at hfinQ
 generalize wsv m=XX at *
 clear hxr hcr hdk hnk hmr hdv hpr hml
 simp only [Qaf,List.cons_append,List.nil_append] at *
 refine fnW Tryz.func16 ?_
 (repeat' ((conv=>whnf);first|(intro hb;first|exact zk4 hb|(try (replace hb:=zn4 hb)))|(refine zpu qr ?_)|(apply Sd.mk; · first|omega|(refine ⟨?_,?_,?_⟩<;>first|rfl|omega))|(with_reducible refine zv hu ?_)|(refine Qay q0 ?_)|(refine zpu q1 ?_)|refine zst ?_|refine zbx ?_ ?_|refine zgx ?_ ?_|refine eqR ?_));(all_goals (try (conv=>whnf)))
 all_goals first|(exfalso;omega)|(exfalso;simp at hb;done)|(refine QaS hfinQ ?_;(exact Qa2))
theorem QmE (M:Mc) (hM:M.ok) (hl:M.m.length=256) (w a:Int) (h:w%24=19):Fn Tryz.prog 16 [.agg (M.C 0),.s (.int .i64 w),.s (.int .i64 a)] [⟨false,1,wsv M.m⟩] QbF:=by
 have q0:=Qa1 M hM
 have q1:=QaK w 24 (by decide) (by decide)
 rw [h] at q1
 have hu:IntKind.u32.wrap (bits .and .i64 a 4294967295)=((w32 (bits .and .i64 a 4294967295):Nat):Int):=Qav _
 have hul:=Qax (bits .and .i64 a 4294967295)
 have hsm:=Qaa M.m
 generalize w32 (bits .and .i64 a 4294967295)=u at *
 obtain ⟨v,ev,lv⟩:∃ v:Nat,IntKind.u64.wrap (1152921504606846976-IntKind.u64.wrap (bits .and .i64 a 3))=(v:Int)∧v<18446744073709551616:=⟨(IntKind.u64.wrap (1152921504606846976-IntKind.u64.wrap (bits .and .i64 a 3))).toNat,by rw [QjF];omega,by rw [QjF];omega⟩
 obtain ⟨hx,hc,hxr,hcr,hpr,hmr,hml,hdk,hnk,hdv⟩:=hM
 obtain ⟨_,pc,_,m,ks,ta,td,tf,d,n,bt,bg,_,wt,ht⟩:=M
 dsimp only at *
 obtain ⟨x0,x1,x2,x3,x4,x5,x6,x7,x8,x9,x10,x11,x12,x13,x14,x15,rfl⟩:=Qaq hx
 obtain ⟨c0,c1,c2,c3,c4,c5,c6,c7,rfl⟩:=QaJ hc
 obtain ⟨d0,d1,d2,d3,d4,d5,d6,d7⟩:=d
 obtain ⟨n0,n1,n2,n3,n4,n5⟩:=n
 dsimp only [Mc.C,Mc.D,Dk.C,Nk.C,Dk.ok,Nk.ok] at *
 have hfinQ:QbF ⟨.a (.agg ((Mc.mk [x0,x1,x2,x3,x4,x5,x6,x7,x8,x9,x10,x11,x12,x13,x14,x15] pc [c0,c1,c2,c3,c4,c5,c6,c7] m ks ta td tf ⟨d0,d1,d2,d3,d4,d5,d6,d7⟩ ⟨n0,n1,n2,n3,n4,n5⟩ bt bg v wt ht).C 1)),[],[⟨true,1,wsv m⟩]⟩:=⟨Mc.mk [x0,x1,x2,x3,x4,x5,x6,x7,x8,x9,x10,x11,x12,x13,x14,x15] pc [c0,c1,c2,c3,c4,c5,c6,c7] m ks ta td tf ⟨d0,d1,d2,d3,d4,d5,d6,d7⟩ ⟨n0,n1,n2,n3,n4,n5⟩ bt bg v wt ht,[],⟨rfl,rfl,hxr,hcr,hpr,hmr,hml,hdk,hnk,⟨hdv.1,hdv.2.1,hdv.2.2.1,lv,hdv.2.2.2.2⟩⟩,by rw [List.append_nil]⟩
 simp only [hl] at q0 ⊢
 dsimp only [Mc.C,Mc.D,Dk.C,Nk.C] at hfinQ
 rw [hl] at hfinQ
 generalize wsv m=XX at *
 clear hxr hcr hdk hnk hmr hdv hpr hml
 simp only [Qaf,List.cons_append,List.nil_append] at *
 refine fnW Tryz.func16 ?_
 (repeat' ((conv=>whnf);first|(intro hb;first|exact zk4 hb|(try (replace hb:=zn4 hb)))|(with_reducible first|refine zv hu ?_|refine zv ev ?_)|(refine Qay q0 ?_)|(refine zpu q1 ?_)|refine zst ?_|refine zbx ?_ ?_|refine zgx ?_ ?_|refine eqR ?_));(all_goals (try (conv=>whnf)))
 all_goals first|(exfalso;omega)|(exfalso;simp at hb;done)|(refine QaS hfinQ ?_;(exact Qa2))
theorem Qkk (M:Mc) (hM:M.ok) (hl:M.m.length=256) (w a:Int) (h:w%24=20):Fn Tryz.prog 16 [.agg (M.C 0),.s (.int .i64 w),.s (.int .i64 a)] [⟨false,1,wsv M.m⟩] QbF:=by
 have q0:=Qa1 M hM
 have q1:=QaK w 24 (by decide) (by decide)
 rw [h] at q1
 have hu:IntKind.u32.wrap (bits .and .i64 a 4294967295)=((w32 (bits .and .i64 a 4294967295):Nat):Int):=Qav _
 have hul:=Qax (bits .and .i64 a 4294967295)
 have hsm:=Qaa M.m
 generalize w32 (bits .and .i64 a 4294967295)=u at *
 obtain ⟨v,ev,lv⟩:∃ v:Nat,bits .and .u32 (u:Int) 15=(v:Int)∧v<4294967296:=⟨(bits .and .u32 (u:Int) 15).toNat,by have:=QaC .and (u:Int) 15;omega,by have:=QaC .and (u:Int) 15;omega⟩
 obtain ⟨hx,hc,hxr,hcr,hpr,hmr,hml,hdk,hnk,hdv⟩:=hM
 obtain ⟨_,pc,_,m,ks,ta,td,tf,d,n,bt,bg,ct,wt,ht⟩:=M
 dsimp only at *
 obtain ⟨x0,x1,x2,x3,x4,x5,x6,x7,x8,x9,x10,x11,x12,x13,x14,x15,rfl⟩:=Qaq hx
 obtain ⟨c0,c1,c2,c3,c4,c5,_,c7,rfl⟩:=QaJ hc
 obtain ⟨d0,d1,d2,d3,d4,d5,d6,d7⟩:=d
 obtain ⟨n0,n1,n2,n3,n4,n5⟩:=n
 dsimp only [Mc.C,Mc.D,Dk.C,Nk.C,Dk.ok,Nk.ok] at *
 have hfinQ:QbF ⟨.a (.agg ((Mc.mk [x0,x1,x2,x3,x4,x5,x6,x7,x8,x9,x10,x11,x12,x13,x14,x15] pc [c0,c1,c2,c3,c4,c5,v,c7] m ks ta td tf ⟨d0,d1,d2,d3,d4,d5,d6,d7⟩ ⟨n0,n1,n2,n3,n4,n5⟩ bt bg ct wt ht).C 1)),[],[⟨true,1,wsv m⟩]⟩:=⟨Mc.mk [x0,x1,x2,x3,x4,x5,x6,x7,x8,x9,x10,x11,x12,x13,x14,x15] pc [c0,c1,c2,c3,c4,c5,v,c7] m ks ta td tf ⟨d0,d1,d2,d3,d4,d5,d6,d7⟩ ⟨n0,n1,n2,n3,n4,n5⟩ bt bg ct wt ht,[],⟨rfl,rfl,hxr,Qbw hcr 6 v lv,hpr,hmr,hml,hdk,hnk,hdv⟩,by rw [List.append_nil]⟩
 simp only [hl] at q0 ⊢
 dsimp only [Mc.C,Mc.D,Dk.C,Nk.C] at hfinQ
 rw [hl] at hfinQ
 generalize wsv m=XX at *
 clear hxr hcr hdk hnk hmr hdv hpr hml
 simp only [Qaf,List.cons_append,List.nil_append] at *
 refine fnW Tryz.func16 ?_
 (repeat' ((conv=>whnf);first|(intro hb;first|exact zk4 hb|(try (replace hb:=zn4 hb)))|(with_reducible first|refine zv hu ?_|refine zv ev ?_)|(refine Qay q0 ?_)|(refine zpu q1 ?_)|refine zst ?_|refine zbx ?_ ?_|refine zgx ?_ ?_|refine eqR ?_));(all_goals (try (conv=>whnf)))
 all_goals first|(exfalso;omega)|(exfalso;simp at hb;done)|(refine QaS hfinQ ?_;(exact Qa2))
theorem QlM (M:Mc) (hM:M.ok) (hl:M.m.length=256) (w a:Int) (h:w%24=21):Fn Tryz.prog 16 [.agg (M.C 0),.s (.int .i64 w),.s (.int .i64 a)] [⟨false,1,wsv M.m⟩] QbF:=by
 have q0:=Qa1 M hM
 have q1:=QaK w 24 (by decide) (by decide)
 rw [h] at q1
 have hu:IntKind.u32.wrap (bits .and .i64 a 4294967295)=((w32 (bits .and .i64 a 4294967295):Nat):Int):=Qav _
 have hul:=Qax (bits .and .i64 a 4294967295)
 have hsm:=Qaa M.m
 generalize w32 (bits .and .i64 a 4294967295)=u at *
 obtain ⟨v,ev,lv⟩:∃ v:Nat,IntKind.u32.wrap (640+bits .and .u32 (u:Int) 124)=(v:Int)∧v<4294967296:=⟨_,Qav _,Qax _⟩
 obtain ⟨hx,hc,hxr,hcr,hpr,hmr,hml,hdk,hnk,hdv⟩:=hM
 obtain ⟨_,_,_,m,ks,ta,td,tf,d,n,bt,bg,ct,wt,ht⟩:=M
 dsimp only at *
 obtain ⟨x0,x1,x2,x3,x4,x5,x6,x7,x8,x9,x10,x11,x12,x13,x14,x15,rfl⟩:=Qaq hx
 obtain ⟨c0,c1,c2,c3,c4,c5,c6,c7,rfl⟩:=QaJ hc
 obtain ⟨d0,d1,d2,d3,d4,d5,d6,d7⟩:=d
 obtain ⟨n0,n1,n2,n3,n4,n5⟩:=n
 dsimp only [Mc.C,Mc.D,Dk.C,Nk.C,Dk.ok,Nk.ok] at *
 have hfinQ:QbF ⟨.a (.agg ((Mc.mk [x0,x1,x2,x3,x4,x5,x6,x7,x8,x9,x10,x11,x12,x13,x14,x15] v [c0,c1,c2,c3,c4,c5,c6,c7] m ks ta td tf ⟨d0,d1,d2,d3,d4,d5,d6,d7⟩ ⟨n0,n1,n2,n3,n4,n5⟩ bt bg ct wt ht).C 1)),[],[⟨true,1,wsv m⟩]⟩:=⟨Mc.mk [x0,x1,x2,x3,x4,x5,x6,x7,x8,x9,x10,x11,x12,x13,x14,x15] v [c0,c1,c2,c3,c4,c5,c6,c7] m ks ta td tf ⟨d0,d1,d2,d3,d4,d5,d6,d7⟩ ⟨n0,n1,n2,n3,n4,n5⟩ bt bg ct wt ht,[],⟨rfl,rfl,hxr,hcr,lv,hmr,hml,hdk,hnk,hdv⟩,by rw [List.append_nil]⟩
 simp only [hl] at q0 ⊢
 dsimp only [Mc.C,Mc.D,Dk.C,Nk.C] at hfinQ
 rw [hl] at hfinQ
 generalize wsv m=XX at *
 clear hxr hcr hdk hnk hmr hdv hpr hml
 simp only [Qaf,List.cons_append,List.nil_append] at *
 refine fnW Tryz.func16 ?_
 (repeat' ((conv=>whnf);first|(intro hb;first|exact zk4 hb|(try (replace hb:=zn4 hb)))|(with_reducible first|refine zv hu ?_|refine zv ev ?_)|(refine Qay q0 ?_)|(refine zpu q1 ?_)|refine zst ?_|refine zbx ?_ ?_|refine zgx ?_ ?_|refine eqR ?_));(all_goals (try (conv=>whnf)))
 all_goals first|(exfalso;omega)|(exfalso;simp at hb;done)|(refine QaS hfinQ ?_;(exact Qa2))
theorem QlW (M:Mc) (hM:M.ok) (hl:M.m.length=256) (w a:Int) (h:w%24=22):Fn Tryz.prog 16 [.agg (M.C 0),.s (.int .i64 w),.s (.int .i64 a)] [⟨false,1,wsv M.m⟩] QbF:=by
 have q0:=Qa1 M hM
 have q1:=QaK w 24 (by decide) (by decide)
 rw [h] at q1
 have hu:IntKind.u32.wrap (bits .and .i64 a 4294967295)=((w32 (bits .and .i64 a 4294967295):Nat):Int):=Qav _
 have hul:=Qax (bits .and .i64 a 4294967295)
 have hsm:=Qaa M.m
 generalize w32 (bits .and .i64 a 4294967295)=u at *
 obtain ⟨hx,hc,hxr,hcr,hpr,hmr,hml,hdk,hnk,hdv⟩:=hM
 obtain ⟨_,pc,_,m,ks,ta,td,tf,d,n,bt,bg,ct,wt,ht⟩:=M
 dsimp only at *
 obtain ⟨x0,x1,x2,x3,x4,x5,x6,x7,x8,x9,x10,x11,x12,x13,x14,x15,rfl⟩:=Qaq hx
 obtain ⟨c0,c1,c2,c3,c4,c5,c6,c7,rfl⟩:=QaJ hc
 obtain ⟨d0,d1,d2,d3,d4,d5,d6,d7⟩:=d
 obtain ⟨n0,n1,n2,n3,n4,n5⟩:=n
 dsimp only [Mc.C,Mc.D,Dk.C,Nk.C,Dk.ok,Nk.ok] at *
 have hfinQ:QbF ⟨.a (.agg ((Mc.mk [x0,x1,x2,x3,x4,x5,x6,x7,x8,x9,x10,x11,x12,x13,x14,x15] pc [c0,c1,c2,c3,c4,c5,c6,c7] m ks ta td tf ⟨d0,d1,d2,d3,d4,d5,d6,d7⟩ ⟨n0,n1,n2,n3,n4,n5⟩ bt bg ct wt ht).C 1)),[],[⟨true,1,wsv m⟩]⟩:=⟨Mc.mk [x0,x1,x2,x3,x4,x5,x6,x7,x8,x9,x10,x11,x12,x13,x14,x15] pc [c0,c1,c2,c3,c4,c5,c6,c7] m ks ta td tf ⟨d0,d1,d2,d3,d4,d5,d6,d7⟩ ⟨n0,n1,n2,n3,n4,n5⟩ bt bg ct wt ht,[],⟨rfl,rfl,hxr,hcr,hpr,hmr,hml,hdk,hnk,hdv⟩,by rw [List.append_nil]⟩
 simp only [hl] at q0 ⊢
 dsimp only [Mc.C,Mc.D,Dk.C,Nk.C] at hfinQ
 rw [hl] at hfinQ
 generalize wsv m=XX at *
 clear hxr hcr hdk hnk hmr hdv hpr hml
 simp only [Qaf,List.cons_append,List.nil_append] at *
 refine fnW Tryz.func16 ?_
 (repeat' ((conv=>whnf);first|(intro hb;first|exact zk4 hb|(try (replace hb:=zn4 hb)))|(with_reducible refine zv hu ?_)|(refine Qay q0 ?_)|(refine zpu q1 ?_)|refine zst ?_|refine zbx ?_ ?_|refine zgx ?_ ?_|refine eqR ?_));(all_goals (try (conv=>whnf)))
 all_goals first|(exfalso;omega)|(exfalso;simp at hb;done)|(refine QaS hfinQ ?_;(exact Qa2))
theorem Qkc (M:Mc) (hM:M.ok) (hl:M.m.length=256) (w a:Int) (h:w%24=23):Fn Tryz.prog 16 [.agg (M.C 0),.s (.int .i64 w),.s (.int .i64 a)] [⟨false,1,wsv M.m⟩] QbF:=by
 have q0:=Qa1 M hM
 have q1:=QaK w 24 (by decide) (by decide)
 rw [h] at q1
 have hu:IntKind.u32.wrap (bits .and .i64 a 4294967295)=((w32 (bits .and .i64 a 4294967295):Nat):Int):=Qav _
 have hul:=Qax (bits .and .i64 a 4294967295)
 have hsm:=Qaa M.m
 generalize w32 (bits .and .i64 a 4294967295)=u at *
 obtain ⟨hx,hc,hxr,hcr,hpr,hmr,hml,hdk,hnk,hdv⟩:=hM
 obtain ⟨_,pc,_,m,ks,ta,td,tf,d,n,bt,bg,ct,wt,ht⟩:=M
 dsimp only at *
 obtain ⟨x0,x1,x2,x3,x4,x5,x6,x7,x8,x9,x10,x11,x12,x13,x14,x15,rfl⟩:=Qaq hx
 obtain ⟨c0,c1,c2,c3,c4,c5,c6,c7,rfl⟩:=QaJ hc
 obtain ⟨d0,d1,d2,d3,d4,d5,d6,d7⟩:=d
 obtain ⟨n0,n1,n2,n3,n4,n5⟩:=n
 dsimp only [Mc.C,Mc.D,Dk.C,Nk.C,Dk.ok,Nk.ok] at *
 have hfinQ:QbF ⟨.a (.agg ((Mc.mk [x0,x1,x2,x3,x4,x5,x6,x7,x8,x9,x10,x11,x12,x13,x14,x15] pc [c0,c1,c2,c3,c4,c5,c6,c7] m ks ta td tf ⟨d0,d1,d2,d3,d4,d5,d6,d7⟩ ⟨n0,n1,n2,n3,n4,n5⟩ bt bg ct wt ht).C 1)),[],[⟨true,1,wsv m⟩]⟩:=⟨Mc.mk [x0,x1,x2,x3,x4,x5,x6,x7,x8,x9,x10,x11,x12,x13,x14,x15] pc [c0,c1,c2,c3,c4,c5,c6,c7] m ks ta td tf ⟨d0,d1,d2,d3,d4,d5,d6,d7⟩ ⟨n0,n1,n2,n3,n4,n5⟩ bt bg ct wt ht,[],⟨rfl,rfl,hxr,hcr,hpr,hmr,hml,hdk,hnk,hdv⟩,by rw [List.append_nil]⟩
 simp only [hl] at q0 ⊢
 dsimp only [Mc.C,Mc.D,Dk.C,Nk.C] at hfinQ
 rw [hl] at hfinQ
 generalize wsv m=XX at *
 clear hxr hcr hdk hnk hmr hdv hpr hml
 simp only [Qaf,List.cons_append,List.nil_append] at *
 refine fnW Tryz.func16 ?_
 (repeat' ((conv=>whnf);first|(intro hb;first|exact zk4 hb|(try (replace hb:=zn4 hb)))|(with_reducible refine zv hu ?_)|(refine Qay q0 ?_)|(refine zpu q1 ?_)|refine zst ?_|refine zbx ?_ ?_|refine zgx ?_ ?_|refine eqR ?_));(all_goals (try (conv=>whnf)))
 all_goals first|(exfalso;omega)|(exfalso;simp at hb;done)|(refine QaS hfinQ ?_;(exact Qa2))
end Go.Proofs.YtjgikeckbeeehaaGreat
