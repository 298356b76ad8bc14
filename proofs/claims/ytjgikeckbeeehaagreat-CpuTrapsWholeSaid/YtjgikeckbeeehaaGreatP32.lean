import Derived.Test.YtjgikeckbeeehaaGreatP31
set_option linter.unusedSimpArgs false
set_option linter.unusedVariables false
set_option maxHeartbeats 100000000
set_option maxRecDepth 100000
namespace Go.Proofs.YtjgikeckbeeehaaGreat
open Go Go.RowKit
theorem QjO (M:Mc) (hM:M.ok) (hl:M.m.length=256) (w a:Int) (h:w%24=10) (hw:a%2=0):Fn Tryz.prog 16 [.agg (M.C 0),.s (.int .i64 w),.s (.int .i64 a)] [⟨false,1,wsv M.m⟩] QbF:=by
 have q0:=Qa1 M hM
 have q1:=QaK w 24 (by decide) (by decide)
 rw [h] at q1
 have hu:IntKind.u32.wrap (bits .and .i64 a 4294967295)=((w32 (bits .and .i64 a 4294967295):Nat):Int):=Qav _
 have hul:=Qax (bits .and .i64 a 4294967295)
 have hsm:=Qaa M.m
 generalize w32 (bits .and .i64 a 4294967295)=u at *
 have he1:bits .and .i64 a 1=0:=by rw [Qvp];omega
 obtain ⟨w1,ew1,lw1⟩:∃ v:Nat,bits .and .u32 ((u:Int) / 2^min (Int.toNat 1) IntKind.u32.bits) 3=(v:Int)∧v<4294967296:=⟨(bits .and .u32 ((u:Int) / 2^min (Int.toNat 1) IntKind.u32.bits) 3).toNat,by have:=QaC .and ((u:Int) / 2^min (Int.toNat 1) IntKind.u32.bits) 3;omega,by have:=QaC .and ((u:Int) / 2^min (Int.toNat 1) IntKind.u32.bits) 3;omega⟩
 obtain ⟨w3,ew3,lw3⟩:∃ v:Nat,bits .and .u32 ((u:Int) / 2^min (Int.toNat 3) IntKind.u32.bits) 7=(v:Int)∧v<4294967296:=⟨(bits .and .u32 ((u:Int) / 2^min (Int.toNat 3) IntKind.u32.bits) 7).toNat,by have:=QaC .and ((u:Int) / 2^min (Int.toNat 3) IntKind.u32.bits) 7;omega,by have:=QaC .and ((u:Int) / 2^min (Int.toNat 3) IntKind.u32.bits) 7;omega⟩
 obtain ⟨hx,hc,hxr,hcr,hpr,hmr,hml,hdk,hnk,hdv⟩:=hM
 obtain ⟨_,pc,_,m,ks,ta,td,tf,d,n,bt,bg,ct,wt,ht⟩:=M
 dsimp only at *
 obtain ⟨x0,x1,x2,x3,x4,x5,x6,x7,x8,x9,x10,x11,x12,x13,x14,x15,rfl⟩:=Qaq hx
 obtain ⟨c0,c1,c2,c3,c4,c5,c6,c7,rfl⟩:=QaJ hc
 obtain ⟨_,_,_,_,_,_,_,_⟩:=d
 obtain ⟨n0,n1,n2,n3,n4,n5⟩:=n
 dsimp only [Mc.C,Mc.D,Dk.C,Nk.C,Dk.ok,Nk.ok] at *
 have hfinQ:QbF ⟨.a (.agg ((Mc.mk [x0,x1,x2,x3,x4,x5,x6,x7,x8,x9,x10,x11,x12,x13,x14,x15] pc [c0,c1,c2,c3,c4,c5,c6,c7] m ks ta td tf ⟨4,0,0,1,1,w1,w3,⟨#[]⟩⟩ ⟨n0,n1,n2,n3,n4,n5⟩ bt bg ct wt ht).C 1)),[],[⟨true,1,wsv m⟩]⟩:=⟨Mc.mk [x0,x1,x2,x3,x4,x5,x6,x7,x8,x9,x10,x11,x12,x13,x14,x15] pc [c0,c1,c2,c3,c4,c5,c6,c7] m ks ta td tf ⟨4,0,0,1,1,w1,w3,⟨#[]⟩⟩ ⟨n0,n1,n2,n3,n4,n5⟩ bt bg ct wt ht,[],⟨rfl,rfl,hxr,hcr,hpr,hmr,hml,⟨by show (4:Nat)<4294967296;decide,by show (0:Nat)<4294967296;decide,by show (0:Nat)<4294967296;decide,lw1,lw3,Nat.zero_le _,by show (Lit.int .i64 1).wf=true;decide,by show (Lit.int .i64 1).wf=true;decide⟩,hnk,hdv⟩,by rw [List.append_nil]⟩
 simp only [hl] at q0 ⊢
 dsimp only [Mc.C,Mc.D,Dk.C,Nk.C] at hfinQ
 rw [hl] at hfinQ
 generalize wsv m=XX at *
 clear hxr hcr hdk hnk hmr hdv hpr hml
 simp only [Qaf,List.cons_append,List.nil_append] at *
 refine fnW Tryz.func16 ?_
 (repeat' ((conv=>whnf);first|(intro hb;first|exact zk4 hb|(try (replace hb:=zn4 hb)))|(with_reducible first|refine zv hu ?_|refine zv he1 ?_|refine zv ew1 ?_|refine zv ew3 ?_)|(refine Qay q0 ?_)|(refine zpu q1 ?_)|refine zst ?_|refine zbx ?_ ?_|refine zgx ?_ ?_|refine eqR ?_));(all_goals (try (conv=>whnf)))
 all_goals first|(exfalso;omega)|(exfalso;simp at hb;done)|(refine QaS hfinQ ?_;(exact Qa2))
theorem QjM (M:Mc) (hM:M.ok) (hl:M.m.length=256) (w a:Int) (h:w%24=10) (hw:a%2=1):Fn Tryz.prog 16 [.agg (M.C 0),.s (.int .i64 w),.s (.int .i64 a)] [⟨false,1,wsv M.m⟩] QbF:=by
 have q0:=Qa1 M hM
 have q1:=QaK w 24 (by decide) (by decide)
 rw [h] at q1
 have hu:IntKind.u32.wrap (bits .and .i64 a 4294967295)=((w32 (bits .and .i64 a 4294967295):Nat):Int):=Qav _
 have hul:=Qax (bits .and .i64 a 4294967295)
 have hsm:=Qaa M.m
 generalize w32 (bits .and .i64 a 4294967295)=u at *
 have he1:bits .and .i64 a 1=1:=by rw [Qvp];omega
 obtain ⟨w1,ew1,lw1⟩:∃ v:Nat,bits .and .u32 ((u:Int) / 2^min (Int.toNat 1) IntKind.u32.bits) 3=(v:Int)∧v<4294967296:=⟨(bits .and .u32 ((u:Int) / 2^min (Int.toNat 1) IntKind.u32.bits) 3).toNat,by have:=QaC .and ((u:Int) / 2^min (Int.toNat 1) IntKind.u32.bits) 3;omega,by have:=QaC .and ((u:Int) / 2^min (Int.toNat 1) IntKind.u32.bits) 3;omega⟩
 obtain ⟨w3,ew3,lw3⟩:∃ v:Nat,bits .and .u32 ((u:Int) / 2^min (Int.toNat 3) IntKind.u32.bits) 7=(v:Int)∧v<4294967296:=⟨(bits .and .u32 ((u:Int) / 2^min (Int.toNat 3) IntKind.u32.bits) 7).toNat,by have:=QaC .and ((u:Int) / 2^min (Int.toNat 3) IntKind.u32.bits) 7;omega,by have:=QaC .and ((u:Int) / 2^min (Int.toNat 3) IntKind.u32.bits) 7;omega⟩
 have qd:=Qfq a 128 (by omega)
 have hSz:(strOfNums (QdN a 128)).size≤1000000:=by rw [strOfNums_size,QcX];omega
 generalize strOfNums (QdN a 128)=S at *
 obtain ⟨hx,hc,hxr,hcr,hpr,hmr,hml,hdk,hnk,hdv⟩:=hM
 obtain ⟨_,pc,_,m,ks,ta,td,tf,d,n,bt,bg,ct,wt,ht⟩:=M
 dsimp only at *
 obtain ⟨x0,x1,x2,x3,x4,x5,x6,x7,x8,x9,x10,x11,x12,x13,x14,x15,rfl⟩:=Qaq hx
 obtain ⟨c0,c1,c2,c3,c4,c5,c6,c7,rfl⟩:=QaJ hc
 obtain ⟨_,_,_,_,_,_,_,_⟩:=d
 obtain ⟨n0,n1,n2,n3,n4,n5⟩:=n
 dsimp only [Mc.C,Mc.D,Dk.C,Nk.C,Dk.ok,Nk.ok] at *
 have hfinQ:QbF ⟨.a (.agg ((Mc.mk [x0,x1,x2,x3,x4,x5,x6,x7,x8,x9,x10,x11,x12,x13,x14,x15] pc [c0,c1,c2,c3,c4,c5,c6,c7] m ks ta td tf ⟨4,0,0,1,2,w1,w3,S⟩ ⟨n0,n1,n2,n3,n4,n5⟩ bt bg ct wt ht).C 1)),[],[⟨true,1,wsv m⟩]⟩:=⟨Mc.mk [x0,x1,x2,x3,x4,x5,x6,x7,x8,x9,x10,x11,x12,x13,x14,x15] pc [c0,c1,c2,c3,c4,c5,c6,c7] m ks ta td tf ⟨4,0,0,1,2,w1,w3,S⟩ ⟨n0,n1,n2,n3,n4,n5⟩ bt bg ct wt ht,[],⟨rfl,rfl,hxr,hcr,hpr,hmr,hml,⟨by show (4:Nat)<4294967296;decide,by show (0:Nat)<4294967296;decide,by show (0:Nat)<4294967296;decide,lw1,lw3,hSz,by show (Lit.int .i64 1).wf=true;decide,by show (Lit.int .i64 2).wf=true;decide⟩,hnk,hdv⟩,by rw [List.append_nil]⟩
 simp only [hl] at q0 ⊢
 dsimp only [Mc.C,Mc.D,Dk.C,Nk.C] at hfinQ
 rw [hl] at hfinQ
 generalize wsv m=XX at *
 clear hxr hcr hdk hnk hmr hdv hpr hml
 simp only [Qaf,List.cons_append,List.nil_append] at *
 refine fnW Tryz.func16 ?_
 (repeat' ((conv=>whnf);first|(intro hb;first|exact zk4 hb|(try (replace hb:=zn4 hb)))|(with_reducible first|refine zv hu ?_|refine zv he1 ?_|refine zv ew1 ?_|refine zv ew3 ?_)|(refine zpu qd ?_)|(refine Qay q0 ?_)|(refine zpu q1 ?_)|refine zst ?_|refine zbx ?_ ?_|refine zgx ?_ ?_|refine eqR ?_));(all_goals (try (conv=>whnf)))
 all_goals first|(exfalso;omega)|(exfalso;simp at hb;done)|(refine QaS hfinQ ?_;(exact Qa2))
theorem Qk6 (M:Mc) (hM:M.ok) (hl:M.m.length=256) (w a:Int):Fn Tryz.prog 16 [.agg (M.C 0),.s (.int .i64 w),.s (.int .i64 a)] [⟨false,1,wsv M.m⟩] QbF:=by
 have h:w%24=0∨w%24=1∨w%24=2∨w%24=3∨w%24=4∨w%24=5∨w%24=6∨w%24=7∨w%24=8∨w%24=9∨w%24=10∨w%24=11∨w%24=12∨w%24=13∨w%24=14∨w%24=15∨w%24=16∨w%24=17∨w%24=18∨w%24=19∨w%24=20∨w%24=21∨w%24=22∨w%24=23:=by omega
 rcases h with h|h|h|h|h|h|h|h|h|h|h|h|h|h|h|h|h|h|h|h|h|h|h|h
 ·exact Qn7 M hM hl w a h
 ·exact QoQ M hM hl w a h
 ·exact Qo4 M hM hl w a h
 ·exact QnS M hM hl w a h
 ·exact QnC M hM hl w a h
 ·exact Qpr M hM hl w a h
 ·exact QnD M hM hl w a h
 ·exact QoM M hM hl w a h
 ·exact Qm7 M hM hl w a h
 ·exact Qpu M hM hl w a h
 ·rcases (show a%2=0∨a%2=1 by omega) with hw|hw
  ·exact QjO M hM hl w a h hw
  ·exact QjM M hM hl w a h hw
 ·exact Qlk M hM hl w a h
 ·exact QkP M hM hl w a h
 ·exact QkV M hM hl w a h
 ·exact QkQ M hM hl w a h
 ·exact Qmf M hM hl w a h
 ·exact Qmt M hM hl w a h
 ·exact Qkd M hM hl w a h
 ·exact QkB M hM hl w a h
 ·exact QmE M hM hl w a h
 ·exact Qkk M hM hl w a h
 ·exact QlM M hM hl w a h
 ·exact QlW M hM hl w a h
 ·exact Qkc M hM hl w a h
theorem QeF (k1 k2:Nat) (r1 r2:List SV) (h1:Qau r1=true) (h2:Qau r2=true) (bo:Bool) (hbo:bo=(decide (k1≤40)&&decide (k2≤30))):Fn Tryz.prog 5 [.s (.sl 0 0 k1),.s (.sl 1 0 k2)] [⟨false,1,r1⟩,⟨false,1,r2⟩] (· =⟨.a (.s (.bool bo)),[],[]⟩):=by
 by_cases c1:k1≤40
 ·by_cases c2:k2≤30
  ·obtain rfl:bo=true:=by rw [hbo];simp;omega
   refine fnW Tryz.func5 ?_
   (repeat' ((conv=>whnf);first|(intro hb;first|exact zk2 hb|(try (replace hb:=zn0 hb)))|refine zs0 ?_|refine zbx ?_ ?_|refine zgx ?_ ?_|refine eqR ?_));(all_goals (try (conv=>whnf)))
   all_goals first|(rw [show decide ((k2:Int)≤30)=true from decide_eq_true (by omega)];(exact QbS))
  ·obtain rfl:bo=false:=by rw [hbo];simp;omega
   refine fnW Tryz.func5 ?_
   (repeat' ((conv=>whnf);first|(intro hb;first|exact zk2 hb|(try (replace hb:=zn0 hb)))|refine zs0 ?_|refine zbx ?_ ?_|refine zgx ?_ ?_|refine eqR ?_));(all_goals (try (conv=>whnf)))
   all_goals first|(rw [show decide ((k2:Int)≤30)=false from decide_eq_false (by omega)];(exact QbS))
 ·obtain rfl:bo=false:=by rw [hbo];simp;omega
  refine fnW Tryz.func5 ?_
  (repeat' ((conv=>whnf);first|(intro hb;first|exact zk2 hb|(try (replace hb:=zn0 hb)))|refine zs0 ?_|refine zbx ?_ ?_|refine zgx ?_ ?_|refine eqR ?_));(all_goals (try (conv=>whnf)))
  all_goals exact QbS
end Go.Proofs.YtjgikeckbeeehaaGreat
