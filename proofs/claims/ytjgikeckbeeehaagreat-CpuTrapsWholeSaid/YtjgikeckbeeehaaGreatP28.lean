import Derived.Test.YtjgikeckbeeehaaGreatP38
import Derived.Test.YtjgikeckbeeehaaGreatP39
import Derived.Test.YtjgikeckbeeehaaGreatP40
set_option linter.unusedSimpArgs false
set_option linter.unusedVariables false
set_option maxHeartbeats 100000000
set_option maxRecDepth 100000
namespace Go.Proofs.YtjgikeckbeeehaaGreat
open Go Go.RowKit
theorem Qpy (r0:Rk) (hr0:r0.ok 900000000) (s:Int) (cl:Nat) (hcl0:cl<4294967296) (hmay:QiZ r0.M=false):Fn Tryz.prog 103 [.agg (r0.C 0),.s (.int .i64 s),.s (.int .u32 cl)] [⟨false,1,wsv r0.M.m⟩,⟨false,4,r0.LG⟩,⟨false,3,evs r0.es⟩]
  (· =⟨.tup [.agg ((Qda r0 s cl).1.C 3),.s (.sl 6 0 (Qda r0 s cl).2.length)],[],[⟨true,1,wsv (Qda r0 s cl).1.M.m⟩,⟨true,4,(Qda r0 s cl).1.LG⟩,⟨true,3,evs (Qda r0 s cl).1.es⟩,⟨true,4,OLs (Qda r0 s cl).2⟩]⟩):=by
 have q0:=Qhv r0 (by obtain ⟨hM,hck,hll,hls,hlk,hlb,hql,hqe⟩:=hr0;exact ⟨hM,hck,hll,hls,hlk,by omega,hql,hqe⟩)
 have q1:=QfO r0.M hr0.M
 obtain ⟨L,hL,hL4⟩:∃ L:Nat,QjK s=(L:Int)∧L≤4000:=⟨(QjK s).toNat,by have:=Qg8 s;omega,by have:=Qg8 s;omega⟩
 have qL:=QkT s
 rw [hL] at qL
 obtain ⟨D,hD⟩:∃ D,Qda r0 s cl=D:=⟨_,rfl⟩
 rw [hD]
 unfold Qda at hD
 rw [hL,Int.toNat_natCast] at hD
 have hmx:Qpz (r0.ck:Int) [(cl:Int)]=((max r0.ck cl:Nat):Int):=by show Qt0 _ _=_;unfold Qt0;split<;>omega
 have hr1:(Rk.mk r0.M (max r0.ck cl) r0.lg r0.LG r0.es).ok 900000000:=by
  obtain ⟨hM,hck,hll,hls,hlk,hlb,hql,hqe⟩:=hr0
  exact ⟨hM,by show max _ _<_;omega,hll,hls,hlk,hlb,hql,hqe⟩
 have hs0:=Qaa r0.M.m
 have hsl:=hr0.ls
 have hse:=QaY r0.es
 have hM:=hr0.M
 have hxl:=hM.x
 have hcl:=hM.c
 have hql:=hr0.ql
 have hqe:=hr0.qe
 obtain ⟨M0,ck0,lg0,LG0,es⟩:=r0
 dsimp only at *
 generalize max ck0 cl=ck at *
 rw [hmay] at q1 hD
 generalize hQU:evs es=QU at *
 generalize hqu:es.length=qu at *
 rw [if_neg (by decide)] at hD
 subst hD
 dsimp only [Rk.C,Rk.T] at *
 rw [hQU,hqu]
 rw [hqu] at q0
 clear hr1
 show Fn _ _ _ _ (· =⟨.tup [_,.s (.sl 6 0 0)],[],[_,_,_,⟨true,4,[]⟩]⟩)
 obtain ⟨_,_,_,ma,_,_,_,_,da,na,_,_,_,_,_⟩:=M0
 dsimp only at *
 obtain ⟨_,_,_,_,_,_,_,_,_,_,_,_,_,_,_,_,rfl⟩:=Qaq hxl
 obtain ⟨_,_,_,_,_,_,_,_,rfl⟩:=QaJ hcl
 obtain ⟨_,_,_,_,_,_,_,_⟩:=da
 obtain ⟨_,_,_,_,_,_⟩:=na
 generalize hnn:ma.length=nn at *
 generalize hX:wsv ma=XX at *
 clear hr0 hM hqe
 simp only [Qaf,List.cons_append,List.nil_append,Mc.C,Mc.D,Dk.C,Nk.C] at *
 refine fnW Tryz.func103 ?_
 (repeat' ((conv=>whnf);first|(intro hb;first|exact zk3 hb|(try (replace hb:=zn0 hb)))|((with_reducible apply Vl.mk (α:=List SV)); · (with_reducible refine QgN ?_);exact rfl)|(refine QcG q0 ?_)|(refine Qay q1 ?_)|refine zst ?_|refine zbx ?_ ?_|refine zgx ?_ ?_|refine eqR ?_));(all_goals (try (conv=>whnf)))
 all_goals exact Qe8
theorem Qld (r0:Rk) (hr0:r0.ok 900000000) (s:Int) (cl:Nat) (hcl0:cl<4294967296) (hmay:QiZ r0.M=true):Fn Tryz.prog 103 [.agg (r0.C 0),.s (.int .i64 s),.s (.int .u32 cl)] [⟨false,1,wsv r0.M.m⟩,⟨false,4,r0.LG⟩,⟨false,3,evs r0.es⟩]
  (· =⟨.tup [.agg ((Qda r0 s cl).1.C 3),.s (.sl 6 0 (Qda r0 s cl).2.length)],[],[⟨true,1,wsv (Qda r0 s cl).1.M.m⟩,⟨true,4,(Qda r0 s cl).1.LG⟩,⟨true,3,evs (Qda r0 s cl).1.es⟩,⟨true,4,OLs (Qda r0 s cl).2⟩]⟩):=by
 have q0:=Qhv r0 (by obtain ⟨hM,hck,hll,hls,hlk,hlb,hql,hqe⟩:=hr0;exact ⟨hM,hck,hll,hls,hlk,by omega,hql,hqe⟩)
 have q1:=QfO r0.M hr0.M
 obtain ⟨L,hL,hL4⟩:∃ L:Nat,QjK s=(L:Int)∧L≤4000:=⟨(QjK s).toNat,by have:=Qg8 s;omega,by have:=Qg8 s;omega⟩
 have qL:=QkT s
 rw [hL] at qL
 obtain ⟨D,hD⟩:∃ D,Qda r0 s cl=D:=⟨_,rfl⟩
 rw [hD]
 unfold Qda at hD
 rw [hL,Int.toNat_natCast] at hD
 have hmx:Qpz (r0.ck:Int) [(cl:Int)]=((max r0.ck cl:Nat):Int):=by show Qt0 _ _=_;unfold Qt0;split<;>omega
 have hr1:(Rk.mk r0.M (max r0.ck cl) r0.lg r0.LG r0.es).ok 900000000:=by
  obtain ⟨hM,hck,hll,hls,hlk,hlb,hql,hqe⟩:=hr0
  exact ⟨hM,by show max _ _<_;omega,hll,hls,hlk,hlb,hql,hqe⟩
 have hs0:=Qaa r0.M.m
 have hsl:=hr0.ls
 have hse:=QaY r0.es
 have hM:=hr0.M
 have hxl:=hM.x
 have hcl:=hM.c
 have hql:=hr0.ql
 have hqe:=hr0.qe
 obtain ⟨M0,ck0,lg0,LG0,es⟩:=r0
 dsimp only at *
 generalize max ck0 cl=ck at *
 rw [hmay] at q1 hD
 rw [if_pos rfl] at hD
 have hQl:=QfJ es
 have hQg:∀ i e,es[i]?=some e→e.C.length=3∧∀ (k:Nat) v,e.C[k]?=some v→(evs es)[i*3+k]?=some v:=fun i e h=>by
  obtain ⟨h1,rfl⟩:=List.getElem?_eq_some_iff.1 h
  exact Qk2 es i h1
 generalize hRS:Qhn ⟨M0,ck,lg0,LG0,es⟩ es=RS at *
 obtain ⟨rS,hrS⟩:∃ r:Rk,r=⟨M0,ck,lg0,LG0,es⟩:=⟨_,rfl⟩
 rw [← hrS] at hRS hr1
 have hck:ck<4294967296:=by rw [hrS] at hr1;exact hr1.ck
 obtain ⟨A0,hA0⟩:∃ A,A=wsv M0.m:=⟨_,rfl⟩
 generalize hQU:evs es=QU at *
 generalize hqu:es.length=qu at *
 dsimp only [Rk.C,Rk.T] at *
 rw [hqu] at q0 ⊢
 rw [← hA0] at q0 q1 hs0 ⊢
 obtain ⟨nn,hnn⟩:∃ n,M0.m.length=n:=⟨_,rfl⟩
 obtain ⟨_,_,_,_,_,_,_,_,da,na,_,_,_,_,_⟩:=M0
 dsimp only at *
 obtain ⟨_,_,_,_,_,_,_,_,_,_,_,_,_,_,_,_,rfl⟩:=Qaq hxl
 obtain ⟨_,_,_,_,_,_,_,_,rfl⟩:=QaJ hcl
 obtain ⟨_,_,_,_,_,_,_,_⟩:=da
 obtain ⟨_,_,_,_,_,_⟩:=na
 clear hr0 hM
 have hnn':=hnn
 simp only [Qaf,List.cons_append,List.nil_append,Mc.C,Mc.D,Dk.C,Nk.C] at *
 simp only [hnn] at q0 q1 ⊢
 obtain ⟨Z,hZ⟩:∃ Z,Z92=Z:=⟨_,rfl⟩
 have hZl:Z.length=52:=by rw [← hZ];rfl
 have hZs:Qau Z=true:=by rw [← hZ];rfl
 refine fnW Tryz.func103 ?_
 (repeat' ((conv=>whnf);first|(intro hb;first|exact zk3 hb|(try (replace hb:=zn0 hb)))|((with_reducible apply Vl.mk (α:=List SV)); · (with_reducible refine QgN ?_);exact rfl)|(with_reducible refine zv hmx ?_)|(refine QcG q0 ?_)|(refine Qay q1 ?_)|refine zst ?_|refine zbx ?_ ?_|refine zgx ?_ ?_|refine eqR ?_));(all_goals (try (conv=>whnf)))
 all_goals try (exfalso;simp at hb;done)
 refine Lp.inv (fun mm σ=>∃ (j:Nat) (r:Rk),mm+j=qu∧Qhn r (es.drop j)=RS∧r.ok (900000000+j)∧r.es=es∧r.ck=ck∧r.M.m.length=nn∧σ=ad1 s j qu A0 LG0 QU (r.M.C 5++ [.int .u32 ck,.sl 6 0 r.lg,.sl 7 0 qu]) Z (wsv r.M.m) r.LG QU) ?_ ?_
 ·refine ⟨qu,ad1 s 0 qu A0 LG0 QU (rS.M.C 5++ [.int .u32 ck,.sl 6 0 rS.lg,.sl 7 0 qu]) Z (wsv rS.M.m) rS.LG QU,?_,0,rS,by omega,by simpa using hRS,hr1,by rw [hrS],by rw [hrS],by rw [hrS];exact hnn',rfl⟩
  rw [hrS]
  dsimp only
  rw [← hA0,← hZ]
  unfold ad1 Z92
  simp only [Qaf,List.cons_append,List.nil_append,Mc.C,Mc.D,Dk.C,Nk.C,hnn']
  (exact zwL [(0,some 0),(1,some 1),(2,some 2),(3,some 65536),(4,some 65600),(5,some 131136),(6,some 131137),(7,some 131138)])
 clear hRS hrS hr1 q0 q1 hmx
 rintro mm σ ⟨j,r,hmj,hof,hrk,hes,hrc,hrl,rfl⟩
 by_cases hj:j<qu
 ·have hjl:j<es.length:=by omega
  rw [List.drop_eq_getElem_cons hjl] at hof
  change Qhn (r.off es[j]) (es.drop (j+1))=RS at hof
  have he:(es[j]).ok:=hqe _ (List.getElem_mem hjl)
  have hg:=hQg j es[j] (List.getElem?_eq_getElem hjl)
  generalize es[j]=e at *
  have hk2:=Qen r e _ hrk he
  obtain ⟨p1,p2,p3⟩:=Qb9 r e
  rw [hes] at p1
  rw [hrc] at p2
  rw [hrl] at p3
  have hrk9:r.ok 1000000000:=by obtain ⟨u1,u2,u3,u4,u5,u6,u7,u8⟩:=hrk;exact ⟨u1,u2,u3,u4,u5,by omega,u7,u8⟩
  have qy:=Qin r hrk9 e he
  have qn:=Qj1 r hrk9 e he
  have q2:IntKind.i64.wrap ((j:Int)+1)=((j+1:Nat):Int):=by rw [QbI (by omega) (by omega)];omega
  have hx:=hrk.M.x
  have hc:=hrk.M.c
  have hx2:=hk2.M.x
  have hc2:=hk2.M.c
  have hs1:=Qaa r.M.m
  have hs2:=Qaa (r.off e).M.m
  have hl1:=hrk.ls
  have hl2:=hk2.ls
  have hb9:900000000+j+1=900000000+(j+1):=by omega
  rw [hb9] at hk2
  rw [hes,hrc,hqu,hQU] at qy qn
  obtain ⟨r2,hr2⟩:∃ r2,r2=r.off e:=⟨_,rfl⟩
  rw [← hr2] at hof hk2 p1 p2 p3 qy qn hx2 hc2 hs2 hl2
  have hgo:∃ r':Rk,r'=r2:=⟨_,rfl⟩
  obtain ⟨r',hr'⟩:=hgo
  rw [← hr'] at hof hk2 p1 p2
  have p3':r'.M.m.length=nn:=by rw [hr'];exact p3
  have hfin:∀ RC X LG lgv,RC=r2.M.C 5++ [.int .u32 ck,.sl 6 0 lgv,.sl 7 0 qu]→lgv=r2.lg→X=wsv r2.M.m→LG=r2.LG→ad1 s (j+1) qu A0 LG0 QU RC Z X LG QU=ad1 s (j+1) qu A0 LG0 QU (r'.M.C 5++ [.int .u32 ck,.sl 6 0 r'.lg,.sl 7 0 qu]) Z (wsv r'.M.m) r'.LG QU:=fun RC X LG lgv h1 h2 h3 h4=>by rw [h1,h2,h3,h4,hr']
  generalize (QbA r.M e.k e.n e.s).2=ok at *
  clear hr2 hr' hqe hQg hrk hrk9 he
  obtain ⟨ek,en,e_s⟩:=e
  dsimp only [Ev.C] at *
  obtain ⟨M,ck1,lg,LG,es1⟩:=r
  obtain ⟨M2,ck2,lg2,LG2,es2⟩:=r2
  dsimp only at *
  clear hes hrc
  generalize hXe:wsv M.m=Xe at *
  generalize hXf:wsv M2.m=Xf at *
  obtain ⟨xe,pce,ce,me,kse,tae,tde,tfe,de,ne,bte,bge,cte,wte,hte⟩:=M
  dsimp only at *
  obtain ⟨xe_0,xe_1,xe_2,xe_3,xe_4,xe_5,xe_6,xe_7,xe_8,xe_9,xe_10,xe_11,xe_12,xe_13,xe_14,xe_15,rfl⟩:=Qaq hx
  obtain ⟨ce_0,ce_1,ce_2,ce_3,ce_4,ce_5,ce_6,ce_7,rfl⟩:=QaJ hc
  obtain ⟨de_0,de_1,de_2,de_3,de_4,de_5,de_6,de_7⟩:=de
  obtain ⟨ne_0,ne_1,ne_2,ne_3,ne_4,ne_5⟩:=ne
  obtain ⟨xf,pcf,cf,mf,ksf,taf,tdf,tff,df,nf,btf,bgf,ctf,wtf,htf⟩:=M2
  dsimp only at *
  obtain ⟨xf_0,xf_1,xf_2,xf_3,xf_4,xf_5,xf_6,xf_7,xf_8,xf_9,xf_10,xf_11,xf_12,xf_13,xf_14,xf_15,rfl⟩:=Qaq hx2
  obtain ⟨cf_0,cf_1,cf_2,cf_3,cf_4,cf_5,cf_6,cf_7,rfl⟩:=QaJ hc2
  obtain ⟨df_0,df_1,df_2,df_3,df_4,df_5,df_6,df_7⟩:=df
  obtain ⟨nf_0,nf_1,nf_2,nf_3,nf_4,nf_5⟩:=nf
  have hfin2:=fun LG=>hfin _ Xf LG lg2 rfl rfl rfl
  clear hfin
  unfold ad1
  simp only [Qaf,List.cons_append,List.nil_append,Mc.C,Mc.D,Dk.C,Nk.C,hrl,p3] at *
  cases ok
  ·have qq:=qn rfl
   clear qn qy
   (repeat' ((conv=>whnf);first|(intro hb;first|exact zk3 hb|(try (replace hb:=zn0 hb)))|((with_reducible apply Vl.mk (α:=Nat)); · exact aNt)|(apply Sg.mk; · exact hg)|(with_reducible refine zv q2 ?_)|(refine QmT qq ?_)|refine zst ?_|refine zbx ?_ ?_|refine zgx ?_ ?_|refine eqR ?_));(all_goals (try (conv=>whnf)))
   all_goals first|(exfalso;omega)|(exfalso;simp at hb;done)|(refine ⟨mm-1,ad1 s (j+1) qu A0 LG0 QU _ Z Xf LG2 QU,by omega,?_,j+1,r',by omega,hof,hk2,p1,p2,p3',hfin2 LG2 rfl⟩;unfold ad1;(exact zwL [(0,some 0),(1,some 1),(2,some 2),(3,some 3),(4,some 4),(5,some 5),(6,some 6),(7,some 7)]))
  ·have qq:=qy rfl
   clear qn qy
   (repeat' ((conv=>whnf);first|(intro hb;first|exact zk3 hb|(try (replace hb:=zn0 hb)))|((with_reducible apply Vl.mk (α:=Nat)); · exact aNt)|(apply Sg.mk; · exact hg)|(with_reducible refine zv q2 ?_)|(refine QmT qq ?_)|refine zst ?_|refine zbx ?_ ?_|refine zgx ?_ ?_|refine eqR ?_));(all_goals (try (conv=>whnf)))
   all_goals first|(exfalso;omega)|(exfalso;simp at hb;done)|(refine ⟨mm-1,ad1 s (j+1) qu A0 LG0 QU _ Z Xf LG2 QU,by omega,?_,j+1,r',by omega,hof,hk2,p1,p2,p3',hfin2 LG2 rfl⟩;unfold ad1;(exact zwL [(0,some 0),(1,some 1),(2,some 2),(3,some 3),(4,some 4),(5,some 5),(6,some 131392),(7,some 7)]))
 ·obtain rfl:j=qu:=by omega
  rw [List.drop_eq_nil_of_le (by omega)] at hof
  change r=RS at hof
  subst hof
  have hx:=hrk.M.x
  have hc:=hrk.M.c
  have hs1:=Qaa r.M.m
  have hl1:=hrk.ls
  have hrk0:(Rk.mk r.M ck r.lg r.LG []).ok 900000016:=by
   obtain ⟨u1,u2,u3,u4,u5,u6,u7,u8⟩:=hrk
   exact ⟨u1,hck,u3,u4,u5,by show r.lg≤_;omega,Nat.zero_le _,fun e h=>by cases h⟩
  replace hD:Qj6 L ⟨r.M,ck,r.lg,r.LG,[]⟩ []=D:=by rw [← hrc];exact hD
  obtain ⟨rY,hrY⟩:∃ rY:Rk,rY=⟨r.M,ck,r.lg,r.LG,[]⟩:=⟨_,rfl⟩
  rw [← hrY] at hD hrk0
  have hrl0:rY.M.m.length=nn:=by rw [hrY];exact hrl
  have hes0:rY.es= []:=by rw [hrY]
  have hfin:∀ RC X LG lgv OL,RC=r.M.C 5++ [.int .u32 ck,.sl 6 0 lgv,.nilsl]→lgv=r.lg→X=wsv r.M.m→LG=r.LG→OL= []→ad2 s 0 0 A0 LG0 QU RC Z X LG OL=ad2 s 0 ([]:List (List SV)).length A0 LG0 QU (rY.M.C 5++ [.int .u32 rY.ck,.sl 6 0 rY.lg,.nilsl]) Z (wsv rY.M.m) rY.LG (OLs []):=fun RC X LG lgv OL h1 h2 h3 h4 h5=>by rw [h1,h2,h3,h4,h5,hrY];rfl
  clear hrY hqe hQg hrk hes hrc hmj hj
  obtain ⟨M,ck1,lg,LG,es1⟩:=r
  dsimp only at *
  generalize hXe:wsv M.m=Xe at *
  obtain ⟨xe,pce,ce,me,kse,tae,tde,tfe,de,ne,bte,bge,cte,wte,hte⟩:=M
  dsimp only at *
  obtain ⟨xe_0,xe_1,xe_2,xe_3,xe_4,xe_5,xe_6,xe_7,xe_8,xe_9,xe_10,xe_11,xe_12,xe_13,xe_14,xe_15,rfl⟩:=Qaq hx
  obtain ⟨ce_0,ce_1,ce_2,ce_3,ce_4,ce_5,ce_6,ce_7,rfl⟩:=QaJ hc
  obtain ⟨de_0,de_1,de_2,de_3,de_4,de_5,de_6,de_7⟩:=de
  obtain ⟨ne_0,ne_1,ne_2,ne_3,ne_4,ne_5⟩:=ne
  have hfin2:=hfin _ Xe LG lg [] rfl rfl rfl rfl rfl
  clear hfin
  unfold ad1
  simp only [Qaf,List.cons_append,List.nil_append,Mc.C,Mc.D,Dk.C,Nk.C,hrl] at *
  (repeat' ((conv=>whnf);first|(intro hb;first|exact zk3 hb|(try (replace hb:=zn0 hb)))|refine zst ?_|refine zbx ?_ ?_|refine zgx ?_ ?_|refine eqR ?_));(all_goals (try (conv=>whnf)))
  all_goals try (exfalso;omega)
  refine QDd (x:=vc Tryz.prog tys Tryz.f103.ntmps 3 bdE) (by kernel_rfl) ?_
  refine Lp.inv (fun mm σ=>∃ (i:Nat) (r:Rk) (os:List (List SV)),mm+i=L∧Qj6 (L-i) r os=D∧r.ok (900000016+2*i)∧r.es= []∧r.M.m.length=nn∧QbC os∧os.length≤i∧σ=ad2 s i os.length A0 LG0 QU (r.M.C 5++ [.int .u32 r.ck,.sl 6 0 r.lg,.nilsl]) Z (wsv r.M.m) r.LG (OLs os)) ?_ ?_
  ·refine ⟨L,ad2 s 0 0 A0 LG0 QU _ Z Xe LG [],?_,0,rY,[],by omega,hD,hrk0,hes0,hrl0,(fun l h=>by cases h),Nat.le_refl 0,hfin2⟩
   unfold ad2
   (exact zwL [(0,some 0),(1,some 1),(2,some 2),(3,some 3),(4,some 4),(5,some 5),(6,some 6),(7,none)])
  clear hfin2 hD hrk0 hes0 hrl0 hs1 hl1 hXe hx hc
  rintro mm σ ⟨i,r,os,hmi,hrun,hrk,hes,hrl,hos,hol,rfl⟩
  obtain ⟨hO1,hO2,hO3⟩:=QdO hos
  by_cases hi:i<L
  ·obtain ⟨k,hk⟩:∃ k,L-i=k+1:=⟨L-i-1,by omega⟩
   have hk2:L-(i+1)=k:=by omega
   rw [hk] at hrun
   change (if QoX r.due.M=true then (r.due,os) else Qj6 k r.due.go (os++(Qb8 r.due.M r.due.ck).2.toList))=D at hrun
   have hdk:=Qks r _ hrk
   obtain ⟨p1,p2,p3⟩:=Qqs r
   rw [hes] at p1
   rw [hrl] at p3
   by_cases hst:QoX r.due.M=false
   ·rw [hst,if_neg (by decide)] at hrun
    have hgk:=QsB r.due _ hdk
    have hk3:900000016+2*i+1+1=900000016+2*(i+1):=by omega
    rw [hk3] at hgk
    have hao:=Qfn r.due.M r.due.ck
    have hal:=Qec r.due.M hdk.M r.due.ck
    have hos2:=Qbn hos hao
    have hon:(os++(Qb8 r.due.M r.due.ck).2.toList).length≤i+1:=by
     rw [List.length_append]
     cases (Qb8 r.due.M r.due.ck).2 with
     | none=>exact Nat.le_succ_of_le hol
     | some _=>exact Nat.succ_le_succ hol
    have hfin:∀ σ1,Wk Tryz.f103.ntmps 3 σ1 (ad2 s (i+1) (os++(Qb8 r.due.M r.due.ck).2.toList).length A0 LG0 QU (r.due.go.M.C 5++ [.int .u32 r.due.go.ck,.sl 6 0 r.due.go.lg,.nilsl]) Z (wsv r.due.go.M.m) r.due.go.LG (OLs (os++(Qb8 r.due.M r.due.ck).2.toList)))→∃ m σ2,m<mm∧Wk Tryz.f103.ntmps 3 σ1 σ2∧∃ (i:Nat) (r:Rk) (os:List (List SV)),m+i=L∧Qj6 (L-i) r os=D∧r.ok (900000016+2*i)∧r.es= []∧r.M.m.length=nn∧QbC os∧os.length≤i∧σ2=ad2 s i os.length A0 LG0 QU (r.M.C 5++ [.int .u32 r.ck,.sl 6 0 r.lg,.nilsl]) Z (wsv r.M.m) r.LG (OLs os):=fun σ1 hw=>⟨mm-1,_,by omega,hw,i+1,r.due.go,_,by omega,(by rw [hk2];exact hrun),hgk,p1,hal.trans p3,hos2,hon,rfl⟩
    cases hd:Qw3 r.M r.ck
    ·exact QDf s L i nn A0 LG0 QU Z r os hL hL4 hi hZl hZs hs0 hsl hse hrk hes hrl hos hol hst hd _ hfin
    ·cases hok:(QbA r.M eT.k eT.n eT.s).2
     ·exact QDg s L i nn A0 LG0 QU Z r os hL hL4 hi hZl hZs hs0 hsl hse hrk hes hrl hos hol hst hd hok _ hfin
     ·exact QDe s L i nn A0 LG0 QU Z r os hL hL4 hi hZl hZs hs0 hsl hse hrk hes hrl hos hol hst hd hok _ hfin
   have hst':QoX r.due.M=true:=by simpa using hst
   clear hst
   have hrk9:r.ok 1000000000:=by obtain ⟨u1,u2,u3,u4,u5,u6,u7,u8⟩:=hrk;exact ⟨u1,u2,u3,u4,u5,by omega,u7,u8⟩
   have qd:=Qs0 r.M.ta r.M.td r.M.tf r.ck
   change Fn _ _ _ _ (· =⟨.a (.s (.bool (Qw3 r.M r.ck))),[],[]⟩) at qd
   have hx:=hrk.M.x
   have hc:=hrk.M.c
   have hs1:=Qaa r.M.m
   have hl1:=hrk.ls
   have qy:=QhC r hrk9 eT QrX
   have qn:=QjV r hrk9 eT QrX
   have hdue:r.due=if Qw3 r.M r.ck=true then r.off eT else r:=rfl
   generalize Qw3 r.M r.ck=due at *
   generalize (QbA r.M eT.k eT.n eT.s).2=ok at *
   have hqs:=Qg1 r.due.M hdk.M
   have hs2:=Qaa r.due.M.m
   have hl2:=hdk.ls
   have hll:=hdk.ll
   have hlb1:=hdk.lb
   have hx2:=hdk.M.x
   have hc2:=hdk.M.c
   rw [hst'] at hqs hrun
   rw [if_pos rfl] at hrun
   have hdc:r.due.ck=r.ck:=p2
   clear hrk9 hdk hrk hst'
   cases due
   ·rw [if_neg (by decide)] at hdue
    clear qy qn
    generalize r.due=r1 at *
    subst r1
    subst hrun
    generalize OLs os=OL at *
    generalize os.length=ol at *
    obtain ⟨M,ck1,lg,LG,es1⟩:=r
    dsimp only [Rk.C,Rk.T] at *
    subst hes
    rw [show evs []= [] from rfl]
    clear hs2 hl2 hll hx2 hc2 p1 p2 p3 hdc
    generalize hXe:wsv M.m=Xe at *
    obtain ⟨xe,pce,ce,me,kse,tae,tde,tfe,de,ne,bte,bge,cte,wte,hte⟩:=M
    dsimp only at *
    obtain ⟨xe_0,xe_1,xe_2,xe_3,xe_4,xe_5,xe_6,xe_7,xe_8,xe_9,xe_10,xe_11,xe_12,xe_13,xe_14,xe_15,rfl⟩:=Qaq hx
    obtain ⟨ce_0,ce_1,ce_2,ce_3,ce_4,ce_5,ce_6,ce_7,rfl⟩:=QaJ hc
    obtain ⟨de_0,de_1,de_2,de_3,de_4,de_5,de_6,de_7⟩:=de
    obtain ⟨ne_0,ne_1,ne_2,ne_3,ne_4,ne_5⟩:=ne
    unfold ad2
    simp only [Qaf,List.cons_append,List.nil_append,Mc.C,Mc.D,Dk.C,Nk.C,hrl] at *
    (repeat' ((conv=>whnf);first|(intro hb;first|exact zk3 hb|(try (replace hb:=zn0 hb)))|((with_reducible apply Vl.mk (α:=List SV)); · exact QaR (by rw [hZl];rfl))|(apply Sd.mk; · exact ⟨rfl,rfl,rfl,(by show 0+_≤Z.length;rw [hZl];exact Nat.le_refl 52)⟩)|(refine zpu qL ?_)|(refine zpu qd ?_)|(refine Qay hqs ?_)|refine zst ?_|refine zbx ?_ ?_|refine zgx ?_ ?_|refine eqR ?_));(all_goals (try (conv=>whnf)))
    all_goals first|(exfalso;omega)|(exfalso;simp at hb;done)|(apply Fin.mk (m:= [(0,some 0),(1,some 1),(2,some 2),(3,some 5),(4,some 6),(5,none),(6,some 7)]);(focus exact rfl);(all_goals ((try (show HlS _ _ [] _));first|(exact aFi)|exact rfl)))
   ·rw [if_pos rfl] at hdue
    cases ok
    ·have qo:=qn rfl
     clear qy qn
     rw [← hdue] at qo
     generalize r.due=r1 at *
     subst hrun
     generalize OLs os=OL at *
     generalize os.length=ol at *
     obtain ⟨M,ck1,lg,LG,es1⟩:=r
     obtain ⟨M2,ck2,lg2,LG2,es2⟩:=r1
     dsimp only [Rk.C,Rk.T,eT,Ev.C] at *
     subst p1
     subst hdc
     rw [show evs []= [] from rfl]
     clear hdue hes p2
     generalize hXe:wsv M.m=Xe at *
     generalize hXf:wsv M2.m=Xf at *
     obtain ⟨xe,pce,ce,me,kse,tae,tde,tfe,de,ne,bte,bge,cte,wte,hte⟩:=M
     dsimp only at *
     obtain ⟨xe_0,xe_1,xe_2,xe_3,xe_4,xe_5,xe_6,xe_7,xe_8,xe_9,xe_10,xe_11,xe_12,xe_13,xe_14,xe_15,rfl⟩:=Qaq hx
     obtain ⟨ce_0,ce_1,ce_2,ce_3,ce_4,ce_5,ce_6,ce_7,rfl⟩:=QaJ hc
     obtain ⟨de_0,de_1,de_2,de_3,de_4,de_5,de_6,de_7⟩:=de
     obtain ⟨ne_0,ne_1,ne_2,ne_3,ne_4,ne_5⟩:=ne
     obtain ⟨xf,pcf,cf,mf,ksf,taf,tdf,tff,df,nf,btf,bgf,ctf,wtf,htf⟩:=M2
     dsimp only at *
     obtain ⟨xf_0,xf_1,xf_2,xf_3,xf_4,xf_5,xf_6,xf_7,xf_8,xf_9,xf_10,xf_11,xf_12,xf_13,xf_14,xf_15,rfl⟩:=Qaq hx2
     obtain ⟨cf_0,cf_1,cf_2,cf_3,cf_4,cf_5,cf_6,cf_7,rfl⟩:=QaJ hc2
     obtain ⟨df_0,df_1,df_2,df_3,df_4,df_5,df_6,df_7⟩:=df
     obtain ⟨nf_0,nf_1,nf_2,nf_3,nf_4,nf_5⟩:=nf
     unfold ad2
     simp only [Qaf,List.cons_append,List.nil_append,Mc.C,Mc.D,Dk.C,Nk.C,hrl,p3] at *
     (repeat' ((conv=>whnf);first|(intro hb;first|exact zk3 hb|(try (replace hb:=zn0 hb)))|((with_reducible apply Vl.mk (α:=List SV)); · exact QaR (by rw [hZl];rfl))|(apply Sd.mk; · exact ⟨rfl,rfl,rfl,(by show 0+_≤Z.length;rw [hZl];exact Nat.le_refl 52)⟩)|(refine zpu qL ?_)|(refine zpu qd ?_)|(refine Qay hqs ?_)|(refine Qc2 qo ?_)|refine zst ?_|refine zbx ?_ ?_|refine zgx ?_ ?_|refine eqR ?_));(all_goals (try (conv=>whnf)))
     all_goals first|(exfalso;omega)|(exfalso;simp at hb;done)|(apply Fin.mk (m:= [(0,some 0),(1,some 1),(2,some 2),(3,some 5),(4,some 6),(5,none),(6,some 7)]);(focus exact rfl);(all_goals ((try (show HlS _ _ [] _));first|(exact aFi)|exact rfl)))
    ·have qo:=qy rfl
     clear qy qn
     rw [← hdue] at qo
     generalize r.due=r1 at *
     subst hrun
     generalize OLs os=OL at *
     generalize os.length=ol at *
     obtain ⟨M,ck1,lg,LG,es1⟩:=r
     obtain ⟨M2,ck2,lg2,LG2,es2⟩:=r1
     dsimp only [Rk.C,Rk.T,eT,Ev.C] at *
     subst p1
     subst hdc
     rw [show evs []= [] from rfl]
     clear hdue hes p2
     generalize hXe:wsv M.m=Xe at *
     generalize hXf:wsv M2.m=Xf at *
     obtain ⟨xe,pce,ce,me,kse,tae,tde,tfe,de,ne,bte,bge,cte,wte,hte⟩:=M
     dsimp only at *
     obtain ⟨xe_0,xe_1,xe_2,xe_3,xe_4,xe_5,xe_6,xe_7,xe_8,xe_9,xe_10,xe_11,xe_12,xe_13,xe_14,xe_15,rfl⟩:=Qaq hx
     obtain ⟨ce_0,ce_1,ce_2,ce_3,ce_4,ce_5,ce_6,ce_7,rfl⟩:=QaJ hc
     obtain ⟨de_0,de_1,de_2,de_3,de_4,de_5,de_6,de_7⟩:=de
     obtain ⟨ne_0,ne_1,ne_2,ne_3,ne_4,ne_5⟩:=ne
     obtain ⟨xf,pcf,cf,mf,ksf,taf,tdf,tff,df,nf,btf,bgf,ctf,wtf,htf⟩:=M2
     dsimp only at *
     obtain ⟨xf_0,xf_1,xf_2,xf_3,xf_4,xf_5,xf_6,xf_7,xf_8,xf_9,xf_10,xf_11,xf_12,xf_13,xf_14,xf_15,rfl⟩:=Qaq hx2
     obtain ⟨cf_0,cf_1,cf_2,cf_3,cf_4,cf_5,cf_6,cf_7,rfl⟩:=QaJ hc2
     obtain ⟨df_0,df_1,df_2,df_3,df_4,df_5,df_6,df_7⟩:=df
     obtain ⟨nf_0,nf_1,nf_2,nf_3,nf_4,nf_5⟩:=nf
     unfold ad2
     simp only [Qaf,List.cons_append,List.nil_append,Mc.C,Mc.D,Dk.C,Nk.C,hrl,p3] at *
     (repeat' ((conv=>whnf);first|(intro hb;first|exact zk3 hb|(try (replace hb:=zn0 hb)))|((with_reducible apply Vl.mk (α:=List SV)); · exact QaR (by rw [hZl];rfl))|(apply Sd.mk; · exact ⟨rfl,rfl,rfl,(by show 0+_≤Z.length;rw [hZl];exact Nat.le_refl 52)⟩)|(refine zpu qL ?_)|(refine zpu qd ?_)|(refine Qay hqs ?_)|(refine Qc2 qo ?_)|refine zst ?_|refine zbx ?_ ?_|refine zgx ?_ ?_|refine eqR ?_));(all_goals (try (conv=>whnf)))
     all_goals first|(exfalso;omega)|(exfalso;simp at hb;done)|(apply Fin.mk (m:= [(0,some 0),(1,some 1),(2,some 2),(3,some 5),(4,some 196672),(5,none),(6,some 7)]);(focus exact rfl);(all_goals ((try (show HlS _ _ [] _));first|(exact aFi)|exact rfl)))
  ·obtain rfl:i=L:=by omega
   rw [Nat.sub_self] at hrun
   change (r,os)=D at hrun
   subst hrun
   have hx:=hrk.M.x
   have hc:=hrk.M.c
   have hs1:=Qaa r.M.m
   have hl1:=hrk.ls
   obtain ⟨M,ck1,lg,LG,es1⟩:=r
   dsimp only [Rk.C,Rk.T] at *
   subst hes
   rw [show evs []= [] from rfl]
   generalize hXe:wsv M.m=Xe at *
   clear hrk
   generalize OLs os=OL at *
   generalize os.length=ol at *
   obtain ⟨xe,pce,ce,me,kse,tae,tde,tfe,de,ne,bte,bge,cte,wte,hte⟩:=M
   dsimp only at *
   obtain ⟨xe_0,xe_1,xe_2,xe_3,xe_4,xe_5,xe_6,xe_7,xe_8,xe_9,xe_10,xe_11,xe_12,xe_13,xe_14,xe_15,rfl⟩:=Qaq hx
   obtain ⟨ce_0,ce_1,ce_2,ce_3,ce_4,ce_5,ce_6,ce_7,rfl⟩:=QaJ hc
   obtain ⟨de_0,de_1,de_2,de_3,de_4,de_5,de_6,de_7⟩:=de
   obtain ⟨ne_0,ne_1,ne_2,ne_3,ne_4,ne_5⟩:=ne
   unfold ad2
   simp only [Qaf,List.cons_append,List.nil_append,Mc.C,Mc.D,Dk.C,Nk.C,hrl] at *
   (repeat' ((conv=>whnf);first|(intro hb;first|exact zk3 hb|(try (replace hb:=zn0 hb)))|((with_reducible apply Vl.mk (α:=List SV)); · exact QaR (by rw [hZl];rfl))|(apply Sd.mk; · exact ⟨rfl,rfl,rfl,(by show 0+_≤Z.length;rw [hZl];exact Nat.le_refl 52)⟩)|(refine zpu qL ?_)|refine zst ?_|refine zbx ?_ ?_|refine zgx ?_ ?_|refine eqR ?_));(all_goals (try (conv=>whnf)))
   all_goals first|(exfalso;omega)|(exfalso;simp at hb;done)|(apply Fin.mk (m:= [(0,some 0),(1,some 1),(2,some 2),(3,some 5),(4,some 6),(5,none),(6,some 7)]);(focus exact rfl);(all_goals ((try (show HlS _ _ [] _));first|(exact aFi)|exact rfl)))
end Go.Proofs.YtjgikeckbeeehaaGreat
