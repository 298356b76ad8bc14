import Derived.Test.YtjgikeckbeeehaaGreatP17
import Derived.Test.YtjgikeckbeeehaaGreatP25
set_option linter.unusedSimpArgs false
set_option linter.unusedVariables false
set_option maxHeartbeats 100000000
set_option maxRecDepth 100000
namespace Go.Proofs.YtjgikeckbeeehaaGreat
open Go Go.RowKit
theorem Qof:QaW eqt tys true fns Qc3 100 20 109 [.s .nilsl] []=some ⟨.a (.s (.bool true)),[],[]⟩:=by kernel_rfl
theorem Qty:Fn Tryz.prog 109 [.s .nilsl] [] (· =⟨.a (.s (.bool true)),[],[]⟩):=QaX Qof
theorem Qsj (M:Mc) (p:Int) (v:Nat):(Qbj M p v).1.ct=M.ct:=by
 unfold Qbj
 repeat' split
 all_goals rfl
theorem Qq1 (M:Mc) (w:Nat):(Qb8 M w).1.ct=(M.ct+1)%18446744073709551616:=by
 unfold Qb8
 split
 ·show ((inM _ _).ct+1)%_=_
  unfold inM
  split<;>rfl
 split
 ·show ((Qbj _ _ _).1.ct+1)%_=_
  rw [Qsj]
  rfl
 split
 ·rfl
 split<;>rfl
def rnQ (I:Mc→Prop) (R:Res):Prop:=∃ (M':Mc) (os:List (List SV)),I M'∧M'.ok∧QbC os∧R=⟨.tup [.agg (M'.C 1),.s (.sl 2 0 os.length),.s (.int .i64 0),.s (.int .i64 0)],[],[⟨true,1,wsv M'.m⟩,⟨true,4,OLs os⟩]⟩
def Z41:List SV:=List.replicate 25 (.int .u32 0)++ [.nilsl,.str ⟨#[]⟩,.bool false,.int .u32 0,.bool false,.int .u32 0,.int .u32 0,.int .u32 0,.int .i64 0,.int .i64 0,.int .u32 0,.int .u32 0,.str ⟨#[]⟩,.int .u32 0,.int .u32 0,.bool false,.int .u32 0,.bool false,.int .u32 0,.int .u32 0,.int .u32 0,.int .u64 0,.bool false,.bool false]
def Qhm (ol:Nat) (A0 MC Z X OL:List SV):St :=
 ⟨[(1,.a (.s .nilsl)),(2,.a (.s (.int .u64 87))),(3,.a (.s (.ptr 1 0))),(6,.a (.s (.ptr 2 0))),(10,.a (.s (.sl 4 0 ol))),(11,.a (.s (.int .i64 0)))],
  [(0,some ⟨false,1,A0⟩),(1,some ⟨true,1,MC⟩),(2,some ⟨true,1,Z⟩),(3,some ⟨true,1,X⟩),(4,some ⟨true,4,OL⟩)],[0]⟩
theorem Qtj (I:Mc→Prop) (M:Mc) (hM:M.ok) (hmay:QiZ M=true) (hct:M.ct=0) (hI0:I M) (hI:∀ M:Mc,M.ok→I M→M.ct<87→M.ht=false→Qq9 M=false→Qm6 M=false∧I (Qb8 M 0).1):Fn Tryz.prog 84 [.agg (M.C 0),.s .nilsl,.s (.int .u64 87)] [⟨false,1,wsv M.m⟩] (rnQ I):=by
 have q0:=Qa1 M hM
 have q1:=QfO M hM
 rw [hmay] at q1
 have q2:=Qty
 have hs0:=Qaa M.m
 have hxl:=hM.x
 have hcl:=hM.c
 have hM0:=hM
 have hct0:M.ct=0:=hct
 obtain ⟨MS,hMS⟩:∃ r:Mc,r=M:=⟨_,rfl⟩
 rw [← hMS] at hM0 hct0 hI0
 obtain ⟨A0,hA0⟩:∃ A,A=wsv M.m:=⟨_,rfl⟩
 rw [← hA0] at q0 q1 hs0 ⊢
 clear hM hmay
 obtain ⟨_,_,_,ma,_,_,_,_,da,na,_,_,_,_,_⟩:=M
 dsimp only at *
 obtain ⟨_,_,_,_,_,_,_,_,_,_,_,_,_,_,_,_,rfl⟩:=Qaq hxl
 obtain ⟨_,_,_,_,_,_,_,_,rfl⟩:=QaJ hcl
 obtain ⟨_,_,_,_,_,_,_,_⟩:=da
 obtain ⟨_,_,_,_,_,_⟩:=na
 simp only [Qaf,List.cons_append,List.nil_append,Mc.C,Mc.D,Dk.C,Nk.C] at *
 generalize hnn:ma.length=nn at *
 subst hct
 obtain ⟨Z,hZ⟩:∃ Z,Z41=Z:=⟨_,rfl⟩
 have hZl:Z.length=49:=by rw [← hZ];rfl
 have hZs:Qau Z=true:=by rw [← hZ];rfl
 refine fnW Tryz.func84 ?_
 (repeat' ((conv=>whnf);first|(intro hb;first|exact zk4 hb|(try (replace hb:=zn4 hb)))|(refine Qay q0 ?_)|(refine Qay q1 ?_)|(refine zpu q2 ?_)|refine zst ?_|refine zbx ?_ ?_|refine zgx ?_ ?_|refine eqR ?_));(all_goals (try (conv=>whnf)))
 all_goals try (first|(exfalso;omega)|(exfalso;simp at hb;done))
 refine Lp.inv (fun mm σ=>∃ (M:Mc) (os:List (List SV)),mm+M.ct=87∧I M∧M.ok∧QbC os∧os.length≤M.ct∧σ=Qhm os.length A0 (M.C 3) Z (wsv M.m) (OLs os)) ?_ ?_
 ·refine ⟨87,Qhm 0 A0 (MS.C 3) Z (wsv MS.m) [],?_,MS,[],by omega,hI0,hM0,(fun l h=>by cases h),Nat.zero_le _,rfl⟩
  rw [hMS]
  rw [← hA0,← hZ]
  unfold Qhm Z41
  simp only [Qaf,List.cons_append,List.nil_append,Mc.C,Mc.D,Dk.C,Nk.C,hnn]
  (exact zwL [(0,some 0),(1,some 65536),(2,some 65600),(3,some 262208),(4,none)])
 clear hMS hM0 hct0 q0 q1
 rintro mm σ ⟨M,os,hmm,hIM,hM,hos,hol,rfl⟩
 obtain ⟨hO1,hO2,hO3⟩:=QdO hos
 have hs1:=Qaa M.m
 have hx:=hM.x
 have hc:=hM.c
 by_cases hlt:M.ct<87
 ·have qi:=Qiu M hM
  have qr:=QgG M hM
  have qa:=Qo7 M hM 0 (by decide)
  have hao:=Qfn M 0
  have hak:=Qmh M hM 0 (by decide)
  have hal:=Qec M hM 0
  have hac:=Qq1 M 0
  have hIx:=hI M hM hIM hlt
  generalize Qq9 M=ib at *
  generalize Qm6 M=rb at *
  generalize Qb8 M 0=AV at *
  obtain ⟨M3,O⟩:=AV
  dsimp only at *
  by_cases hht:M.ht=true
  ·clear qi qr qa hao hak hal hac hIx
   have hfinQ:rnQ I ⟨.tup [.agg (M.C 1),.s (.sl 2 0 os.length),.s (.int .i64 0),.s (.int .i64 0)],[],[⟨true,1,wsv M.m⟩,⟨true,4,OLs os⟩]⟩:=⟨M,os,hIM,hM,hos,rfl⟩
   clear hM hIM hI
   generalize OLs os=OL at *
   generalize os.length=ol at *
   generalize hXe:wsv M.m=Xe at *
   obtain ⟨xe,pce,ce,me,kse,tae,tde,tfe,de,ne,bte,bge,cte,wte,hte⟩:=M
   dsimp only at *
   obtain ⟨xe_0,xe_1,xe_2,xe_3,xe_4,xe_5,xe_6,xe_7,xe_8,xe_9,xe_10,xe_11,xe_12,xe_13,xe_14,xe_15,rfl⟩:=Qaq hx
   obtain ⟨ce_0,ce_1,ce_2,ce_3,ce_4,ce_5,ce_6,ce_7,rfl⟩:=QaJ hc
   obtain ⟨de_0,de_1,de_2,de_3,de_4,de_5,de_6,de_7⟩:=de
   obtain ⟨ne_0,ne_1,ne_2,ne_3,ne_4,ne_5⟩:=ne
   unfold Qhm
   simp only [Qaf,List.cons_append,List.nil_append,Mc.C,Mc.D,Dk.C,Nk.C] at *
   generalize hne:me.length=nn1 at *
   subst hht
   (repeat' ((conv=>whnf);first|(intro hb;first|exact zk4 hb|(try (replace hb:=zn4 hb)))|((with_reducible apply Vl.mk (α:=List SV)); · exact QaR (by rw [hZl];rfl))|(apply Sd.mk; · exact ⟨rfl,rfl,rfl,(by show 0+_≤Z.length;rw [hZl];exact Nat.le_refl 49)⟩)|refine zst ?_|refine zbx ?_ ?_|refine zgx ?_ ?_|refine eqR ?_));(all_goals (try (conv=>whnf)))
   all_goals try (first|(exfalso;omega)|(exfalso;simp at hb;done))
   refine Lp.unroll 1 ?_
   (repeat' ((conv=>whnf);first|(intro hb;first|exact zk4 hb|(try (replace hb:=zn4 hb)))|((with_reducible apply Vl.mk (α:=List SV)); · exact QaR (by rw [hZl];rfl))|(apply Sd.mk; · exact ⟨rfl,rfl,rfl,(by show 0+_≤Z.length;rw [hZl];exact Nat.le_refl 49)⟩)|refine zst ?_|refine zbx ?_ ?_|refine zgx ?_ ?_|refine eqR ?_));(all_goals (try (conv=>whnf)))
   all_goals first|(exfalso;omega)|(exfalso;simp at hb;done)|(refine QaS hfinQ ?_;(apply Fin.mk (m:= [(0,some 0),(1,some 3),(2,some 4)]);(focus exact rfl);(all_goals ((try (show HlS _ _ [] _));first|(exact aFi)|exact rfl))))
  cases ib
  case true =>
   clear qr qa hao hak hal hac hIx
   have hfinQ:rnQ I ⟨.tup [.agg (M.C 1),.s (.sl 2 0 os.length),.s (.int .i64 0),.s (.int .i64 0)],[],[⟨true,1,wsv M.m⟩,⟨true,4,OLs os⟩]⟩:=⟨M,os,hIM,hM,hos,rfl⟩
   clear hM hIM hI
   generalize OLs os=OL at *
   generalize os.length=ol at *
   generalize hXe:wsv M.m=Xe at *
   obtain ⟨xe,pce,ce,me,kse,tae,tde,tfe,de,ne,bte,bge,cte,wte,hte⟩:=M
   dsimp only at *
   obtain ⟨xe_0,xe_1,xe_2,xe_3,xe_4,xe_5,xe_6,xe_7,xe_8,xe_9,xe_10,xe_11,xe_12,xe_13,xe_14,xe_15,rfl⟩:=Qaq hx
   obtain ⟨ce_0,ce_1,ce_2,ce_3,ce_4,ce_5,ce_6,ce_7,rfl⟩:=QaJ hc
   obtain ⟨de_0,de_1,de_2,de_3,de_4,de_5,de_6,de_7⟩:=de
   obtain ⟨ne_0,ne_1,ne_2,ne_3,ne_4,ne_5⟩:=ne
   unfold Qhm
   simp only [Qaf,List.cons_append,List.nil_append,Mc.C,Mc.D,Dk.C,Nk.C] at *
   generalize hne:me.length=nn1 at *
   obtain rfl:hte=false:=by simpa using hht
   (repeat' ((conv=>whnf);first|(intro hb;first|exact zk4 hb|(try (replace hb:=zn4 hb)))|((with_reducible apply Vl.mk (α:=List SV)); · exact QaR (by rw [hZl];rfl))|(apply Sd.mk; · exact ⟨rfl,rfl,rfl,(by show 0+_≤Z.length;rw [hZl];exact Nat.le_refl 49)⟩)|(refine Qay qi ?_)|refine zst ?_|refine zbx ?_ ?_|refine zgx ?_ ?_|refine eqR ?_));(all_goals (try (conv=>whnf)))
   all_goals try (first|(exfalso;omega)|(exfalso;simp at hb;done))
   refine Lp.unroll 1 ?_
   (repeat' ((conv=>whnf);first|(intro hb;first|exact zk4 hb|(try (replace hb:=zn4 hb)))|((with_reducible apply Vl.mk (α:=List SV)); · exact QaR (by rw [hZl];rfl))|(apply Sd.mk; · exact ⟨rfl,rfl,rfl,(by show 0+_≤Z.length;rw [hZl];exact Nat.le_refl 49)⟩)|(refine Qay qi ?_)|refine zst ?_|refine zbx ?_ ?_|refine zgx ?_ ?_|refine eqR ?_));(all_goals (try (conv=>whnf)))
   all_goals first|(exfalso;omega)|(exfalso;simp at hb;done)|(refine QaS hfinQ ?_;(apply Fin.mk (m:= [(0,some 0),(1,some 3),(2,some 4)]);(focus exact rfl);(all_goals ((try (show HlS _ _ [] _));first|(exact aFi)|exact rfl))))
  obtain ⟨hrb,hI3⟩:=hIx (by simpa using hht) rfl
  subst hrb
  have hx3:=hak.x
  have hc3:=hak.c
  have hs3:=Qaa M3.m
  have hos2:=Qbn hos hao
  have hct3:M3.ct=M.ct+1:=by rw [hac];omega
  obtain ⟨r3,hr3⟩:∃ r:Mc,r=M3:=⟨_,rfl⟩
  have hak3:=hak
  rw [← hr3] at hak3 hI3
  have hct3':r3.ct=M.ct+1:=by rw [hr3];exact hct3
  clear hac hak
  cases O with
  | none =>
   dsimp only [Option.toList,oS,oR] at *
   rw [List.append_nil] at hos2
   have hon:os.length≤M.ct+1:=by omega
   have hfin:∀ MC X ol OL,MC=M3.C 3→X=wsv M3.m→ol=os.length→OL=OLs os→Qhm ol A0 MC Z X OL=Qhm os.length A0 (r3.C 3) Z (wsv r3.m) (OLs os):=fun MC X ol OL h1 h2 h3 h4=>by rw [h1,h2,h3,h4,hr3]
   clear hr3 hos hM hIM hI
   replace hO1:(OLs os).length=os.length*ty215.size:=hO1
   generalize hOLo:OLs os=OL at *
   generalize hoLo:os.length=ol at *
   generalize hXe:wsv M.m=Xe at *
   generalize hXg:wsv M3.m=Xg at *
   obtain ⟨xe,pce,ce,me,kse,tae,tde,tfe,de,ne,bte,bge,cte,wte,hte⟩:=M
   dsimp only at *
   obtain ⟨xe_0,xe_1,xe_2,xe_3,xe_4,xe_5,xe_6,xe_7,xe_8,xe_9,xe_10,xe_11,xe_12,xe_13,xe_14,xe_15,rfl⟩:=Qaq hx
   obtain ⟨ce_0,ce_1,ce_2,ce_3,ce_4,ce_5,ce_6,ce_7,rfl⟩:=QaJ hc
   obtain ⟨de_0,de_1,de_2,de_3,de_4,de_5,de_6,de_7⟩:=de
   obtain ⟨ne_0,ne_1,ne_2,ne_3,ne_4,ne_5⟩:=ne
   obtain ⟨xg,pcg,cg,mg,ksg,tag,tdg,tfg,dg,ng,btg,bgg,ctg,wtg,htg⟩:=M3
   dsimp only at *
   obtain ⟨xg_0,xg_1,xg_2,xg_3,xg_4,xg_5,xg_6,xg_7,xg_8,xg_9,xg_10,xg_11,xg_12,xg_13,xg_14,xg_15,rfl⟩:=Qaq hx3
   obtain ⟨cg_0,cg_1,cg_2,cg_3,cg_4,cg_5,cg_6,cg_7,rfl⟩:=QaJ hc3
   obtain ⟨dg_0,dg_1,dg_2,dg_3,dg_4,dg_5,dg_6,dg_7⟩:=dg
   obtain ⟨ng_0,ng_1,ng_2,ng_3,ng_4,ng_5⟩:=ng
   have hfin2:=hfin _ Xg ol OL rfl rfl rfl rfl
   clear hfin
   unfold Qhm
   simp only [Qaf,List.cons_append,List.nil_append,Mc.C,Mc.D,Dk.C,Nk.C] at *
   generalize hng:mg.length=nn3 at *
   generalize hne:me.length=nn1 at *
   subst hal
   obtain rfl:hte=false:=by simpa using hht
   (repeat' ((conv=>whnf);first|(intro hb;first|exact zk4 hb|(try (replace hb:=zn4 hb)))|(apply Sd.mk; · exact ⟨rfl,rfl,hO1,bnd (by omega) (by decide),by omega⟩)|((with_reducible apply Vl.mk (α:=List SV)); · with_reducible exact List.append_nil OL)|(refine Qay qi ?_)|(refine Qay qr ?_)|(refine Qip qa ?_)|refine zst ?_|refine zbx ?_ ?_|refine zgx ?_ ?_|refine eqR ?_));(all_goals (try (conv=>whnf)))
   all_goals try (first|(exfalso;omega)|(exfalso;simp at hb;done))
   refine Lp.unroll 1 ?_
   (repeat' ((conv=>whnf);first|(intro hb;first|exact zk4 hb|(try (replace hb:=zn4 hb)))|(apply Sd.mk; · exact ⟨rfl,rfl,hO1,bnd (by omega) (by decide),by omega⟩)|((with_reducible apply Vl.mk (α:=List SV)); · with_reducible exact List.append_nil OL)|(refine Qay qi ?_)|(refine Qay qr ?_)|(refine Qip qa ?_)|refine zst ?_|refine zbx ?_ ?_|refine zgx ?_ ?_|refine eqR ?_));(all_goals (try (conv=>whnf)))
   all_goals first|(exfalso;omega)|(exfalso;simp at hb;done)|(refine ⟨mm-1,Qhm ol A0 _ Z Xg OL,by omega,?_,r3,os,by omega,hI3,hak3,hos2,by omega,by rw [hoLo,hOLo];exact hfin2⟩;unfold Qhm;(exact zwL [(0,some 0),(1,some 1),(2,some 2),(3,some 3),(4,some 590016)]))
  | some l =>
   obtain ⟨hl4,hls,hlk⟩:=hao l rfl
   have hOa:=Qdb os l
   have hol2:(os++ [l]).length=os.length+1:=by simp
   dsimp only [Option.toList,oS,oR] at *
   have hon:(os++ [l]).length≤M.ct+1:=by rw [hol2];omega
   have hfin:∀ MC X ol OL,MC=M3.C 3→X=wsv M3.m→ol=(os++ [l]).length→OL=OLs (os++ [l])→Qhm ol A0 MC Z X OL=Qhm (os++ [l]).length A0 (r3.C 3) Z (wsv r3.m) (OLs (os++ [l])):=fun MC X ol OL h1 h2 h3 h4=>by rw [h1,h2,h3,h4,hr3]
   clear hr3 hos hM hIM hI
   rw [hOa,hol2] at hfin
   obtain ⟨OL2,hOap⟩:∃ L,OLs os++l=L:=⟨_,rfl⟩
   have hO2b:Qau OL2=true:=by rw [← hOap];exact QaI hO2 hls
   rw [hOap] at hfin hOa
   replace hO1:(OLs os).length=os.length*ty215.size:=hO1
   generalize hOLo:OLs os=OL at *
   generalize hoLo:os.length=ol at *
   generalize hXe:wsv M.m=Xe at *
   generalize hXg:wsv M3.m=Xg at *
   obtain ⟨xe,pce,ce,me,kse,tae,tde,tfe,de,ne,bte,bge,cte,wte,hte⟩:=M
   dsimp only at *
   obtain ⟨xe_0,xe_1,xe_2,xe_3,xe_4,xe_5,xe_6,xe_7,xe_8,xe_9,xe_10,xe_11,xe_12,xe_13,xe_14,xe_15,rfl⟩:=Qaq hx
   obtain ⟨ce_0,ce_1,ce_2,ce_3,ce_4,ce_5,ce_6,ce_7,rfl⟩:=QaJ hc
   obtain ⟨de_0,de_1,de_2,de_3,de_4,de_5,de_6,de_7⟩:=de
   obtain ⟨ne_0,ne_1,ne_2,ne_3,ne_4,ne_5⟩:=ne
   obtain ⟨xg,pcg,cg,mg,ksg,tag,tdg,tfg,dg,ng,btg,bgg,ctg,wtg,htg⟩:=M3
   dsimp only at *
   obtain ⟨xg_0,xg_1,xg_2,xg_3,xg_4,xg_5,xg_6,xg_7,xg_8,xg_9,xg_10,xg_11,xg_12,xg_13,xg_14,xg_15,rfl⟩:=Qaq hx3
   obtain ⟨cg_0,cg_1,cg_2,cg_3,cg_4,cg_5,cg_6,cg_7,rfl⟩:=QaJ hc3
   obtain ⟨dg_0,dg_1,dg_2,dg_3,dg_4,dg_5,dg_6,dg_7⟩:=dg
   obtain ⟨ng_0,ng_1,ng_2,ng_3,ng_4,ng_5⟩:=ng
   have hfin2:=hfin _ Xg (ol+1) OL2 rfl rfl rfl rfl
   clear hfin
   unfold Qhm
   simp only [Qaf,List.cons_append,List.nil_append,Mc.C,Mc.D,Dk.C,Nk.C] at *
   generalize hng:mg.length=nn3 at *
   generalize hne:me.length=nn1 at *
   subst hal
   obtain rfl:hte=false:=by simpa using hht
   (repeat' ((conv=>whnf);first|(intro hb;first|exact zk4 hb|(try (replace hb:=zn4 hb)))|(apply Sd.mk; · exact ⟨rfl,rfl,hO1,bnd (by omega) (by decide),by omega⟩)|(apply Sk.mk; · exact Qbs l hl4 hlk)|((with_reducible apply Vl.mk (α:=List SV)); · with_reducible exact hOap)|(refine Qay qi ?_)|(refine Qay qr ?_)|(refine Qip qa ?_)|refine zst ?_|refine zbx ?_ ?_|refine zgx ?_ ?_|refine eqR ?_));(all_goals (try (conv=>whnf)))
   all_goals try (first|(exfalso;omega)|(exfalso;simp at hb;done))
   refine Lp.unroll 1 ?_
   (repeat' ((conv=>whnf);first|(intro hb;first|exact zk4 hb|(try (replace hb:=zn4 hb)))|(apply Sd.mk; · exact ⟨rfl,rfl,hO1,bnd (by omega) (by decide),by omega⟩)|(apply Sk.mk; · exact Qbs l hl4 hlk)|((with_reducible apply Vl.mk (α:=List SV)); · with_reducible exact hOap)|(refine Qay qi ?_)|(refine Qay qr ?_)|(refine Qip qa ?_)|refine zst ?_|refine zbx ?_ ?_|refine zgx ?_ ?_|refine eqR ?_));(all_goals (try (conv=>whnf)))
   all_goals first|(exfalso;omega)|(exfalso;simp at hb;done)|(refine ⟨mm-1,Qhm (ol+1) A0 _ Z Xg OL2,by omega,?_,r3,(os++ [l]),by omega,hI3,hak3,hos2,by omega,by rw [hol2,hOa];exact hfin2⟩;unfold Qhm;(exact zwL [(0,some 0),(1,some 1),(2,some 2),(3,some 3),(4,some 590016)]))
 ·have hct2:M.ct=87:=by omega
  have hfinQ:rnQ I ⟨.tup [.agg (M.C 1),.s (.sl 2 0 os.length),.s (.int .i64 0),.s (.int .i64 0)],[],[⟨true,1,wsv M.m⟩,⟨true,4,OLs os⟩]⟩:=⟨M,os,hIM,hM,hos,rfl⟩
  clear hM hIM hI
  generalize OLs os=OL at *
  generalize os.length=ol at *
  generalize hXe:wsv M.m=Xe at *
  obtain ⟨xe,pce,ce,me,kse,tae,tde,tfe,de,ne,bte,bge,cte,wte,hte⟩:=M
  dsimp only at *
  obtain ⟨xe_0,xe_1,xe_2,xe_3,xe_4,xe_5,xe_6,xe_7,xe_8,xe_9,xe_10,xe_11,xe_12,xe_13,xe_14,xe_15,rfl⟩:=Qaq hx
  obtain ⟨ce_0,ce_1,ce_2,ce_3,ce_4,ce_5,ce_6,ce_7,rfl⟩:=QaJ hc
  obtain ⟨de_0,de_1,de_2,de_3,de_4,de_5,de_6,de_7⟩:=de
  obtain ⟨ne_0,ne_1,ne_2,ne_3,ne_4,ne_5⟩:=ne
  unfold Qhm
  simp only [Qaf,List.cons_append,List.nil_append,Mc.C,Mc.D,Dk.C,Nk.C] at *
  generalize hne:me.length=nn1 at *
  (repeat' ((conv=>whnf);first|(intro hb;first|exact zk4 hb|(try (replace hb:=zn4 hb)))|((with_reducible apply Vl.mk (α:=List SV)); · exact QaR (by rw [hZl];rfl))|(apply Sd.mk; · exact ⟨rfl,rfl,rfl,(by show 0+_≤Z.length;rw [hZl];exact Nat.le_refl 49)⟩)|refine zst ?_|refine zbx ?_ ?_|refine zgx ?_ ?_|refine eqR ?_));(all_goals (try (conv=>whnf)))
  all_goals first|(exfalso;omega)|(exfalso;simp at hb;done)|(refine QaS hfinQ ?_;(apply Fin.mk (m:= [(0,some 0),(1,some 3),(2,some 4)]);(focus exact rfl);(all_goals ((try (show HlS _ _ [] _));first|(exact aFi)|exact rfl))))
end Go.Proofs.YtjgikeckbeeehaaGreat
