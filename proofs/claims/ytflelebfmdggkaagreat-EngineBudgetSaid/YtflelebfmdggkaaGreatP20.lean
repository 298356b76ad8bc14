import Derived.Test.YtflelebfmdggkaaGreatP139
set_option linter.unusedSimpArgs false
set_option linter.unusedVariables false
set_option maxHeartbeats 100000000
set_option maxRecDepth 100000
namespace Go.Proofs.YtflelebfmdggkaaGreat
open Go Go.RowKit
def Eg.Hn (E:Eg):List Row:= [⟨true,1,E.M.C 1++ [.sl 2 0 E.T.length,.sl 3 0 E.B.length,.nilsl,.i E.f,.bool E.s]⟩,⟨true,1,wsv E.M.m⟩,⟨true,4,tes E.T⟩,⟨true,3,bks E.B⟩]
def Eg.Rn (E:Eg) (v:TV):Res:=⟨v,[(0,some ⟨true,1,E.C 4 5 6 7⟩),(1,none),(2,none),(3,none)],[⟨true,1,wsv E.M.m⟩,⟨true,4,tes E.T⟩,⟨true,3,bks E.B⟩,⟨true,4,OLs E.o⟩]⟩
def QuL (lim n:Nat) (C0 X T B O:List SV):St :=
 ⟨[(0,.a (.s (.ptr 0 0))),(1,.a (.s (.w lim))),(5,.a (.s (.w n)))],
  [(0,some ⟨true,1,C0⟩),(1,none),(2,none),(3,none),(4,some ⟨true,1,X⟩),(5,some ⟨true,4,T⟩),(6,some ⟨true,3,B⟩),(7,some ⟨true,4,O⟩)],[0]⟩
theorem Qzz (fI:FN 251 [.s (.str ⟨#[0]⟩),.s (.i 128)] [] (. =⟨.a (.s (.str z128)),[],[]⟩))
  (gW:∀ (E:Eg) (lim:Nat),E.ok->Coh E->lim<18446744073709551616->FN 44 [.s (.ptr 0 0),.s (.w lim)] E.H (. =(Qee lim E).1.R (.a (.s (.w ((Qee lim E).2:Nat))))))
  (E:Eg) (hE:E.ok) (hC:Coh E) (hm:QbQ E.M=true) (lim0 lim:Nat) (WE:lim0<18446744073709551616) (qU:lim=min lim0 (1152921504606846976-E.M.ct)) (jH:E.o.length+lim<=900000) (zQ:E.o= []) :
  FN 18 [.s (.ptr 0 0),.s (.w lim0)] E.Hn (. =(Qm0 lim lim 0 E).1.Rn (.a (.s (.w ((Qm0 lim lim 0 E).2:Nat))))):=by
 have qQ:E.M.ct<=1152921504606846976:=by
  have h:=hm;unfold QbQ at h;exact (of_decide_eq_true h).2.2.2.2.2.2.2.2.2.2.2.1
 have m1:IntKind.u64.wrap ((1152921504606846976:Int)-(E.M.ct:Int))=((1152921504606846976-E.M.ct:Nat):Int):=Qe5
 have m2:Qsv (lim0:Int) [((1152921504606846976-E.M.ct:Nat):Int)]=(lim:Nat):=by
  show QzZ (lim0:Int) _=_;unfold QzZ;split<;>omega
 have GL:lim<18446744073709551616:=by omega
 obtain ⟨⟨Z,z⟩,hZ⟩:∃ r,Qm0 lim lim 0 E=r:=⟨_,rfl⟩;rw [hZ];dsimp only;have hA:Ag lim 0 E Z z:=⟨hE,hC,hm,Nat.zero_le _,by omega,jH,lim,Nat.le_refl _,hZ⟩;clear hZ hC hm;have fJ:=Qaa E.M.m;have gY:=Qaf E.T;have fH:=Qad E.B;have qK:=(QaA hE.o).2.1;have uxl:=hE.M.x;have ucl:=hE.M.c;obtain ⟨K0,hK0⟩:∃ K0,QuL lim 0 (E.C 4 5 6 7) (wsv E.M.m) (tes E.T) (bks E.B) (OLs E.o)=K0:=⟨_,rfl⟩;have hI:∃ (E:Eg) (n:Nat),lim+n=lim/\Ag lim n E Z z/\K0=QuL lim n (E.C 4 5 6 7) (wsv E.M.m) (tes E.T) (bks E.B) (OLs E.o):=⟨E,0,rfl,hA,hK0.symm⟩;clear hA hE;obtain ⟨⟨_,_,_,um,_,_,_,_,uf,un,_,_,_,_,_⟩,uT,uB,_,_,us⟩:=E;cases uf;cases un;dsimp only at uxl ucl;cases zC16 uxl;cases zC8 ucl;dsimp only [Eg.H,Eg.Hn,Eg.R,Eg.Rn,Eg.C,Mc.C,Mc.D,Dk.C,Nk.C] at fJ gY fH qK qQ m1 m2 hK0 |-;simp only [Qah,zca,zna] at hK0 |-;subst zQ;generalize wsv um=uXX,tes uT=uTT,bks uB=uBB at *;rw [show OLs []=([]:List SV) from rfl] at qK hK0;generalize um.length=umn,uT.length=utn,uB.length=ubn at *;simp only [List.length_nil] at hK0;clear jH;refine fnW Tryz.func18 ?_;(repeat' ((conv=>whnf);first|exact zi2|(refine zj0 ?_;intro hb)|(with_reducible first|refine zv m1 ?_|refine zv m2 ?_)|refine zse ?_|refine zbb ?_ ?_));all_goals (conv=>whnf)
 all_goals
  refine Lp.inv (fun mm σ=>∃ (E:Eg) (n:Nat),mm+n=lim/\Ag lim n E Z z/\σ=QuL lim n (E.C 4 5 6 7) (wsv E.M.m) (tes E.T) (bks E.B) (OLs E.o)) ?_ ?_
  .refine ⟨lim,K0,?_,hI⟩
   rw [<- hK0];unfold QuL
   first|(exact zwV [(0,some 0),(1,some 1),(2,some 2),(3,some 3),(4,some 1),(5,some 2),(6,some 3),(7,none)])
  rintro mm σ ⟨E,n,hmn,hA,rfl⟩;unfold QuL;have ce:=Qs5 E hA.ok;have exl:=hA.ok.M.x;have ecl:=hA.ok.M.c;have jZ:=Qaa E.M.m;have jT:=Qaf E.T;have jY:=Qad E.B;have yA:=(QaA hA.ok.o).2.1;have q3:IntKind.u64.wrap ((lim:Int)-(n:Int))=((lim-n:Nat):Int):=by have:=hA.le;rw [QzR (by omega) (by omega)];omega
  have q1:IntKind.u64.wrap ((n:Int)+(1:Int))=((n+1:Nat):Int):=by have:=hA.le;rw [QzR (by omega) (by omega)];omega
  by_cases hc:n<lim/\Qob E.M=false
  case neg =>
   obtain ⟨e1,e2⟩:=QB2 hA hc;subst e1 e2;generalize Qob Z.M=bE at *;clear hA gW fI hI hK0;obtain ⟨⟨_,_,_,em,_,_,_,_,ef,en,_,_,_,_,_⟩,eT,eB,eo,_,es⟩:=Z;cases ef;cases en;dsimp only at exl ecl;cases zC16 exl;cases zC8 ecl;dsimp only [Eg.H,Eg.Hn,Eg.R,Eg.Rn,Eg.C,Mc.C,Mc.D,Dk.C,Nk.C] at ce jZ jT jY yA |-;simp only [Qah,zca,zna] at ce |-;generalize ZM:wsv em=eXX,heT:tes eT=eTT,heB:bks eB=eBB,heO:OLs eo=eOO,hemn:em.length=emn,hetn:eT.length=etn,hebn:eB.length=ebn,heon:eo.length=eon at *;(repeat' ((conv=>whnf);first|exact zi3|(refine zj0 ?_;intro hb)|(refine Qax ce ?_)|refine zse ?_|refine zbb ?_ ?_));all_goals (conv=>whnf)
   all_goals first|(exfalso;simp_all;omega)|(apply Fin.mv (m:= [(0,some 0),(1,some 1),(2,some 2),(3,some 3),(4,some 4),(5,some 5),(6,some 6),(7,some 7)]);(focus exact rfl);(all_goals ((try (show QcK _ _ _ [] _));first|exact aFi|exact rfl)))
  obtain ⟨a1,a2,a3,a4,a5,a6⟩:=QBK hA hc;have vF:=hA.le;have cr:=gW E (lim-n) hA.ok hA.coh (by omega);have csg:=Qom fI (Qee (lim-n) E).1 a1 a4 0 (by decide);rw [hc.2] at ce;have gT:=hc.1;clear hc gW fI hI hK0 a2;generalize Qee (lim-n) E=R at *;obtain ⟨R1,r2⟩:=R;dsimp only at a1 a3 a4 a5 a6 cr csg;have q2:IntKind.u64.wrap ((n:Int)+(r2:Int))=((n+r2:Nat):Int):=Qe5;have rxl:=a1.M.x;have rcl:=a1.M.c;have GH:=Qaa R1.M.m;have HK:=Qaf R1.T;have HO:=Qad R1.B;have FU:=(QaA a1.o).2.1
  by_cases h0:r2=0
  .have hA2:=a5 h0
   have b1:=hA2.ok;subst h0;have GI:∃ E2:Eg,Ag lim (n+1) E2 Z z/\E2=sgl 0 R1:=⟨_,hA2,rfl⟩;obtain ⟨E2,g1,g4⟩:=GI;clear a5 a6 hA2 hA a1;generalize sgl 0 R1=S at *;have sxl:=b1.M.x;have scl:=b1.M.c;have hsS1:=Qaa S.M.m;have hsS2:=Qaf S.T;have hsS3:=Qad S.B;have hsS4:=(QaA b1.o).2.1;clear b1;obtain ⟨⟨_,_,_,em,_,_,_,_,ef,en,_,_,_,_,_⟩,eT,eB,eo,_,es⟩:=E;cases ef;cases en;dsimp only at exl ecl;cases zC16 exl;cases zC8 ecl;obtain ⟨⟨_,_,rc,rm,_,_,_,_,rf,rn,_,_,_,_,_⟩,rT,rB,ro,_,_⟩:=R1;cases rf;cases rn;dsimp only at rxl rcl;cases zC16 rxl;cases zC8 rcl;obtain ⟨⟨sx,_,_,sm,_,_,_,_,sf,sn,_,_,_,_,_⟩,sT,sB,so,_,_⟩:=S;cases sf;cases sn;dsimp only at sxl scl;cases zC16 sxl;cases zC8 scl;dsimp only [Eg.H,Eg.Hn,Eg.R,Eg.Rn,Eg.C,Mc.C,Mc.D,Dk.C,Nk.C] at ce cr csg jZ jT jY yA GH HK HO FU hsS1 hsS2 hsS3 hsS4 |-;simp only [Qah,zca,zna] at ce cr csg |-;generalize ZM:wsv em=eXX,heT:tes eT=eTT,heB:bks eB=eBB,heO:OLs eo=eOO,hemn:em.length=emn,hetn:eT.length=etn,hebn:eB.length=ebn,heon:eo.length=eon,hrX:wsv rm=rXX,hrT:tes rT=rTT,hrB:bks rB=rBB,hrO:OLs ro=rOO,hrmn:rm.length=rmn,hrtn:rT.length=rtn,hrbn:rB.length=rbn,hron:ro.length=ron,YJ:wsv sm=sXX,ZG:tes sT=sTT,VU:bks sB=sBB,hsO:OLs so=sOO,hsmn:sm.length=smn,hstn:sT.length=stn,hsbn:sB.length=sbn,hson:so.length=son at *;(repeat' ((conv=>whnf);first|exact zi3|(refine zj0 ?_;intro hb)|(with_reducible first|refine zv q3 ?_|refine zv q1 ?_)|(refine Qax ce ?_)|(refine Qax cr ?_)|(refine Qax csg ?_)|refine zse ?_|refine zbb ?_ ?_));all_goals (conv=>whnf)
   all_goals first
    | (exfalso;simp at hb;omega)
    | (exfalso;simp at hb;done)
    | (
      refine ⟨mm-1,QuL lim (n+1) (E2.C 4 5 6 7) (wsv E2.M.m) (tes E2.T) (bks E2.B) (OLs E2.o),by omega,?_,E2,n+1,by omega,g1,rfl⟩;rw [g4];unfold QuL;dsimp only [Eg.C,Mc.C,Mc.D,Dk.C,Nk.C];simp only [Qah,zca,zna];rw [YJ,ZG,VU,hsO,hsmn,hstn,hsbn,hson]
      (exact zwV [(0,some 0),(1,some 1),(2,some 2),(3,some 3),(4,some 262208),(5,some 262209),(6,some 262210),(7,some 262211)]))
  .have hA2:=a6 h0
   have h0':¬ ((r2:Nat):Int)=0:=by omega
   have hr2:0<r2:=by omega
   have GI:∃ E2:Eg,Ag lim (n+r2) E2 Z z/\E2=R1:=⟨_,hA2,rfl⟩;obtain ⟨E2,g1,g4⟩:=GI;clear a5 a6 hA2 hA a1 csg;obtain ⟨⟨_,_,_,em,_,_,_,_,ef,en,_,_,_,_,_⟩,eT,eB,eo,_,es⟩:=E;cases ef;cases en;dsimp only at exl ecl;cases zC16 exl;cases zC8 ecl;obtain ⟨⟨_,_,rc,rm,_,_,_,_,rf,rn,_,_,_,_,_⟩,rT,rB,ro,_,_⟩:=R1;cases rf;cases rn;dsimp only at rxl rcl;cases zC16 rxl;cases zC8 rcl;dsimp only [Eg.H,Eg.Hn,Eg.R,Eg.Rn,Eg.C,Mc.C,Mc.D,Dk.C,Nk.C] at ce cr jZ jT jY yA GH HK HO FU |-;simp only [Qah,zca,zna] at ce cr |-;generalize ZM:wsv em=eXX,heT:tes eT=eTT,heB:bks eB=eBB,heO:OLs eo=eOO,hemn:em.length=emn,hetn:eT.length=etn,hebn:eB.length=ebn,heon:eo.length=eon,hrX:wsv rm=rXX,hrT:tes rT=rTT,hrB:bks rB=rBB,hrO:OLs ro=rOO,hrmn:rm.length=rmn,hrtn:rT.length=rtn,hrbn:rB.length=rbn,hron:ro.length=ron at *;(repeat' ((conv=>whnf);first|exact zi3|(refine zj0 ?_;intro hb)|(with_reducible first|refine zv q3 ?_|refine zv q2 ?_)|(refine Qax ce ?_)|(refine Qax cr ?_)|refine zse ?_|refine zbb ?_ ?_));all_goals (conv=>whnf)
   all_goals first
    | (exfalso;simp at hb;omega)
    | (exfalso;simp at hb;done)
    | (
      refine ⟨mm-r2,QuL lim (n+r2) (E2.C 4 5 6 7) (wsv E2.M.m) (tes E2.T) (bks E2.B) (OLs E2.o),by omega,?_,E2,n+r2,by omega,g1,rfl⟩;rw [g4];unfold QuL;dsimp only [Eg.C,Mc.C,Mc.D,Dk.C,Nk.C];simp only [Qah,zca,zna];rw [hrX,hrT,hrB,hrO,hrmn,hrtn,hrbn,hron]
      (exact zwV [(0,some 0),(1,some 1),(2,some 2),(3,some 3),(4,some 131328),(5,some 131329),(6,some 131330),(7,some 131331)]))
def Eg.V (E:Eg) (a b c:Nat):List SV:=E.M.C a++ [.sl b 0 E.T.length,.sl c 0 E.B.length]
open Classical in
noncomputable def QAj (E:Eg):Bool:=QbQ E.M&&(QhP E.T E.M.m E.M.m.length (cR E.M)&&decide (Qhv E.M.m E.M.m.length E.B))
theorem QxX (E:Eg) (hE:E.ok):FN 14 [.agg (E.V 0 1 2)] [⟨false,1,wsv E.M.m⟩,⟨false,4,tes E.T⟩,⟨false,3,bks E.B⟩] (. =⟨.a (.s (.bool (QAj E))),[],[]⟩):=by
 have c1:=Qpc E.M hE.M;have gI:=hE.M.ml;have c2:=Qlh E.T _ rfl (by have:=hE.tl;omega) hE.T E.M.m _ (cR E.M) rfl (by omega) hE.M.mr (Qab hE.M.cr 6);have c3:=QhE E.M.m _ rfl (by omega) hE.M.mr E.B _ rfl (by have:=hE.bl;omega) hE.B (@decide (Qhv E.M.m E.M.m.length E.B) (Classical.propDecidable _)) (@decide_eq_true_iff (Qhv E.M.m E.M.m.length E.B) (Classical.propDecidable _));obtain ⟨R,hR⟩:∃ R,QAj E=R:=⟨_,rfl⟩;rw [hR];unfold QAj at hR;generalize QbQ E.M=b1,QhP E.T E.M.m E.M.m.length (cR E.M)=b2,@decide (Qhv E.M.m E.M.m.length E.B) (Classical.propDecidable _)=b3 at *;have fJ:=Qaa E.M.m;have gY:=Qaf E.T;have fH:=Qad E.B;obtain ⟨hM,hT,_,hB,_,ho,_,_⟩:=hE;obtain ⟨M,T,B,_,_,s⟩:=E;dsimp only [Eg.V] at *;obtain ⟨hx,hc,hY,gA,gH,gB,gI,gE,gD,gF⟩:=hM;obtain ⟨_,_,_,m,_,_,_,_,d,n⟩:=M;dsimp only at *;cases zC16 hx;obtain ⟨_,c1,c2,c3,_,_,_,_,rfl⟩:=QaM hc;cases d;cases n;dsimp only [Mc.C,Mc.D,Dk.C,Nk.C,Dk.ok,Nk.ok] at *
 try dsimp only [cR,Mc.C,Mc.D,Dk.C,Nk.C] at *
 try simp only [Qah,zca,zna,List.getD_cons_succ,List.getD_cons_zero] at *
 generalize gO:wsv m=XX,hX3:bks B=BB,gJ:m.length=nn,gM:B.length=bn,gU:tes T=TT,htn:T.length=tn at *;clear gO gU hX3 gJ gM htn hT hB ho hY gA gH gB gI gE gD gF;cases b1<;>cases b2
 all_goals
  refine fnW Tryz.func14 ?_;(repeat' ((conv=>whnf);first|exact zi2|(refine zj0 ?_;intro hb)|(refine QaD c1 ?_)|(refine QhF c2 ?_)|(refine QhF c3 ?_)|refine zse ?_|refine zbb ?_ ?_));all_goals (conv=>whnf)
  all_goals first
   | (refine QcP ?_ ?_;(focus (exact Qsf));rw [<- hR];first|rfl|(simp;done))
end Go.Proofs.YtflelebfmdggkaaGreat
namespace Go.Proofs.YtflelebfmdggkaaGreat
open Go Go.RowKit
theorem QnB (l:List Mz) (N:Nat) (hN:l.length=N) (fP:N<=1000000):FN 42 [.s (.fz 6 N (mzs l))] [] (. =⟨.a (.s (.fz 6 N (mzs l))),[],[]⟩):=by
 refine QBD (QiZ l N hN fP) ?_;refine Fin.fr (c:=0) (es:=6) (cells:=mzs l) rfl (Qf2 l) ?_;refine Fin.mk ⟨.a (.s (.fz 6 N (mzs l))),[],[]⟩ [] rfl ?_ ?_ rfl
 .exact QcB (Qcx (QaL rfl))
 .exact QaN
theorem Qn0 {t:List Bk} (h:t.length=0):bks t= []:=by rw [List.eq_nil_of_length_eq_zero h];rfl
theorem Qni (t:List Bk) (N:Nat) (hN:t.length=N) (fP:N<=1000000):FN 41 [.s (.sl 0 0 N)] [⟨false,3,bks t⟩] (. =⟨.a (.s (.sl 1 0 N)),[],[⟨true,3,bks t⟩]⟩):=by
 have gN:=Qad t;have ZH:=QeF t;have gT:=QcG t;have hnl:=@Qn0 t;generalize bks t=TT at *;refine fnW Tryz.func41 ?_;(repeat' ((conv=>whnf);first|exact zi0|(refine zj0 ?_;intro hb)|(refine Ns.any rfl ?_;intro bn gM)|(apply Sk.mk; . exact Qct TT (by show TT.length=N*3;rw [gT,hN]) ZH)|(apply Sd.mk; . refine ⟨rfl,rfl,rfl,?_,?_⟩<;>first|omega|(show (0+N)*40<=_;omega))|refine QEF ?_|((with_reducible apply Vl.mk (α:=List SV)); . exact zna TT)|refine zs0 ?_|refine zbb ?_ ?_));all_goals (conv=>whnf)
 .obtain rfl:N=0:=gM hb
  obtain rfl:=hnl hN
  (exact Qny)
 ·(exact QbA)
def QpQ:List SV:= [.u 0,.u 0,.u 0,.u 0,.u 0,.u 0,.u 0,.u 0,.u 0,.u 0,.u 0,.u 0,.u 0,.u 0,.u 0,.u 0,
 .u 0,.u 0,.u 0,.u 0,.u 0,.u 0,.u 0,.u 0,.u 0,.nilsl,.str ⟨#[]⟩,.bool false,.u 0,.bool false,
 .u 0,.u 0,.u 0,.i 0,.i 0,.u 0,.u 0,.str ⟨#[]⟩,.u 0,.u 0,.bool false,.u 0,.bool false,.u 0,
 .u 0,.u 0,.w 0,.bool false,.bool false,.nilsl,.nilsl]
def QAa (N i:Nat) (V X T B:List SV):St :=
 ⟨[(1,.a (.s (.ptr 3 0))),(2,.a (.s (.ptr 4 0))),(20,.a (.s (.sl 7 0 N))),(21,.a (.s (.i N))),(22,.a (.s (.i i)))],
  [(0,some ⟨false,1,X⟩),(1,some ⟨false,4,T⟩),(2,some ⟨false,3,B⟩),(3,some ⟨true,1,V⟩),(4,some ⟨true,1,QpQ⟩),(5,some ⟨true,1,X⟩),(6,some ⟨true,4,T⟩),(7,some ⟨true,3,B⟩)],[0]⟩
theorem set_same {l:List SV} {j:Nat} {v:SV} (h:l[j]?=some v):l.set j v=l:=by
 apply List.ext_getElem?;intro i;rw [List.getElem?_set];split
 .rename_i e
  subst e;split
  .exact h.symm
  .rename_i h1
   rw [List.getElem?_eq_none (by omega)] at h;cases h
 .rfl
theorem Qrr (E:Eg) (hE:E.ok):FN 17 [.agg (E.V 0 1 2)] [⟨false,1,wsv E.M.m⟩,⟨false,4,tes E.T⟩,⟨false,3,bks E.B⟩] (. =⟨.a (.agg (E.V 3 4 5)),[],[⟨true,1,wsv E.M.m⟩,⟨true,4,tes E.T⟩,⟨true,3,bks E.B⟩]⟩):=by
 have gI:=hE.M.ml;have k1:=QbH E.M.m _ rfl (by omega);have k2:=QeB E.T _ rfl (by have:=hE.tl;omega);have k3:=Qni E.B _ rfl (by have:=hE.bl;omega);have fJ:=Qaa E.M.m;have gY:=Qaf E.T;have fH:=Qad E.B;have jK:=Qdl E.B;have hbb:=QcG E.B;have hbl16:=hE.bl;obtain ⟨hM,hT,_,hB,_,ho,_,_⟩:=hE;obtain ⟨M,T,B,o,f,s⟩:=E;dsimp only [Eg.V] at *;obtain ⟨hx,hc,hY,gA,gH,gB,gI,gE,gD,gF⟩:=hM;obtain ⟨_,pc,_,m,ks,ta,td,tf,d,n,bt,bg,ct,wt,ht⟩:=M;dsimp only at *;obtain ⟨x0,x1,x2,x3,x4,x5,x6,x7,x8,x9,x10,x11,x12,x13,x14,x15,rfl⟩:=Qav hx;obtain ⟨c0,c1,c2,c3,c4,c5,c6,c7,rfl⟩:=QaM hc;obtain ⟨dd0,dd1,dd2,dd3,dd4,dd5,dd6,dd7⟩:=d;obtain ⟨n0,n1,n2,n3,n4,n5⟩:=n;dsimp only [Mc.C,Mc.D,Dk.C,Nk.C,Dk.ok,Nk.ok] at *
 try dsimp only [cR,Mc.C,Mc.D,Dk.C,Nk.C] at *
 try simp only [Qah,zca,zna,List.getD_cons_succ,List.getD_cons_zero] at *
 generalize gO:wsv m=XX,hX3:bks B=BB,HR:m.length=nn,gM:B.length=bn,gU:tes T=TT,FQ:T.length=tn at *;clear gO gU hX3 hT ho hY gA gH gB gI gE gD gF;refine fnW Tryz.func17 ?_;(repeat' ((conv=>whnf);first|exact zi2|(refine zj0 ?_;intro hb)|(refine QaD k1 ?_)|(refine QaD k2 ?_)|(refine QaD k3 ?_)|refine zse ?_|refine zbb ?_ ?_));all_goals (conv=>whnf)
 all_goals
  refine Lp.inv (fun mm σ=>∃ i,mm+i=bn/\σ=QAa bn i (Eg.V ⟨⟨[x0,x1,x2,x3,x4,x5,x6,x7,x8,x9,x10,x11,x12,x13,x14,x15],pc,[c0,c1,c2,c3,c4,c5,c6,c7],m,ks,ta,td,tf,⟨dd0,dd1,dd2,dd3,dd4,dd5,dd6,dd7⟩,⟨n0,n1,n2,n3,n4,n5⟩,bt,bg,ct,wt,ht⟩,T,B,o,f,s⟩ 5 6 7) XX TT BB) ?_ ?_
  .refine ⟨bn,_,?_,0,by omega,rfl⟩
   dsimp only [Eg.V,Mc.C,Mc.D,Dk.C,Nk.C];simp only [Qah,zca,zna];rw [HR,FQ,gM];unfold QAa QpQ
   first|(exact zwL [(0,some 0),(1,some 1),(2,some 2),(3,some 65536),(4,some 65600),(5,some 131264),(6,some 196736),(7,some 262272)])
  rintro mm σ ⟨i,yY,rfl⟩;have VR:∃ V1,V1=QAa bn (i+1) (Eg.V ⟨⟨[x0,x1,x2,x3,x4,x5,x6,x7,x8,x9,x10,x11,x12,x13,x14,x15],pc,[c0,c1,c2,c3,c4,c5,c6,c7],m,ks,ta,td,tf,⟨dd0,dd1,dd2,dd3,dd4,dd5,dd6,dd7⟩,⟨n0,n1,n2,n3,n4,n5⟩,bt,bg,ct,wt,ht⟩,T,B,o,f,s⟩ 5 6 7) XX TT BB:=⟨_,rfl⟩;obtain ⟨V1,VJ⟩:=VR;unfold QAa QpQ;dsimp only [Eg.V,Mc.C,Mc.D,Dk.C,Nk.C];simp only [Qah,zca,zna];rw [HR,FQ,gM]
  by_cases hi:i<bn
  .obtain ⟨b,hb⟩:∃ b,B[i]?=some b:=⟨B[i]'(by omega),List.getElem?_eq_getElem (by omega)⟩
   have seg:=jK i b hb;obtain ⟨hA,hl,hk⟩:=hB b (List.mem_of_getElem? hb);obtain ⟨A,L,l⟩:=b;have cl:=QnB l _ rfl hl;dsimp only [Bk.C] at seg cl;have q2:IntKind.i64.wrap ((i:Int)+1)=((i+1:Nat):Int):=QbP;have ix3:0+((i:Nat):Int).toNat * ty116.size=i*3:=Qub;have gN:QaC BB (i*3+(2,114).fst) [.fz 6 l.length (mzs l)]=BB:=set_same (seg.2 2 _ rfl);clear hk hb hB hl hA jK;generalize l.length=NL,mzs l=MM at *;(repeat' ((conv=>whnf);first|exact zi2|(refine zj0 ?_;intro hb)|refine Qhr ?_|((with_reducible apply Vl.mk (α:=Nat)); . with_reducible exact ix3)|((with_reducible apply Vl.mk (α:=List SV)); . exact gN)|(apply Sd.mk; . exact ⟨rfl,rfl,rfl,(show i*3+2+1<=BB.length by omega)⟩)|refine Qfl ?_|(refine zpu cl ?_)|refine Qeo ?_|refine zse ?_|refine zbb ?_ ?_));all_goals (conv=>whnf)
   all_goals
     (refine Exists.intro (mm-1) (Exists.intro V1 ⟨by omega,?_,i+1,by omega,(by rw [VJ];unfold QAa QpQ;dsimp only [Eg.V,Mc.C,Mc.D,Dk.C,Nk.C];simp only [Qah,zca,zna];rw [HR,FQ,gM])⟩)
      rw [VJ];dsimp only [Eg.V,Mc.C,Mc.D,Dk.C,Nk.C];simp only [Qah,zca,zna];rw [HR,FQ,gM];unfold QAa QpQ
      (exact zwL [(0,some 0),(1,some 1),(2,some 2),(3,some 3),(4,some 4),(5,some 5),(6,some 6),(7,some 7)]))
  .obtain rfl:i=bn:=by omega
   (repeat' ((conv=>whnf);first|exact zi2|(refine zj0 ?_;intro hb)|refine zse ?_|refine zbb ?_ ?_));all_goals (conv=>whnf)
   all_goals first|(apply Fin.mk (m:= [(0,some 0),(1,some 1),(2,some 2),(3,some 5),(4,some 6),(5,some 7)]);(focus exact rfl);(all_goals ((try (show HlS _ _ [] _));first|(exact aFi)|exact rfl)))
def Eg.z (E:Eg):Eg:=⟨E.M,E.T,E.B,[],0,false⟩
def QiA (M:Mc) (k:Nat):Nat:=min (min k 4000) (1152921504606846976-M.ct)
def QiL (E:Eg) (k:Nat):Eg × Nat:=Qm0 (QiA E.M k) (QiA E.M k) 0 E.z
theorem Qhb (l:List SV):∀ (c:List SV) (k:Nat),k+l.length<=c.length->QaC c k l=c.take k++(l++c.drop (k+l.length)):=by
 induction l with
 | nil=>intro c k h;show c=_;rw [zna];exact (List.take_append_drop k c).symm
 | cons a l ih =>
  intro c k h;rw [List.length_cons] at h;show QaC (c.set k a) (k+1) l=_;rw [ih _ _ (by rw [List.length_set];omega),List.length_cons,List.drop_set_of_lt (by omega),show k+1+l.length=k+(l.length+1) by omega]
  have:(c.set k a).take (k+1)=c.take k++ [a]:=by
   rw [List.take_add_one,List.take_set_of_le (Nat.le_refl k),List.getElem?_set_self (by omega)];rfl
  rw [this,List.append_assoc];rfl
theorem QCL {place:Nat->Option (Nat × Nat)} {c l:List SV} {a b d:SV} (h1:place 0=some (0,51)) (h2:l.length=51) (h3:c.length=54) (h4:c.drop 51= [a,b,d]):Qb2 place c [(0,l)]=some (l++ [a,b,d]):=by
 unfold Qb2;dsimp only;rw [h1];dsimp only;rw [h2,h3,Qhb l c 0 (by omega),h2,show 0+51=51 from rfl,h4];rfl
theorem QtK (fI:FN 251 [.s (.str ⟨#[0]⟩),.s (.i 128)] [] (. =⟨.a (.s (.str z128)),[],[]⟩))
  (gW:∀ (E:Eg) (lim:Nat),E.ok->Coh E->lim<18446744073709551616->FN 44 [.s (.ptr 0 0),.s (.w lim)] E.H (. =(Qee lim E).1.R (.a (.s (.w ((Qee lim E).2:Nat))))))
  (E:Eg) (hE:E.ok) (hm:QAj E=true) (hC:Coh E) (fK:QbQ E.M=true) (k:Nat) (hk:k<18446744073709551616) :
  FN 8 [.agg (E.V 0 1 2),.s (.w k)] [⟨false,1,wsv E.M.m⟩,⟨false,4,tes E.T⟩,⟨false,3,bks E.B⟩]
   (. =⟨.tup [.agg ((QiL E k).1.V 3 4 5),.s (.sl 6 0 (QiL E k).1.o.length),.s (.w ((QiL E k).2:Nat))],[],[⟨true,1,wsv (QiL E k).1.M.m⟩,⟨true,4,tes (QiL E k).1.T⟩,⟨true,3,bks (QiL E k).1.B⟩,⟨true,4,OLs (QiL E k).1.o⟩]⟩):=by
 have hz:E.z.ok:=⟨hE.M,hE.T,hE.tl,hE.B,hE.bl,(by unfold Qbn;exact fun l h=>by cases h),Nat.zero_le _,by show (0:Nat)<_;decide⟩;have UW:Coh E.z:=⟨hC.n,hC.T,hC.B⟩
 have qQ:E.M.ct<=1152921504606846976:=by
  have h:=fK;unfold QbQ at h;exact (of_decide_eq_true h).2.2.2.2.2.2.2.2.2.2.2.1
 have hL:QiA E.M k<=4000:=by unfold QiA;omega
 have ca:=Qzz fI gW E.z hz UW fK (min k 4000) (QiA E.M k) (by omega) rfl (by show 0+QiA E.M k<=_;omega) rfl;have hD:=Qin (QiA E.M k) (QiA E.M k) 0 E.z hz UW fK (Nat.zero_le _) (by omega) (by show E.M.ct+(QiA E.M k-0)<=_;unfold QiA;omega) (by show 0+(QiA E.M k-0)<=_;omega);have cm:=QxX E hE;rw [hm] at cm;have cc:=Qrr E hE;change Adv _ _ _ (QiL E k) at hD;change Fn _ _ _ _ (. =(QiL E k).1.Rn (.a (.s (.w ((QiL E k).2:Nat))))) at ca
 have m2:Qsv (k:Int) [4000]=((min k 4000:Nat):Int):=by
  show QzZ (k:Int) 4000=_;unfold QzZ;split<;>omega
 generalize min k 4000=k4 at *;have rok:=hD.ok;clear hD UW hC hz gW fI hm fK;generalize QiL E k=R at *;obtain ⟨R1,r2⟩:=R;dsimp only at rok ca |-;have rxl:=rok.M.x;have rcl:=rok.M.c;have exl:=hE.M.x;have ecl:=hE.M.c;have GH:=Qaa R1.M.m;have HK:=Qaf R1.T;have HO:=Qad R1.B;have FU:=(QaA rok.o).2.1;have jZ:=Qaa E.M.m;have jT:=Qaf E.T;have jY:=Qad E.B;clear rok hE;obtain ⟨⟨_,_,_,em,_,_,_,_,ef,en,_,_,_,_,_⟩,eT,eB,eo,_,es⟩:=E;cases ef;cases en;dsimp only at exl ecl;cases zC16 exl;cases zC8 ecl;obtain ⟨⟨_,_,rc,rm,_,_,_,_,rf,rn,_,_,_,_,_⟩,rT,rB,ro,_,_⟩:=R1;cases rf;cases rn;dsimp only at rxl rcl;cases zC16 rxl;cases zC8 rcl;dsimp only [Eg.z,Eg.Hn,Eg.Rn,Eg.V,Eg.C,Mc.C,Mc.D,Dk.C,Nk.C] at cm cc ca jZ jT jY GH HK HO FU |-;simp only [Qah,zca,zna] at cm cc ca |-;generalize ZM:wsv em=eXX,heT:tes eT=eTT,heB:bks eB=eBB,heO:OLs eo=eOO,em.length=emn,eT.length=etn,eB.length=ebn,eo.length=eon,hrX:wsv rm=rXX,hrT:tes rT=rTT,hrB:bks rB=rBB,hrO:OLs ro=rOO,rm.length=rmn,rT.length=rtn,rB.length=rbn,ro.length=ron at *;clear ZM heT heB heO hrX hrT hrB hrO;refine fnW Tryz.func8 ?_;(repeat' ((conv=>whnf);first|exact zi2|(refine zj0 ?_;intro hb)|((with_reducible apply Ge.mk (α:=List SV)); . exact QCL rfl rfl rfl rfl)|(with_reducible refine zv m2 ?_)|(refine Qp1 cm ?_)|(refine Qp1 cc ?_)|(refine QxJ ca ?_)|refine zse ?_|refine zbb ?_ ?_));all_goals (conv=>whnf)
 all_goals first|(apply Fin.mk (m:= [(0,some 0),(1,some 1),(2,some 2),(3,some 262336),(4,some 262337),(5,some 262338),(6,some 262339)]);(focus exact rfl);(all_goals ((try (show HlS _ _ [] _));first|(exact aFi)|exact rfl)))
theorem QE6:FN 40 [.s .nilsl] [] (. =⟨.a (.s .nilsl),[],[]⟩) :=
 Qa4 (show QcN eqt tys true fns QdU 100 20 40 [.s .nilsl] []=some ⟨.a (.s .nilsl),[],[]⟩ by kernel_rfl)
theorem QF6:FN 41 [.s .nilsl] [] (. =⟨.a (.s .nilsl),[],[]⟩) :=
 Qa4 (show QcN eqt tys true fns QdU 100 20 41 [.s .nilsl] []=some ⟨.a (.s .nilsl),[],[]⟩ by kernel_rfl)
theorem Qyn {place:Nat->Option (Nat × Nat)} {c l:List SV} {a b:SV} (h1:place 0=some (0,49)) (h2:l.length=49) (h3:c.length=51) (h4:c.drop 49= [a,b]):Qb2 place c [(0,l)]=some (l++ [a,b]):=by
 unfold Qb2;dsimp only;rw [h1];dsimp only;rw [h2,h3,Qhb l c 0 (by omega),h2,show 0+49=49 from rfl,h4];rfl
def Mc.N (M:Mc) (k:Nat):List SV:=M.C k++ [.nilsl,.nilsl]
theorem Qn3 (M:Mc) (hM:M.ok):FN 17 [.agg (M.N 0)] [⟨false,1,wsv M.m⟩] (. =⟨.a (.agg (M.N 1)),[],[⟨true,1,wsv M.m⟩]⟩):=by
 have k1:=QbH M.m _ rfl (by have:=hM.ml;omega);have k2:=QE6;have k3:=QF6;have gL:=Qaa M.m;unfold Mc.N;obtain ⟨hx,hc,hY,gA,_,gB,_,gE,gD,gF⟩:=hM;obtain ⟨_,_,_,m,_,_,_,_,d,n⟩:=M;dsimp only at *;cases zC16 hx;cases zC8 hc;cases d;cases n;dsimp only [Mc.C,Mc.D,Dk.C,Nk.C,Dk.ok,Nk.ok] at *;generalize m.length=nn,wsv m=XX at *;clear hY gA gE gD gB gF;refine fnW Tryz.func17 ?_;(repeat' ((conv=>whnf);first|exact zi2|(refine zj0 ?_;intro hb)|(refine QaD k1 ?_)|(refine zpu k2 ?_)|(refine zpu k3 ?_)|refine zse ?_|refine zbb ?_ ?_));all_goals (conv=>whnf)
 refine Lp.unroll 1 ?_;(repeat' ((conv=>whnf);first|exact zi2|(refine zj0 ?_;intro hb)|refine zse ?_|refine zbb ?_ ?_))
 all_goals exact QfE
theorem QDU (M:Mc) (hM:M.ok):FN 6 [.agg (M.C 0)] [⟨false,1,wsv M.m⟩] (. =⟨.a (.agg (M.N 1)),[],[⟨true,1,wsv M.m⟩]⟩):=by
 have k1:=Qn3 M hM;have gL:=Qaa M.m;unfold Mc.N at *;obtain ⟨hx,hc,hY,gA,_,gB,_,gE,gD,gF⟩:=hM;obtain ⟨_,_,_,m,_,_,_,_,d,n⟩:=M;dsimp only at *;cases zC16 hx;cases zC8 hc;cases d;cases n;dsimp only [Mc.C,Mc.D,Dk.C,Nk.C,Dk.ok,Nk.ok] at *;generalize m.length=nn,wsv m=XX at *;clear hY gA gE gD gB gF;refine fnW Tryz.func6 ?_;(repeat' ((conv=>whnf);first|exact zi2|(refine zj0 ?_;intro hb)|((with_reducible apply Ge.mk (α:=List SV)); . exact Qyn rfl rfl rfl rfl)|(refine QaD k1 ?_)|refine zse ?_|refine zbb ?_ ?_))
 all_goals exact QfE
end Go.Proofs.YtflelebfmdggkaaGreat
