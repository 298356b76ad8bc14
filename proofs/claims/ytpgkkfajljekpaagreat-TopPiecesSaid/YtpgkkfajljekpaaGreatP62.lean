import Derived.Test.YtpgkkfajljekpaaGreatP51
set_option linter.unusedSimpArgs false
set_option linter.unusedVariables false
set_option maxHeartbeats 0
set_option maxRecDepth 100000
namespace Go.Proofs.YtpgkkfajljekpaaGreat
open Go Go.RowKit
structure Ag (lim n:Nat) (E Z:Eg) (z:Nat):Prop where
 (ok:E.ok) (coh:Coh E) (may:QbK E.M=true) (le:n<=lim) (ct:E.M.ct+(lim-n)<=1152921504606846976) (ol:E.o.length+(lim-n)<=900000) (run:∃ k,lim-n<=k/\QmW k lim n E=(Z,z))
theorem QAP {lim n:Nat} {E Z:Eg} {z:Nat} (h:Ag lim n E Z z) (hc:¬ (n<lim/\Qog E.M=false)):Z=E/\z=n:=by
 obtain ⟨k,_,hk⟩:=h.run
 cases k with
 | zero=>change (E,n)=(Z,z) at hk;injection hk with h1 h2;exact ⟨h1.symm,h2.symm⟩
 | succ k=>unfold QmW at hk;rw [zN hc] at hk;injection hk with h1 h2;exact ⟨h1.symm,h2.symm⟩
theorem QAQ {lim n:Nat} {E Z:Eg} {z:Nat} (h:Ag lim n E Z z) (hc:n<lim/\Qog E.M=false) :
  (Qfe (lim-n) E).1.ok/\Coh (Qfe (lim-n) E).1/\(Qfe (lim-n) E).2<=lim-n/\(Qfe (lim-n) E).1.o.length<900000 /\
  ((Qfe (lim-n) E).2=0->Ag lim (n+1) (sgl 0 (Qfe (lim-n) E).1) Z z)/\((Qfe (lim-n) E).2≠0->Ag lim (n+(Qfe (lim-n) E).2) (Qfe (lim-n) E).1 Z z):=by
 obtain ⟨hE,hC,hm,_,_,_,k,_,hk⟩:=h
 cases k with
 | zero=>omega
 | succ k =>
 unfold QmW at hk;rw [zP hc] at hk;obtain ⟨p1,p2,p3,_⟩:=Qji hm hc.2;have hR:=QrB E hE hC hm p3 (lim-n) (by omega);generalize Qfe (lim-n) E=R at *;obtain ⟨r1,r2,r3,r4,r5,r6⟩:=hR;have vR:R.1.o.length<900000:=by rw [r4];omega
 refine ⟨r2,r3,r1,vR,fun h0=>?_,fun h0=>?_⟩
 .rw [zP h0] at hk
  obtain ⟨z1,z2,_⟩:=r6 h0;obtain ⟨s1,s2,s3,s4⟩:=QrQ R.1 r2 r3 vR 0 (by decide);have gN:QbS R.1.M 0=Qa0 E.M 0:=by unfold QbS;rw [z2,p1,zN (by decide),z1]
  rw [gN] at s3 s4;rw [r4] at s4;have hrun:QmV 1 E.M (Qa0 E.M 0).2.toList (sgl 0 R.1).M:=by rw [s3];exact QmA p1 p2 rfl
  obtain ⟨_,m2,_⟩:=QeX hE.M hm hrun
  have qK:(sgl 0 R.1).o.length<=E.o.length+1:=by
   rw [s4,zla]
   cases (Qa0 E.M 0).2 with
   | none=>show _+0<=_;omega
   | some l=>show _+1<=_;omega
  exact ⟨s1,s2,m2,by omega,by omega,by omega,k,by omega,hk⟩
 .rw [zN h0] at hk
  have hrun:=QrC (r5 (by omega));obtain ⟨_,m2,_⟩:=QeX hE.M hm hrun;exact ⟨r2,r3,m2,by omega,by omega,by rw [r4];omega,k,by omega,hk⟩
def Eg.Hn (E:Eg):List Row:= [⟨true,1,E.M.C 1++ [.sl 2 0 E.T.length,.sl 3 0 E.B.length,.nilsl,.i E.f,.bool E.s]⟩,⟨true,1,wsv E.M.m⟩,⟨true,4,tes E.T⟩,⟨true,3,bks E.B⟩]
def Eg.Rn (E:Eg) (v:TV):Res:=⟨v,[(0,some ⟨true,1,E.C 4 5 6 7⟩),(1,none),(2,none),(3,none)],[⟨true,1,wsv E.M.m⟩,⟨true,4,tes E.T⟩,⟨true,3,bks E.B⟩,⟨true,4,OLs E.o⟩]⟩
def QsN (lim n:Nat) (C0 X T B O:List SV):St :=
 ⟨[(0,.a (.s (.ptr 0 0))),(1,.a (.s (.w lim))),(5,.a (.s (.w n)))],
  [(0,some ⟨true,1,C0⟩),(1,none),(2,none),(3,none),(4,some ⟨true,1,X⟩),(5,some ⟨true,4,T⟩),(6,some ⟨true,3,B⟩),(7,some ⟨true,4,O⟩)],[0]⟩
theorem Qws (fG:FN 133 [.s (.str ⟨#[0]⟩),.s (.i 128)] [] (. =⟨.a (.s (.str z128)),[],[]⟩))
  (hrun:∀ (E:Eg) (lim:Nat),E.ok->Coh E->lim<18446744073709551616->FN 74 [.s (.ptr 0 0),.s (.w lim)] E.H (. =(Qfe lim E).1.R (.a (.s (.w ((Qfe lim E).2:Nat))))))
  (E:Eg) (hE:E.ok) (hC:Coh E) (hm:QbK E.M=true) (lim0 lim:Nat) (WN:lim0<18446744073709551616) (qV:lim=min lim0 (1152921504606846976-E.M.ct)) (vR:E.o.length+lim<=900000) (zV:E.o= []) :
  FN 27 [.s (.ptr 0 0),.s (.w lim0)] E.Hn (. =(QmW lim lim 0 E).1.Rn (.a (.s (.w ((QmW lim lim 0 E).2:Nat))))):=by
 have qN:E.M.ct<=1152921504606846976:=by
  have h:=hm;unfold QbK at h;exact (of_decide_eq_true h).2.2.2.2.2.2.2.2.2.2.2.1
 have m1:IntKind.u64.wrap ((1152921504606846976:Int)-(E.M.ct:Int))=((1152921504606846976-E.M.ct:Nat):Int):=QdE
 have m2:QsG (lim0:Int) [((1152921504606846976-E.M.ct:Nat):Int)]=(lim:Nat):=by
  show QAx (lim0:Int) _=_;unfold QAx;split<;>omega
 have FJ:lim<18446744073709551616:=by omega
 obtain ⟨⟨Z,z⟩,hZ⟩:∃ r,QmW lim lim 0 E=r:=⟨_,rfl⟩;rw [hZ];dsimp only;have hA:Ag lim 0 E Z z:=⟨hE,hC,hm,Nat.zero_le _,by omega,vR,lim,Nat.le_refl _,hZ⟩;clear hZ hC hm;have fH:=Qaa E.M.m;have gY:=Qah E.T;have fI:=Qae E.B;have qM:=(QaA hE.o).2.1;have uxl:=hE.M.x;have ucl:=hE.M.c;obtain ⟨K0,hK0⟩:∃ K0,QsN lim 0 (E.C 4 5 6 7) (wsv E.M.m) (tes E.T) (bks E.B) (OLs E.o)=K0:=⟨_,rfl⟩;have hI:∃ (E:Eg) (n:Nat),lim+n=lim/\Ag lim n E Z z/\K0=QsN lim n (E.C 4 5 6 7) (wsv E.M.m) (tes E.T) (bks E.B) (OLs E.o):=⟨E,0,rfl,hA,hK0.symm⟩;clear hA hE;obtain ⟨⟨_,_,_,um,_,_,_,_,uf,un,_,_,_,_,_⟩,uT,uB,_,_,_⟩:=E;cases uf;cases un;dsimp only at uxl ucl;cases QJP uxl;cases zC8 ucl;dsimp only [Eg.H,Eg.Hn,Eg.R,Eg.Rn,Eg.C,Mc.C,Mc.D,Dk.C,Nk.C] at fH gY fI qM qN m1 m2 hK0 |-;simp only [Qaf,zca,zna] at hK0 |-;subst zV;generalize wsv um=uXX,tes uT=uTT,bks uB=uBB at *;rw [show OLs []=([]:List SV) from rfl] at qM hK0;generalize um.length=umn,uT.length=utn,uB.length=ubn at *;simp only [List.length_nil] at hK0;clear vR;refine fnW Tryz.func27 ?_;(repeat' ((conv=>whnf);first|exact zi2|(refine zj0 ?_;intro hb)|(with_reducible first|refine zv m1 ?_|refine zv m2 ?_)|refine zse ?_|refine zbb ?_ ?_));all_goals (conv=>whnf)
 all_goals
  refine Lp.inv (fun mm σ=>∃ (E:Eg) (n:Nat),mm+n=lim/\Ag lim n E Z z/\σ=QsN lim n (E.C 4 5 6 7) (wsv E.M.m) (tes E.T) (bks E.B) (OLs E.o)) ?_ ?_
  .refine ⟨lim,K0,?_,hI⟩
   rw [<- hK0];unfold QsN
   first|(exact zwV [(0,some 0),(1,some 1),(2,some 2),(3,some 3),(4,some 1),(5,some 2),(6,some 3),(7,none)])
  rintro mm σ ⟨E,n,hmn,hA,rfl⟩;unfold QsN;have ce:=Qth E hA.ok;have exl:=hA.ok.M.x;have ecl:=hA.ok.M.c;have wH:=Qaa E.M.m;have wI:=Qah E.T;have wJ:=Qae E.B;have yL:=(QaA hA.ok.o).2.1;have q3:IntKind.u64.wrap ((lim:Int)-(n:Int))=((lim-n:Nat):Int):=by have:=hA.le;rw [QuW (by omega) (by omega)];omega
  have q1:IntKind.u64.wrap ((n:Int)+(1:Int))=((n+1:Nat):Int):=by have:=hA.le;rw [QuW (by omega) (by omega)];omega
  by_cases hc:n<lim/\Qog E.M=false
  case neg =>
   obtain ⟨e1,e2⟩:=QAP hA hc;subst e1 e2;generalize Qog Z.M=bE at *;clear hA hrun fG hI hK0;obtain ⟨⟨_,_,_,em,_,_,_,_,ef,en,_,_,_,_,_⟩,eT,eB,eo,_,_⟩:=Z;cases ef;cases en;dsimp only at exl ecl;cases QJP exl;cases zC8 ecl;dsimp only [Eg.H,Eg.Hn,Eg.R,Eg.Rn,Eg.C,Mc.C,Mc.D,Dk.C,Nk.C] at ce wH wI wJ yL |-;simp only [Qaf,zca,zna] at ce |-;generalize ZS:wsv em=eXX,heT:tes eT=eTT,heB:bks eB=eBB,heO:OLs eo=eOO,hemn:em.length=emn,hetn:eT.length=etn,hebn:eB.length=ebn,heon:eo.length=eon at *;(repeat' ((conv=>whnf);first|exact zi3|(refine zj0 ?_;intro hb)|(refine Qaw ce ?_)|refine zse ?_|refine zbb ?_ ?_));all_goals (conv=>whnf)
   all_goals first|(exfalso;simp_all;omega)|(apply Fin.mv (m:= [(0,some 0),(1,some 1),(2,some 2),(3,some 3),(4,some 4),(5,some 5),(6,some 6),(7,some 7)]);(focus exact rfl);(all_goals ((try (show QcL _ _ _ [] _));first|exact aFi|exact rfl)))
  obtain ⟨a1,a2,a3,a4,a5,a6⟩:=QAQ hA hc;have jY:=hA.le;have cr:=hrun E (lim-n) hA.ok hA.coh (by omega);have csg:=QrT fG (Qfe (lim-n) E).1 a1 a4 0 (by decide);rw [hc.2] at ce;have gT:=hc.1;clear hc hrun fG hI hK0 a2;generalize Qfe (lim-n) E=R at *;obtain ⟨R1,r2⟩:=R;dsimp only at a1 a3 a4 a5 a6 cr csg;have q2:IntKind.u64.wrap ((n:Int)+(r2:Int))=((n+r2:Nat):Int):=QdE;have rxl:=a1.M.x;have rcl:=a1.M.c;have HH:=Qaa R1.M.m;have GS:=Qah R1.T;have GT:=Qae R1.B;have KR:=(QaA a1.o).2.1
  by_cases h0:r2=0
  .have hA2:=a5 h0
   have b1:=hA2.ok;subst h0;have GM:∃ E2:Eg,Ag lim (n+1) E2 Z z/\E2=sgl 0 R1:=⟨_,hA2,rfl⟩;obtain ⟨E2,g1,g4⟩:=GM;clear a5 a6 hA2 hA a1;generalize sgl 0 R1=S at *;have sxl:=b1.M.x;have scl:=b1.M.c;have hsS1:=Qaa S.M.m;have hsS2:=Qah S.T;have hsS3:=Qae S.B;have hsS4:=(QaA b1.o).2.1;clear b1;obtain ⟨⟨_,_,_,em,_,_,_,_,ef,en,_,_,_,_,_⟩,eT,eB,eo,_,_⟩:=E;cases ef;cases en;dsimp only at exl ecl;cases QJP exl;cases zC8 ecl;obtain ⟨⟨_,_,_,rm,_,_,_,_,rf,rn,_,_,_,_,_⟩,rT,rB,ro,_,_⟩:=R1;cases rf;cases rn;dsimp only at rxl rcl;cases QJP rxl;cases zC8 rcl;obtain ⟨⟨_,_,_,sm,_,_,_,_,sf,sn,_,_,_,_,_⟩,sT,sB,so,_,_⟩:=S;cases sf;cases sn;dsimp only at sxl scl;cases QJP sxl;cases zC8 scl;dsimp only [Eg.H,Eg.Hn,Eg.R,Eg.Rn,Eg.C,Mc.C,Mc.D,Dk.C,Nk.C] at ce cr csg wH wI wJ yL HH GS GT KR hsS1 hsS2 hsS3 hsS4 |-;simp only [Qaf,zca,zna] at ce cr csg |-;generalize ZS:wsv em=eXX,heT:tes eT=eTT,heB:bks eB=eBB,heO:OLs eo=eOO,hemn:em.length=emn,hetn:eT.length=etn,hebn:eB.length=ebn,heon:eo.length=eon,hrX:wsv rm=rXX,hrT:tes rT=rTT,hrB:bks rB=rBB,hrO:OLs ro=rOO,hrmn:rm.length=rmn,hrtn:rT.length=rtn,hrbn:rB.length=rbn,hron:ro.length=ron,YZ:wsv sm=sXX,UK:tes sT=sTT,WT:bks sB=sBB,hsO:OLs so=sOO,hsmn:sm.length=smn,hstn:sT.length=stn,hsbn:sB.length=sbn,hson:so.length=son at *;(repeat' ((conv=>whnf);first|exact zi3|(refine zj0 ?_;intro hb)|(with_reducible first|refine zv q3 ?_|refine zv q1 ?_)|(refine Qaw ce ?_)|(refine Qaw cr ?_)|(refine Qaw csg ?_)|refine zse ?_|refine zbb ?_ ?_));all_goals (conv=>whnf)
   all_goals first
    | (exfalso;simp at hb;omega)
    | (exfalso;simp at hb;done)
    | (
      refine ⟨mm-1,QsN lim (n+1) (E2.C 4 5 6 7) (wsv E2.M.m) (tes E2.T) (bks E2.B) (OLs E2.o),by omega,?_,E2,n+1,by omega,g1,rfl⟩;rw [g4];unfold QsN;dsimp only [Eg.C,Mc.C,Mc.D,Dk.C,Nk.C];simp only [Qaf,zca,zna];rw [YZ,UK,WT,hsO,hsmn,hstn,hsbn,hson]
      (exact zwV [(0,some 0),(1,some 1),(2,some 2),(3,some 3),(4,some 262208),(5,some 262209),(6,some 262210),(7,some 262211)]))
  .have hA2:=a6 h0
   have h0':¬ ((r2:Nat):Int)=0:=by omega
   have hr2:0<r2:=by omega
   have GM:∃ E2:Eg,Ag lim (n+r2) E2 Z z/\E2=R1:=⟨_,hA2,rfl⟩;obtain ⟨E2,g1,g4⟩:=GM;clear a5 a6 hA2 hA a1 csg;obtain ⟨⟨_,_,_,em,_,_,_,_,ef,en,_,_,_,_,_⟩,eT,eB,eo,_,_⟩:=E;cases ef;cases en;dsimp only at exl ecl;cases QJP exl;cases zC8 ecl;obtain ⟨⟨_,_,_,rm,_,_,_,_,rf,rn,_,_,_,_,_⟩,rT,rB,ro,_,_⟩:=R1;cases rf;cases rn;dsimp only at rxl rcl;cases QJP rxl;cases zC8 rcl;dsimp only [Eg.H,Eg.Hn,Eg.R,Eg.Rn,Eg.C,Mc.C,Mc.D,Dk.C,Nk.C] at ce cr wH wI wJ yL HH GS GT KR |-;simp only [Qaf,zca,zna] at ce cr |-;generalize ZS:wsv em=eXX,heT:tes eT=eTT,heB:bks eB=eBB,heO:OLs eo=eOO,hemn:em.length=emn,hetn:eT.length=etn,hebn:eB.length=ebn,heon:eo.length=eon,hrX:wsv rm=rXX,hrT:tes rT=rTT,hrB:bks rB=rBB,hrO:OLs ro=rOO,hrmn:rm.length=rmn,hrtn:rT.length=rtn,hrbn:rB.length=rbn,hron:ro.length=ron at *;(repeat' ((conv=>whnf);first|exact zi3|(refine zj0 ?_;intro hb)|(with_reducible first|refine zv q3 ?_|refine zv q2 ?_)|(refine Qaw ce ?_)|(refine Qaw cr ?_)|refine zse ?_|refine zbb ?_ ?_));all_goals (conv=>whnf)
   all_goals first
    | (exfalso;simp at hb;omega)
    | (exfalso;simp at hb;done)
    | (
      refine ⟨mm-r2,QsN lim (n+r2) (E2.C 4 5 6 7) (wsv E2.M.m) (tes E2.T) (bks E2.B) (OLs E2.o),by omega,?_,E2,n+r2,by omega,g1,rfl⟩;rw [g4];unfold QsN;dsimp only [Eg.C,Mc.C,Mc.D,Dk.C,Nk.C];simp only [Qaf,zca,zna];rw [hrX,hrT,hrB,hrO,hrmn,hrtn,hrbn,hron]
      (exact zwV [(0,some 0),(1,some 1),(2,some 2),(3,some 3),(4,some 131328),(5,some 131329),(6,some 131330),(7,some 131331)]))
def Eg.V (E:Eg) (a b c:Nat):List SV:=E.M.C a++ [.sl b 0 E.T.length,.sl c 0 E.B.length]
open Classical in
noncomputable def QAw (E:Eg):Bool:=QbK E.M&&(Qh1 E.T E.M.m E.M.m.length (cR E.M)&&decide (Qho E.M.m E.M.m.length E.B))
theorem Qxd (E:Eg) (hE:E.ok):FN 25 [.agg (E.V 0 1 2)] [⟨false,1,wsv E.M.m⟩,⟨false,4,tes E.T⟩,⟨false,3,bks E.B⟩] (. =⟨.a (.s (.bool (QAw E))),[],[]⟩):=by
 have c1:=QkB E.M hE.M;have gI:=hE.M.ml;have c2:=QkF E.T _ rfl (by have:=hE.tl;omega) hE.T E.M.m _ (cR E.M) rfl (by omega) hE.M.mr (Qab hE.M.cr 6);have c3:=Qh2 E.M.m _ rfl (by omega) hE.M.mr E.B _ rfl (by have:=hE.bl;omega) hE.B (@decide (Qho E.M.m E.M.m.length E.B) (Classical.propDecidable _)) (@decide_eq_true_iff (Qho E.M.m E.M.m.length E.B) (Classical.propDecidable _));obtain ⟨R,hR⟩:∃ R,QAw E=R:=⟨_,rfl⟩;rw [hR];unfold QAw at hR;generalize QbK E.M=b1,Qh1 E.T E.M.m E.M.m.length (cR E.M)=b2,@decide (Qho E.M.m E.M.m.length E.B) (Classical.propDecidable _)=b3 at *;have fH:=Qaa E.M.m;have gY:=Qah E.T;have fI:=Qae E.B;obtain ⟨hM,hT,_,hB,_,ho,_,_⟩:=hE;obtain ⟨M,T,B,_,_,s⟩:=E;dsimp only [Eg.V] at *;obtain ⟨hx,hc,hY,gA,gH,gB,gI,gD,gE,gF⟩:=hM;obtain ⟨_,_,_,m,_,_,_,_,d,n⟩:=M;dsimp only at *;cases QJP hx;obtain ⟨_,c1,c2,c3,_,_,_,_,rfl⟩:=Qek hc;cases d;cases n;dsimp only [Mc.C,Mc.D,Dk.C,Nk.C,Dk.ok,Nk.ok] at *
 try dsimp only [cR,Mc.C,Mc.D,Dk.C,Nk.C] at *
 try simp only [Qaf,zca,zna,List.getD_cons_succ,List.getD_cons_zero] at *
 generalize gO:wsv m=XX,hX3:bks B=BB,gJ:m.length=nn,gM:B.length=bn,gU:tes T=TT,htn:T.length=tn at *;clear gO gU hX3 gJ gM htn hT hB ho hY gA gH gB gI gD gE gF;cases b1<;>cases b2
 all_goals
  refine fnW Tryz.func25 ?_;(repeat' ((conv=>whnf);first|exact zi2|(refine zj0 ?_;intro hb)|(refine Qaz c1 ?_)|(refine QiN c2 ?_)|(refine QiN c3 ?_)|refine zse ?_|refine zbb ?_ ?_));all_goals (conv=>whnf)
  all_goals first
   | (refine QcF ?_ ?_;(focus (exact Qsz));rw [<- hR];first|rfl|(simp;done))
end Go.Proofs.YtpgkkfajljekpaaGreat
namespace Go.Proofs.YtpgkkfajljekpaaGreat
open Go Go.RowKit
theorem Qm8 (l:List Mz) (N:Nat) (hN:l.length=N) (fO:N<=1000000):FN 72 [.s (.fz 6 N (mzs l))] [] (. =⟨.a (.s (.fz 6 N (mzs l))),[],[]⟩):=by
 refine QBM (Qi8 l N hN fO) ?_;refine Fin.fr (c:=0) (es:=6) (cells:=mzs l) rfl (Qf8 l) ?_;refine Fin.mk ⟨.a (.s (.fz 6 N (mzs l))),[],[]⟩ [] rfl ?_ ?_ rfl
 .exact QcJ (Qcu (QaJ rfl))
 .exact QaK
theorem Qm0 {t:List Bk} (h:t.length=0):bks t= []:=by rw [List.eq_nil_of_length_eq_zero h];rfl
theorem QmZ (t:List Bk) (N:Nat) (hN:t.length=N) (fO:N<=1000000):FN 71 [.s (.sl 0 0 N)] [⟨false,3,bks t⟩] (. =⟨.a (.s (.sl 1 0 N)),[],[⟨true,3,bks t⟩]⟩):=by
 have gN:=Qae t;have UG:=QeC t;have gT:=QcC t;have hnl:=@Qm0 t;generalize bks t=TT at *;refine fnW Tryz.func71 ?_;(repeat' ((conv=>whnf);first|exact zi0|(refine zj0 ?_;intro hb)|(refine Ns.any rfl ?_;intro bn gM)|(apply Sk.mk; . exact Qc8 TT (by show TT.length=N*3;rw [gT,hN]) UG)|(apply Sd.mk; . refine ⟨rfl,rfl,rfl,?_,?_⟩<;>first|omega|(show (0+N)*40<=_;omega))|refine QFd ?_|((with_reducible apply Vl.mk (α:=List SV)); . exact zna TT)|refine zs0 ?_|refine zbb ?_ ?_));all_goals (conv=>whnf)
 .obtain rfl:N=0:=gM hb
  obtain rfl:=hnl hN
  (exact Qn6)
 ·(exact QbG)
def Qsy:List SV:= [.u 0,.u 0,.u 0,.u 0,.u 0,.u 0,.u 0,.u 0,.u 0,.u 0,.u 0,.u 0,.u 0,.u 0,.u 0,.u 0,
 .u 0,.u 0,.u 0,.u 0,.u 0,.u 0,.u 0,.u 0,.u 0,.nilsl,.str ⟨#[]⟩,.bool false,.u 0,.bool false,
 .u 0,.u 0,.u 0,.i 0,.i 0,.u 0,.u 0,.str ⟨#[]⟩,.u 0,.u 0,.bool false,.u 0,.bool false,.u 0,
 .u 0,.u 0,.w 0,.bool false,.bool false,.nilsl,.nilsl]
def QAo (N i:Nat) (V X T B:List SV):St :=
 ⟨[(1,.a (.s (.ptr 3 0))),(2,.a (.s (.ptr 4 0))),(20,.a (.s (.sl 7 0 N))),(21,.a (.s (.i N))),(22,.a (.s (.i i)))],
  [(0,some ⟨false,1,X⟩),(1,some ⟨false,4,T⟩),(2,some ⟨false,3,B⟩),(3,some ⟨true,1,V⟩),(4,some ⟨true,1,Qsy⟩),(5,some ⟨true,1,X⟩),(6,some ⟨true,4,T⟩),(7,some ⟨true,3,B⟩)],[0]⟩
theorem set_same {l:List SV} {j:Nat} {v:SV} (h:l[j]?=some v):l.set j v=l:=by
 apply List.ext_getElem?;intro i;rw [List.getElem?_set];split
 .rename_i e
  subst e;split
  .exact h.symm
  .rename_i h1
   rw [List.getElem?_eq_none (by omega)] at h;cases h
 .rfl
theorem Qo3 (E:Eg) (hE:E.ok):FN 26 [.agg (E.V 0 1 2)] [⟨false,1,wsv E.M.m⟩,⟨false,4,tes E.T⟩,⟨false,3,bks E.B⟩] (. =⟨.a (.agg (E.V 3 4 5)),[],[⟨true,1,wsv E.M.m⟩,⟨true,4,tes E.T⟩,⟨true,3,bks E.B⟩]⟩):=by
 have gI:=hE.M.ml;have k1:=Qbt E.M.m _ rfl (by omega);have k2:=QeZ E.T _ rfl (by have:=hE.tl;omega);have k3:=QmZ E.B _ rfl (by have:=hE.bl;omega);have fH:=Qaa E.M.m;have gY:=Qah E.T;have fI:=Qae E.B;have jN:=Qdl E.B;have hbb:=QcC E.B;have hbl16:=hE.bl;obtain ⟨hM,hT,_,hB,_,ho,_,_⟩:=hE;obtain ⟨M,T,B,o,f,s⟩:=E;dsimp only [Eg.V] at *;obtain ⟨hx,hc,hY,gA,gH,gB,gI,gD,gE,gF⟩:=hM;obtain ⟨_,pc,_,m,ks,ta,td,tf,d,n,bt,bg,ct,wt,ht⟩:=M;dsimp only at *;obtain ⟨x0,x1,x2,x3,x4,x5,x6,x7,x8,x9,x10,x11,x12,x13,x14,x15,rfl⟩:=QdY hx;obtain ⟨c0,c1,c2,c3,c4,c5,c6,c7,rfl⟩:=Qek hc;obtain ⟨dd0,dd1,dd2,dd3,dd4,dd5,dd6,dd7⟩:=d;obtain ⟨n0,n1,n2,n3,n4,n5⟩:=n;dsimp only [Mc.C,Mc.D,Dk.C,Nk.C,Dk.ok,Nk.ok] at *
 try dsimp only [cR,Mc.C,Mc.D,Dk.C,Nk.C] at *
 try simp only [Qaf,zca,zna,List.getD_cons_succ,List.getD_cons_zero] at *
 generalize gO:wsv m=XX,hX3:bks B=BB,GN:m.length=nn,gM:B.length=bn,gU:tes T=TT,KT:T.length=tn at *;clear gO gU hX3 hT ho hY gA gH gB gI gD gE gF;refine fnW Tryz.func26 ?_;(repeat' ((conv=>whnf);first|exact zi2|(refine zj0 ?_;intro hb)|(refine Qaz k1 ?_)|(refine Qaz k2 ?_)|(refine Qaz k3 ?_)|refine zse ?_|refine zbb ?_ ?_));all_goals (conv=>whnf)
 all_goals
  refine Lp.inv (fun mm σ=>∃ i,mm+i=bn/\σ=QAo bn i (Eg.V ⟨⟨[x0,x1,x2,x3,x4,x5,x6,x7,x8,x9,x10,x11,x12,x13,x14,x15],pc,[c0,c1,c2,c3,c4,c5,c6,c7],m,ks,ta,td,tf,⟨dd0,dd1,dd2,dd3,dd4,dd5,dd6,dd7⟩,⟨n0,n1,n2,n3,n4,n5⟩,bt,bg,ct,wt,ht⟩,T,B,o,f,s⟩ 5 6 7) XX TT BB) ?_ ?_
  .refine ⟨bn,_,?_,0,by omega,rfl⟩
   dsimp only [Eg.V,Mc.C,Mc.D,Dk.C,Nk.C];simp only [Qaf,zca,zna];rw [GN,KT,gM];unfold QAo Qsy
   first|(exact zwL [(0,some 0),(1,some 1),(2,some 2),(3,some 65536),(4,some 65600),(5,some 131264),(6,some 196736),(7,some 262272)])
  rintro mm σ ⟨i,zT,rfl⟩;have GO:∃ V1,V1=QAo bn (i+1) (Eg.V ⟨⟨[x0,x1,x2,x3,x4,x5,x6,x7,x8,x9,x10,x11,x12,x13,x14,x15],pc,[c0,c1,c2,c3,c4,c5,c6,c7],m,ks,ta,td,tf,⟨dd0,dd1,dd2,dd3,dd4,dd5,dd6,dd7⟩,⟨n0,n1,n2,n3,n4,n5⟩,bt,bg,ct,wt,ht⟩,T,B,o,f,s⟩ 5 6 7) XX TT BB:=⟨_,rfl⟩;obtain ⟨V1,WE⟩:=GO;unfold QAo Qsy;dsimp only [Eg.V,Mc.C,Mc.D,Dk.C,Nk.C];simp only [Qaf,zca,zna];rw [GN,KT,gM]
  by_cases hi:i<bn
  .obtain ⟨b,hb⟩:∃ b,B[i]?=some b:=⟨B[i]'(by omega),zgg (by omega)⟩
   have seg:=jN i b hb;obtain ⟨hA,hl,hk⟩:=hB b (List.mem_of_getElem? hb);obtain ⟨_,_,l⟩:=b;have cl:=Qm8 l _ rfl hl;dsimp only [Bk.C] at seg cl;have q2:IntKind.i64.wrap ((i:Int)+1)=((i+1:Nat):Int):=QaR;have ix3:0+((i:Nat):Int).toNat * ty153.size=i*3:=Qz6;have gN:QaC BB (i*3+(2,114).fst) [.fz 6 l.length (mzs l)]=BB:=set_same (seg.2 2 _ rfl);clear hk hb hB hl hA jN;generalize l.length=NL,mzs l=MM at *;(repeat' ((conv=>whnf);first|exact zi2|(refine zj0 ?_;intro hb)|refine QiQ ?_|((with_reducible apply Vl.mk (α:=Nat)); . with_reducible exact ix3)|((with_reducible apply Vl.mk (α:=List SV)); . exact gN)|(apply Sd.mk; . exact ⟨rfl,rfl,rfl,(show i*3+2+1<=BB.length by omega)⟩)|refine QfN ?_|(refine zpu cl ?_)|refine Qex ?_|refine zse ?_|refine zbb ?_ ?_));all_goals (conv=>whnf)
   all_goals
     (refine Exists.intro (mm-1) (Exists.intro V1 ⟨by omega,?_,i+1,by omega,(by rw [WE];unfold QAo Qsy;dsimp only [Eg.V,Mc.C,Mc.D,Dk.C,Nk.C];simp only [Qaf,zca,zna];rw [GN,KT,gM])⟩)
      rw [WE];dsimp only [Eg.V,Mc.C,Mc.D,Dk.C,Nk.C];simp only [Qaf,zca,zna];rw [GN,KT,gM];unfold QAo Qsy
      (exact zwL [(0,some 0),(1,some 1),(2,some 2),(3,some 3),(4,some 4),(5,some 5),(6,some 6),(7,some 7)]))
  .obtain rfl:i=bn:=by omega
   (repeat' ((conv=>whnf);first|exact zi2|(refine zj0 ?_;intro hb)|refine zse ?_|refine zbb ?_ ?_));all_goals (conv=>whnf)
   all_goals first|(apply Fin.mk (m:= [(0,some 0),(1,some 1),(2,some 2),(3,some 5),(4,some 6),(5,some 7)]);(focus exact rfl);(all_goals ((try (show HlS _ _ [] _));first|(exact aFi)|exact rfl)))
def Eg.z (E:Eg):Eg:=⟨E.M,E.T,E.B,[],0,false⟩
def QiP (M:Mc) (k:Nat):Nat:=min (min k 4000) (1152921504606846976-M.ct)
def QnT (E:Eg) (k:Nat):Eg × Nat:=QmW (QiP E.M k) (QiP E.M k) 0 E.z
theorem QhJ (l:List SV):∀ (c:List SV) (k:Nat),k+l.length<=c.length->QaC c k l=c.take k++(l++c.drop (k+l.length)):=by
 induction l with
 | nil=>intro c k h;show c=_;rw [zna];exact (List.take_append_drop k c).symm
 | cons a l ih =>
  intro c k h;rw [List.length_cons] at h;show QaC (c.set k a) (k+1) l=_;rw [ih _ _ (by rw [List.length_set];omega),List.length_cons,List.drop_set_of_lt (by omega),show k+1+l.length=k+(l.length+1) by omega]
  have:(c.set k a).take (k+1)=c.take k++ [a]:=by
   rw [List.take_add_one,List.take_set_of_le (Nat.le_refl k),List.getElem?_set_self (by omega)];rfl
  rw [this,List.append_assoc];rfl
theorem QBJ {place:Nat->Option (Nat × Nat)} {c l:List SV} {a b d:SV} (h1:place 0=some (0,51)) (h2:l.length=51) (h3:c.length=54) (h4:c.drop 51= [a,b,d]):QbY place c [(0,l)]=some (l++ [a,b,d]):=by
 unfold QbY;dsimp only;rw [h1];dsimp only;rw [h2,h3,QhJ l c 0 (by omega),h2,show 0+51=51 from rfl,h4];rfl
theorem QuI (fG:FN 133 [.s (.str ⟨#[0]⟩),.s (.i 128)] [] (. =⟨.a (.s (.str z128)),[],[]⟩))
  (hrun:∀ (E:Eg) (lim:Nat),E.ok->Coh E->lim<18446744073709551616->FN 74 [.s (.ptr 0 0),.s (.w lim)] E.H (. =(Qfe lim E).1.R (.a (.s (.w ((Qfe lim E).2:Nat))))))
  (E:Eg) (hE:E.ok) (hm:QAw E=true) (hC:Coh E) (qG:QbK E.M=true) (k:Nat) (hk:k<18446744073709551616) :
  FN 8 [.agg (E.V 0 1 2),.s (.w k)] [⟨false,1,wsv E.M.m⟩,⟨false,4,tes E.T⟩,⟨false,3,bks E.B⟩]
   (. =⟨.tup [.agg ((QnT E k).1.V 3 4 5),.s (.sl 6 0 (QnT E k).1.o.length),.s (.w ((QnT E k).2:Nat))],[],[⟨true,1,wsv (QnT E k).1.M.m⟩,⟨true,4,tes (QnT E k).1.T⟩,⟨true,3,bks (QnT E k).1.B⟩,⟨true,4,OLs (QnT E k).1.o⟩]⟩):=by
 have hz:E.z.ok:=⟨hE.M,hE.T,hE.tl,hE.B,hE.bl,(by unfold Qbk;exact fun l h=>by cases h),Nat.zero_le _,by show (0:Nat)<_;decide⟩;have hzc:Coh E.z:=⟨hC.n,hC.T,hC.B⟩
 have qN:E.M.ct<=1152921504606846976:=by
  have h:=qG;unfold QbK at h;exact (of_decide_eq_true h).2.2.2.2.2.2.2.2.2.2.2.1
 have hL:QiP E.M k<=4000:=by unfold QiP;omega
 have ca:=Qws fG hrun E.z hz hzc qG (min k 4000) (QiP E.M k) (by omega) rfl (by show 0+QiP E.M k<=_;omega) rfl;have hD:=QhR (QiP E.M k) (QiP E.M k) 0 E.z hz hzc qG (Nat.zero_le _) (by omega) (by show E.M.ct+(QiP E.M k-0)<=_;unfold QiP;omega) (by show 0+(QiP E.M k-0)<=_;omega);have cm:=Qxd E hE;rw [hm] at cm;have cc:=Qo3 E hE;change Adv _ _ _ (QnT E k) at hD;change Fn _ _ _ _ (. =(QnT E k).1.Rn (.a (.s (.w ((QnT E k).2:Nat))))) at ca
 have m2:QsG (k:Int) [4000]=((min k 4000:Nat):Int):=by
  show QAx (k:Int) 4000=_;unfold QAx;split<;>omega
 generalize min k 4000=k4 at *;have rok:=hD.ok;clear hD hzc hC hz hrun fG hm qG;generalize QnT E k=R at *;obtain ⟨R1,_⟩:=R;dsimp only at rok ca |-;have rxl:=rok.M.x;have rcl:=rok.M.c;have exl:=hE.M.x;have ecl:=hE.M.c;have HH:=Qaa R1.M.m;have GS:=Qah R1.T;have GT:=Qae R1.B;have KR:=(QaA rok.o).2.1;have wH:=Qaa E.M.m;have wI:=Qah E.T;have wJ:=Qae E.B;clear rok hE;obtain ⟨⟨_,_,_,em,_,_,_,_,ef,en,_,_,_,_,_⟩,eT,eB,eo,_,_⟩:=E;cases ef;cases en;dsimp only at exl ecl;cases QJP exl;cases zC8 ecl;obtain ⟨⟨_,_,_,rm,_,_,_,_,rf,rn,_,_,_,_,_⟩,rT,rB,ro,_,_⟩:=R1;cases rf;cases rn;dsimp only at rxl rcl;cases QJP rxl;cases zC8 rcl;dsimp only [Eg.z,Eg.Hn,Eg.Rn,Eg.V,Eg.C,Mc.C,Mc.D,Dk.C,Nk.C] at cm cc ca wH wI wJ HH GS GT KR |-;simp only [Qaf,zca,zna] at cm cc ca |-;generalize ZS:wsv em=eXX,heT:tes eT=eTT,heB:bks eB=eBB,heO:OLs eo=eOO,em.length=emn,eT.length=etn,eB.length=ebn,eo.length=eon,hrX:wsv rm=rXX,hrT:tes rT=rTT,hrB:bks rB=rBB,hrO:OLs ro=rOO,rm.length=rmn,rT.length=rtn,rB.length=rbn,ro.length=ron at *;clear ZS heT heB heO hrX hrT hrB hrO;refine fnW Tryz.func8 ?_;(repeat' ((conv=>whnf);first|exact zi2|(refine zj0 ?_;intro hb)|((with_reducible apply Ge.mk (α:=List SV)); . exact QBJ rfl rfl rfl rfl)|(with_reducible refine zv m2 ?_)|(refine Qsw cm ?_)|(refine Qsw cc ?_)|(refine QzM ca ?_)|refine zse ?_|refine zbb ?_ ?_));all_goals (conv=>whnf)
 all_goals first|(apply Fin.mk (m:= [(0,some 0),(1,some 1),(2,some 2),(3,some 262336),(4,some 262337),(5,some 262338),(6,some 262339)]);(focus exact rfl);(all_goals ((try (show HlS _ _ [] _));first|(exact aFi)|exact rfl)))
theorem QFx:FN 70 [.s .nilsl] [] (. =⟨.a (.s .nilsl),[],[]⟩) :=
 QgZ (show Qiw eqt tys true fns Qyd 100 20 70 [.s .nilsl] []=some ⟨.a (.s .nilsl),[],[]⟩ by kernel_rfl)
theorem QFw:FN 71 [.s .nilsl] [] (. =⟨.a (.s .nilsl),[],[]⟩) :=
 QgZ (show Qiw eqt tys true fns Qyd 100 20 71 [.s .nilsl] []=some ⟨.a (.s .nilsl),[],[]⟩ by kernel_rfl)
theorem Qxy {place:Nat->Option (Nat × Nat)} {c l:List SV} {a b:SV} (h1:place 0=some (0,49)) (h2:l.length=49) (h3:c.length=51) (h4:c.drop 49= [a,b]):QbY place c [(0,l)]=some (l++ [a,b]):=by
 unfold QbY;dsimp only;rw [h1];dsimp only;rw [h2,h3,QhJ l c 0 (by omega),h2,show 0+49=49 from rfl,h4];rfl
def Mc.N (M:Mc) (k:Nat):List SV:=M.C k++ [.nilsl,.nilsl]
theorem Qnc (M:Mc) (hM:M.ok):FN 26 [.agg (M.N 0)] [⟨false,1,wsv M.m⟩] (. =⟨.a (.agg (M.N 1)),[],[⟨true,1,wsv M.m⟩]⟩):=by
 have k1:=Qbt M.m _ rfl (by have:=hM.ml;omega);have k2:=QFx;have k3:=QFw;have gL:=Qaa M.m;unfold Mc.N;obtain ⟨hx,hc,hY,gA,_,gB,_,gD,gE,gF⟩:=hM;obtain ⟨_,_,_,m,_,_,_,_,d,n⟩:=M;dsimp only at *;cases QJP hx;cases zC8 hc;cases d;cases n;dsimp only [Mc.C,Mc.D,Dk.C,Nk.C,Dk.ok,Nk.ok] at *;generalize m.length=nn,wsv m=XX at *;clear hY gA gD gE gB gF;refine fnW Tryz.func26 ?_;(repeat' ((conv=>whnf);first|exact zi2|(refine zj0 ?_;intro hb)|(refine Qaz k1 ?_)|(refine zpu k2 ?_)|(refine zpu k3 ?_)|refine zse ?_|refine zbb ?_ ?_));all_goals (conv=>whnf)
 refine Lp.unroll 1 ?_;(repeat' ((conv=>whnf);first|exact zi2|(refine zj0 ?_;intro hb)|refine zse ?_|refine zbb ?_ ?_))
 all_goals exact Qcv
end Go.Proofs.YtpgkkfajljekpaaGreat
