import Derived.Test.YtpgkkfajljekpabGreatQ28
set_option linter.unusedSimpArgs false
set_option linter.unusedVariables false
set_option maxHeartbeats 0
set_option maxRecDepth 100000
namespace Go.Proofs.YtpgkkfajljekpabGreat
open Go Go.RowKit
structure Ag (lim n:Nat) (E Z:Eg) (z:Nat):Prop where
 (ok:E.ok) (coh:Coh E) (may:Qbg E.M=true) (le:n<=lim) (ct:E.M.ct+(lim-n)<=1152921504606846976) (ol:E.o.length+(lim-n)<=900000) (run:∃ k,lim-n<=k/\Qky k lim n E=(Z,z))
theorem QAX {lim n:Nat} {E Z:Eg} {z:Nat} (h:Ag lim n E Z z) (hc:¬ (n<lim/\Qjp E.M=false)):Z=E/\z=n:=by
 obtain ⟨k,_,hk⟩:=h.run
 cases k with
 | zero=>change (E,n)=(Z,z) at hk;injection hk with h1 h2;exact ⟨h1.symm,h2.symm⟩
 | succ k=>unfold Qky at hk;rw [zN hc] at hk;injection hk with h1 h2;exact ⟨h1.symm,h2.symm⟩
theorem QAY {lim n:Nat} {E Z:Eg} {z:Nat} (h:Ag lim n E Z z) (hc:n<lim/\Qjp E.M=false) :
  (Qe6 (lim-n) E).1.ok/\Coh (Qe6 (lim-n) E).1/\(Qe6 (lim-n) E).2<=lim-n/\(Qe6 (lim-n) E).1.o.length<900000 /\
  ((Qe6 (lim-n) E).2=0->Ag lim (n+1) (sgl 0 (Qe6 (lim-n) E).1) Z z)/\((Qe6 (lim-n) E).2≠0->Ag lim (n+(Qe6 (lim-n) E).2) (Qe6 (lim-n) E).1 Z z):=by
 obtain ⟨hE,hC,hm,_,_,_,k,_,hk⟩:=h
 cases k with
 | zero=>omega
 | succ k =>
 unfold Qky at hk;rw [zP hc] at hk;obtain ⟨p1,p2,p3,_⟩:=Qjq hm hc.2;have hR:=QrL E hE hC hm p3 (lim-n) (by omega);generalize Qe6 (lim-n) E=R at *;obtain ⟨r1,r2,r3,r4,r5,r6⟩:=hR;have jF:R.1.o.length<900000:=by rw [r4];omega
 refine ⟨r2,r3,r1,jF,fun h0=>?_,fun h0=>?_⟩
 .rw [zP h0] at hk
  obtain ⟨z1,z2,_⟩:=r6 h0;obtain ⟨s1,s2,s3,s4⟩:=QiK R.1 r2 r3 jF 0 (by decide);have gN:Qdj R.1.M 0=Qbh E.M 0:=by unfold Qdj;rw [z2,p1,zN (by decide),z1]
  rw [gN] at s3 s4;rw [r4] at s4;have fC:QkG 1 E.M (Qbh E.M 0).2.toList (sgl 0 R.1).M:=by rw [s3];exact QmN p1 p2 rfl
  obtain ⟨_,m2,_⟩:=QdV hE.M hm fC
  have qJ:(sgl 0 R.1).o.length<=E.o.length+1:=by
   rw [s4,zla]
   cases (Qbh E.M 0).2 with
   | none=>show _+0<=_;omega
   | some l=>show _+1<=_;omega
  exact ⟨s1,s2,m2,by omega,by omega,by omega,k,by omega,hk⟩
 .rw [zN h0] at hk
  have fC:=QrM (r5 (by omega));obtain ⟨_,m2,_⟩:=QdV hE.M hm fC;exact ⟨r2,r3,m2,by omega,by omega,by rw [r4];omega,k,by omega,hk⟩
def Eg.Hn (E:Eg):List Row:= [⟨true,1,E.M.C 1++ [.sl 2 0 E.T.length,.sl 3 0 E.B.length,.nilsl,.i E.f,.bool E.s]⟩,⟨true,1,wsv E.M.m⟩,⟨true,4,tes E.T⟩,⟨true,3,bks E.B⟩]
def Eg.Rn (E:Eg) (v:TV):Res:=⟨v,[(0,some ⟨true,1,E.C 4 5 6 7⟩),(1,none),(2,none),(3,none)],[⟨true,1,wsv E.M.m⟩,⟨true,4,tes E.T⟩,⟨true,3,bks E.B⟩,⟨true,4,OLs E.o⟩]⟩
def QsW (lim n:Nat) (C0 X T B O:List SV):St :=
 ⟨[(0,.a (.s (.ptr 0 0))),(1,.a (.s (.w lim))),(5,.a (.s (.w n)))],
  [(0,some ⟨true,1,C0⟩),(1,none),(2,none),(3,none),(4,some ⟨true,1,X⟩),(5,some ⟨true,4,T⟩),(6,some ⟨true,3,B⟩),(7,some ⟨true,4,O⟩)],[0]⟩
theorem QwE (fJ:FN 266 [.s (.str ⟨#[0]⟩),.s (.i 128)] [] (. =⟨.a (.s (.str z128)),[],[]⟩))
  (fC:∀ (E:Eg) (lim:Nat),E.ok->Coh E->lim<18446744073709551616->FN 50 [.s (.ptr 0 0),.s (.w lim)] E.H (. =(Qe6 lim E).1.R (.a (.s (.w ((Qe6 lim E).2:Nat))))))
  (E:Eg) (hE:E.ok) (hC:Coh E) (hm:Qbg E.M=true) (lim0 lim:Nat) (WJ:lim0<18446744073709551616) (qO:lim=min lim0 (1152921504606846976-E.M.ct)) (jF:E.o.length+lim<=900000) (wJ:E.o= []) :
  FN 22 [.s (.ptr 0 0),.s (.w lim0)] E.Hn (. =(Qky lim lim 0 E).1.Rn (.a (.s (.w ((Qky lim lim 0 E).2:Nat))))):=by
 have fM:E.M.ct<=1152921504606846976:=by
  have h:=hm;unfold Qbg at h;exact (of_decide_eq_true h).2.2.2.2.2.2.2.2.2.2.2.1
 have m1:IntKind.u64.wrap ((1152921504606846976:Int)-(E.M.ct:Int))=((1152921504606846976-E.M.ct:Nat):Int):=QdK
 have m2:Qot (lim0:Int) [((1152921504606846976-E.M.ct:Nat):Int)]=(lim:Nat):=by
  show QAC (lim0:Int) _=_;unfold QAC;split<;>omega
 have GV:lim<18446744073709551616:=by omega
 obtain ⟨⟨Z,z⟩,hZ⟩:∃ r,Qky lim lim 0 E=r:=⟨_,rfl⟩;rw [hZ];dsimp only;have hA:Ag lim 0 E Z z:=⟨hE,hC,hm,Nat.zero_le _,by omega,jF,lim,Nat.le_refl _,hZ⟩;clear hZ hC hm;have fD:=Qaa E.M.m;have gO:=Qae E.T;have gZ:=Qac E.B;have fY:=(Qax hE.o).2.1;have uxl:=hE.M.x;have ucl:=hE.M.c;obtain ⟨K0,hK0⟩:∃ K0,QsW lim 0 (E.C 4 5 6 7) (wsv E.M.m) (tes E.T) (bks E.B) (OLs E.o)=K0:=⟨_,rfl⟩;have hI:∃ (E:Eg) (n:Nat),lim+n=lim/\Ag lim n E Z z/\K0=QsW lim n (E.C 4 5 6 7) (wsv E.M.m) (tes E.T) (bks E.B) (OLs E.o):=⟨E,0,rfl,hA,hK0.symm⟩;clear hA hE;obtain ⟨⟨_,_,_,um,_,_,_,_,uf,un,_,_,_,_,_⟩,uT,uB,_,_,_⟩:=E;cases uf;cases un;dsimp only at uxl ucl;cases QaJ uxl;cases zC8 ucl;dsimp only [Eg.H,Eg.Hn,Eg.R,Eg.Rn,Eg.C,Mc.C,Mc.D,Dk.C,Nk.C] at fD gO gZ fY fM m1 m2 hK0 |-;simp only [Qaf,zca,zna] at hK0 |-;subst wJ;generalize wsv um=uXX,tes uT=uTT,bks uB=uBB at *;rw [show OLs []=([]:List SV) from rfl] at fY hK0;generalize um.length=umn,uT.length=utn,uB.length=ubn at *;simp only [List.length_nil] at hK0;clear jF;refine fnW Tryz.func22 ?_;(conv=>whnf);(repeat' ((first|exact zi2|refine zj0 fun hb=>?_|(with_reducible first|refine zv m1 ?_|refine zv m2 ?_)|refine zse ?_|refine zbb ?_ ?_)<;>conv=>whnf))
 all_goals
  refine Lp.inv (fun mm σ=>∃ (E:Eg) (n:Nat),mm+n=lim/\Ag lim n E Z z/\σ=QsW lim n (E.C 4 5 6 7) (wsv E.M.m) (tes E.T) (bks E.B) (OLs E.o)) ?_ ?_
  .refine ⟨lim,K0,?_,hI⟩
   rw [<- hK0];unfold QsW
   first|(exact zwV [(0,some 0),(1,some 1),(2,some 2),(3,some 3),(4,some 1),(5,some 2),(6,some 3),(7,none)])
  rintro mm σ ⟨E,n,hmn,hA,rfl⟩;unfold QsW;have ce:=Qto E hA.ok;have exl:=hA.ok.M.x;have ecl:=hA.ok.M.c;have vZ:=Qaa E.M.m;have wA:=Qae E.T;have wB:=Qac E.B;have yH:=(Qax hA.ok.o).2.1;have q3:IntKind.u64.wrap ((lim:Int)-(n:Int))=((lim-n:Nat):Int):=by have:=hA.le;rw [Qws (by omega) (by omega)];omega
  have q1:IntKind.u64.wrap ((n:Int)+(1:Int))=((n+1:Nat):Int):=by have:=hA.le;rw [Qws (by omega) (by omega)];omega
  by_cases hc:n<lim/\Qjp E.M=false
  case neg =>
   obtain ⟨e1,e2⟩:=QAX hA hc;subst e1 e2;generalize Qjp Z.M=bE at *;clear hA fC fJ hI hK0;obtain ⟨⟨_,_,_,em,_,_,_,_,ef,en,_,_,_,_,_⟩,eT,eB,eo,_,_⟩:=Z;cases ef;cases en;dsimp only at exl ecl;cases QaJ exl;cases zC8 ecl;dsimp only [Eg.H,Eg.Hn,Eg.R,Eg.Rn,Eg.C,Mc.C,Mc.D,Dk.C,Nk.C] at ce vZ wA wB yH |-;simp only [Qaf,zca,zna] at ce |-;generalize ZN:wsv em=eXX,heT:tes eT=eTT,heB:bks eB=eBB,heO:OLs eo=eOO,hemn:em.length=emn,hetn:eT.length=etn,hebn:eB.length=ebn,heon:eo.length=eon at *;(conv=>whnf);(repeat' ((first|exact zi3|refine zj0 fun hb=>?_|(refine Qaw ce ?_)|refine zse ?_|refine zbb ?_ ?_)<;>conv=>whnf))
   all_goals first|(exfalso;simp_all;omega)|(apply Fin.mv (m:= [(0,some 0),(1,some 1),(2,some 2),(3,some 3),(4,some 4),(5,some 5),(6,some 6),(7,some 7)]);(focus exact rfl);(all_goals ((try (show QcE _ _ _ [] _));first|exact aFi|exact rfl)))
  obtain ⟨a1,a2,a3,a4,a5,a6⟩:=QAY hA hc;have jZ:=hA.le;have cr:=fC E (lim-n) hA.ok hA.coh (by omega);have csg:=Qkg fJ (Qe6 (lim-n) E).1 a1 a4 0 (by decide);rw [hc.2] at ce;have gU:=hc.1;clear hc fC fJ hI hK0 a2;generalize Qe6 (lim-n) E=R at *;obtain ⟨R1,r2⟩:=R;dsimp only at a1 a3 a4 a5 a6 cr csg;have q2:IntKind.u64.wrap ((n:Int)+(r2:Int))=((n+r2:Nat):Int):=QdK;have rxl:=a1.M.x;have rcl:=a1.M.c;have KB:=Qaa R1.M.m;have KC:=Qae R1.T;have KD:=Qac R1.B;have KE:=(Qax a1.o).2.1
  by_cases h0:r2=0
  .have hA2:=a5 h0
   have b1:=hA2.ok;subst h0;have HZ:∃ E2:Eg,Ag lim (n+1) E2 Z z/\E2=sgl 0 R1:=⟨_,hA2,rfl⟩;obtain ⟨E2,g1,g4⟩:=HZ;clear a5 a6 hA2 hA a1;generalize sgl 0 R1=S at *;have sxl:=b1.M.x;have scl:=b1.M.c;have hsS1:=Qaa S.M.m;have hsS2:=Qae S.T;have hsS3:=Qac S.B;have hsS4:=(Qax b1.o).2.1;clear b1;obtain ⟨⟨_,_,_,em,_,_,_,_,ef,en,_,_,_,_,_⟩,eT,eB,eo,_,_⟩:=E;cases ef;cases en;dsimp only at exl ecl;cases QaJ exl;cases zC8 ecl;obtain ⟨⟨_,_,_,rm,_,_,_,_,rf,rn,_,_,_,_,_⟩,rT,rB,ro,_,_⟩:=R1;cases rf;cases rn;dsimp only at rxl rcl;cases QaJ rxl;cases zC8 rcl;obtain ⟨⟨_,_,_,sm,_,_,_,_,sf,sn,_,_,_,_,_⟩,sT,sB,so,_,_⟩:=S;cases sf;cases sn;dsimp only at sxl scl;cases QaJ sxl;cases zC8 scl;dsimp only [Eg.H,Eg.Hn,Eg.R,Eg.Rn,Eg.C,Mc.C,Mc.D,Dk.C,Nk.C] at ce cr csg vZ wA wB yH KB KC KD KE hsS1 hsS2 hsS3 hsS4 |-;simp only [Qaf,zca,zna] at ce cr csg |-;generalize ZN:wsv em=eXX,heT:tes eT=eTT,heB:bks eB=eBB,heO:OLs eo=eOO,hemn:em.length=emn,hetn:eT.length=etn,hebn:eB.length=ebn,heon:eo.length=eon,hrX:wsv rm=rXX,hrT:tes rT=rTT,hrB:bks rB=rBB,hrO:OLs ro=rOO,hrmn:rm.length=rmn,hrtn:rT.length=rtn,hrbn:rB.length=rbn,hron:ro.length=ron,YU:wsv sm=sXX,UG:tes sT=sTT,WP:bks sB=sBB,hsO:OLs so=sOO,hsmn:sm.length=smn,hstn:sT.length=stn,hsbn:sB.length=sbn,hson:so.length=son at *;(conv=>whnf);(repeat' ((first|exact zi3|refine zj0 fun hb=>?_|(with_reducible first|refine zv q3 ?_|refine zv q1 ?_)|(refine Qaw ce ?_)|(refine Qaw cr ?_)|(refine Qaw csg ?_)|refine zse ?_|refine zbb ?_ ?_)<;>conv=>whnf))
   all_goals first
    | (exfalso;simp at hb;omega)
    | (exfalso;simp at hb;done)
    | (
      refine ⟨mm-1,QsW lim (n+1) (E2.C 4 5 6 7) (wsv E2.M.m) (tes E2.T) (bks E2.B) (OLs E2.o),by omega,?_,E2,n+1,by omega,g1,rfl⟩;rw [g4];unfold QsW;dsimp only [Eg.C,Mc.C,Mc.D,Dk.C,Nk.C];simp only [Qaf,zca,zna];rw [YU,UG,WP,hsO,hsmn,hstn,hsbn,hson]
      (exact zwV [(0,some 0),(1,some 1),(2,some 2),(3,some 3),(4,some 262208),(5,some 262209),(6,some 262210),(7,some 262211)]))
  .have hA2:=a6 h0
   have h0':¬ ((r2:Nat):Int)=0:=by omega
   have hr2:0<r2:=by omega
   have HZ:∃ E2:Eg,Ag lim (n+r2) E2 Z z/\E2=R1:=⟨_,hA2,rfl⟩;obtain ⟨E2,g1,g4⟩:=HZ;clear a5 a6 hA2 hA a1 csg;obtain ⟨⟨_,_,_,em,_,_,_,_,ef,en,_,_,_,_,_⟩,eT,eB,eo,_,_⟩:=E;cases ef;cases en;dsimp only at exl ecl;cases QaJ exl;cases zC8 ecl;obtain ⟨⟨_,_,_,rm,_,_,_,_,rf,rn,_,_,_,_,_⟩,rT,rB,ro,_,_⟩:=R1;cases rf;cases rn;dsimp only at rxl rcl;cases QaJ rxl;cases zC8 rcl;dsimp only [Eg.H,Eg.Hn,Eg.R,Eg.Rn,Eg.C,Mc.C,Mc.D,Dk.C,Nk.C] at ce cr vZ wA wB yH KB KC KD KE |-;simp only [Qaf,zca,zna] at ce cr |-;generalize ZN:wsv em=eXX,heT:tes eT=eTT,heB:bks eB=eBB,heO:OLs eo=eOO,hemn:em.length=emn,hetn:eT.length=etn,hebn:eB.length=ebn,heon:eo.length=eon,hrX:wsv rm=rXX,hrT:tes rT=rTT,hrB:bks rB=rBB,hrO:OLs ro=rOO,hrmn:rm.length=rmn,hrtn:rT.length=rtn,hrbn:rB.length=rbn,hron:ro.length=ron at *;(conv=>whnf);(repeat' ((first|exact zi3|refine zj0 fun hb=>?_|(with_reducible first|refine zv q3 ?_|refine zv q2 ?_)|(refine Qaw ce ?_)|(refine Qaw cr ?_)|refine zse ?_|refine zbb ?_ ?_)<;>conv=>whnf))
   all_goals first
    | (exfalso;simp at hb;omega)
    | (exfalso;simp at hb;done)
    | (
      refine ⟨mm-r2,QsW lim (n+r2) (E2.C 4 5 6 7) (wsv E2.M.m) (tes E2.T) (bks E2.B) (OLs E2.o),by omega,?_,E2,n+r2,by omega,g1,rfl⟩;rw [g4];unfold QsW;dsimp only [Eg.C,Mc.C,Mc.D,Dk.C,Nk.C];simp only [Qaf,zca,zna];rw [hrX,hrT,hrB,hrO,hrmn,hrtn,hrbn,hron]
      (exact zwV [(0,some 0),(1,some 1),(2,some 2),(3,some 3),(4,some 131328),(5,some 131329),(6,some 131330),(7,some 131331)]))
def Eg.V (E:Eg) (a b c:Nat):List SV:=E.M.C a++ [.sl b 0 E.T.length,.sl c 0 E.B.length]
open Classical in
noncomputable def Qt6 (E:Eg):Bool:=Qbg E.M&&(Qhz E.T E.M.m E.M.m.length (cR E.M)&&decide (Qhg E.M.m E.M.m.length E.B))
theorem Qfb (E:Eg) (hE:E.ok):FN 13 [.agg (E.V 0 1 2)] [⟨false,1,wsv E.M.m⟩,⟨false,4,tes E.T⟩,⟨false,3,bks E.B⟩] (. =⟨.a (.s (.bool (Qt6 E))),[],[]⟩):=by
 have c1:=Qo7 E.M hE.M;have gI:=hE.M.ml;have c2:=QkU E.T _ rfl (by have:=hE.tl;omega) hE.T E.M.m _ (cR E.M) rfl (by omega) hE.M.mr (Qab hE.M.cr 6);have c3:=Qh9 E.M.m _ rfl (by omega) hE.M.mr E.B _ rfl (by have:=hE.bl;omega) hE.B (@decide (Qhg E.M.m E.M.m.length E.B) (Classical.propDecidable _)) (@decide_eq_true_iff (Qhg E.M.m E.M.m.length E.B) (Classical.propDecidable _));obtain ⟨R,hR⟩:∃ R,Qt6 E=R:=⟨_,rfl⟩;rw [hR];unfold Qt6 at hR;generalize Qbg E.M=b1,Qhz E.T E.M.m E.M.m.length (cR E.M)=b2,@decide (Qhg E.M.m E.M.m.length E.B) (Classical.propDecidable _)=b3 at *;have fD:=Qaa E.M.m;have gO:=Qae E.T;have gZ:=Qac E.B;obtain ⟨hM,hT,_,hB,_,ho,_,_⟩:=hE;obtain ⟨M,T,B,_,_,s⟩:=E;dsimp only [Eg.V] at *;obtain ⟨hx,hc,hY,gA,gH,gB,gI,gE,gD,gG⟩:=hM;obtain ⟨_,_,_,m,_,_,_,_,d,n⟩:=M;dsimp only at *;cases QaJ hx;obtain ⟨_,c1,c2,c3,_,_,_,_,rfl⟩:=QfC hc;cases d;cases n;dsimp only [Mc.C,Mc.D,Dk.C,Nk.C,Dk.ok,Nk.ok] at *
 try dsimp only [cR,Mc.C,Mc.D,Dk.C,Nk.C] at *
 try simp only [Qaf,zca,zna,List.getD_cons_succ,List.getD_cons_zero] at *
 generalize gP:wsv m=XX,hX3:bks B=BB,gJ:m.length=nn,gM:B.length=bn,gV:tes T=TT,htn:T.length=tn at *;clear gP gV hX3 gJ gM htn hT hB ho hY gA gH gB gI gE gD gG;cases b1<;>cases b2
 all_goals
  refine fnW Tryz.func13 ?_;(conv=>whnf);(repeat' ((first|exact zi2|refine zj0 fun hb=>?_|(refine QaA c1 ?_)|(refine QfS c2 ?_)|(refine QfS c3 ?_)|refine zse ?_|refine zbb ?_ ?_)<;>conv=>whnf))
  all_goals first
   | (refine QcJ ?_ ?_;(focus (exact QsJ));rw [<- hR];first|rfl|(simp;done))
end Go.Proofs.YtpgkkfajljekpabGreat
namespace Go.Proofs.YtpgkkfajljekpabGreat
open Go Go.RowKit
theorem Qnj (l:List Mz) (N:Nat) (hN:l.length=N) (fP:N<=1000000):FN 48 [.s (.fz 6 N (mzs l))] [] (. =⟨.a (.s (.fz 6 N (mzs l))),[],[]⟩):=by
 refine QBW (Qjf l N hN fP) ?_;refine Fin.fr (c:=0) (es:=6) (cells:=mzs l) rfl (Qgd l) ?_;refine Fin.mk ⟨.a (.s (.fz 6 N (mzs l))),[],[]⟩ [] rfl ?_ ?_ rfl
 .exact QcN (Qcx (QaK rfl))
 .exact QaL
theorem Qnb {t:List Bk} (h:t.length=0):bks t= []:=by rw [List.eq_nil_of_length_eq_zero h];rfl
theorem Qna (t:List Bk) (N:Nat) (hN:t.length=N) (fP:N<=1000000):FN 47 [.s (.sl 0 0 N)] [⟨false,3,bks t⟩] (. =⟨.a (.s (.sl 1 0 N)),[],[⟨true,3,bks t⟩]⟩):=by
 have gN:=Qac t;have UC:=QeD t;have gU:=QcG t;have hnl:=@Qnb t;generalize bks t=TT at *;refine fnW Tryz.func47 ?_;(conv=>whnf);(repeat' ((first|exact zi0|refine zj0 fun hb=>?_|(refine Ns.any rfl ?_;intro bn gM)|(apply Sk.mk; . exact QcB TT (by show TT.length=N*3;rw [gU,hN]) UC)|(apply Sd.mk; . refine ⟨rfl,rfl,rfl,?_,?_⟩<;>first|omega|(show (0+N)*40<=_;omega))|refine QFl ?_|((with_reducible apply Vl.mk (α:=List SV)); . exact zna TT)|refine zs0 ?_|refine zbb ?_ ?_)<;>conv=>whnf))
 .obtain rfl:N=0:=gM hb
  obtain rfl:=hnl hN
  (exact Qoi)
 ·(exact QbJ)
def QsI:List SV:= [.u 0,.u 0,.u 0,.u 0,.u 0,.u 0,.u 0,.u 0,.u 0,.u 0,.u 0,.u 0,.u 0,.u 0,.u 0,.u 0,
 .u 0,.u 0,.u 0,.u 0,.u 0,.u 0,.u 0,.u 0,.u 0,.nilsl,.str ⟨#[]⟩,.bool false,.u 0,.bool false,
 .u 0,.u 0,.u 0,.i 0,.i 0,.u 0,.u 0,.str ⟨#[]⟩,.u 0,.u 0,.bool false,.u 0,.bool false,.u 0,
 .u 0,.u 0,.w 0,.bool false,.bool false,.nilsl,.nilsl]
def QAt (N i:Nat) (V X T B:List SV):St :=
 ⟨[(1,.a (.s (.ptr 3 0))),(2,.a (.s (.ptr 4 0))),(20,.a (.s (.sl 7 0 N))),(21,.a (.s (.i N))),(22,.a (.s (.i i)))],
  [(0,some ⟨false,1,X⟩),(1,some ⟨false,4,T⟩),(2,some ⟨false,3,B⟩),(3,some ⟨true,1,V⟩),(4,some ⟨true,1,QsI⟩),(5,some ⟨true,1,X⟩),(6,some ⟨true,4,T⟩),(7,some ⟨true,3,B⟩)],[0]⟩
theorem set_same {l:List SV} {j:Nat} {v:SV} (h:l[j]?=some v):l.set j v=l:=by
 apply List.ext_getElem?;intro i;rw [List.getElem?_set];split
 .rename_i e
  subst e;split
  .exact h.symm
  .rename_i h1
   rw [List.getElem?_eq_none (by omega)] at h;cases h
 .rfl
theorem Qgx (E:Eg) (hE:E.ok):FN 21 [.agg (E.V 0 1 2)] [⟨false,1,wsv E.M.m⟩,⟨false,4,tes E.T⟩,⟨false,3,bks E.B⟩] (. =⟨.a (.agg (E.V 3 4 5)),[],[⟨true,1,wsv E.M.m⟩,⟨true,4,tes E.T⟩,⟨true,3,bks E.B⟩]⟩):=by
 have gI:=hE.M.ml;have k1:=QbG E.M.m _ rfl (by omega);have k2:=Qe0 E.T _ rfl (by have:=hE.tl;omega);have k3:=Qna E.B _ rfl (by have:=hE.bl;omega);have fD:=Qaa E.M.m;have gO:=Qae E.T;have gZ:=Qac E.B;have jK:=Qdr E.B;have hbb:=QcG E.B;have hbl16:=hE.bl;obtain ⟨hM,hT,_,hB,_,ho,_,_⟩:=hE;obtain ⟨M,T,B,o,f,s⟩:=E;dsimp only [Eg.V] at *;obtain ⟨hx,hc,hY,gA,gH,gB,gI,gE,gD,gG⟩:=hM;obtain ⟨_,pc,_,m,ks,ta,td,tf,d,n,bt,bg,ct,wt,ht⟩:=M;dsimp only at *;obtain ⟨x0,x1,x2,x3,x4,x5,x6,x7,x8,x9,x10,x11,x12,x13,x14,x15,rfl⟩:=Qem hx;obtain ⟨c0,c1,c2,c3,c4,c5,c6,c7,rfl⟩:=QfC hc;obtain ⟨dd0,dd1,dd2,dd3,dd4,dd5,dd6,dd7⟩:=d;obtain ⟨n0,n1,n2,n3,n4,n5⟩:=n;dsimp only [Mc.C,Mc.D,Dk.C,Nk.C,Dk.ok,Nk.ok] at *
 try dsimp only [cR,Mc.C,Mc.D,Dk.C,Nk.C] at *
 try simp only [Qaf,zca,zna,List.getD_cons_succ,List.getD_cons_zero] at *
 generalize gP:wsv m=XX,hX3:bks B=BB,GA:m.length=nn,gM:B.length=bn,gV:tes T=TT,KH:T.length=tn at *;clear gP gV hX3 hT ho hY gA gH gB gI gE gD gG;refine fnW Tryz.func21 ?_;(conv=>whnf);(repeat' ((first|exact zi2|refine zj0 fun hb=>?_|(refine QaA k1 ?_)|(refine QaA k2 ?_)|(refine QaA k3 ?_)|refine zse ?_|refine zbb ?_ ?_)<;>conv=>whnf))
 all_goals
  refine Lp.inv (fun mm σ=>∃ i,mm+i=bn/\σ=QAt bn i (Eg.V ⟨⟨[x0,x1,x2,x3,x4,x5,x6,x7,x8,x9,x10,x11,x12,x13,x14,x15],pc,[c0,c1,c2,c3,c4,c5,c6,c7],m,ks,ta,td,tf,⟨dd0,dd1,dd2,dd3,dd4,dd5,dd6,dd7⟩,⟨n0,n1,n2,n3,n4,n5⟩,bt,bg,ct,wt,ht⟩,T,B,o,f,s⟩ 5 6 7) XX TT BB) ?_ ?_
  .refine ⟨bn,_,?_,0,by omega,rfl⟩
   dsimp only [Eg.V,Mc.C,Mc.D,Dk.C,Nk.C];simp only [Qaf,zca,zna];rw [GA,KH,gM];unfold QAt QsI
   first|(exact zwL [(0,some 0),(1,some 1),(2,some 2),(3,some 65536),(4,some 65600),(5,some 131264),(6,some 196736),(7,some 262272)])
  rintro mm σ ⟨i,zA,rfl⟩;have WN:∃ V1,V1=QAt bn (i+1) (Eg.V ⟨⟨[x0,x1,x2,x3,x4,x5,x6,x7,x8,x9,x10,x11,x12,x13,x14,x15],pc,[c0,c1,c2,c3,c4,c5,c6,c7],m,ks,ta,td,tf,⟨dd0,dd1,dd2,dd3,dd4,dd5,dd6,dd7⟩,⟨n0,n1,n2,n3,n4,n5⟩,bt,bg,ct,wt,ht⟩,T,B,o,f,s⟩ 5 6 7) XX TT BB:=⟨_,rfl⟩;obtain ⟨V1,WB⟩:=WN;unfold QAt QsI;dsimp only [Eg.V,Mc.C,Mc.D,Dk.C,Nk.C];simp only [Qaf,zca,zna];rw [GA,KH,gM]
  by_cases hi:i<bn
  .obtain ⟨b,hb⟩:∃ b,B[i]?=some b:=⟨B[i]'(by omega),zgg (by omega)⟩
   have seg:=jK i b hb;obtain ⟨hA,hl,hk⟩:=hB b (List.mem_of_getElem? hb);obtain ⟨_,_,l⟩:=b;have cl:=Qnj l _ rfl hl;dsimp only [Bk.C] at seg cl;have q2:IntKind.i64.wrap ((i:Int)+1)=((i+1:Nat):Int):=QaS;have ix3:0+((i:Nat):Int).toNat * ty125.size=i*3:=QAc;have gN:QaC BB (i*3+(2,114).fst) [.fz 6 l.length (mzs l)]=BB:=set_same (seg.2 2 _ rfl);clear hk hb hB hl hA jK;generalize l.length=NL,mzs l=MM at *;(conv=>whnf);(repeat' ((first|exact zi2|refine zj0 fun hb=>?_|refine QhW ?_|((with_reducible apply Vl.mk (α:=Nat)); . with_reducible exact ix3)|((with_reducible apply Vl.mk (α:=List SV)); . exact gN)|(apply Sd.mk; . exact ⟨rfl,rfl,rfl,(show i*3+2+1<=BB.length by omega)⟩)|refine QfL ?_|(refine zpu cl ?_)|refine Qew ?_|refine zse ?_|refine zbb ?_ ?_)<;>conv=>whnf))
   all_goals
     (refine Exists.intro (mm-1) (Exists.intro V1 ⟨by omega,?_,i+1,by omega,(by rw [WB];unfold QAt QsI;dsimp only [Eg.V,Mc.C,Mc.D,Dk.C,Nk.C];simp only [Qaf,zca,zna];rw [GA,KH,gM])⟩)
      rw [WB];dsimp only [Eg.V,Mc.C,Mc.D,Dk.C,Nk.C];simp only [Qaf,zca,zna];rw [GA,KH,gM];unfold QAt QsI
      (exact zwL [(0,some 0),(1,some 1),(2,some 2),(3,some 3),(4,some 4),(5,some 5),(6,some 6),(7,some 7)]))
  .obtain rfl:i=bn:=by omega
   (conv=>whnf);(repeat' ((first|exact zi2|refine zj0 fun hb=>?_|refine zse ?_|refine zbb ?_ ?_)<;>conv=>whnf))
   all_goals first|(apply Fin.mk (m:= [(0,some 0),(1,some 1),(2,some 2),(3,some 5),(4,some 6),(5,some 7)]);(focus exact rfl);(all_goals ((try (show HlS _ _ [] _));first|(exact aFi)|exact rfl)))
def Eg.z (E:Eg):Eg:=⟨E.M,E.T,E.B,[],0,false⟩
def Qf7 (M:Mc) (k:Nat):Nat:=min (min k 4000) (1152921504606846976-M.ct)
def Qcw (E:Eg) (k:Nat):Eg × Nat:=Qky (Qf7 E.M k) (Qf7 E.M k) 0 E.z
theorem Qfl (l:List SV):∀ (c:List SV) (k:Nat),k+l.length<=c.length->QaC c k l=c.take k++(l++c.drop (k+l.length)):=by
 induction l with
 | nil=>intro c k h;show c=_;rw [zna];exact (List.take_append_drop k c).symm
 | cons a l ih =>
  intro c k h;rw [List.length_cons] at h;show QaC (c.set k a) (k+1) l=_;rw [ih _ _ (by rw [List.length_set];omega),List.length_cons,List.drop_set_of_lt (by omega),show k+1+l.length=k+(l.length+1) by omega]
  have:(c.set k a).take (k+1)=c.take k++ [a]:=by
   rw [List.take_add_one,List.take_set_of_le (Nat.le_refl k),List.getElem?_set_self (by omega)];rfl
  rw [this,List.append_assoc];rfl
theorem QBT {place:Nat->Option (Nat × Nat)} {c l:List SV} {a b d:SV} (h1:place 0=some (0,51)) (h2:l.length=51) (h3:c.length=54) (h4:c.drop 51= [a,b,d]):Qb0 place c [(0,l)]=some (l++ [a,b,d]):=by
 unfold Qb0;dsimp only;rw [h1];dsimp only;rw [h2,h3,Qfl l c 0 (by omega),h2,show 0+51=51 from rfl,h4];rfl
theorem QeY (fJ:FN 266 [.s (.str ⟨#[0]⟩),.s (.i 128)] [] (. =⟨.a (.s (.str z128)),[],[]⟩))
  (fC:∀ (E:Eg) (lim:Nat),E.ok->Coh E->lim<18446744073709551616->FN 50 [.s (.ptr 0 0),.s (.w lim)] E.H (. =(Qe6 lim E).1.R (.a (.s (.w ((Qe6 lim E).2:Nat))))))
  (E:Eg) (hE:E.ok) (hm:Qt6 E=true) (hC:Coh E) (qW:Qbg E.M=true) (k:Nat) (hk:k<18446744073709551616) :
  FN 8 [.agg (E.V 0 1 2),.s (.w k)] [⟨false,1,wsv E.M.m⟩,⟨false,4,tes E.T⟩,⟨false,3,bks E.B⟩]
   (. =⟨.tup [.agg ((Qcw E k).1.V 3 4 5),.s (.sl 6 0 (Qcw E k).1.o.length),.s (.w ((Qcw E k).2:Nat))],[],[⟨true,1,wsv (Qcw E k).1.M.m⟩,⟨true,4,tes (Qcw E k).1.T⟩,⟨true,3,bks (Qcw E k).1.B⟩,⟨true,4,OLs (Qcw E k).1.o⟩]⟩):=by
 have hz:E.z.ok:=⟨hE.M,hE.T,hE.tl,hE.B,hE.bl,(by unfold Qbe;exact fun l h=>by cases h),Nat.zero_le _,by show (0:Nat)<_;decide⟩;have GL:Coh E.z:=⟨hC.n,hC.T,hC.B⟩
 have fM:E.M.ct<=1152921504606846976:=by
  have h:=qW;unfold Qbg at h;exact (of_decide_eq_true h).2.2.2.2.2.2.2.2.2.2.2.1
 have hL:Qf7 E.M k<=4000:=by unfold Qf7;omega
 have ca:=QwE fJ fC E.z hz GL qW (min k 4000) (Qf7 E.M k) (by omega) rfl (by show 0+Qf7 E.M k<=_;omega) rfl;have hD:=QhZ (Qf7 E.M k) (Qf7 E.M k) 0 E.z hz GL qW (Nat.zero_le _) (by omega) (by show E.M.ct+(Qf7 E.M k-0)<=_;unfold Qf7;omega) (by show 0+(Qf7 E.M k-0)<=_;omega);have cm:=Qfb E hE;rw [hm] at cm;have cc:=Qgx E hE;change Adv _ _ _ (Qcw E k) at hD;change Fn _ _ _ _ (. =(Qcw E k).1.Rn (.a (.s (.w ((Qcw E k).2:Nat))))) at ca
 have m2:Qot (k:Int) [4000]=((min k 4000:Nat):Int):=by
  show QAC (k:Int) 4000=_;unfold QAC;split<;>omega
 generalize min k 4000=k4 at *;have rok:=hD.ok;clear hD GL hC hz fC fJ hm qW;generalize Qcw E k=R at *;obtain ⟨R1,_⟩:=R;dsimp only at rok ca |-;have rxl:=rok.M.x;have rcl:=rok.M.c;have exl:=hE.M.x;have ecl:=hE.M.c;have KB:=Qaa R1.M.m;have KC:=Qae R1.T;have KD:=Qac R1.B;have KE:=(Qax rok.o).2.1;have vZ:=Qaa E.M.m;have wA:=Qae E.T;have wB:=Qac E.B;clear rok hE;obtain ⟨⟨_,_,_,em,_,_,_,_,ef,en,_,_,_,_,_⟩,eT,eB,eo,_,_⟩:=E;cases ef;cases en;dsimp only at exl ecl;cases QaJ exl;cases zC8 ecl;obtain ⟨⟨_,_,_,rm,_,_,_,_,rf,rn,_,_,_,_,_⟩,rT,rB,ro,_,_⟩:=R1;cases rf;cases rn;dsimp only at rxl rcl;cases QaJ rxl;cases zC8 rcl;dsimp only [Eg.z,Eg.Hn,Eg.Rn,Eg.V,Eg.C,Mc.C,Mc.D,Dk.C,Nk.C] at cm cc ca vZ wA wB KB KC KD KE |-;simp only [Qaf,zca,zna] at cm cc ca |-;generalize ZN:wsv em=eXX,heT:tes eT=eTT,heB:bks eB=eBB,heO:OLs eo=eOO,em.length=emn,eT.length=etn,eB.length=ebn,eo.length=eon,hrX:wsv rm=rXX,hrT:tes rT=rTT,hrB:bks rB=rBB,hrO:OLs ro=rOO,rm.length=rmn,rT.length=rtn,rB.length=rbn,ro.length=ron at *;clear ZN heT heB heO hrX hrT hrB hrO;refine fnW Tryz.func8 ?_;(conv=>whnf);(repeat' ((first|exact zi2|refine zj0 fun hb=>?_|refine QHi ?_|(with_reducible refine zv m2 ?_)|(refine QcD cm ?_)|(refine QcD cc ?_)|(refine QzS ca ?_)|refine zse ?_|refine zbb ?_ ?_)<;>conv=>whnf))
 all_goals first|(apply Fin.mk (m:= [(0,some 0),(1,some 1),(2,some 2),(3,some 262336),(4,some 262337),(5,some 262338),(6,some 262339)]);(focus exact rfl);(all_goals ((try (show HlS _ _ [] _));first|(exact aFi)|exact rfl)))
def lpB:Code->List Code
 | .seq a b=>lpB a++lpB b
 | .cond _ a b=>lpB a++lpB b
 | .block _ c=>lpB c
 | .loop c=>c::lpB c
 | .scope c=>lpB c
 | _=> []
theorem Qir {N k:Nat} {x x2:VC} {σ:St} {Q:Exit->St->Prop} (h:x2=x) (l:Lp N k x σ Q):Lp N k x2 σ Q:=by
 subst h;exact l
theorem QqO {N k:Nat} {x:VC} {σ:St} {Q:Exit->St->Prop} (I:Nat->St->Prop) (J:St->Prop) (id:Nat) (h0:∃ n σ',Wk N k σ σ'/\I n σ')
  (hs:∀ n σ',I n σ'->∀ K:Exit->St->Prop,(∀ σz σ1,J σz->Wk N k σ1 σz->K (.exit id) σ1)->(∀ m σ'' σ1,m<n->Wk N k σ1 σ''->I m σ''->K .normal σ1)->x σ' K) (hz:∀ σz,J σz->Q (.exit id) σz):Lp N k x σ Q :=
 .inw I h0 fun n σ' hI=>hs n σ' hI _ (fun σz σ1 hj hw=>⟨σz,hw,hz σz hj⟩) fun m σ'' σ1 hm hw hI=>⟨m,σ'',hm,hw,hI⟩
theorem QqN {N k:Nat} {x:VC} {σ:St} {Q:Exit->St->Prop} (I:Nat->St->Prop) (σz:St) (id:Nat) (h0:∃ n σ',Wk N k σ σ'/\I n σ')
  (hs:∀ n σ',I n σ'->∀ K:Exit->St->Prop,(∀ σ1,Wk N k σ1 σz->K (.exit id) σ1)->(∀ m σ'' σ1,m<n->Wk N k σ1 σ''->I m σ''->K .normal σ1)->x σ' K) (hz:Q (.exit id) σz):Lp N k x σ Q :=
 QqO I (. =σz) id h0 (fun n σ' hI K h1 h2=>hs n σ' hI K (fun σ1 hw=>h1 _ σ1 rfl hw) h2) fun σ h=>h ▸ hz
theorem Qjt {H:List Row} {Q:Res->Prop} {R0:Res} {σ:St} {x:TV} (hq:Q R0) (h:Fin H (. =R0) σ x):Fin H Q σ x:=by
 induction h with
 | mk R m h1 h2 h3 h4=>exact .mk R m (h1 ▸ hq) h2 h3 h4
 | mv R m h1 h2 h3 h4=>exact .mv R m (h1 ▸ hq) h2 h3 h4
 | fr hn hf _ ih=>exact .fr hn hf ih
theorem QBV {P:Program} {f:FuncId} {args:List AV} {H:List Row} {Q Q':Res->Prop} (h:Fn P f args H Q) (hq:∀ R,Q R->Q' R):Fn P f args H Q' :=
 ⟨h.1,fun ρ w vs a b c=>(h.2 ρ w vs a b c).mono fun e w' he=>by
  obtain ⟨R,v,ρ',hR,rest⟩:=he
  exact ⟨R,v,ρ',hq R hR,rest⟩⟩
theorem QBS {a0 a1 a2 a3 a4 a5 a6 a7 a8 a9 a10 a11 a12 a13 a14 a15 a16 a17 a18 a19 a20 a21 a22 a23 a24 b0 b1 b2 b3 b4 b5 b6 b7 b8 b9 b10 b11 b12 b13 b14 b15 b16 b17 b18 b19 b20 b21 b22 b23 b24 z s:SV} {r:List SV} {place:Nat->Option (Nat × Nat)} (h:place 0=some (0,25)) (h':place 1=some (25,1)):Qb0 place (a0::a1::a2::a3::a4::a5::a6::a7::a8::a9::a10::a11::a12::a13::a14::a15::a16::a17::a18::a19::a20::a21::a22::a23::a24::z::r) [(0,[b0,b1,b2,b3,b4,b5,b6,b7,b8,b9,b10,b11,b12,b13,b14,b15,b16,b17,b18,b19,b20,b21,b22,b23,b24]),(1,[s])]=some (b0::b1::b2::b3::b4::b5::b6::b7::b8::b9::b10::b11::b12::b13::b14::b15::b16::b17::b18::b19::b20::b21::b22::b23::b24::s::r):=by
 have e:=QCR (o:=0) rfl (r:=z::r) (a0:=a0) (a1:=a1) (a2:=a2) (a3:=a3) (a4:=a4) (a5:=a5) (a6:=a6) (a7:=a7) (a8:=a8) (a9:=a9) (a10:=a10) (a11:=a11) (a12:=a12) (a13:=a13) (a14:=a14) (a15:=a15) (a16:=a16) (a17:=a17) (a18:=a18) (a19:=a19) (a20:=a20) (a21:=a21) (a22:=a22) (a23:=a23) (a24:=a24) (b0:=b0) (b1:=b1) (b2:=b2) (b3:=b3) (b4:=b4) (b5:=b5) (b6:=b6) (b7:=b7) (b8:=b8) (b9:=b9) (b10:=b10) (b11:=b11) (b12:=b12) (b13:=b13) (b14:=b14) (b15:=b15) (b16:=b16) (b17:=b17) (b18:=b18) (b19:=b19) (b20:=b20) (b21:=b21) (b22:=b22) (b23:=b23) (b24:=b24);have k:Nat.ble (0+ [b0,b1,b2,b3,b4,b5,b6,b7,b8,b9,b10,b11,b12,b13,b14,b15,b16,b17,b18,b19,b20,b21,b22,b23,b24].length) (a0::a1::a2::a3::a4::a5::a6::a7::a8::a9::a10::a11::a12::a13::a14::a15::a16::a17::a18::a19::a20::a21::a22::a23::a24::z::r).length=true:=Nat.ble_eq_true_of_le (by simp only [List.length_cons,List.length_nil];omega);have k2:Nat.ble (25+ [s].length) (b0::b1::b2::b3::b4::b5::b6::b7::b8::b9::b10::b11::b12::b13::b14::b15::b16::b17::b18::b19::b20::b21::b22::b23::b24::z::r).length=true:=Nat.ble_eq_true_of_le (by simp only [List.length_cons,List.length_nil];omega);unfold Qb0;rw [h];show (match Nat.ble (0+ [b0,b1,b2,b3,b4,b5,b6,b7,b8,b9,b10,b11,b12,b13,b14,b15,b16,b17,b18,b19,b20,b21,b22,b23,b24].length) (a0::a1::a2::a3::a4::a5::a6::a7::a8::a9::a10::a11::a12::a13::a14::a15::a16::a17::a18::a19::a20::a21::a22::a23::a24::z::r).length with|false=>none|true=>Qb0 place (QaC (a0::a1::a2::a3::a4::a5::a6::a7::a8::a9::a10::a11::a12::a13::a14::a15::a16::a17::a18::a19::a20::a21::a22::a23::a24::z::r) 0 [b0,b1,b2,b3,b4,b5,b6,b7,b8,b9,b10,b11,b12,b13,b14,b15,b16,b17,b18,b19,b20,b21,b22,b23,b24]) [(1,[s])])=_;rw [k,e];show Qb0 place (b0::b1::b2::b3::b4::b5::b6::b7::b8::b9::b10::b11::b12::b13::b14::b15::b16::b17::b18::b19::b20::b21::b22::b23::b24::z::r) [(1,[s])]=_;unfold Qb0;rw [h'];show (match Nat.ble (25+ [s].length) (b0::b1::b2::b3::b4::b5::b6::b7::b8::b9::b10::b11::b12::b13::b14::b15::b16::b17::b18::b19::b20::b21::b22::b23::b24::z::r).length with|false=>none|true=>Qb0 place (QaC (b0::b1::b2::b3::b4::b5::b6::b7::b8::b9::b10::b11::b12::b13::b14::b15::b16::b17::b18::b19::b20::b21::b22::b23::b24::z::r) 25 [s]) [])=_;rw [k2];rfl
theorem QlX:∀ a b,zer (a+b)=zer a++zer b
 | 0,b=>by rw [Nat.zero_add];rfl
 | a+1,b=>by rw [Nat.succ_add];show 0::zer (a+b)=0::(zer a++zer b);rw [QlX a b]
def cpW (ws:List Nat):List Nat:=ws++zer (256-ws.length)
theorem Qw2 (ws:List Nat) (h:ws.length<=256):QaC (wsv (zer 256)) 0 (wsv ws)=wsv (cpW ws):=by
 have e:wsv (zer 256)=wsv (zer ws.length)++wsv (zer (256-ws.length)):=by
  unfold wsv;rw [<- List.map_append,<- QlX,show ws.length+(256-ws.length)=256 by omega]
 rw [e,Qfm (by rw [wsv_length,wsv_length,QdJ])];unfold cpW wsv;rw [List.map_append]
theorem Qgy (ws:List Nat) (h:ws.length<=256):(cpW ws).length=256:=by unfold cpW;rw [zla,QdJ];omega
theorem QsH:∀ n,∀ y∈zer n,y<4294967296
 | 0,y,h=>by cases h
 | n+1,y,h=>by
  rcases List.mem_cons.1 h with rfl|h
  .decide
  .exact QsH n y h
theorem QBk (ws:List Nat) (h:ZL ws):∀ y∈cpW ws,y<4294967296:=fun y hy=>by
 rcases List.mem_append.1 hy with h1|h1
 .exact h y h1
 .exact QsH _ y h1
def Qhl (ws:List Nat):Mc:=⟨[0,0,0,0,0,0,0,0,0,0,0,0,0,0,0,0],0,[1,0,0,0,0,0,0,0],cpW ws,⟨#[]⟩,false,0,false,⟨4,0,0,0,0,0,0,⟨#[]⟩⟩,⟨0,0,false,0,false,0⟩,0,0,0,false,false⟩
theorem Qq7 (ws:List Nat) (h:ws.length<=256) (hr:ZL ws):(Qhl ws).ok:=by
 have h0:∀ y∈([0,0,0,0,0,0,0,0,0,0,0,0,0,0,0,0]:List Nat),y<4294967296:=by decide
 have h1:∀ y∈([1,0,0,0,0,0,0,0]:List Nat),y<4294967296:=by decide
 refine ⟨rfl,rfl,h0,h1,(by show (0:Nat)<4294967296;decide),QBk ws hr,?_,⟨by show (4:Nat)<4294967296;decide,by show (0:Nat)<4294967296;decide,by show (0:Nat)<4294967296;decide,by show (0:Nat)<4294967296;decide,by show (0:Nat)<4294967296;decide,Nat.zero_le _,by show (Lit.int .i64 0).wf=true;decide,by show (Lit.int .i64 0).wf=true;decide⟩,⟨by show (0:Nat)<4294967296;decide,by show (0:Nat)<4294967296;decide,by show (0:Nat)<4294967296;decide,by show (0:Nat)<4294967296;decide⟩,⟨by show (0:Nat)<4294967296;decide,by show (0:Nat)<4294967296;decide,by show (0:Nat)<4294967296;decide,by show (0:Nat)<18446744073709551616;decide,Nat.zero_le _⟩⟩;show (cpW ws).length<=1000000;rw [Qgy ws h];omega
theorem Qn2 {z l y:List SV} {o:Nat} (ho:o=0) (h:QaC z 0 l=y):QaC z o l=y:=by rw [ho];exact h
theorem Qq5 (ws:List Nat) (n:Nat) (hn:ws.length=n) (h:n<=256):FN 15 [.s (.i 8),.s (.i 4),.s (.sl 0 0 n)] [⟨false,1,wsv ws⟩]
  (. =⟨.tup [.agg ((Qhl ws).C 1),.s (.bool true)],[],[⟨true,1,wsv (Qhl ws).m⟩]⟩):=by
 have q0:=QrH 0;have q1:=Qyg 8 (by decide) (by decide);change Fn _ _ _ _ (. =⟨.a (.s (.sl 0 0 256)),[],[⟨true,1,wsv (zer 256)⟩]⟩) at q1;have hcp:=Qw2 ws (by omega);have gK:=Qgy ws (by omega);have jV:=Qaa ws;have qA:=Qaa (zer 256);have fK:=Qaa (cpW ws);have hlz:(wsv (zer 256)).length=256:=by rw [wsv_length,QdJ]
 have uP:(wsv ws).length=n*ty26.size:=by rw [wsv_length,hn];show n=n*1;omega
 have hkw:Qat (wsv ws)=true:=QbF ws;have zQ:min n 256=n:=by omega
 have hlw2:(wsv ws).length<=256:=by rw [wsv_length];omega
 unfold Qhl;dsimp only [Mc.C,Mc.D,Dk.C,Nk.C];rw [gK];simp only [Qaf,zca,zna];unfold Qwa at q0;have h0:((0:Nat):Int)=0:=rfl;have h1:((1:Nat):Int)=1:=rfl;have h4:((4:Nat):Int)=4:=rfl;simp only [h0,h1,h4];clear h0 h1 h4;generalize wsv (zer 256)=Z,wsv (cpW ws)=X2,wsv ws=X1 at *;clear hn gK;refine fnW Tryz.func15 ?_;(repeat' ((conv=>whnf);first|exact zi3|refine zj0 fun hb=>?_|((with_reducible apply Ge.mk (α:=List SV)); . (refine QBS ?_ ?_<;>exact rfl))|((with_reducible apply Vl.mk (α:=Nat)); . with_reducible exact zQ)|(apply Sk.mk; . exact QcB X1 uP hkw)|(apply Sd.mk; . refine ⟨rfl,?_⟩;(show 0+X1.length<=Z.length;omega))|((with_reducible apply Vl.mk (α:=List SV)); . (with_reducible refine Qn2 ?_ hcp);exact rfl)|(refine zpu q0 ?_)|(refine Qag q1 [] [] aRn trivial trivial ⟨rfl,Qcu rfl⟩ ?_)|refine zse ?_|refine zbb ?_ ?_))
 all_goals exact Qe2
theorem Quu:QnT eqt tys true fns QCi 100 20 42 [.s .nilsl] []=some ⟨.a (.s (.bool true)),[],[]⟩:=by kernel_rfl
theorem QyO:FN 42 [.s .nilsl] [] (. =⟨.a (.s (.bool true)),[],[]⟩):=Qj5 Quu
theorem Qud (M:Mc) (p:Int) (v:Nat):(Qbx M p v).1.ct=M.ct:=by
 unfold Qbx
 repeat' split
 all_goals rfl
theorem QsX (M:Mc) (w:Nat):(Qbh M w).1.ct=(M.ct+1)%18446744073709551616:=by
 unfold Qbh;split
 .show ((inM _ _).ct+1)%_=_
  unfold inM;split<;>rfl
 split
 .show ((Qbx _ _ _).1.ct+1)%_=_
  rw [Qud];rfl
 split
 .rfl
 split<;>rfl
def rnQ (I:Mc->Prop) (R:Res):Prop:=∃ (M':Mc) (os:List (List SV)),I M'/\M'.ok/\Qbe os/\R=⟨.tup [.agg (M'.C 1),.s (.sl 2 0 os.length),.s (.i 0),.s (.i 0)],[],[⟨true,1,wsv M'.m⟩,⟨true,4,OLs os⟩]⟩
def Z41:List SV:=List.replicate 25 (.u 0)++ [.nilsl,.str ⟨#[]⟩,.bool false,.u 0,.bool false,.u 0,.u 0,.u 0,.i 0,.i 0,.u 0,.u 0,.str ⟨#[]⟩,.u 0,.u 0,.bool false,.u 0,.bool false,.u 0,.u 0,.u 0,.w 0,.bool false,.bool false]
def QkB (ol:Nat) (A0 MC Z X OL:List SV):St :=
 ⟨[(1,.a (.s .nilsl)),(2,.a (.s (.w 87))),(3,.a (.s (.ptr 1 0))),(6,.a (.s (.ptr 2 0))),(10,.a (.s (.sl 4 0 ol))),(11,.a (.s (.i 0)))],
  [(0,some ⟨false,1,A0⟩),(1,some ⟨true,1,MC⟩),(2,some ⟨true,1,Z⟩),(3,some ⟨true,1,X⟩),(4,some ⟨true,4,OL⟩)],[0]⟩
theorem QyT (I:Mc->Prop) (M:Mc) (hM:M.ok) (qW:Qbg M=true) (fM:M.ct=0) (GN:I M) (hI:∀ M:Mc,M.ok->I M->M.ct<87->M.ht=false->Qhk M=false->QmH M=false/\I (Qbh M 0).1):FN 20 [.agg (M.C 0),.s .nilsl,.s (.w 87)] [⟨false,1,wsv M.m⟩] (rnQ I):=by
 have q0:=Qri M hM;have q1:=Qlx M hM;rw [qW] at q1;have q2:=QyO;have jV:=Qaa M.m;have yI:=hM.x;have gK:=hM.c;have KP:=hM;have hct0:M.ct=0:=fM;obtain ⟨MS,zW⟩:∃ r:Mc,r=M:=⟨_,rfl⟩;rw [<- zW] at KP hct0 GN;obtain ⟨A0,hA0⟩:∃ A,A=wsv M.m:=⟨_,rfl⟩;rw [<- hA0] at q0 q1 jV |-;clear hM qW;obtain ⟨_,_,_,ma,_,_,_,_,da,na⟩:=M;dsimp only at *;cases QaJ yI;cases zC8 gK;cases da;cases na;simp only [Qaf,zca,zna,Mc.C,Mc.D,Dk.C,Nk.C] at *;generalize gJ:ma.length=nn at *;subst fM;obtain ⟨Z,hZ⟩:∃ Z,Z41=Z:=⟨_,rfl⟩;have KR:Z.length=49:=by rw [<- hZ];rfl
 have wH:Qao Z=true:=by rw [<- hZ];rfl
 refine fnW Tryz.func20 ?_;(conv=>whnf);(repeat' ((first|exact zi4|refine zj4 fun hb=>?_|(refine QaA q0 ?_)|(refine QaA q1 ?_)|(refine zpu q2 ?_)|refine zse ?_|refine zbb ?_ ?_)<;>conv=>whnf))
 all_goals try (first|(exfalso;omega)|(exfalso;simp at hb;done))
 refine Lp.inv (fun mm σ=>∃ (M:Mc) (os:List (List SV)),mm+M.ct=87/\I M/\M.ok/\Qbe os/\os.length<=M.ct/\σ=QkB os.length A0 (M.C 3) Z (wsv M.m) (OLs os)) ?_ ?_
 .refine ⟨87,QkB 0 A0 (MS.C 3) Z (wsv MS.m) [],?_,MS,[],by omega,GN,KP,(fun l h=>by cases h),Nat.zero_le _,rfl⟩
  rw [zW];rw [<- hA0,<- hZ];unfold QkB Z41;simp only [Qaf,zca,zna,Mc.C,Mc.D,Dk.C,Nk.C,gJ]
  (exact zwL [(0,some 0),(1,some 65536),(2,some 65600),(3,some 262208),(4,none)])
 clear zW KP hct0 q0 q1;rintro mm σ ⟨M,os,yF,FD,hM,jM,jF,rfl⟩;obtain ⟨yO,UU,_⟩:=Qax jM;have fD:=Qaa M.m;have hx:=hM.x;have hc:=hM.c
 by_cases gU:M.ct<87
 .have qi:=QmL M hM
  have qr:=Qj3 M hM;have qa:=QiD M hM 0 (by decide);have ZH:=QeA M 0;have hak:=Qea M hM 0 (by decide);have gY:=Qez M hM 0;have HC:=QsX M 0;have UQ:=hI M hM FD gU;generalize Qhk M=ib,QmH M=rb,Qbh M 0=AV at *;obtain ⟨M3,O⟩:=AV;dsimp only at *
  by_cases wT:M.ht=true
  .clear qi qr qa ZH hak gY HC UQ
   have jI:rnQ I ⟨.tup [.agg (M.C 1),.s (.sl 2 0 os.length),.s (.i 0),.s (.i 0)],[],[⟨true,1,wsv M.m⟩,⟨true,4,OLs os⟩]⟩:=⟨M,os,FD,hM,jM,rfl⟩;clear hM FD hI;generalize OLs os=OL,os.length=ol,hXe:wsv M.m=Xe at *;obtain ⟨_,_,_,me,_,_,_,_,de,ne,_,_,_,_,FA⟩:=M;dsimp only at *;cases QaJ hx;cases zC8 hc;cases de;cases ne;unfold QkB;simp only [Qaf,zca,zna,Mc.C,Mc.D,Dk.C,Nk.C] at *;generalize fQ:me.length=nn1 at *;subst wT;(conv=>whnf);(repeat' ((first|exact zi4|refine zj4 fun hb=>?_|refine zse ?_|refine zbb ?_ ?_)<;>conv=>whnf))
   all_goals try (first|(exfalso;omega)|(exfalso;simp at hb;done))
   refine Lp.unroll 1 ?_;exact QEq
  cases ib
  case true =>
   clear qr qa ZH hak gY HC UQ;have jI:rnQ I ⟨.tup [.agg (M.C 1),.s (.sl 2 0 os.length),.s (.i 0),.s (.i 0)],[],[⟨true,1,wsv M.m⟩,⟨true,4,OLs os⟩]⟩:=⟨M,os,FD,hM,jM,rfl⟩;clear hM FD hI;generalize OLs os=OL,os.length=ol,hXe:wsv M.m=Xe at *;obtain ⟨_,_,_,me,_,_,_,_,de,ne,_,_,_,_,FA⟩:=M;dsimp only at *;cases QaJ hx;cases zC8 hc;cases de;cases ne;unfold QkB;simp only [Qaf,zca,zna,Mc.C,Mc.D,Dk.C,Nk.C] at *;generalize fQ:me.length=nn1 at *;obtain rfl:FA=false:=by simpa using wT
   (conv=>whnf);(repeat' ((first|exact zi4|refine zj4 fun hb=>?_|refine zse ?_|refine zbb ?_ ?_)<;>conv=>whnf))
   all_goals try (first|(exfalso;omega)|(exfalso;simp at hb;done))
   refine Lp.unroll 1 ?_;(repeat' ((conv=>whnf);first|exact zi4|refine zj4 fun hb=>?_|refine QFd ?_|refine QHe ?_|(refine QaA qi ?_)|refine zse ?_|refine zbb ?_ ?_))
   all_goals exact QD2
  obtain ⟨hrb,VW⟩:=UQ (by simpa using wT) rfl;subst hrb;have UJ:=hak.x;have JP:=hak.c;have gZ:=Qaa M3.m;have uS:=QcS jM ZH;have hct3:M3.ct=M.ct+1:=by rw [HC];omega
  obtain ⟨r3,WO⟩:∃ r:Mc,r=M3:=⟨_,rfl⟩;have JN:=hak;rw [<- WO] at JN VW;have hct3':r3.ct=M.ct+1:=by rw [WO];exact hct3
  clear HC hak
  cases O with
  | none =>
   dsimp only [Option.toList,oS,oR] at *;rw [List.append_nil] at uS;have gQ:os.length<=M.ct+1:=by omega
   have vP:∀ MC X ol OL,MC=M3.C 3->X=wsv M3.m->ol=os.length->OL=OLs os->QkB ol A0 MC Z X OL=QkB os.length A0 (r3.C 3) Z (wsv r3.m) (OLs os):=fun MC X ol OL h1 h2 h3 h4=>by rw [h1,h2,h3,h4,WO]
   clear WO jM hM FD hI;replace yO:(OLs os).length=os.length*ty91.size:=yO;generalize hOLo:OLs os=OL,hoLo:os.length=ol,hXe:wsv M.m=Xe,hXg:wsv M3.m=Xg at *;obtain ⟨_,_,_,me,_,_,_,_,de,ne,_,_,_,_,FA⟩:=M;dsimp only at *;cases QaJ hx;cases zC8 hc;cases de;cases ne;obtain ⟨_,_,_,mg,_,_,_,_,dg,ng,_,_,_,_,_⟩:=M3;dsimp only at *;cases QaJ UJ;cases zC8 JP;cases dg;cases ng;have HW:=vP _ Xg ol OL rfl rfl rfl rfl;clear vP;unfold QkB;simp only [Qaf,zca,zna,Mc.C,Mc.D,Dk.C,Nk.C] at *;generalize hng:mg.length=nn3,fQ:me.length=nn1 at *;subst gY;obtain rfl:FA=false:=by simpa using wT
   (conv=>whnf);(repeat' ((first|exact zi4|refine zj4 fun hb=>?_|refine zse ?_|refine zbb ?_ ?_)<;>conv=>whnf))
   all_goals try (first|(exfalso;omega)|(exfalso;simp at hb;done))
   refine Lp.unroll 1 ?_;(conv=>whnf);(repeat' ((first|exact zi4|refine zj4 fun hb=>?_|refine QAM ?_|refine QIm ?_|(refine QaA qi ?_)|(refine QaA qr ?_)|(refine Qkr qa ?_)|refine zse ?_|refine zbb ?_ ?_)<;>conv=>whnf))
   all_goals first|(refine ⟨mm-1,QkB ol A0 _ Z Xg OL,by omega,?_,r3,os,by omega,VW,JN,uS,by omega,by rw [hoLo,hOLo];exact HW⟩;unfold QkB;(exact zwL [(0,some 0),(1,some 1),(2,some 2),(3,some 3),(4,some 590016)]))
  | some l =>
   obtain ⟨uD,UD,uE⟩:=ZH l rfl;have hOa:=QkF os l;have wM:(os++ [l]).length=os.length+1:=by simp
   dsimp only [Option.toList,oS,oR] at *;have gQ:(os++ [l]).length<=M.ct+1:=by rw [wM];omega
   have vP:∀ MC X ol OL,MC=M3.C 3->X=wsv M3.m->ol=(os++ [l]).length->OL=OLs (os++ [l])->QkB ol A0 MC Z X OL=QkB (os++ [l]).length A0 (r3.C 3) Z (wsv r3.m) (OLs (os++ [l])):=fun MC X ol OL h1 h2 h3 h4=>by rw [h1,h2,h3,h4,WO]
   clear WO jM hM FD hI;rw [hOa,wM] at vP;obtain ⟨OL2,uM⟩:∃ L,OLs os++l=L:=⟨_,rfl⟩;have JJ:Qao OL2=true:=by rw [<- uM];exact Qa2 UU UD
   rw [uM] at vP hOa;replace yO:(OLs os).length=os.length*ty91.size:=yO;generalize hOLo:OLs os=OL,hoLo:os.length=ol,hXe:wsv M.m=Xe,hXg:wsv M3.m=Xg at *;obtain ⟨_,_,_,me,_,_,_,_,de,ne,_,_,_,_,FA⟩:=M;dsimp only at *;cases QaJ hx;cases zC8 hc;cases de;cases ne;obtain ⟨_,_,_,mg,_,_,_,_,dg,ng,_,_,_,_,_⟩:=M3;dsimp only at *;cases QaJ UJ;cases zC8 JP;cases dg;cases ng;have HW:=vP _ Xg (ol+1) OL2 rfl rfl rfl rfl;clear vP;unfold QkB;simp only [Qaf,zca,zna,Mc.C,Mc.D,Dk.C,Nk.C] at *;generalize hng:mg.length=nn3,fQ:me.length=nn1 at *;subst gY;obtain rfl:FA=false:=by simpa using wT
   (conv=>whnf);(repeat' ((first|exact zi4|refine zj4 fun hb=>?_|refine zse ?_|refine zbb ?_ ?_)<;>conv=>whnf))
   all_goals try (first|(exfalso;omega)|(exfalso;simp at hb;done))
   refine Lp.unroll 1 ?_;(conv=>whnf);(repeat' ((first|exact zi4|refine zj4 fun hb=>?_|refine QAM ?_|(apply Sk.mk; . exact QcB l uD uE)|((with_reducible apply Vl.mk (α:=List SV)); . with_reducible exact uM)|(refine QaA qi ?_)|(refine QaA qr ?_)|(refine Qkr qa ?_)|refine zse ?_|refine zbb ?_ ?_)<;>conv=>whnf))
   all_goals first|(refine ⟨mm-1,QkB (ol+1) A0 _ Z Xg OL2,by omega,?_,r3,(os++ [l]),by omega,VW,JN,uS,by omega,by rw [wM,hOa];exact HW⟩;unfold QkB;(exact zwL [(0,some 0),(1,some 1),(2,some 2),(3,some 3),(4,some 590016)]))
 .have qV:M.ct=87:=by omega
  have jI:rnQ I ⟨.tup [.agg (M.C 1),.s (.sl 2 0 os.length),.s (.i 0),.s (.i 0)],[],[⟨true,1,wsv M.m⟩,⟨true,4,OLs os⟩]⟩:=⟨M,os,FD,hM,jM,rfl⟩;clear hM FD hI;generalize OLs os=OL,os.length=ol,hXe:wsv M.m=Xe at *;obtain ⟨_,_,_,me,_,_,_,_,de,ne,_,_,_,_,FA⟩:=M;dsimp only at *;cases QaJ hx;cases zC8 hc;cases de;cases ne;unfold QkB;simp only [Qaf,zca,zna,Mc.C,Mc.D,Dk.C,Nk.C] at *;generalize fQ:me.length=nn1 at *;exact QEq
theorem Qx6 {N k:Nat} {x:VC} {σ:St} {Q:Exit->St->Prop} (I:Nat->St->Prop) (J JR:St->Prop) (id:Nat) (h0:∃ n σ',Wk N k σ σ'/\I n σ')
  (hs:∀ n σ',I n σ'->∀ K:Exit->St->Prop,(∀ σz σ1,J σz->Wk N k σ1 σz->K (.exit id) σ1)->(∀ σz σ1,JR σz->Wk N k σ1 σz->K .ret σ1)->(∀ m σ'' σ1,m<n->Wk N k σ1 σ''->I m σ''->K .normal σ1)->x σ' K) (hz:∀ σz,J σz->Q (.exit id) σz) (hr:∀ σz,JR σz->Q .ret σz):Lp N k x σ Q :=
 .inw I h0 fun n σ' hI=>hs n σ' hI _ (fun σz σ1 hj hw=>⟨σz,hw,hz σz hj⟩) (fun σz σ1 hj hw=>⟨σz,hw,hr σz hj⟩) fun m σ'' σ1 hm hw hI=>⟨m,σ'',hm,hw,hI⟩
noncomputable def bdF:Code:=(lpB (Tryz.f40.body.getD .skip)).getD 0 .skip
def QhD (U u:Nat) (S C0 X T B O:List SV):St :=
 ⟨[(0,.a (.s (.ptr 0 0))),(1,.a (.s (.sl 4 0 1))),(2,.a (.s (.w U))),(8,.a (.s (.i u)))],
  [(0,some ⟨true,1,C0⟩),(1,none),(2,none),(3,none),(4,some ⟨false,4,S⟩),(5,some ⟨true,1,X⟩),(6,some ⟨true,4,T⟩),(7,some ⟨true,3,B⟩),(8,some ⟨true,4,O⟩)],[0]⟩
def QvU (er:Int) (S C0 X T B O:List SV):St :=
 ⟨[(6,.a (.s (.i 0))),(7,.a (.s (.i er)))],
  [(0,some ⟨true,1,C0⟩),(1,none),(2,none),(3,none),(4,some ⟨false,4,S⟩),(5,some ⟨true,1,X⟩),(6,some ⟨true,4,T⟩),(7,some ⟨true,3,B⟩),(8,some ⟨true,4,O⟩)],[0]⟩
def Qju (E:Eg):Eg × Nat × Int :=
 if E.M.ct<1152921504606846976/\E.M.ht=false then (if Qhk E.M=true then (E,0,1303) else if Qd5 E.M=false then (E,0,1302) else (sgl 7 E,1,0)) else (E,0,0)
theorem QHH (U:Nat) (hU:U<18446744073709551616) (c:Nat) (S:List SV) (hS:S= [.w c,.i 1,.u 7,.str ⟨#[]⟩]) (E:Eg) (hE:E.ok) (K:Exit->St->Prop) (u:Nat) (hn:¬ (E.M.ct<U/\E.M.ct<1152921504606846976)) (hB:∀ σ1,Wk Tryz.f40.ntmps 5 σ1 (QhD U u S (E.C 5 6 7 8) (wsv E.M.m) (tes E.T) (bks E.B) (OLs E.o))->K (.exit 0) σ1) :
  vc Tryz.prog tys Tryz.f40.ntmps 5 bdF (QhD U u S (E.C 5 6 7 8) (wsv E.M.m) (tes E.T) (bks E.B) (OLs E.o)) K:=by
 have fD:=Qaa E.M.m;have gO:=Qae E.T;have gZ:=Qac E.B;have fY:=(Qax hE.o).2.1;have YT:Qao S=true:=by rw [hS];rfl
 have exl:=hE.M.x;have ecl:=hE.M.c;clear hE;obtain ⟨⟨_,_,_,em,_,_,_,_,ef,en,_,_,_,_,_⟩,eT,eB,eo,_,_⟩:=E;cases ef;cases en;dsimp only at exl ecl;cases QaJ exl;cases zC8 ecl;unfold QhD at *
 try unfold QvU at *
 dsimp only [Eg.z,Eg.H,Eg.R,Eg.V,Eg.C,Mc.C,Mc.D,Dk.C,Nk.C] at *;simp only [Qaf,zca,zna] at *;generalize wsv em=eXX,tes eT=eTT,bks eB=eBB,OLs eo=eOO,em.length=emn,eT.length=etn,eB.length=ebn,eo.length=eon at *;subst hS;exact QED
theorem QII (U:Nat) (hU:U<18446744073709551616) (c:Nat) (S:List SV) (hS:S= [.w c,.i 1,.u 7,.str ⟨#[]⟩]) (E:Eg) (hE:E.ok) (K:Exit->St->Prop) (hn:E.M.ct<U) (h1:E.M.ct<1152921504606846976) (hc:c=E.M.ct) (hu:U=E.M.ct+1) (h2:E.M.ht=true) (hB:∀ σ1,Wk Tryz.f40.ntmps 5 σ1 (QhD U 0 S (E.C 5 6 7 8) (wsv E.M.m) (tes E.T) (bks E.B) (OLs E.o))->K (.exit 0) σ1) :
  vc Tryz.prog tys Tryz.f40.ntmps 5 bdF (QhD U 0 S (E.C 5 6 7 8) (wsv E.M.m) (tes E.T) (bks E.B) (OLs E.o)) K:=by
 have fD:=Qaa E.M.m;have gO:=Qae E.T;have gZ:=Qac E.B;have fY:=(Qax hE.o).2.1;have YT:Qao S=true:=by rw [hS];rfl
 have exl:=hE.M.x;have ecl:=hE.M.c;clear hE;obtain ⟨⟨_,_,_,em,_,_,_,_,ef,en,_,_,_,_,_⟩,eT,eB,eo,_,_⟩:=E;cases ef;cases en;dsimp only at exl ecl;cases QaJ exl;cases zC8 ecl;unfold QhD at *
 try unfold QvU at *
 dsimp only [Eg.z,Eg.H,Eg.R,Eg.V,Eg.C,Mc.C,Mc.D,Dk.C,Nk.C] at *;simp only [Qaf,zca,zna] at *;generalize wsv em=eXX,tes eT=eTT,bks eB=eBB,OLs eo=eOO,em.length=emn,eT.length=etn,eB.length=ebn,eo.length=eon at *;subst h2 hc;subst hS;(conv=>whnf);(repeat' ((first|exact zi4|refine zj4 fun hb=>?_|refine zse ?_|refine zbb ?_ ?_)<;>conv=>whnf))
 all_goals try (first|(exfalso;omega)|(exfalso;simp at hb;done))
 refine Lp.unroll 1 ?_;exact QED
theorem QIJ (U:Nat) (hU:U<18446744073709551616) (c:Nat) (S:List SV) (hS:S= [.w c,.i 1,.u 7,.str ⟨#[]⟩]) (E:Eg) (hE:E.ok) (K:Exit->St->Prop) (hn:E.M.ct<U) (h1:E.M.ct<1152921504606846976) (hc:c=E.M.ct) (hu:U=E.M.ct+1) (h2:E.M.ht=false) (h3:Qhk E.M=true) (hR:∀ σ1,Wk Tryz.f40.ntmps 5 σ1 (QvU 1303 S (E.C 5 6 7 8) (wsv E.M.m) (tes E.T) (bks E.B) (OLs E.o))->K .ret σ1) :
  vc Tryz.prog tys Tryz.f40.ntmps 5 bdF (QhD U 0 S (E.C 5 6 7 8) (wsv E.M.m) (tes E.T) (bks E.B) (OLs E.o)) K:=by
 have fD:=Qaa E.M.m;have gO:=Qae E.T;have gZ:=Qac E.B;have fY:=(Qax hE.o).2.1;have YT:Qao S=true:=by rw [hS];rfl
 have exl:=hE.M.x;have ecl:=hE.M.c;have qi:=QeF E.M hE.M;rw [h3] at qi;clear h3;clear hE;obtain ⟨⟨_,_,_,em,_,_,_,_,ef,en,_,_,_,_,_⟩,eT,eB,eo,_,_⟩:=E;cases ef;cases en;dsimp only at exl ecl;cases QaJ exl;cases zC8 ecl;unfold QhD at *
 try unfold QvU at *
 dsimp only [Eg.z,Eg.H,Eg.R,Eg.V,Eg.C,Mc.C,Mc.D,Dk.C,Nk.C] at *;simp only [Qaf,zca,zna] at *;generalize wsv em=eXX,tes eT=eTT,bks eB=eBB,OLs eo=eOO,em.length=emn,eT.length=etn,eB.length=ebn,eo.length=eon at *;subst h2 hc;subst hS;(conv=>whnf);(repeat' ((first|exact zi4|refine zj4 fun hb=>?_|(refine QaA qi ?_)|refine zse ?_|refine zbb ?_ ?_)<;>conv=>whnf))
 all_goals try (first|(exfalso;omega)|(exfalso;simp at hb;done))
 refine Lp.unroll 1 ?_;(repeat' ((conv=>whnf);first|exact zi4|refine zj4 fun hb=>?_|(refine QaA qi ?_)|refine zse ?_|refine zbb ?_ ?_))
 all_goals exact QD4
theorem QIK (U:Nat) (hU:U<18446744073709551616) (c:Nat) (S:List SV) (hS:S= [.w c,.i 1,.u 7,.str ⟨#[]⟩]) (E:Eg) (hE:E.ok) (K:Exit->St->Prop) (hn:E.M.ct<U) (h1:E.M.ct<1152921504606846976) (hc:c=E.M.ct) (hu:U=E.M.ct+1) (h2:E.M.ht=false) (h3:Qhk E.M=false) (h4:Qd5 E.M=false) (hR:∀ σ1,Wk Tryz.f40.ntmps 5 σ1 (QvU 1302 S (E.C 5 6 7 8) (wsv E.M.m) (tes E.T) (bks E.B) (OLs E.o))->K .ret σ1) :
  vc Tryz.prog tys Tryz.f40.ntmps 5 bdF (QhD U 0 S (E.C 5 6 7 8) (wsv E.M.m) (tes E.T) (bks E.B) (OLs E.o)) K:=by
 have fD:=Qaa E.M.m;have gO:=Qae E.T;have gZ:=Qac E.B;have fY:=(Qax hE.o).2.1;have YT:Qao S=true:=by rw [hS];rfl
 have exl:=hE.M.x;have ecl:=hE.M.c;have qi:=QeF E.M hE.M;have qr:=Qfa E.M hE.M;rw [h3] at qi;rw [h4] at qr;clear h3 h4;have e1:IntKind.u64.wrap ((U:Int)-(E.M.ct:Int))=1:=QdK;have e2:IntKind.u64.wrap ((E.M.ct:Int)-(E.M.ct:Int))=0:=QdK;have e3:Qot (1:Int) [0]=0:=rfl;clear hE;obtain ⟨⟨_,_,_,em,_,_,_,_,ef,en,_,_,_,_,_⟩,eT,eB,eo,_,_⟩:=E;cases ef;cases en;dsimp only at exl ecl;cases QaJ exl;cases zC8 ecl;unfold QhD at *
 try unfold QvU at *
 dsimp only [Eg.z,Eg.H,Eg.R,Eg.V,Eg.C,Mc.C,Mc.D,Dk.C,Nk.C] at *;simp only [Qaf,zca,zna] at *;generalize wsv em=eXX,tes eT=eTT,bks eB=eBB,OLs eo=eOO,em.length=emn,eT.length=etn,eB.length=ebn,eo.length=eon at *;subst h2 hc;subst hS;(conv=>whnf);(repeat' ((first|exact zi4|refine zj4 fun hb=>?_|refine QAN ?_|(refine QaA qi ?_)|(refine QaA qr ?_)|refine zse ?_|refine zbb ?_ ?_)<;>conv=>whnf))
 all_goals try (first|(exfalso;omega)|(exfalso;simp at hb;done))
 refine Lp.unroll 1 ?_;(repeat' ((conv=>whnf);first|exact zi4|refine zj4 fun hb=>?_|refine QAN ?_|(refine QaA qi ?_)|(refine QaA qr ?_)|refine zse ?_|refine zbb ?_ ?_))
 all_goals exact QD4
theorem QIL (fJ:FN 266 [.s (.str ⟨#[0]⟩),.s (.i 128)] [] (. =⟨.a (.s (.str z128)),[],[]⟩)) (U:Nat) (hU:U<18446744073709551616) (c:Nat) (S:List SV) (hS:S= [.w c,.i 1,.u 7,.str ⟨#[]⟩]) (E:Eg) (hE:E.ok) (K:Exit->St->Prop) (hn:E.M.ct<U) (h1:E.M.ct<1152921504606846976) (hc:c=E.M.ct) (hu:U=E.M.ct+1) (h2:E.M.ht=false) (h3:Qhk E.M=false) (h4:Qd5 E.M=true) (jF:E.o.length<900000) (R:Eg) (hR:sgl 7 E=R) (hRo:R.ok) (hN:∀ σ1,Wk Tryz.f40.ntmps 5 σ1 (QhD U 1 S (R.C 5 6 7 8) (wsv R.M.m) (tes R.T) (bks R.B) (OLs R.o))->K .normal σ1) :
  vc Tryz.prog tys Tryz.f40.ntmps 5 bdF (QhD U 0 S (E.C 5 6 7 8) (wsv E.M.m) (tes E.T) (bks E.B) (OLs E.o)) K:=by
 have fD:=Qaa E.M.m;have gO:=Qae E.T;have gZ:=Qac E.B;have fY:=(Qax hE.o).2.1;have YT:Qao S=true:=by rw [hS];rfl
 have exl:=hE.M.x;have ecl:=hE.M.c;have qi:=QeF E.M hE.M;have qr:=Qfa E.M hE.M;rw [h3] at qi;rw [h4] at qr;clear h3 h4;have e1:IntKind.u64.wrap ((U:Int)-(E.M.ct:Int))=1:=QdK;have e2:IntKind.u64.wrap ((E.M.ct:Int)-(E.M.ct:Int))=0:=QdK;have e3:Qot (1:Int) [0]=0:=rfl;have cs:=Qkg fJ E hE jF 7 (by decide);rw [hR] at cs;have WQ:=Qaa R.M.m;have WR:=Qae R.T;have WS:=Qac R.B;have uZ:=(Qax hRo.o).2.1;have rxl:=hRo.M.x;have rcl:=hRo.M.c;clear hE hRo hR;obtain ⟨⟨_,_,_,em,_,_,_,_,ef,en,_,_,_,_,_⟩,eT,eB,eo,_,_⟩:=E;cases ef;cases en;dsimp only at exl ecl;cases QaJ exl;cases zC8 ecl;obtain ⟨⟨_,_,_,rm,_,_,_,_,rf,rn,_,_,_,_,_⟩,rT,rB,ro,_,_⟩:=R;cases rf;cases rn;dsimp only at rxl rcl;cases QaJ rxl;cases zC8 rcl;unfold QhD at *;dsimp only [Eg.z,Eg.H,Eg.R,Eg.V,Eg.C,Mc.C,Mc.D,Dk.C,Nk.C] at *;simp only [Qaf,zca,zna] at *;generalize wsv em=eXX,tes eT=eTT,bks eB=eBB,OLs eo=eOO,em.length=emn,eT.length=etn,eB.length=ebn,eo.length=eon,wsv rm=rXX,tes rT=rTT,bks rB=rBB,OLs ro=rOO,rm.length=rmn,rT.length=rtn,rB.length=rbn,ro.length=ron at *;subst h2 hc hS;rw [show ((7:Nat):Int)=7 from rfl] at cs;(conv=>whnf);(repeat' ((first|exact zi4|refine zj4 fun hb=>?_|refine QAN ?_|(refine QaA qi ?_)|(refine QaA qr ?_)|(refine Qaw cs ?_)|refine zse ?_|refine zbb ?_ ?_)<;>conv=>whnf))
 all_goals try (first|(exfalso;omega)|(exfalso;simp at hb;done))
 refine Lp.unroll 1 ?_;(conv=>whnf);(repeat' ((first|exact zi4|refine zj4 fun hb=>?_|refine QAN ?_|(refine QaA qi ?_)|(refine QaA qr ?_)|(refine Qaw cs ?_)|refine zse ?_|refine zbb ?_ ?_)<;>conv=>whnf))
 all_goals first|(exfalso;omega)|(exfalso;simp at hb;done)|(refine hN _ ?_;(exact zwV [(0,some 0),(1,some 1),(2,some 2),(3,some 3),(4,some 4),(5,some 655808),(6,some 655809),(7,some 655810),(8,some 655811)]))
def foR (E:Eg) (v:TV):Res:=⟨v,[(0,some ⟨true,1,E.C 5 6 7 8⟩),(1,none),(2,none),(3,none)],[⟨true,1,wsv E.M.m⟩,⟨true,4,tes E.T⟩,⟨true,3,bks E.B⟩,⟨true,4,OLs E.o⟩]⟩
theorem Qig {E:Eg} (hE:E.ok) (hC:Coh E) (hm:Qbg E.M=true) (jF:E.o.length<900000):(Qju E).1.ok/\Coh (Qju E).1/\Qbg (Qju E).1.M=true/\(Qju E).1.M.m.length=E.M.m.length:=by
 unfold Qju;split
 .rename_i h
  split
  .exact ⟨hE,hC,hm,rfl⟩
  split
  .exact ⟨hE,hC,hm,rfl⟩
  .obtain ⟨a,b,c,_⟩:=QiK E hE hC jF 7 (by decide)
   refine ⟨a,b,?_,?_⟩
   .show Qbg (sgl 7 E).M=true
    rw [c];unfold Qdj;split
    .exact hm
    .exact QhY E.M hE.M 7 hm (by simpa using ‹¬ Qb3 E.M=true›)
   .show (sgl 7 E).M.m.length=_
    rw [c];exact (QiL E.M hE.M 7 (by decide)).2.2
 .exact ⟨hE,hC,hm,rfl⟩
theorem QvT (fJ:FN 266 [.s (.str ⟨#[0]⟩),.s (.i 128)] [] (. =⟨.a (.s (.str z128)),[],[]⟩)) (E:Eg) (hE:E.ok) (hC:Coh E) (hm:Qbg E.M=true) (wJ:E.o= []) (U:Nat) (KQ:U=E.M.ct+1) :
  FN 40 [.s (.ptr 0 0),.s (.sl 4 0 1),.s (.w U)] (E.Hn++ [⟨false,4,[.w E.M.ct,.i 1,.u 7,.str ⟨#[]⟩]⟩]) (. =foR (Qju E).1 (.tup [.s (.i ((Qju E).2.1:Nat)),.s (.i (Qju E).2.2)])):=by
 have fM:E.M.ct<=1152921504606846976:=by
  have h:=hm;unfold Qbg at h;exact (of_decide_eq_true h).2.2.2.2.2.2.2.2.2.2.2.1
 have hU:U<18446744073709551616:=by omega
 have jF:E.o.length<900000:=by rw [wJ];decide
 obtain ⟨Zok,_,_,_⟩:=Qig hE hC hm jF;obtain ⟨⟨Z,uz,ez⟩,hZ⟩:∃ r,Qju E=r:=⟨_,rfl⟩;rw [hZ] at Zok |-;dsimp only at Zok |-;obtain ⟨S,hS⟩:∃ S:List SV,S= [.w E.M.ct,.i 1,.u 7,.str ⟨#[]⟩]:=⟨_,rfl⟩;rw [<- hS];have YT:Qao S=true:=by rw [hS];rfl
 obtain ⟨EE,KM⟩:∃ r:Eg,r=E:=⟨_,rfl⟩;have JG:EE.ok:=KM ▸ hE;have ZE:Coh EE:=KM ▸ hC;have UO:EE.o.length<900000:=KM ▸ jF;have zI:Qju EE=(Z,uz,ez):=by rw [KM];exact hZ
 have JK:S= [.w EE.M.ct,.i 1,.u 7,.str ⟨#[]⟩]:=by rw [KM];exact hS
 have hUE:U=EE.M.ct+1:=by rw [KM];exact KQ
 have fD:=Qaa E.M.m;have gO:=Qae E.T;have gZ:=Qac E.B;have uxl:=hE.M.x;have ucl:=hE.M.c;obtain ⟨K0,hK0⟩:∃ K0,QhD U 0 S (E.C 5 6 7 8) (wsv E.M.m) (tes E.T) (bks E.B) (OLs E.o)=K0:=⟨_,rfl⟩;have hKE:K0=QhD U 0 S (EE.C 5 6 7 8) (wsv EE.M.m) (tes EE.T) (bks EE.B) (OLs EE.o):=by rw [KM];exact hK0.symm
 clear hE hC hm hZ hS KQ jF fM;clear KM;obtain ⟨⟨_,_,_,um,_,_,_,_,uf,un,_,_,_,_,_⟩,uT,uB,_,_,_⟩:=E;cases uf;cases un;dsimp only at uxl ucl;cases QaJ uxl;cases zC8 ucl;dsimp only [Eg.H,Eg.Hn,Eg.R,Eg.C,Mc.C,Mc.D,Dk.C,Nk.C] at fD gO gZ hK0 |-;simp only [Qaf,zca,zna] at hK0 |-;subst wJ;generalize wsv um=uXX,tes uT=uTT,bks uB=uBB at *;rw [show OLs []=([]:List SV) from rfl] at hK0;generalize um.length=umn,uT.length=utn,uB.length=ubn at *;simp only [List.length_nil] at hK0;refine fnW Tryz.func40 ?_;(conv=>whnf);(repeat' ((first|exact zi4|refine zj4 fun hb=>?_|refine zse ?_|refine zbb ?_ ?_)<;>conv=>whnf))
 all_goals try (first|(exfalso;omega)|(exfalso;simp at hb;done))
 refine Qir (x:=vc Tryz.prog tys Tryz.f40.ntmps 5 bdF) (by kernel_rfl) ?_;refine Qx6 (fun mm σ=>(mm=1/\σ=QhD U 0 S (EE.C 5 6 7 8) (wsv EE.M.m) (tes EE.T) (bks EE.B) (OLs EE.o))\/(mm=0/\uz=1/\ez=0/\U<=Z.M.ct/\σ=QhD U 1 S (Z.C 5 6 7 8) (wsv Z.M.m) (tes Z.T) (bks Z.B) (OLs Z.o))) (fun σ=>ez=0/\σ=QhD U uz S (Z.C 5 6 7 8) (wsv Z.M.m) (tes Z.T) (bks Z.B) (OLs Z.o)) (fun σ=>uz=0/\σ=QvU ez S (Z.C 5 6 7 8) (wsv Z.M.m) (tes Z.T) (bks Z.B) (OLs Z.o)) 0 ?_ ?_ ?_ ?_
 .refine ⟨1,K0,?_,.inl ⟨rfl,hKE⟩⟩
  rw [<- hK0];unfold QhD
  (exact zwV [(0,some 0),(1,some 1),(2,some 2),(3,some 3),(4,some 4),(5,some 1),(6,some 2),(7,some 3),(8,none)])
 .rintro mm σ (⟨rfl,rfl⟩|⟨rfl,rfl,rfl,hZc,rfl⟩) K hB hR hN
  .by_cases h1:EE.M.ct<1152921504606846976
   .unfold Qju at zI
    cases h2:EE.M.ht with
    | true =>
     rw [zN (fun h=>by rw [h2] at h;exact absurd h.2 (by decide))] at zI;injection zI with e1 e2
     injection e2 with e2 e3
     subst e1 e2 e3;exact QII U hU EE.M.ct S JK EE JG K (by omega) h1 rfl hUE h2 fun σ1 hw=>hB _ σ1 ⟨rfl,rfl⟩ hw
    | false =>
     rw [zP ⟨h1,h2⟩] at zI
     cases h3:Qhk EE.M with
     | true =>
      rw [zP h3] at zI;injection zI with e1 e2
      injection e2 with e2 e3
      subst e1 e2 e3;exact QIJ U hU EE.M.ct S JK EE JG K (by omega) h1 rfl hUE h2 h3 fun σ1 hw=>hR _ σ1 ⟨rfl,rfl⟩ hw
     | false =>
      rw [zN (by rw [h3];decide)] at zI
      cases h4:Qd5 EE.M with
      | false =>
       rw [zP h4] at zI;injection zI with e1 e2
       injection e2 with e2 e3
       subst e1 e2 e3;exact QIK U hU EE.M.ct S JK EE JG K (by omega) h1 rfl hUE h2 h3 h4 fun σ1 hw=>hR _ σ1 ⟨rfl,rfl⟩ hw
      | true =>
       rw [zN (by rw [h4];decide)] at zI;injection zI with e1 e2
       injection e2 with e2 e3
       subst e2 e3;have hsb:Qb3 EE.M=false:=by unfold Qd5 at h4;cases hq:Qb3 EE.M<;>simp_all
       have hZc:Z.M.ct=U:=by
        obtain ⟨_,_,c,_⟩:=QiK EE JG ZE UO 7 (by decide);rw [<- e1,c];unfold Qdj;rw [zN (by rw [hsb];decide),QoC EE.M 7 h1];exact hUE.symm
       exact QIL fJ U hU EE.M.ct S JK EE JG K (by omega) h1 rfl hUE h2 h3 h4 UO Z e1 Zok fun σ1 hw=>hN 0 _ σ1 (by decide) hw (.inr ⟨rfl,rfl,rfl,by omega,rfl⟩)
   .unfold Qju at zI
    rw [zN (fun h=>h1 h.1)] at zI;injection zI with e1 e2
    injection e2 with e2 e3
    subst e1 e2 e3;exact QHH U hU EE.M.ct S JK EE JG K 0 (fun h=>h1 h.2) fun σ1 hw=>hB _ σ1 ⟨rfl,rfl⟩ hw
  .exact QHH U hU EE.M.ct S JK Z Zok K 1 (fun h=>by omega) fun σ1 hw=>hB _ σ1 ⟨rfl,rfl⟩ hw
 all_goals
  clear JG ZE UO zI JK hUE hK0 hKE;have fD:=Qaa Z.M.m;have gO:=Qae Z.T;have gZ:=Qac Z.B;have fY:=(Qax Zok.o).2.1;have zxl:=Zok.M.x;have zcl:=Zok.M.c;clear Zok;rintro σ ⟨rfl,rfl⟩;obtain ⟨⟨_,_,_,zm,_,_,_,_,zf,zn,_,_,_,_,_⟩,zT,zB,zo,_,_⟩:=Z;cases zf;cases zn;dsimp only at zxl zcl;cases QaJ zxl;cases zC8 zcl;unfold foR
  try unfold QhD
  try unfold QvU
  dsimp only [Eg.H,Eg.R,Eg.C,Mc.C,Mc.D,Dk.C,Nk.C] at *;simp only [Qaf,zca,zna] at *;generalize wsv zm=zXX,tes zT=zTT,bks zB=zBB,OLs zo=zOO,zm.length=zmn,zT.length=ztn,zB.length=zbn,zo.length=zon at *;(conv=>whnf);(repeat' ((first|exact zi4|refine zj4 fun hb=>?_|refine zse ?_|refine zbb ?_ ?_)<;>conv=>whnf))
  all_goals first|(exfalso;omega)|(exfalso;simp at hb;done)|(apply Fin.mv (m:= [(0,some 0),(1,some 1),(2,some 2),(3,some 3),(4,some 4),(5,some 5),(6,some 6),(7,some 7),(8,some 8)]);(focus exact rfl);(all_goals ((try (show QcE _ _ _ [] _));first|exact aFi|exact rfl)))
theorem Qte (C:List SV) (hC:Qao C=true):FN 80 [.s (.sl 0 0 1)] [⟨false,4,C⟩] (. =⟨.a (.s (.bool true)),[],[]⟩):=by
 refine fnW Tryz.func80 ?_;(conv=>whnf);(repeat' ((first|exact zi4|refine zj4 fun hb=>?_|refine zse ?_|refine zbb ?_ ?_)<;>conv=>whnf))
 all_goals try (first|(exfalso;omega)|(exfalso;simp at hb;done))
 refine Lp.unroll 1 ?_;(repeat' ((conv=>whnf);first|exact zi4|refine zj4 fun hb=>?_|refine zse ?_|refine zbb ?_ ?_))
 all_goals exact QfR
theorem Qpv (E:Eg) (hE:E.ok) (hm:Qt6 E=true) (fM:E.M.ct<=1152921504606846976) (U:Nat) (hU:U=E.M.ct+1) :
  FN 39 [.agg (E.V 0 1 2),.s (.sl 3 0 1),.s (.w U)] [⟨false,1,wsv E.M.m⟩,⟨false,4,tes E.T⟩,⟨false,3,bks E.B⟩,⟨false,4,[.w E.M.ct,.i 1,.u 7,.str ⟨#[]⟩]⟩]
   (. =⟨.a (.s (.i 0)),[],[]⟩):=by
 have cm:=Qfb E hE;rw [hm] at cm;have fK:Qao [.w E.M.ct,.i 1,.u 7,.str ⟨#[]⟩]=true:=rfl;have co:=Qte [.w E.M.ct,.i 1,.u 7,.str ⟨#[]⟩] rfl;have e1:IntKind.u64.wrap ((U:Int)-(E.M.ct:Int))=1:=QdK;have fD:=Qaa E.M.m;have gO:=Qae E.T;have gZ:=Qac E.B;have exl:=hE.M.x;have ecl:=hE.M.c;clear hE hm;obtain ⟨⟨_,_,_,em,_,_,_,_,ef,en,_,_,_,_,_⟩,eT,eB,eo,_,_⟩:=E;cases ef;cases en;dsimp only at exl ecl;cases QaJ exl;cases zC8 ecl;dsimp only [Eg.z,Eg.H,Eg.R,Eg.V,Eg.C,Mc.C,Mc.D,Dk.C,Nk.C] at *;simp only [Qaf,zca,zna] at *;generalize wsv em=eXX,tes eT=eTT,bks eB=eBB,OLs eo=eOO,em.length=emn,eT.length=etn,eB.length=ebn,eo.length=eon at *;refine fnW Tryz.func39 ?_;(repeat' ((conv=>whnf);first|exact zi4|refine zj4 fun hb=>?_|refine QHc ?_|(refine QcD cm ?_)|(refine QaA co ?_)|refine zse ?_|refine zbb ?_ ?_))
 all_goals exact QsF
def QFa:List SV:=Z41++ [.nilsl,.nilsl]
def erR (R:Eg × Nat × Int):Res :=
 if R.2.2=0 then ⟨.tup [.agg (R.1.V 4 5 6),.s (.sl 7 0 R.1.o.length),.s (.i (R.2.1:Nat)),.s (.i 0)],[],[⟨true,1,wsv R.1.M.m⟩,⟨true,4,tes R.1.T⟩,⟨true,3,bks R.1.B⟩,⟨true,4,OLs R.1.o⟩]⟩
 else ⟨.tup [.agg QFa,.s .nilsl,.s (.i 0),.s (.i R.2.2)],[],[]⟩
theorem Qts (fJ:FN 266 [.s (.str ⟨#[0]⟩),.s (.i 128)] [] (. =⟨.a (.s (.str z128)),[],[]⟩)) (E:Eg) (hE:E.ok) (hC:Coh E) (JB:Qt6 E=true) (hm:Qbg E.M=true) (U:Nat) (KQ:U=E.M.ct+1) (Z:Eg) (uz:Nat) (ez:Int) (hZ:Qju E.z=(Z,uz,ez)) (zZ:ez=0) :
  FN 18 [.agg (E.V 0 1 2),.s (.sl 3 0 1),.s (.w U)] [⟨false,1,wsv E.M.m⟩,⟨false,4,tes E.T⟩,⟨false,3,bks E.B⟩,⟨false,4,[.w E.M.ct,.i 1,.u 7,.str ⟨#[]⟩]⟩] (. =erR (Z,uz,ez)):=by
 have fM:E.M.ct<=1152921504606846976:=by
  have h:=hm;unfold Qbg at h;exact (of_decide_eq_true h).2.2.2.2.2.2.2.2.2.2.2.1
 have hz:E.z.ok:=⟨hE.M,hE.T,hE.tl,hE.B,hE.bl,(by unfold Qbe;exact fun l h=>by cases h),Nat.zero_le _,by show (0:Nat)<_;decide⟩;have GL:Coh E.z:=⟨hC.n,hC.T,hC.B⟩;have ck:=Qpv E hE JB fM U KQ;have cc:=Qgx E hE;have cf:=QvT fJ E.z hz GL hm rfl U KQ;have Zok:=(Qig hz GL hm (by show (0:Nat)<_;decide)).1;rw [hZ] at cf Zok;dsimp only at cf Zok;have fK:Qao [.w E.M.ct,.i 1,.u 7,.str ⟨#[]⟩]=true:=rfl;have hU:U<18446744073709551616:=by omega
 have fD:=Qaa E.M.m;have gO:=Qae E.T;have gZ:=Qac E.B;have WQ:=Qaa Z.M.m;have WR:=Qae Z.T;have WS:=Qac Z.B;have uZ:=(Qax Zok.o).2.1;have exl:=hE.M.x;have ecl:=hE.M.c;have zxl:=Zok.M.x;have zcl:=Zok.M.c;unfold erR;rw [zP zZ];unfold foR at cf;clear hE hC JB hm hZ hz GL Zok fM;obtain ⟨⟨_,_,_,em,_,_,_,_,ef,en,_,_,_,_,_⟩,eT,eB,eo,_,_⟩:=E;cases ef;cases en;dsimp only at exl ecl;cases QaJ exl;cases zC8 ecl;obtain ⟨⟨_,_,_,zm,_,_,_,_,zf,zn,_,_,_,_,_⟩,zT,zB,zo,_,_⟩:=Z;cases zf;cases zn;dsimp only at zxl zcl;cases QaJ zxl;cases zC8 zcl;dsimp only [Eg.z,Eg.H,Eg.Hn,Eg.R,Eg.V,Eg.C,Mc.C,Mc.D,Dk.C,Nk.C] at *;simp only [Qaf,zca,zna] at *;generalize wsv em=eXX,tes eT=eTT,bks eB=eBB,OLs eo=eOO,em.length=emn,eT.length=etn,eB.length=ebn,eo.length=eon,wsv zm=zXX,tes zT=zTT,bks zB=zBB,OLs zo=zOO,zm.length=zmn,zT.length=ztn,zB.length=zbn,zo.length=zon at *;subst zZ;refine fnW Tryz.func18 ?_;(conv=>whnf);(repeat' ((first|exact zi4|refine zj4 fun hb=>?_|refine QHi ?_|refine QFg ?_|(refine Qag ck [⟨0,0⟩,⟨1,0⟩,⟨2,0⟩,⟨3,0⟩] [(0,_),(1,_),(2,_),(3,_)] aRn ⟨rfl,rfl,rfl,rfl,trivial⟩ ⟨rfl,Qap (by assumption),rfl,Qap (by assumption),rfl,Qap (by assumption),rfl,Qap (by assumption),trivial⟩ ⟨rfl,Qcu rfl⟩ ?_)|(refine QcD cc ?_)|(refine Qag cf [⟨262336,0⟩,⟨262208,0⟩,⟨262209,0⟩,⟨262210,0⟩,⟨3,0⟩] [(262336,_),(262208,_),(262209,_),(262210,_),(3,_)] aRn ⟨rfl,rfl,rfl,rfl,rfl,trivial⟩ ⟨rfl,QbO rfl rfl,rfl,QaE (by assumption) rfl,rfl,QaE (by assumption) rfl,rfl,QaE (by assumption) rfl,rfl,Qap (by assumption),trivial⟩ ⟨rfl,Qcu rfl⟩ ?_)|refine zse ?_|refine zbb ?_ ?_)<;>conv=>whnf))
 all_goals first|(exfalso;omega)|(exfalso;simp at hb;done)|(apply Fin.mk (m:= [(0,some 0),(1,some 1),(2,some 2),(3,some 3),(4,some 327872),(5,some 327873),(6,some 327874),(7,some 327875)]);(focus exact rfl);(all_goals ((try (show HlS _ _ [] _));first|(exact aFi)|exact rfl)))
theorem Qtr (fJ:FN 266 [.s (.str ⟨#[0]⟩),.s (.i 128)] [] (. =⟨.a (.s (.str z128)),[],[]⟩)) (E:Eg) (hE:E.ok) (hC:Coh E) (JB:Qt6 E=true) (hm:Qbg E.M=true) (U:Nat) (KQ:U=E.M.ct+1) (Z:Eg) (uz:Nat) (ez:Int) (hZ:Qju E.z=(Z,uz,ez)) (zZ:¬ ez=0) :
  FN 18 [.agg (E.V 0 1 2),.s (.sl 3 0 1),.s (.w U)] [⟨false,1,wsv E.M.m⟩,⟨false,4,tes E.T⟩,⟨false,3,bks E.B⟩,⟨false,4,[.w E.M.ct,.i 1,.u 7,.str ⟨#[]⟩]⟩] (. =erR (Z,uz,ez)):=by
 have fM:E.M.ct<=1152921504606846976:=by
  have h:=hm;unfold Qbg at h;exact (of_decide_eq_true h).2.2.2.2.2.2.2.2.2.2.2.1
 have hz:E.z.ok:=⟨hE.M,hE.T,hE.tl,hE.B,hE.bl,(by unfold Qbe;exact fun l h=>by cases h),Nat.zero_le _,by show (0:Nat)<_;decide⟩;have GL:Coh E.z:=⟨hC.n,hC.T,hC.B⟩;have ck:=Qpv E hE JB fM U KQ;have cc:=Qgx E hE;have cf:=QvT fJ E.z hz GL hm rfl U KQ;have Zok:=(Qig hz GL hm (by show (0:Nat)<_;decide)).1;rw [hZ] at cf Zok;dsimp only at cf Zok;have fK:Qao [.w E.M.ct,.i 1,.u 7,.str ⟨#[]⟩]=true:=rfl;have hU:U<18446744073709551616:=by omega
 have fD:=Qaa E.M.m;have gO:=Qae E.T;have gZ:=Qac E.B;have WQ:=Qaa Z.M.m;have WR:=Qae Z.T;have WS:=Qac Z.B;have uZ:=(Qax Zok.o).2.1;have exl:=hE.M.x;have ecl:=hE.M.c;have zxl:=Zok.M.x;have zcl:=Zok.M.c;unfold erR;rw [zN zZ];unfold foR at cf;clear hE hC JB hm hZ hz GL Zok fM;obtain ⟨⟨_,_,_,em,_,_,_,_,ef,en,_,_,_,_,_⟩,eT,eB,eo,_,_⟩:=E;cases ef;cases en;dsimp only at exl ecl;cases QaJ exl;cases zC8 ecl;obtain ⟨⟨_,_,_,zm,_,_,_,_,zf,zn,_,_,_,_,_⟩,zT,zB,zo,_,_⟩:=Z;cases zf;cases zn;dsimp only at zxl zcl;cases QaJ zxl;cases zC8 zcl;dsimp only [Eg.z,Eg.H,Eg.Hn,Eg.R,Eg.V,Eg.C,Mc.C,Mc.D,Dk.C,Nk.C] at *;simp only [Qaf,zca,zna] at *;generalize wsv em=eXX,tes eT=eTT,bks eB=eBB,OLs eo=eOO,em.length=emn,eT.length=etn,eB.length=ebn,eo.length=eon,wsv zm=zXX,tes zT=zTT,bks zB=zBB,OLs zo=zOO,zm.length=zmn,zT.length=ztn,zB.length=zbn,zo.length=zon at *;unfold QFa Z41;refine fnW Tryz.func18 ?_;(repeat' ((conv=>whnf);first|exact zi4|refine zj4 fun hb=>?_|refine QHi ?_|(refine Qag ck [⟨0,0⟩,⟨1,0⟩,⟨2,0⟩,⟨3,0⟩] [(0,_),(1,_),(2,_),(3,_)] aRn ⟨rfl,rfl,rfl,rfl,trivial⟩ ⟨rfl,Qap (by assumption),rfl,Qap (by assumption),rfl,Qap (by assumption),rfl,Qap (by assumption),trivial⟩ ⟨rfl,Qcu rfl⟩ ?_)|(refine QcD cc ?_)|(refine Qag cf [⟨262336,0⟩,⟨262208,0⟩,⟨262209,0⟩,⟨262210,0⟩,⟨3,0⟩] [(262336,_),(262208,_),(262209,_),(262210,_),(3,_)] aRn ⟨rfl,rfl,rfl,rfl,rfl,trivial⟩ ⟨rfl,QbO rfl rfl,rfl,QaE (by assumption) rfl,rfl,QaE (by assumption) rfl,rfl,QaE (by assumption) rfl,rfl,Qap (by assumption),trivial⟩ ⟨rfl,Qcu rfl⟩ ?_)|refine zse ?_|refine zbb ?_ ?_))
 all_goals exact QsF
def QcP (M:Mc):Mc:=if M.ht=true then M else { M with ks:=Qu2 M.ks 65 }
def QAA (M:Mc):Bool:=if M.ht=true then false else decide ((M.ks.size:Int)<16)
theorem QhF (M:Mc):(QcP M).m=M.m:=by unfold QcP;split<;>rfl
theorem QB9 (M:Mc):(QcP M).c=M.c:=by unfold QcP;split<;>rfl
theorem QzH (k:ByteArray) (h:k.size<=16):(Qu2 k 65).size<=16:=by
 unfold Qu2;split
 .exact h
 .rw [ByteArray.size_append,show (strOfNums [((65:Nat):Int)]).size=1 from rfl]
  omega
theorem QqI {M:Mc} (hM:M.ok) (hm:Qbg M=true):(QcP M).ok/\Qbg (QcP M)=true:=by
 unfold QcP;split
 .exact ⟨hM,hm⟩
 .have h:=hm
  unfold Qbg at h;have h2:=of_decide_eq_true h;have hk:Qb7 M.ks=true:=h2.2.2.2.2.2.2.1;have hk16:M.ks.size<=16:=by unfold Qb7 at hk;simp at hk;omega
  have ht:=QzH M.ks hk16;refine ⟨⟨hM.x,hM.c,hM.xr,hM.cr,hM.pr,hM.mr,hM.ml,hM.dk,hM.nk,hM.dv.1,hM.dv.2.1,hM.dv.2.2.1,hM.dv.2.2.2.1,by show (Qu2 M.ks 65).size<=_;omega⟩,?_⟩;unfold Qbg;refine zdt ⟨h2.1,h2.2.1,h2.2.2.1,h2.2.2.2.1,h2.2.2.2.2.1,h2.2.2.2.2.2.1,?_,h2.2.2.2.2.2.2.2⟩;show Qb7 (Qu2 M.ks 65)=true;unfold Qb7;simp;omega
theorem Qyx (M:Mc) (hM:M.ok):FN 38 [.s (.ptr 0 0),.agg [.i 3,.u 65,.str ⟨#[]⟩]] [⟨true,1,M.C 1⟩,⟨true,1,wsv M.m⟩]
  (. =⟨.a (.s (.bool (QAA M))),[(0,some ⟨true,1,(QcP M).C 1⟩),(1,some ⟨true,1,wsv M.m⟩)],[]⟩):=by
 have q3:=QuE M.ks hM.dv.2.2.2.2 65;have gL:=Qaa M.m;unfold QcP QAA;generalize Qu2 M.ks 65=k2,decide ((M.ks.size:Int)<16)=kb at *
 by_cases wT:M.ht=true
 .rw [zP wT,zP wT]
  clear q3;obtain ⟨hx,hc,hY,gA,gH,gB,_,gE,gD,gG⟩:=hM;obtain ⟨_,_,_,m,ks,_,_,_,d,n,_,_,_,_,ht⟩:=M;dsimp only at *;cases QaJ hx;cases zC8 hc;cases d;cases n;dsimp only [Mc.C,Mc.D,Dk.C,Nk.C,Dk.ok,Nk.ok] at *;generalize gJ:m.length=nn,hX:wsv m=XX at *;clear hY gA gE gD gB gG gH
  try dsimp only [Mc.C,Mc.D,Dk.C,Nk.C] at *
  simp only [Qaf,zca,zna] at *;subst wT;refine fnW Tryz.func38 ?_;(repeat' ((conv=>whnf);first|exact zi4|refine zj4 fun hb=>?_|refine zse ?_|refine zbb ?_ ?_))
  all_goals exact QsE
 .rw [zN wT,zN wT]
  have wT:=Bool.eq_false_iff.2 wT;obtain ⟨hx,hc,hY,gA,gH,gB,_,gE,gD,gG⟩:=hM;obtain ⟨_,_,_,m,ks,_,_,_,d,n,_,_,_,_,ht⟩:=M;dsimp only at *;cases QaJ hx;cases zC8 hc;cases d;cases n;dsimp only [Mc.C,Mc.D,Dk.C,Nk.C,Dk.ok,Nk.ok] at *;generalize gJ:m.length=nn,hX:wsv m=XX at *;clear hY gA gE gD gB gG gH
  try dsimp only [Mc.C,Mc.D,Dk.C,Nk.C] at *
  simp only [Qaf,zca,zna] at *;subst wT;refine fnW Tryz.func38 ?_;(repeat' ((conv=>whnf);first|exact zi4|refine zj4 fun hb=>?_|(refine zpu q3 ?_)|refine zse ?_|refine zbb ?_ ?_))
  all_goals exact QsE
theorem QjU (M:Mc) (hM:M.ok) (hm:Qbg M=true):FN 17 [.agg (M.C 0),.agg [.i 3,.u 65,.str ⟨#[]⟩]] [⟨false,1,wsv M.m⟩]
  (. =⟨.tup [.agg ((QcP M).C 1),.s (.bool (QAA M))],[],[⟨true,1,wsv M.m⟩]⟩):=by
 have q0:=Qri M hM;have qs:=Qlx M hM;rw [hm] at qs;have qa:=Qyx M hM;have jV:=Qaa M.m;have hak:=(QqI hM hm).1;have yF:=QhF M;have KJ:=hM.x;have FJ:=hM.c;generalize QAA M=kb,QcP M=M3 at *;have KL:=hak.x;have FL:=hak.c;have gY:M3.m.length=M.m.length:=by rw [yF]
 clear hM hak hm yF;generalize wsv M.m=Xe at *;obtain ⟨_,_,_,me,_,_,_,_,de,ne⟩:=M;dsimp only at *;cases QaJ KJ;cases zC8 FJ;cases de;cases ne;obtain ⟨_,_,_,mg,_,_,_,_,dg,ng⟩:=M3;dsimp only at *;cases QaJ KL;cases zC8 FL;cases dg;cases ng;simp only [Qaf,zca,zna,Mc.C,Mc.D,Dk.C,Nk.C] at *;generalize mg.length=nn3,me.length=nn1 at *;subst gY;refine fnW Tryz.func17 ?_;(repeat' ((conv=>whnf);first|exact zi4|refine zj4 fun hb=>?_|refine zq0 ?_|(refine QaA q0 ?_)|(refine QaA qs ?_)|(refine Qkr qa ?_)|refine zse ?_|refine zbb ?_ ?_))
 all_goals exact Qe2
end Go.Proofs.YtpgkkfajljekpabGreat
