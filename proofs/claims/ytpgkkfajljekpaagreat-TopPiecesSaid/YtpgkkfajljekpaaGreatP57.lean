import Derived.Test.YtpgkkfajljekpaaGreatP52
import Derived.Test.YtpgkkfajljekpaaGreatP54
set_option linter.unusedSimpArgs false
set_option linter.unusedVariables false
set_option maxHeartbeats 0
set_option maxRecDepth 100000
namespace Go.Proofs.YtpgkkfajljekpaaGreat
open Go Go.RowKit
theorem QJq (np n i:Nat) (hi:¬ i<np) (A0 A1 X0 X5:List SV) (qE:Qad A0=true) (qF:Qad A1=true) (qB:Qad X0=true) (fP:Qad X5=true) (N:Mc) (hN0:N.ok) (M:Mc) (hM:M.ok) (p:Nat) (hF:Frm M p X0 X5) (K:Exit->St->Prop) (hB:∀ σ1,Wk Tryz.f3.ntmps 2 σ1 (QfF np n i A0 A1 (M.C p) (N.C 4) X0 X5)->K (.exit 0) σ1) :
  vc Tryz.prog tys Tryz.f3.ntmps 2 (bdT 0) (QfF np n i A0 A1 (M.C p) (N.C 4) X0 X5) K:=by
 have jO:=hM.x;have jL:=hM.c;have vO:=hN0.x;have vM:=hN0.c;clear hM hN0;rcases hF with ⟨rfl,rfl⟩|⟨rfl,rfl⟩
 all_goals
  generalize wsv M.m=Xe at *;obtain ⟨_,_,_,me,_,_,_,_,de,ne⟩:=M;dsimp only at *;cases QJP jO;cases zC8 jL;cases de;cases ne;obtain ⟨_,_,_,mw,_,_,_,_,dw,nw,_,_,_,_,_⟩:=N;dsimp only at *;cases QJP vO;cases zC8 vM;cases dw;cases nw;unfold QfF;unfold QfF at hB;simp only [Qaf,zca,zna,Mc.C,Mc.D,Dk.C,Nk.C] at *;generalize me.length=nn1,mw.length=nn2 at *;exact QEi
theorem QzA (kind:Int) (ls ps:List Int) (nl np:Nat) (hn:ls.length=nl) (hp:ps.length=np) (h:¬ (nl<=40/\np<=25)) :
  FN 3 [.s (.i kind),.s (.sl 0 0 nl),.s (.sl 1 0 np)] [⟨false,1,isv .i64 ls⟩,⟨false,1,isv .i64 ps⟩] (. =⟨.a (.s (.bool true)),[],[]⟩):=by
 have ca:=QmT;have qB:=QaP .i64 ls;have fH:=QaP .i64 ps;generalize isv .i64 ls=A0,isv .i64 ps=A1 at *;refine fnW Tryz.func3 ?_;(repeat' ((conv=>whnf);first|exact zi4|(refine zj4 ?_;intro hb)|(refine zpu ca ?_)|refine zse ?_|refine zbb ?_ ?_));all_goals (conv=>whnf)
 all_goals first|(exfalso;omega)|(exfalso;simp at hb;omega)|(exact QdZ)
theorem QuM (kind:Int) (ls ps:List Int) (nl np:Nat) (hn:ls.length=nl) (hp:ps.length=np) (h1:nl<=40) (h2:np<=25) :
  FN 3 [.s (.i kind),.s (.sl 0 0 nl),.s (.sl 1 0 np)] [⟨false,1,isv .i64 ls⟩,⟨false,1,isv .i64 ps⟩] (. =⟨.a (.s (.bool true)),[],[]⟩):=by
 have ca:=QmT;have cm:=Qnp kind ls nl hn h1;have qB:=QaP .i64 ls;have fH:=QaP .i64 ps;generalize isv .i64 ls=A0 at *;obtain ⟨A1,uD⟩:∃ A,isv .i64 ps=A:=⟨_,rfl⟩;rw [uD] at fH |-;refine fnW Tryz.func3 ?_;(repeat' ((conv=>whnf);first|exact zi4|(refine zj4 ?_;intro hb)|(refine QiH cm [⟨0,0⟩] [(0,⟨false,1,A0⟩)] aRn ⟨rfl,trivial⟩ ⟨rfl,Qas (by assumption),trivial⟩ ?_ ?_;(focus (rintro R ⟨M,_,_,rfl⟩;exact ⟨(by show 1<=Qap;decide),fun p h=>by cases h⟩));rintro R ⟨M,hM,⟨FW,hMm⟩,rfl⟩;have hsM:=Qaa M.m;obtain ⟨MS,jD⟩:∃ r:Mc,r=M:=⟨_,rfl⟩;have hM0:Mv MS:=jD ▸ ⟨hM,hMm,FW⟩;clear hMm FW;have GY:=hM.x;have qO:=hM.c;clear hM;obtain ⟨X0,FZ⟩:∃ A,A=wsv M.m:=⟨_,rfl⟩;rw [<- FZ] at hsM;obtain ⟨_,_,ca,ma,_,_,_,_,da,na,_,_,_,_,_⟩:=M;dsimp only at *;cases QJP GY;cases zC8 qO;cases da;cases na;simp only [Qaf,zca,zna,Mc.C,Mc.D,Dk.C,Nk.C] at |-;generalize gJ:ma.length=nn at *;rw [<- FZ])|refine zse ?_|refine zbb ?_ ?_));all_goals (conv=>whnf)
 all_goals try (first|(exfalso;omega)|(exfalso;simp at hb;done))
 refine Qel (x:=vc Tryz.prog tys Tryz.f3.ntmps 2 (bdT 0)) (by kernel_rfl) ?_;have zY:Qad X0=true:=hsM;refine Qem (fun mm σ=>∃ (i n p:Nat) (X5:List SV),mm=np-i/\i<=np/\n<=8*i/\Qad X5=true/\Frm (itr n MS) p X0 X5/\σ=QfF np n i A0 A1 ((itr n MS).C p) (MS.C 4) X0 X5) (fun σ=>∃ (n p:Nat) (X5:List SV),n<=8*np/\Qad X5=true/\Frm (itr n MS) p X0 X5/\σ=QfF np n np A0 A1 ((itr n MS).C p) (MS.C 4) X0 X5) 0 ?_ ?_ ?_
 .refine ⟨np,QfF np 0 0 A0 A1 (MS.C 4) (MS.C 4) X0 [],?_,0,0,4,[],rfl,Nat.zero_le _,Nat.zero_le _,rfl,.inl ⟨rfl,by show X0=wsv MS.m;rw [jD];exact FZ⟩,rfl⟩
  rw [jD];unfold QfF;simp only [Qaf,zca,zna,Mc.C,Mc.D,Dk.C,Nk.C,gJ]
  (exact zwL [(0,some 0),(1,some 1),(2,some 196800),(3,some 262208),(4,some 196736),(5,none)])
 .rintro mm σ ⟨i,n,p,X5,wZ,fX,WQ,fP,hF,rfl⟩ K hB hN
  have hMv:=Qdt n hM0
  by_cases hi:i<np
  .obtain ⟨k,hk⟩:∃ k:Nat,(ps.getD i 0 / 2^min (Int.toNat 2) IntKind.i64.bits)%9=(k:Int):=⟨((ps.getD i 0 / 2^min (Int.toNat 2) IntKind.i64.bits)%9).toNat,by omega⟩
   have GK:k<=8:=by omega
   have GO:∀ (p':Nat) (X5':List SV),Qad X5'=true->Frm (itr k (itr n MS)) p' X0 X5'->∀ σ1,Wk Tryz.f3.ntmps 2 σ1 (QfF np (n+k) (i+1) A0 A1 ((itr k (itr n MS)).C p') (MS.C 4) X0 X5')->K .normal σ1:=fun p' X5' h5 vZ σ1 hw=>hN (mm-1) _ σ1 (by omega) hw ⟨i+1,n+k,p',X5',by omega,by omega,by omega,h5,by rw [QgC];exact vZ,by rw [QgC]⟩
   rcases (by omega:ps.getD i 0%3=0\/ps.getD i 0%3=1\/ps.getD i 0%3=2) with hc|hc|hc
   .exact QJm np n i hi h2 WQ ps hp A0 A1 X0 X5 qB fH zY fP uD MS hM0.ok _ hMv p hF k GK hk K hc GO
   .obtain ⟨hE,hC⟩:=Qmm (itr n MS) hMv
    have qN:(itr n MS).ct<=1152921504606846976:=by
     have h:=hMv.may;unfold QbK at h;exact (of_decide_eq_true h).2.2.2.2.2.2.2.2.2.2.2.1
    have hL:QiP (itr n MS) k<=k:=by unfold QiP;omega
    have hD:=QhR (QiP (itr n MS) k) (QiP (itr n MS) k) 0 _ hE hC hMv.may (Nat.zero_le _) (by omega) (by show (itr n MS).ct+(QiP (itr n MS) k-0)<=_;unfold QiP;omega) (by show 0+(QiP (itr n MS) k-0)<=_;omega);change Adv _ _ _ (QnT ⟨itr n MS,[],[],[],0,false⟩ k) at hD;obtain ⟨l,_,hr⟩:=hD.run;rw [Nat.sub_zero] at hr;have yQ:=hD.li;exact QJn np n i hi h2 WQ ps hp A0 A1 X0 X5 qB fH zY fP uD MS hM0.ok _ hMv p hF k GK hk K hc _ rfl (by omega) hD.ok (Qqv hr).symm GO
   .cases hR:brR k (itr n MS) [] with
    | none=>exact QJo np n i hi h2 WQ ps hp A0 A1 X0 X5 qB fH zY fP uD MS hM0.ok _ hMv p hF k GK hk K hc hR GO
    | some r =>
     obtain ⟨M',os⟩:=r;obtain ⟨a,b,_⟩:=Qvo hMv.ok (show Qbk [] from fun l h=>by cases h) hR;exact QJp np n i hi h2 WQ ps hp A0 A1 X0 X5 qB fH zY fP uD MS hM0.ok _ hMv p hF k GK hk K hc M' os hR a b GO
  .obtain rfl:i=np:=by omega
   exact QJq i n i hi A0 A1 X0 X5 qB fH zY fP MS hM0.ok _ hMv.ok p hF K fun σ1 hw=>hB _ σ1 ⟨n,p,X5,WQ,fP,hF,rfl⟩ hw
 .rintro σ ⟨n,p,X5,WQ,fP,hF,rfl⟩
  have hI:=Qdt n hM0;have csm:=Qs8 _ hI.ok;clear cm hp;have hn6:n<=1000000:=by omega
  obtain ⟨I,JF⟩:∃ r:Mc,r=itr n MS:=⟨_,rfl⟩;rw [<- JF] at hI csm hF |-;have uQ:X0=wsv MS.m:=by rw [jD];exact FZ
  clear jD FZ hsM;obtain ⟨_,YB⟩:∃ C,C=I.C p:=⟨_,rfl⟩;obtain ⟨_,YC⟩:∃ C,C=MS.C 4:=⟨_,rfl⟩;rw [<- YB,<- YC];unfold QfF;(repeat' ((conv=>whnf);first|exact zi4|(refine zj4 ?_;intro hb)|refine zse ?_|refine zbb ?_ ?_));all_goals (conv=>whnf)
  all_goals try (first|(exfalso;omega)|(exfalso;simp at hb;done))
  refine Qel (x:=vc Tryz.prog tys Tryz.f3.ntmps 2 (bdT 4)) (by kernel_rfl) ?_;rcases hF with ⟨rfl,YE⟩|⟨rfl,YE⟩
  .refine QCR n 0 (Nat.zero_le _) hn6 A0 A1 X0 X5 qB fH zY fP I hI.ok MS hM0 4 (.inl ⟨rfl,uQ⟩) _ ?_ _ ?_
   .subst YB YC
    have VN:=hI.ok.x;have uR:=hI.ok.c;have vO:=hM0.ok.x;have vM:=hM0.ok.c;clear hI hM0 JF YE uQ csm ca;obtain ⟨_,_,_,mi,_,_,_,_,di,ni,_,_,_,_,_⟩:=I;dsimp only at *;cases QJP VN;cases zC8 uR;cases di;cases ni;obtain ⟨_,_,_,mw,_,_,_,_,dw,nw,_,_,_,_,_⟩:=MS;dsimp only at *;cases QJP vO;cases zC8 vM;cases dw;cases nw;unfold Qko;simp only [Qaf,zca,zna,Mc.C,Mc.D,Dk.C,Nk.C];generalize mi.length=nni,mw.length=nnw at *
    (exact zwL [(0,some 0),(1,some 1),(2,some 2),(3,some 3),(4,some 4),(5,some 5)])
   .intro p' X5' zX vZ
    rw [Nat.sub_zero,<- JF] at vZ |-;have VN:=hI.ok.x;have uR:=hI.ok.c;clear hI hM0 JF uQ YB YC;subst YE;rcases vZ with ⟨rfl,vZ⟩|⟨rfl,vZ⟩
    all_goals
     try subst vZ
     try clear vZ
     generalize wsv I.m=Xi at *;obtain ⟨_,_,_,mi,_,_,_,_,di,ni,_,_,_,_,_⟩:=I;dsimp only at *;cases QJP VN;cases zC8 uR;cases di;cases ni;unfold Qko;simp only [Qaf,zca,zna,Mc.C,Mc.D,Dk.C,Nk.C] at csm |-;generalize mi.length=nni at *;exact QEj
  .refine QCR n 0 (Nat.zero_le _) hn6 A0 A1 X5 X0 qB fH fP zY I hI.ok MS hM0 5 (.inr ⟨rfl,uQ⟩) _ ?_ _ ?_
   .subst YB YC
    have VN:=hI.ok.x;have uR:=hI.ok.c;have vO:=hM0.ok.x;have vM:=hM0.ok.c;clear hI hM0 JF YE uQ csm ca;obtain ⟨_,_,_,mi,_,_,_,_,di,ni,_,_,_,_,_⟩:=I;dsimp only at *;cases QJP VN;cases zC8 uR;cases di;cases ni;obtain ⟨_,_,_,mw,_,_,_,_,dw,nw,_,_,_,_,_⟩:=MS;dsimp only at *;cases QJP vO;cases zC8 vM;cases dw;cases nw;unfold Qko;simp only [Qaf,zca,zna,Mc.C,Mc.D,Dk.C,Nk.C];generalize mi.length=nni,mw.length=nnw at *
    (exact zwL [(0,some 0),(1,some 1),(2,some 2),(3,some 3),(4,some 5),(5,some 4)])
   .intro p' X5' zX vZ
    rw [Nat.sub_zero,<- JF] at vZ |-;have VN:=hI.ok.x;have uR:=hI.ok.c;clear hI hM0 JF uQ YB YC;subst YE;rcases vZ with ⟨rfl,vZ⟩|⟨rfl,vZ⟩
    all_goals
     try subst vZ
     try clear vZ
     generalize wsv I.m=Xi at *;obtain ⟨_,_,_,mi,_,_,_,_,di,ni,_,_,_,_,_⟩:=I;dsimp only at *;cases QJP VN;cases zC8 uR;cases di;cases ni;unfold Qko;simp only [Qaf,zca,zna,Mc.C,Mc.D,Dk.C,Nk.C] at csm |-;generalize mi.length=nni at *;exact QEj
theorem tpl_fn (kind:Int) (ls ps:List Int) (nl np:Nat) (hn:ls.length=nl) (hp:ps.length=np) :
  FN 3 [.s (.i kind),.s (.sl 0 0 nl),.s (.sl 1 0 np)] [⟨false,1,isv .i64 ls⟩,⟨false,1,isv .i64 ps⟩] (. =⟨.a (.s (.bool true)),[],[]⟩):=by
 by_cases h:nl<=40/\np<=25
 .exact QuM kind ls ps nl np hn hp h.1 h.2
 .exact QzA kind ls ps nl np hn hp h
end Go.Proofs.YtpgkkfajljekpaaGreat
