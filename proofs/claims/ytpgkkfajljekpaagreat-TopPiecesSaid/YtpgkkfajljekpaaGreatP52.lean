import Derived.Test.YtpgkkfajljekpaaGreatP45
import Derived.Test.YtpgkkfajljekpaaGreatP62
set_option linter.unusedSimpArgs false
set_option linter.unusedVariables false
set_option maxHeartbeats 0
set_option maxRecDepth 100000
namespace Go.Proofs.YtpgkkfajljekpaaGreat
open Go Go.RowKit
theorem Qx9 (M:Mc) (hM:M.ok):FN 9 [.agg (M.C 0)] [⟨false,1,wsv M.m⟩] (. =⟨.a (.agg ((⟨M,[],[],[],0,false⟩:Eg).V 1 2 3)),[],[⟨true,1,wsv M.m⟩,⟨true,4,[]⟩,⟨true,3,[]⟩]⟩):=by
 have k1:=Qnc M hM;have gL:=Qaa M.m;unfold Mc.N at *;unfold Eg.V;dsimp only [List.length_nil];obtain ⟨hx,hc,hY,gA,_,gB,_,gD,gE,gF⟩:=hM;obtain ⟨_,_,_,m,_,_,_,_,d,n⟩:=M;dsimp only at *;cases QJP hx;cases zC8 hc;cases d;cases n;dsimp only [Mc.C,Mc.D,Dk.C,Nk.C,Dk.ok,Nk.ok] at *;generalize m.length=nn,wsv m=XX at *;clear hY gA gD gE gB gF;refine fnW Tryz.func9 ?_;(repeat' ((conv=>whnf);first|exact zi2|(refine zj0 ?_;intro hb)|((with_reducible apply Ge.mk (α:=List SV)); . exact Qxy rfl rfl rfl rfl)|(refine Qaz k1 ?_)|refine zse ?_|refine zbb ?_ ?_));all_goals (conv=>whnf)
 all_goals first|(exfalso;simp at hb;done)|(apply Fin.mk (m:= [(0,some 0),(1,some _),(2,none),(3,none)]);(focus exact rfl);(all_goals ((try (show HlS _ _ [] _));first|(exact aFi)|exact rfl)))
theorem Qqv:∀ {k:Nat} {M M':Mc} {l:List (List SV)},QmV k M l M'->itr k M=M'
 | 0,M,M',_,⟨h,_⟩=>h
 | k+1,M,M',l,⟨M1,o,l',h1,h2,h3,h4,h5⟩=>by
  show itr k (Qhi M)=M';rw [QiC h1,Qvf h1 h2 5 0,h3];exact Qqv h5
theorem QJm (np n i:Nat) (hi:i<np) (WR:np<=25) (gJ:n<=8*i) (ps:List Int) (vX:ps.length=np) (A0 A1 X0 X5:List SV) (qE:Qad A0=true) (qF:Qad A1=true) (qB:Qad X0=true) (fP:Qad X5=true) (uD:isv .i64 ps=A1) (N:Mc) (hN0:N.ok) (M:Mc) (hM:Mv M) (p:Nat) (hF:Frm M p X0 X5) (k:Nat) (GK:k<=8) (hk:(ps.getD i 0 / 2^min (Int.toNat 2) IntKind.i64.bits)%9=(k:Int)) (K:Exit->St->Prop) (hc:ps.getD i 0%3=0) (hN:∀ (p':Nat) (X5':List SV),Qad X5'=true->Frm (itr k M) p' X0 X5'->∀ σ1,Wk Tryz.f3.ntmps 2 σ1 (QfF np (n+k) (i+1) A0 A1 ((itr k M).C p') (N.C 4) X0 X5')->K .normal σ1) :
  vc Tryz.prog tys Tryz.f3.ntmps 2 (bdT 0) (QfF np n i A0 A1 (M.C p) (N.C 4) X0 X5) K:=by
 have q1:=Qcr (ps.getD i 0) 3 (by decide) (by decide);rw [hc] at q1;have q2:=Qcr (ps.getD i 0 / 2^min (Int.toNat 2) IntKind.i64.bits) 9 (by decide) (by decide);rw [hk] at q2;have u1:IntKind.u64.wrap (k:Int)=(k:Int):=QuW (by omega) (by omega);have g1:A1[i]?=some (.i (ps.getD i 0)):=Qu9;have u3:IntKind.i64.wrap ((i:Int)+1)=((i+1:Nat):Int):=QaR;have u4:IntKind.u64.wrap ((n:Int)+(k:Int))=((n+k:Nat):Int):=QdE;obtain ⟨_,uE⟩:∃ C,C=N.C 4:=⟨_,rfl⟩;obtain ⟨MS,jD⟩:∃ r:Mc,r=M:=⟨_,rfl⟩;have hM0:Mv MS:=jD ▸ hM;rw [<- jD] at hN;clear hk vX uD;generalize ps.getD i 0=pv at *;obtain ⟨_,JH⟩:∃ C,C=M.C p:=⟨_,rfl⟩;rw [<- JH,<- uE];unfold QfF;(repeat' ((conv=>whnf);first|exact zi4|(refine zj4 ?_;intro hb)|(with_reducible first|refine zv u1 ?_|refine zv u3 ?_|refine zv u4 ?_)|refine QFj ?_|refine QDo ?_|(refine zpu q1 ?_)|(refine zpu q2 ?_)|refine zse ?_|refine zbb ?_ ?_));all_goals (conv=>whnf)
 all_goals try (first|(exfalso;omega)|(exfalso;simp at hb;done))
 refine Qel (x:=vc Tryz.prog tys Tryz.f3.ntmps 2 (bdT 1)) (by kernel_rfl) ?_;refine QJT 1 12 (.inl ⟨rfl,rfl⟩) np n i k 0 (Nat.zero_le _) GK A0 A1 X0 X5 qE qF qB fP N hN0 M hM p hF _ ?_ _ ?_
 .subst JH uE
  have jO:=hM.ok.x;have jL:=hM.ok.c;have vO:=hN0.x;have vM:=hN0.c;clear hN hM hN0 hM0 jD;rcases hF with ⟨rfl,rfl⟩|⟨rfl,rfl⟩
  all_goals
   generalize wsv M.m=Xe at *;obtain ⟨_,_,_,me,_,_,_,_,de,ne⟩:=M;dsimp only at *;cases QJP jO;cases zC8 jL;cases de;cases ne;obtain ⟨_,_,_,mw,_,_,_,_,dw,nw,_,_,_,_,_⟩:=N;dsimp only at *;cases QJP vO;cases zC8 vM;cases dw;cases nw;unfold QdW;simp only [Qaf,zca,zna,Mc.C,Mc.D,Dk.C,Nk.C] at *;generalize me.length=nn1,mw.length=nn2 at *
   (exact zwL [(0,some 0),(1,some 1),(2,some 2),(3,some 3),(4,some 4),(5,some 5)])
 rw [Nat.sub_zero,<- jD];clear JH uE hF hM jD q1 q2;intro p' X5' zX vZ;skip;have hN:=hN p' X5' zX vZ;have hI:=Qdt k hM0;have vO:=hN0.x;have vM:=hN0.c;generalize itr k MS=M4 at *;have yM:=hI.ok.x;have yE:=hI.ok.c;clear hI hN0;rcases vZ with ⟨rfl,rfl⟩|⟨rfl,rfl⟩
 all_goals
  generalize wsv M4.m=Xg at *;obtain ⟨_,_,_,mg,_,_,_,_,dg,ng⟩:=M4;dsimp only at *;cases QJP yM;cases zC8 yE;cases dg;cases ng;obtain ⟨_,_,_,mw,_,_,_,_,dw,nw,_,_,_,_,_⟩:=N;dsimp only at *;cases QJP vO;cases zC8 vM;cases dw;cases nw;unfold QdW;unfold QfF at hN;simp only [Qaf,zca,zna,Mc.C,Mc.D,Dk.C,Nk.C] at *;generalize mg.length=nn3,mw.length=nn2 at *;exact QEe
theorem QtX {E:Eg} (hC:Coh E) (hm:QbK E.M=true):QAw E=true:=by
 unfold QAw;rw [hm,hC.T,@decide_eq_true _ (Classical.propDecidable _) hC.B];rfl
theorem Qmm (M:Mc) (hM:Mv M):(⟨M,[],[],[],0,false⟩:Eg).ok/\Coh (⟨M,[],[],[],0,false⟩:Eg) :=
 ⟨⟨hM.ok,(fun t h=>by cases h),Nat.zero_le _,(fun b h=>by cases h),Nat.zero_le _,(show Qbk [] from fun l h=>by cases h),Nat.zero_le _,by show (0:Nat)<_;decide⟩,
  ⟨by show mpg M.m.length*32=M.m.length;rw [hM.len];rfl,rfl,⟨Nat.zero_le _,fun i b h=>by cases i<;>cases h⟩⟩⟩
theorem QJn (np n i:Nat) (hi:i<np) (WR:np<=25) (gJ:n<=8*i) (ps:List Int) (vX:ps.length=np) (A0 A1 X0 X5:List SV) (qE:Qad A0=true) (qF:Qad A1=true) (qB:Qad X0=true) (fP:Qad X5=true) (uD:isv .i64 ps=A1) (N:Mc) (hN0:N.ok) (M:Mc) (hM:Mv M) (p:Nat) (hF:Frm M p X0 X5) (k:Nat) (GK:k<=8) (hk:(ps.getD i 0 / 2^min (Int.toNat 2) IntKind.i64.bits)%9=(k:Int)) (K:Exit->St->Prop) (hc:ps.getD i 0%3=1) (R:Eg × Nat) (hR:QnT ⟨M,[],[],[],0,false⟩ k=R) (HW:R.2<=k) (hRo:R.1.ok) (FX:R.1.M=itr R.2 M) (hN:∀ (p':Nat) (X5':List SV),Qad X5'=true->Frm (itr k M) p' X0 X5'->∀ σ1,Wk Tryz.f3.ntmps 2 σ1 (QfF np (n+k) (i+1) A0 A1 ((itr k M).C p') (N.C 4) X0 X5')->K .normal σ1) :
  vc Tryz.prog tys Tryz.f3.ntmps 2 (bdT 0) (QfF np n i A0 A1 (M.C p) (N.C 4) X0 X5) K:=by
 have cn:=Qx9 M hM.ok;have cs:=QuI Qmw Qxf _ (Qmm M hM).1 (QtX (Qmm M hM).2 hM.may) (Qmm M hM).2 hM.may k (by omega);rw [hR] at cs;have q1:=Qcr (ps.getD i 0) 3 (by decide) (by decide);rw [hc] at q1;have q2:=Qcr (ps.getD i 0 / 2^min (Int.toNat 2) IntKind.i64.bits) 9 (by decide) (by decide);rw [hk] at q2;have u1:IntKind.u64.wrap (k:Int)=(k:Int):=QuW (by omega) (by omega);have g1:A1[i]?=some (.i (ps.getD i 0)):=Qu9;have u3:IntKind.i64.wrap ((i:Int)+1)=((i+1:Nat):Int):=QaR;have u4:IntKind.u64.wrap ((n:Int)+(k:Int))=((n+k:Nat):Int):=QdE;obtain ⟨_,uE⟩:∃ C,C=N.C 4:=⟨_,rfl⟩;obtain ⟨MS,jD⟩:∃ r:Mc,r=M:=⟨_,rfl⟩;have hM0:Mv MS:=jD ▸ hM;rw [<- jD] at hN;clear hk vX uD;generalize ps.getD i 0=pv at *;rw [<- jD] at FX;have hz2:=Qah [];have zG:=Qae [];have HH:=Qaa R.1.M.m;have GS:=Qah R.1.T;have GT:=Qae R.1.B;obtain ⟨_,_,_⟩:=QaA hRo.o;have hY:=hRo.M.x;have gA:=hRo.M.c;have jO:=hM.ok.x;have jL:=hM.ok.c;have HV:Mv R.1.M:=FX ▸ Qdt R.2 hM0;have KG:itr (k-R.2) R.1.M=itr k MS:=by rw [FX,<- QgC,show R.2+(k-R.2)=k by omega]
 clear hM hR hRo FX;obtain ⟨R,r2⟩:=R;dsimp only at *;obtain ⟨RS,hRS⟩:∃ r:Mc,r=R.M:=⟨_,rfl⟩;rw [<- hRS] at HV KG;obtain ⟨Mr,Tr,Br,or⟩:=R;dsimp only [Eg.V] at *;rw [<- uE];rcases hF with ⟨rfl,rfl⟩|⟨rfl,rfl⟩
 all_goals
  generalize OLs or=OR,or.length=orn,wsv M.m=Xe,hXr:wsv Mr.m=Xr,tes Tr=TR,bks Br=BR,Tr.length=trn,Br.length=brn at *;obtain ⟨_,_,_,me,_,_,_,_,de,ne⟩:=M;dsimp only at *;cases QJP jO;cases zC8 jL;cases de;cases ne;obtain ⟨_,_,_,mr,_,_,_,_,dr,nr⟩:=Mr;dsimp only at *;cases QJP hY;cases zC8 gA;cases dr;cases nr;unfold QfF;simp only [Qaf,zca,zna,Mc.C,Mc.D,Dk.C,Nk.C,List.length_nil] at cn cs |-;generalize me.length=nn1,wL:mr.length=nnr at *;have u5:=u1;(repeat' ((conv=>whnf);first|exact zi4|(refine zj4 ?_;intro hb)|(with_reducible first|refine zv u1 ?_|refine zv u3 ?_|refine zv u4 ?_)|refine QFj ?_|refine QDo ?_|(refine zpu q1 ?_)|(refine zpu q2 ?_)|(refine Qaz cn ?_)|(refine Qsw cs ?_)|refine zse ?_|refine zbb ?_ ?_));all_goals (conv=>whnf)
  all_goals try (first|(exfalso;omega)|(exfalso;simp at hb;done))
  refine Qel (x:=vc Tryz.prog tys Tryz.f3.ntmps 2 (bdT 2)) (by kernel_rfl) ?_;refine QJT 2 16 (.inr (.inl ⟨rfl,rfl⟩)) np n i k r2 HW GK A0 A1 _ Xr qE qF qB HH N hN0 RS HV 5 (.inr ⟨rfl,by rw [hRS];exact hXr.symm⟩) _ ?_ _ ?_
  .subst hRS uE
   have vO:=hN0.x;have vM:=hN0.c;clear hN hN0 hM0 jD KG HV cn cs;obtain ⟨_,_,_,mw,_,_,_,_,dw,nw,_,_,_,_,_⟩:=N;dsimp only at *;cases QJP vO;cases zC8 vM;cases dw;cases nw;unfold QdW;simp only [Qaf,zca,zna,Mc.C,Mc.D,Dk.C,Nk.C,wL];generalize mw.length=nn2 at *
   (exact zwL [(0,some 0),(1,some 1),(2,some 2),(3,some 3),(4,some 4),(5,some 393408)])
  rw [KG];clear uE jD q1 q2 cn cs hRS hXr KG HV;intro p' X5' zX vZ;skip;have hN:=hN p' X5' zX vZ;have hI:=Qdt k hM0;have vO:=hN0.x;have vM:=hN0.c;generalize itr k MS=M4 at *;have yM:=hI.ok.x;have yE:=hI.ok.c;clear hI hN0;rcases vZ with ⟨rfl,rfl⟩|⟨rfl,rfl⟩
  all_goals
   generalize wsv M4.m=Xg at *;obtain ⟨_,_,_,mg,_,_,_,_,dg,ng⟩:=M4;dsimp only at *;cases QJP yM;cases zC8 yE;cases dg;cases ng;obtain ⟨_,_,_,mw,_,_,_,_,dw,nw,_,_,_,_,_⟩:=N;dsimp only at *;cases QJP vO;cases zC8 vM;cases dw;cases nw;unfold QdW;unfold QfF at hN;simp only [Qaf,zca,zna,Mc.C,Mc.D,Dk.C,Nk.C] at *;generalize mg.length=nn3,mw.length=nn2 at *;exact QEe
theorem QJo (np n i:Nat) (hi:i<np) (WR:np<=25) (gJ:n<=8*i) (ps:List Int) (vX:ps.length=np) (A0 A1 X0 X5:List SV) (qE:Qad A0=true) (qF:Qad A1=true) (qB:Qad X0=true) (fP:Qad X5=true) (uD:isv .i64 ps=A1) (N:Mc) (hN0:N.ok) (M:Mc) (hM:Mv M) (p:Nat) (hF:Frm M p X0 X5) (k:Nat) (GK:k<=8) (hk:(ps.getD i 0 / 2^min (Int.toNat 2) IntKind.i64.bits)%9=(k:Int)) (K:Exit->St->Prop) (hc:ps.getD i 0%3=2) (hR:brR k M []=none) (hN:∀ (p':Nat) (X5':List SV),Qad X5'=true->Frm (itr k M) p' X0 X5'->∀ σ1,Wk Tryz.f3.ntmps 2 σ1 (QfF np (n+k) (i+1) A0 A1 ((itr k M).C p') (N.C 4) X0 X5')->K .normal σ1) :
  vc Tryz.prog tys Tryz.f3.ntmps 2 (bdT 0) (QfF np n i A0 A1 (M.C p) (N.C 4) X0 X5) K:=by
 have qN:M.ct<=1152921504606846976:=by
  have h:=hM.may;unfold QbK at h;exact (of_decide_eq_true h).2.2.2.2.2.2.2.2.2.2.2.1
 obtain ⟨U,hU⟩:∃ U,U=M.ct+k:=⟨_,rfl⟩;have cb:=QoJ Qmw M hM.ok hM.may k (by omega) U (by omega) hU;have u5:IntKind.u64.wrap ((M.ct:Int)+(k:Int))=(U:Int):=QdE;rw [hR] at cb;unfold brV at cb;dsimp only at cb;have q1:=Qcr (ps.getD i 0) 3 (by decide) (by decide);rw [hc] at q1;have q2:=Qcr (ps.getD i 0 / 2^min (Int.toNat 2) IntKind.i64.bits) 9 (by decide) (by decide);rw [hk] at q2;have u1:IntKind.u64.wrap (k:Int)=(k:Int):=QuW (by omega) (by omega);have g1:A1[i]?=some (.i (ps.getD i 0)):=Qu9;have u3:IntKind.i64.wrap ((i:Int)+1)=((i+1:Nat):Int):=QaR;have u4:IntKind.u64.wrap ((n:Int)+(k:Int))=((n+k:Nat):Int):=QdE;obtain ⟨_,uE⟩:∃ C,C=N.C 4:=⟨_,rfl⟩;obtain ⟨MS,jD⟩:∃ r:Mc,r=M:=⟨_,rfl⟩;have hM0:Mv MS:=jD ▸ hM;rw [<- jD] at hN;clear hk vX uD;generalize ps.getD i 0=pv at *;rw [<- uE];have VX:=hF;have hXX0:∀ j,Frm M j X0 X5->Frm MS j X0 X5:=fun j h=>by rw [jD];exact h
 replace VX:=hXX0 p VX;clear hXX0;have jO:=hM.ok.x;have jL:=hM.ok.c;obtain ⟨Z,hZ⟩:∃ Z,Z41=Z:=⟨_,rfl⟩;have JL:Z.length=49:=by rw [<- hZ];rfl
 have yT:Qad Z=true:=by rw [<- hZ];rfl
 have hZk:Qat Z=true:=by rw [<- hZ];rfl
 rw [hZ] at cb;obtain ⟨_,UY⟩:∃ Y,Y=X0:=⟨_,rfl⟩;obtain ⟨_,hY5⟩:∃ Y,Y=X5:=⟨_,rfl⟩;rw [<- UY,<- hY5] at VX;rw [<- UY] at hN;clear hM hZ hR hU;rcases hF with ⟨rfl,rfl⟩|⟨rfl,rfl⟩
 all_goals
  generalize wsv M.m=Xe at *;obtain ⟨_,_,_,me,_,_,_,_,de,ne⟩:=M;dsimp only at *;cases QJP jO;cases zC8 jL;cases de;cases ne;unfold QfF;simp only [Qaf,zca,zna,Mc.C,Mc.D,Dk.C,Nk.C] at cb u5 |-;generalize fJ:me.length=nn1 at *;(repeat' ((conv=>whnf);first|exact zi4|(refine zj4 ?_;intro hb)|refine QIq ?_|refine QFj ?_|refine QDo ?_|(refine zpu q1 ?_)|(refine zpu q2 ?_)|refine QHc ?_|(apply Sd.mk; . exact ⟨JL,hZk,rfl,(by rw [JL];exact Nat.le_refl 49)⟩)|(refine Qaz cb ?_)|refine zse ?_|refine zbb ?_ ?_));all_goals (conv=>whnf)
  all_goals try (first|(exfalso;omega)|(exfalso;simp at hb;done))
  refine Qel (x:=vc Tryz.prog tys Tryz.f3.ntmps 2 (bdT 3)) (by kernel_rfl) ?_;subst UY hY5;refine QJT 3 21 (.inr (.inr ⟨rfl,rfl⟩)) np n i k 0 (Nat.zero_le _) GK A0 A1 _ _ qE qF qB fP N hN0 MS hM0 _ VX _ ?_ _ ?_
  .subst jD uE
   have vO:=hN0.x;have vM:=hN0.c;clear hN hN0 hM0 VX cb;obtain ⟨_,_,_,mw,_,_,_,_,dw,nw,_,_,_,_,_⟩:=N;dsimp only at *;cases QJP vO;cases zC8 vM;cases dw;cases nw;unfold QdW;simp only [Qaf,zca,zna,Mc.C,Mc.D,Dk.C,Nk.C,fJ];generalize mw.length=nn2 at *
   (exact zwL [(0,some 0),(1,some 1),(2,some 2),(3,some 3),(4,some 4),(5,some 5)])
  rw [Nat.sub_zero];clear uE jD q1 q2 cb VX;intro p' X5' zX vZ;skip;have hN:=hN p' X5' zX vZ;have hI:=Qdt k hM0;have vO:=hN0.x;have vM:=hN0.c;generalize itr k MS=M4 at *;have yM:=hI.ok.x;have yE:=hI.ok.c;clear hI hN0;rcases vZ with ⟨rfl,rfl⟩|⟨rfl,rfl⟩
  all_goals
   generalize wsv M4.m=Xg at *;obtain ⟨_,_,_,mg,_,_,_,_,dg,ng⟩:=M4;dsimp only at *;cases QJP yM;cases zC8 yE;cases dg;cases ng;obtain ⟨_,_,_,mw,_,_,_,_,dw,nw,_,_,_,_,_⟩:=N;dsimp only at *;cases QJP vO;cases zC8 vM;cases dw;cases nw;unfold QdW;unfold QfF at hN;simp only [Qaf,zca,zna,Mc.C,Mc.D,Dk.C,Nk.C] at *;generalize mg.length=nn3,mw.length=nn2 at *;exact QEe
theorem QJp (np n i:Nat) (hi:i<np) (WR:np<=25) (gJ:n<=8*i) (ps:List Int) (vX:ps.length=np) (A0 A1 X0 X5:List SV) (qE:Qad A0=true) (qF:Qad A1=true) (qB:Qad X0=true) (fP:Qad X5=true) (uD:isv .i64 ps=A1) (N:Mc) (hN0:N.ok) (M:Mc) (hM:Mv M) (p:Nat) (hF:Frm M p X0 X5) (k:Nat) (GK:k<=8) (hk:(ps.getD i 0 / 2^min (Int.toNat 2) IntKind.i64.bits)%9=(k:Int)) (K:Exit->St->Prop) (hc:ps.getD i 0%3=2) (M':Mc) (os:List (List SV)) (hR:brR k M []=some (M',os)) (hM':M'.ok) (qW:Qbk os) (hN:∀ (p':Nat) (X5':List SV),Qad X5'=true->Frm (itr k M) p' X0 X5'->∀ σ1,Wk Tryz.f3.ntmps 2 σ1 (QfF np (n+k) (i+1) A0 A1 ((itr k M).C p') (N.C 4) X0 X5')->K .normal σ1) :
  vc Tryz.prog tys Tryz.f3.ntmps 2 (bdT 0) (QfF np n i A0 A1 (M.C p) (N.C 4) X0 X5) K:=by
 have qN:M.ct<=1152921504606846976:=by
  have h:=hM.may;unfold QbK at h;exact (of_decide_eq_true h).2.2.2.2.2.2.2.2.2.2.2.1
 obtain ⟨U,hU⟩:∃ U,U=M.ct+k:=⟨_,rfl⟩;have cb:=QoJ Qmw M hM.ok hM.may k (by omega) U (by omega) hU;have u5:IntKind.u64.wrap ((M.ct:Int)+(k:Int))=(U:Int):=QdE;rw [hR] at cb;unfold brV at cb;dsimp only at cb;have q1:=Qcr (ps.getD i 0) 3 (by decide) (by decide);rw [hc] at q1;have q2:=Qcr (ps.getD i 0 / 2^min (Int.toNat 2) IntKind.i64.bits) 9 (by decide) (by decide);rw [hk] at q2;have u1:IntKind.u64.wrap (k:Int)=(k:Int):=QuW (by omega) (by omega);have g1:A1[i]?=some (.i (ps.getD i 0)):=Qu9;have u3:IntKind.i64.wrap ((i:Int)+1)=((i+1:Nat):Int):=QaR;have u4:IntKind.u64.wrap ((n:Int)+(k:Int))=((n+k:Nat):Int):=QdE;obtain ⟨_,uE⟩:∃ C,C=N.C 4:=⟨_,rfl⟩;obtain ⟨MS,jD⟩:∃ r:Mc,r=M:=⟨_,rfl⟩;have hM0:Mv MS:=jD ▸ hM;rw [<- jD] at hN;clear hk vX uD;generalize ps.getD i 0=pv at *;rw [<- uE];have hN:=hN 5 (wsv M'.m) (Qaa _) (.inr ⟨rfl,by rw [jD,Qkv k hR]⟩);rw [jD,Qkv k hR] at hN;have jO:=hM.ok.x;have jL:=hM.ok.c;have yM:=hM'.x;have yE:=hM'.c;have vO:=hN0.x;have vM:=hN0.c;obtain ⟨_,_,_⟩:=QaA qW;have jN:=Qaa M'.m;clear hM hM0 jD hR hU hM' hN0;subst uE;rcases hF with ⟨rfl,rfl⟩|⟨rfl,rfl⟩
 all_goals
  generalize OLs os=OL,os.length=ol,wsv M.m=Xe,wsv M'.m=Xg at *;obtain ⟨_,_,_,me,_,_,_,_,de,ne⟩:=M;dsimp only at *;cases QJP jO;cases zC8 jL;cases de;cases ne;obtain ⟨_,_,_,mg,_,_,_,_,dg,ng,_,_,_,_,_⟩:=M';dsimp only at *;cases QJP yM;cases zC8 yE;cases dg;cases ng;obtain ⟨_,_,_,mw,_,_,_,_,dw,nw,_,_,_,_,_⟩:=N;dsimp only at *;cases QJP vO;cases zC8 vM;cases dw;cases nw;unfold QfF;unfold QfF at hN;simp only [Qaf,zca,zna,Mc.C,Mc.D,Dk.C,Nk.C] at *;generalize me.length=nn1,mg.length=nn3,mw.length=nn2 at *;(repeat' ((conv=>whnf);first|exact zi4|(refine zj4 ?_;intro hb)|refine QIq ?_|refine QFj ?_|refine QDo ?_|(refine zpu q1 ?_)|(refine zpu q2 ?_)|((with_reducible apply Vl.mk (α:=List SV)); . exact QbH (zbq rfl))|(refine Qaz cb ?_)|refine zse ?_|refine zbb ?_ ?_));all_goals (conv=>whnf)
  all_goals first|(exfalso;omega)|(exfalso;simp at hb;done)|(refine hN _ ?_;(exact zwL [(0,some 0),(1,some 1),(2,some 2),(3,some 3),(4,some 4),(5,some 459072)]))
def QEI (xs:List Nat) (n j:Nat):St :=
 ⟨[(0,.a (.s (.sl 0 0 n))),(1,.a (.s (.sl 1 0 n))),(12,.a (.s (.i n))),(13,.a (.s (.i j)))],[(0,some ⟨false,1,wsv xs⟩),(1,some ⟨false,1,wsv xs⟩)],[0]⟩
theorem QwJ (xs:List Nat) (n:Nat) (hl:xs.length=n) (hn:n<4294967296):FN 35 [.s (.sl 0 0 n),.s (.sl 1 0 n)] [⟨false,1,wsv xs⟩,⟨false,1,wsv xs⟩] (. =⟨.a (.s (.bool true)),[],[]⟩):=by
 refine fnW Tryz.func35 ?_;(repeat' ((conv=>whnf);first|exact zi1|(refine zj0 ?_;intro hb)|refine zs0 ?_|refine zbb ?_ ?_));all_goals (conv=>whnf)
 .refine Lp.inv (fun m σ=>∃ j:Nat,m+j=n/\σ=QEI xs n j) ?_ ?_
  .refine ⟨n,QEI xs n 0,?_,0,by omega,rfl⟩
   (exact zwL [(0,some 0),(1,some 1)])
  .rintro m σ ⟨j,hm,rfl⟩
   unfold QEI
   have g:(j:Int)<n->(wsv xs)[0+(j:Int).toNat * 1]?=some (.u (xs.getD j 0:Nat)):=fun h=>by
    rw [Nat.zero_add,Nat.mul_one,Int.toNat_natCast];exact QaY xs j (by omega)
   (repeat' ((conv=>whnf);first|exact zi1|(refine zj0 ?_;intro hb)|((with_reducible apply Ge.mk (α:=SV)); . exact g (by omega))|refine zs0 ?_|refine zbb ?_ ?_));all_goals (conv=>whnf)
   .refine ⟨m-1,QEI xs n (j+1),by omega,?_,j+1,by omega,rfl⟩
    (exact zwL [(0,some 0),(1,some 1)])
   ·(exact QdZ)
theorem Qs8 (M:Mc) (hM:M.ok):FN 12 [.agg (M.C 0),.agg (M.C 1)] [⟨false,1,wsv M.m⟩,⟨false,1,wsv M.m⟩] (. =⟨.a (.s (.bool true)),[],[]⟩):=by
 have FO:=QwJ M.m _ rfl (by have:=hM.ml;omega);have gL:=Qaa M.m;have k1:=Qs7 M.x M.pc M.c hM.x hM.c;obtain ⟨hx,hc,hY,gA,_,gB,_,gD,gE,gF⟩:=hM;obtain ⟨x,pc,c,m,_,_,_,_,d,n⟩:=M;dsimp only at *;cases QJP hx;cases zC8 hc;cases d;cases n;dsimp only [Mc.C,Mc.D,Dk.C,Nk.C,Dk.ok,Nk.ok] at *;simp only [Qaf] at k1;generalize m.length=nn,wsv m=XX at *;clear hY gA gD gE gB gF;refine fnW Tryz.func12 ?_;(repeat' ((conv=>whnf);first|exact zi2|(refine zj0 ?_;intro hb)|(refine Eqs.mk true (Qjj _ QFX rfl _ _ _ (by with_reducible exact k1)) ?_)|(refine QiN FO ?_)|refine zse ?_|refine zbb ?_ ?_));all_goals (conv=>whnf)
 all_goals clear FO k1
 all_goals first|(exfalso;simp at hb;done)|(exfalso;simp_all [Qch];done)|(refine QcF ?_ ?_;(focus (exact QdZ));simp [Qch];done)
end Go.Proofs.YtpgkkfajljekpaaGreat
