import Derived.Test.YtflaceijiphfdaaGreatP27
set_option linter.unusedSimpArgs false
set_option linter.unusedVariables false
set_option maxHeartbeats 0
set_option maxRecDepth 100000
namespace Go.Proofs.YtflaceijiphfdaaGreat
open Go Go.RowKit
theorem QmX (M:Mc) (hM:M.ok) (w:Nat) (hs:Qch M=true):FN 78 [.agg (M.C 0),.s (.u w)] [⟨false,1,wsv M.m⟩]
  (. =⟨.tup [.agg (M.C 1),.s .nilsl],[],[⟨true,1,wsv M.m⟩]⟩):=by
 have hc:=QbC M.m _ rfl (by have:=hM.ml;omega);have hr:=Qeu M hM;rw [hs] at hr;have gK:=Qaa M.m;clear hs;obtain ⟨hx,hc,hY,gA,gI,gB,_,gE,gD,gG⟩:=hM;obtain ⟨_,_,_,m,_,_,_,_,d,n⟩:=M;dsimp only at *;cases QaO hx;cases zC8 hc;cases d;cases n;dsimp only [Mc.C,Mc.D,Dk.C,Nk.C,Dk.ok,Nk.ok] at *;generalize m.length=nn,wsv m=XX at *;simp only [Qai,zca,zna] at *;clear hY gA gE gD gB gG gI;refine fnW Tryz.func78 ?_;(repeat' ((conv=>whnf);first|exact zi3|refine zj0 fun hb=>?_|refine zq0 ?_|(refine QaD hc ?_)|(refine QaD hr ?_)|refine zse ?_|refine zbb ?_ ?_))
 all_goals exact Qff
theorem QoO (M:Mc) (hM:M.ok) (w:Nat) (hs:Qch M=false) (wB:¬ eK (QaI M).e=1) (qZ:¬ eK (QaI M).e=2):FN 78 [.agg (M.C 0),.s (.u w)] [⟨false,1,wsv M.m⟩]
  (. =⟨.tup [.agg ((Qbi M w).1.C 1),.s .nilsl],[],[⟨true,1,wsv (Qbi M w).1.m⟩]⟩):=by
 have hc:=QbC M.m _ rfl (by have:=hM.ml;omega);have q0:=Qeu M hM;have q1:=Qer M hM;have q2:=QfJ M.x (Qdm M) (Qdl M) M.m M.m.length hM.x (Qbt M hM) (Qd7 M hM) (Qd8 M hM) rfl hM.mr (by have:=hM.ml;omega) hM.xr _ rfl;rw [hs] at q0;obtain ⟨k1,k2,k3,k4,k5,k6,k7,K,_,_,_,k8,_,_⟩:=Qcc M hM;change Fn _ _ _ _ (. =⟨.tup [.agg (Qax (QaI M).x (QaI M).pc (QaI M).c),.s (.sl 1 0 M.m.length),.agg (QaI M).e],[],[⟨true,1,wsv (QaI M).m⟩]⟩) at q2;have GP:IntKind.u64.wrap ((M.ct:Int)+1)=(((M.ct+1)%18446744073709551616:Nat):Int):=by rw [QnP];omega
 obtain ⟨D,hD⟩:∃ D,(Qbi M w).1=D:=⟨_,rfl⟩;rw [hD];unfold Qbi at hD;rw [zN wB,zN qZ] at hD;have yK:=Qaa M.m;have hi:=Qbt M hM;clear hs;unfold QzV at q1;dsimp only [Mc.C] at q1;unfold QaF at hD;generalize QaI M=Q,Qdm M=ip,Qdl M=ic at *;obtain ⟨_,_,_,qm,_⟩:=Q;dsimp only at *;subst k8;change ¬ K=1 at wB;change ¬ K=2 at qZ;change (if K=3 then _ else if K=4 then _ else _:Mc × Option (List SV)).1=D at hD;unfold efS at *;cases QaO k1;cases zC8 k2;cases zC8 hi;have UJ:=Qaa qm;clear k1 k2 k4 k5 k6 k7;obtain ⟨hx,hc,hY,gA,gI,gB,gH,gE,gD,gG⟩:=hM;obtain ⟨x,pc,c,m,_,_,_,_,d,n,_,_,ct⟩:=M;dsimp only at *;cases QaO hx;cases zC8 hc;cases d;cases n;dsimp only [Mc.C,Mc.D,Dk.C,Nk.C,Dk.ok,Nk.ok] at *;generalize m.length=nn,wsv m=XX,hXQ:wsv qm=XQ,qY:(ct+1)%18446744073709551616=ct2 at *;clear hY gA gE gD gB gG gI gH
 by_cases h3:K=3
 .rw [zP h3] at hD
  subst h3 hD;dsimp only [Qdk,Mc.C,Mc.D,Dk.C,Nk.C] at *;simp only [Qai,zca,zna] at *;rw [qY,k3,hXQ];refine fnW Tryz.func78 ?_;exact QzL
 rw [zN h3] at hD
 by_cases h4:K=4
 .rw [zP h4] at hD
  subst h4 hD;dsimp only [Qdk,Mc.C,Mc.D,Dk.C,Nk.C] at *;simp only [Qai,zca,zna] at *;rw [qY,k3,hXQ];refine fnW Tryz.func78 ?_;exact QzL
 rw [zN h4] at hD;subst hD;dsimp only [Qdk,Mc.C,Mc.D,Dk.C,Nk.C] at *;simp only [Qai,zca,zna] at *;rw [qY,k3,hXQ];refine fnW Tryz.func78 ?_;exact QzL
end Go.Proofs.YtflaceijiphfdaaGreat
