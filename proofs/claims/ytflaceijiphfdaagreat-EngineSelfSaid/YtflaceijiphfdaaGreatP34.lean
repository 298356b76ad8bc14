import Derived.Test.YtflaceijiphfdaaGreatP31
import Derived.Test.YtflaceijiphfdaaGreatP33
set_option linter.unusedSimpArgs false
set_option linter.unusedVariables false
set_option maxHeartbeats 0
set_option maxRecDepth 100000
namespace Go.Proofs.YtflaceijiphfdaaGreat
open Go Go.RowKit
theorem Qi0 (M:Mc) (hM:M.ok) (p:Int) (w:Nat):FN 148 [.agg (M.C 0),.s (.i p),.s (.u w)] [⟨false,1,wsv M.m⟩]
  (. =⟨.tup [.agg ((inM M p).C 0),.s (.u (inV M p w:Nat))],[],[]⟩):=by
 have q1:=Qoz M.ks hM.dv.2.2.2.2 p;have q2:=QoR M.ta M.td M.tf;have q3:=QoA M.d p;have q4:=QoG M.n p;have q5:=Qox M.bt M.bg hM.dv.2.2.1 p;have gK:=Qaa M.m;obtain ⟨B,hB⟩:∃ B,inV M p w=B:=⟨_,rfl⟩;obtain ⟨M2,vY⟩:∃ B,inM M p=B:=⟨_,rfl⟩
 have wK:¬ (0<=p/\p<=11)->B=0/\M2=M:=by
  intro h;constructor
  .rw [<- hB]
   unfold inV;split
   .unfold QnX
    rw [zN (by omega),zN (by omega)]
   .rw [zN (by omega),zN (by omega),zN (by omega),zN (by omega)]
    unfold Qf9;rw [zN (by omega),zN (by omega)]
  .rw [<- vY]
   unfold inM;split
   .unfold Qkt
    rw [zN (by omega)]
   .rfl
 rw [hB,vY];unfold inV at hB;unfold inM at vY;generalize QnX M.ks p=v1,Qkt M.ks p=k2,QnF M.tf=v2,Qg0 M.d p=v3,Qg2 M.n p=v4,Qf9 M.bt M.bg p=v5 at *;obtain ⟨hx,hc,hY,gA,gI,gB,_,gE,gD,gG⟩:=hM;obtain ⟨_,_,_,m,ks,ta,td,tf,d,n,bt,bg⟩:=M;dsimp only at *;cases QaO hx;cases zC8 hc;cases d;cases n;dsimp only [Mc.C,Mc.D,Dk.C,Nk.C,Dk.ok,Nk.ok] at *;generalize gJ:m.length=nn,wsv m=XX at *;simp only [Qai,zca,zna] at *;clear hY gA gE gD gB gG gI
 by_cases h1:0<=p/\p<=1
 .rw [zP h1.2] at hB vY
  subst hB vY;clear wK;dsimp only [Mc.C,Mc.D];simp only [Qai,zca,zna];rw [gJ];have e:p=0\/p=1:=by omega
  rcases e with rfl|rfl
  all_goals
   refine fnW Tryz.func148 ?_;(repeat' ((conv=>whnf);first|exact zi2|refine zj0 fun hb=>?_|refine zq0 ?_|(refine zpu q1 ?_)|refine zse ?_|refine zbb ?_ ?_))
   all_goals exact Qeg
 by_cases vP:0<=p/\p<=11
 case neg =>
  obtain ⟨rfl,rfl⟩:=wK vP;clear hB vY;dsimp only [Mc.C,Mc.D];simp only [Qai,zca,zna];rw [gJ];refine fnW Tryz.func148 ?_;exact QzP
 clear wK;rw [zN (by omega)] at hB vY;subst vY;dsimp only [Mc.C,Mc.D];simp only [Qai,zca,zna];rw [gJ]
 by_cases h2:p=2
 .rw [zP h2] at hB
  subst hB h2;refine fnW Tryz.func148 ?_;exact QD0
 rw [zN h2] at hB
 by_cases h3:p=3
 .rw [zP h3] at hB
  subst hB h3;refine fnW Tryz.func148 ?_;(repeat' ((conv=>whnf);first|exact zi2|refine zj0 fun hb=>?_|refine zq0 ?_|(refine zpu q2 ?_)|refine zse ?_|refine zbb ?_ ?_))
  all_goals exact Qeg
 rw [zN h3] at hB
 by_cases h4:p<=6
 .rw [zP h4] at hB
  subst hB;have e:p=4\/p=5\/p=6:=by omega
  rcases e with rfl|rfl|rfl
  all_goals
   refine fnW Tryz.func148 ?_;exact QzO
 rw [zN h4] at hB
 by_cases h5:p<=9
 .rw [zP h5] at hB
  subst hB;have e:p=7\/p=8\/p=9:=by omega
  rcases e with rfl|rfl|rfl
  all_goals
   refine fnW Tryz.func148 ?_;(repeat' ((conv=>whnf);first|exact zi2|refine zj0 fun hb=>?_|refine zq0 ?_|(refine zpu q4 ?_)|refine zse ?_|refine zbb ?_ ?_))
   all_goals exact Qeg
 rw [zN h5] at hB;subst hB;have e:p=10\/p=11:=by omega
 rcases e with rfl|rfl
 all_goals
  refine fnW Tryz.func148 ?_;(repeat' ((conv=>whnf);first|exact zi2|refine zj0 fun hb=>?_|refine zq0 ?_|(refine zpu q5 ?_)|refine zse ?_|refine zbb ?_ ?_))
  all_goals exact Qeg
end Go.Proofs.YtflaceijiphfdaaGreat
