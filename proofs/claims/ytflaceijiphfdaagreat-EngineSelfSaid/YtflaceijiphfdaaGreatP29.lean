import Derived.Test.YtflaceijiphfdaaGreatP27
import Derived.Test.YtflaceijiphfdaaGreatP28
set_option linter.unusedSimpArgs false
set_option linter.unusedVariables false
set_option maxHeartbeats 0
set_option maxRecDepth 100000
namespace Go.Proofs.YtflaceijiphfdaaGreat
open Go Go.RowKit
theorem Qvb (x:List Nat) (o:Int) (A:Nat) (m:Int):(decide (eK (exE x o A m)=1)&&decide (eP (exE x o A m)=2))=(decide (o=60)&&decide (m=2)):=by
 unfold exE;split
 .rename_i h
  subst h;rfl
 .rename_i h
  rw [zdf h,zbf]
  repeat' split
  all_goals rfl
theorem QFO (xs:List Nat) (n s r va:Nat) (h:Qc5 s=false):(rsK xs n s r va 4 1=0↔ld4 n va=true)/\rsM xs n s r va 4 1=xs/\(ld4 n va=true->ftW xs n s r va=xs.getD (va / 4) 0):=by
 have e:rsO xs n s r va 4 1=ld4 n va:=by
  unfold rsO;rw [h,zN (by decide)];have e1:acB 4 n va=ld4 n va:=by unfold acB;rw [zP rfl]
  have e2:QdC 1=true:=by decide
  have e3:szB 4=true:=by decide
  rw [e1,e2,e3,Bool.true_and,Bool.true_and];unfold ld4
  by_cases h4:va%4=0
  .rw [zdt h4,zdt (by omega:(va:Int)%4=0)]
   rfl
  .rw [zdf h4,zdf (by omega:¬ (va:Int)%4=0)]
   rfl
 have e5:rsK xs n s r va 4 1=0↔ld4 n va=true:=by
  unfold rsK;rw [e];cases hl:ld4 n va
  .rw [zN (by decide),zN (by decide)]
   split<;>simp [Qcs]
  .rw [zP rfl]
   simp
 have e6:rsM xs n s r va 4 1=xs:=by
  unfold rsM;rw [zN (by rw [h];simp)]
 refine ⟨e5,e6,fun hl=>?_⟩;unfold ftW;rw [zP (e5.2 hl),e6];unfold rsA;rw [e,hl,zP rfl,h,zN (by decide)]
theorem QA0 (x:List Nat) (pc:Nat) (c:List Nat) (xs:List Nat) (n:Nat):(decide (eK (exS x pc c xs n).e=1)&&decide (eP (exS x pc c xs n).e=2))=(decide (c.getD 0 0%2=1)&&(ld4 n pc&&(dOk (xs.getD (pc / 4) 0)&&(decide (dOp (xs.getD (pc / 4) 0)=60)&&decide (dM (xs.getD (pc / 4) 0)=2))))):=by
 have h2:c.getD 0 0%2<2:=Nat.mod_lt _ (by decide)
 by_cases hk:c.getD 0 0%2=1
 .rw [zdt hk,Bool.true_and]
  have hp:Qc5 (c.getD 0 0)=false:=zdf (by omega);obtain ⟨k1,_,k3⟩:=QFO xs n (c.getD 0 0) (c.getD 6 0) pc hp;unfold exS
  by_cases hl:ld4 n pc=true
  .rw [zN (by rw [k1.2 hl];simp),k3 hl,hl,Bool.true_and]
   generalize xs.getD (pc / 4) 0=w at *;cases hd:dOk w
   .rw [zP rfl];rfl
   .rw [zN (by decide),Bool.true_and,zN (by omega)]
    split
    .rw [zdf (by omega:¬ dOp w=60)];rfl
    .split
     .rw [zdf (by omega:¬ dOp w=60)];rfl
     .exact Qvb _ _ _ _
  .rw [zP (fun h=>hl (k1.1 h)),Bool.eq_false_iff.2 hl];rfl
 .rw [zdf hk,zbf]
  unfold exS;split
  .rfl
  .split
   .rfl
   .split
    .rfl
    .split
     .rfl
     .split
      .rfl
      .show (decide (eK (exE _ _ _ _)=1)&&decide (eP (exE _ _ _ _)=2))=false
       rw [Qvb,zdf (by omega),zbf]
theorem QmW (M:Mc) (hM:M.ok):FN 72 [.agg (M.C 0)] [⟨false,1,wsv M.m⟩] (. =⟨.a (.s (.bool (Qe3 M))),[],[]⟩):=by
 have q0:=Qeu M hM;have q1:=Qer M hM;have q2:=QfJ M.x (Qdm M) (Qdl M) M.m M.m.length hM.x (Qbt M hM) (Qd7 M hM) (Qd8 M hM) rfl hM.mr (by have:=hM.ml;omega) hM.xr _ rfl;have hr:(decide (eK (QaI M).e=1)&&decide (eP (QaI M).e=2))=QtP M:=QA0 M.x (Qdm M) (Qdl M) M.m M.m.length;obtain ⟨k1,k2,k3,k4,k5,k6,k7,K,P,R,V,k8,_,_⟩:=Qcc M hM;change Fn _ _ _ _ (. =⟨.tup [.agg (Qax (QaI M).x (QaI M).pc (QaI M).c),.s (.sl 1 0 M.m.length),.agg (QaI M).e],[],[⟨true,1,wsv (QaI M).m⟩]⟩) at q2;have yK:=Qaa M.m;have hi:=Qbt M hM;unfold Qe3;rw [<- hr];unfold QzV at q1;dsimp only [Mc.C] at q1;generalize QaI M=Q,Qch M=b0,Qdm M=ip,Qdl M=ic at *;obtain ⟨_,_,_,qm,_⟩:=Q;dsimp only at *;subst k8;have zS:eK (efS K P R V)=K/\eP (efS K P R V)=P:=⟨rfl,rfl⟩;rw [zS.1,zS.2];unfold efS at *;cases QaO k1;cases zC8 k2;cases zC8 hi;have UJ:=Qaa qm;generalize wsv qm=XQ at *;clear hr zS k1 k2 k3 k4 k5 k6 k7;obtain ⟨hx,hc,hY,gA,gI,gB,gH,gE,gD,gG⟩:=hM;obtain ⟨x,pc,c,m,_,_,_,_,d,n⟩:=M;dsimp only at *;cases QaO hx;cases zC8 hc;cases d;cases n;dsimp only [Mc.C,Mc.D,Dk.C,Nk.C,Dk.ok,Nk.ok] at *;generalize gJ:m.length=nn,wsv m=XX at *;simp only [Qai,zca,zna,gJ] at *;clear hY gA gE gD gB gG gI gH;cases b0
 .skip
  refine fnW Tryz.func72 ?_;(conv=>whnf);(repeat' ((first|exact zi3|refine zj0 fun hb=>?_|refine zq0 ?_|refine zq3 ?_|(refine QaD q0 ?_)|(refine QaD q1 ?_)|(refine QaD q2 ?_)|refine zse ?_|refine zbb ?_ ?_)<;>conv=>whnf))
  all_goals first
   | (exfalso;omega)
   | (exfalso;simp at hb;done)
   | (refine QcD ?_ ?_;(focus (exact Qb5));first|(rw [zbi];simp;done)|(rw [zbi];simp;omega)|(rw [zbi];simp_all;done)|(rw [zbi];simp;grind))
 .skip
  refine fnW Tryz.func72 ?_;exact QDX
end Go.Proofs.YtflaceijiphfdaaGreat
