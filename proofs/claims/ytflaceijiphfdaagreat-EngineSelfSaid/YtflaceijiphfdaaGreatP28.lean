import Derived.Test.YtflaceijiphfdaaGreatP20
set_option linter.unusedSimpArgs false
set_option linter.unusedVariables false
set_option maxHeartbeats 0
set_option maxRecDepth 100000
namespace Go.Proofs.YtflaceijiphfdaaGreat
open Go Go.RowKit
theorem Qno (xs:List Nat) (n a:Nat) (hn:ZU n) (ha:ZU a) (hl:xs.length=n) (qU:ld4 n a=false):FN 87 [.s (.sl 0 0 n),.s (.u a),.s (.i 4)] [⟨false,1,wsv xs⟩] (. =⟨.tup [.s (.u 0),.s (.bool false)],[],[]⟩):=by
 have hw:=QcY xs n a hn ha;rw [qU] at hw;have gK:=Qaa xs;generalize wsv xs=XX at *;refine fnW Tryz.func87 ?_;(repeat' ((conv=>whnf);first|exact zi3|refine zj0 fun hb=>?_|(refine QaD hw ?_)|refine zse ?_|refine zbb ?_ ?_))
 all_goals exact Qfe
def Qsm (M:Mc):Nat:=M.m.getD (Qdm M / 4) 0
def QtP (M:Mc):Bool:=decide ((Qdl M).getD 0 0%2=1)&&(ld4 M.m.length (Qdm M)&&(dOk (Qsm M)&&(decide (dOp (Qsm M)=60)&&decide (dM (Qsm M)=2))))
theorem Qrb (M:Mc) (hM:M.ok):FN 53 [.agg (M.C 0)] [⟨false,1,wsv M.m⟩] (. =⟨.a (.s (.bool (QtP M))),[],[]⟩):=by
 have q0:=QjA M hM;have yK:=Qaa M.m;have KU:=Qbt M hM;have b1:=Qly ((Qdl M).getD 0 0) (Qab (Qd7 M hM) 0);have YK:=Qd8 M hM;have hml0:=hM.ml;have yR:Qsm M<4294967296:=Qab hM.mr _;have lo1:=Qe4 M.m M.m.length (Qdm M) (by omega) YK rfl;have lo0:=Qno M.m M.m.length (Qdm M) (by omega) YK rfl;have dc1:=QkY (Qsm M) yR;have dc0:=QkX (Qsm M) yR;have z1:=QkY 0 (by decide);have z0:=QkX 0 (by decide);change ld4 M.m.length (Qdm M)=true->Fn _ _ _ _ (. =⟨.tup [.s (.u (Qsm M:Nat)),.s (.bool true)],[],[]⟩) at lo1;obtain ⟨B,hB⟩:∃ B,QtP M=B:=⟨_,rfl⟩;rw [hB];unfold QtP at hB;generalize Qsm M=w,ld4 M.m.length (Qdm M)=ld at *;generalize Qdm M=ip,Qdl M=ic at *;obtain ⟨i0,_,_,_,_,_,_,_,rfl⟩:=Qfo KU;simp only [List.getD_cons_zero] at *;have UA:i0%2<2:=Nat.mod_lt _ (by decide);generalize i0%2=p0 at *;obtain ⟨hx,hc,hY,gA,gI,gB,gH,gE,gD,gG⟩:=hM;obtain ⟨_,_,_,m,_,_,_,_,d,n⟩:=M;dsimp only at *;cases QaO hx;cases zC8 hc;obtain ⟨_,_,d2⟩:=d;cases n;dsimp only [Mc.C,Mc.D,Dk.C,Nk.C,Dk.ok,Nk.ok] at *;generalize gJ:m.length=nn,wsv m=XX at *;simp only [Qai,zca,zna,gJ] at *;clear hY gA gE gD gB gG gI gH
 by_cases hp:p0=1
 case neg =>
  obtain rfl:p0=0:=by omega
  replace b1:bits .and .u32 (i0:Int) 1=0:=b1;rw [zdf (by omega),zbf] at hB;subst hB;refine fnW Tryz.func53 ?_;(repeat' ((conv=>whnf);first|exact zi3|refine zj0 fun hb=>?_|refine QAl ?_|(refine QaD q0 ?_)|refine zse ?_|refine zbb ?_ ?_))
  all_goals exact Qfe
 subst hp;replace b1:bits .and .u32 (i0:Int) 1=1:=b1;rw [zdt rfl,Bool.true_and] at hB;cases ld
 .have l2:=lo0 rfl
  rw [zbf] at hB;subst hB;cases hz:dOk 0
  .have z2:=z0 hz
   clear z0 z1 lo0 lo1 dc0 dc1;refine fnW Tryz.func53 ?_;exact QDS
  .have z2:=z1 hz
   clear z0 z1 lo0 lo1 dc0 dc1;generalize dOp 0=o,dA 0=oa,dB 0=ob,dC 0=oc,dM 0=om at *;refine fnW Tryz.func53 ?_;exact QDS
 have l2:=lo1 rfl;rw [Bool.true_and] at hB;cases hd:dOk w
 .have d2:=dc0 hd
  rw [hd,zbf] at hB;subst hB;clear z0 z1 lo0 lo1 dc0 dc1;refine fnW Tryz.func53 ?_;exact QzM
 have d2:=dc1 hd;rw [hd,Bool.true_and] at hB;clear z0 z1 lo0 lo1 dc0 dc1 hd;generalize dOp w=o,dA w=oa,dB w=ob,dC w=oc,dM w=om at *;unfold iv at d2
 by_cases ho:o=60
 case neg =>
  rw [zdf ho,zbf] at hB;subst hB;refine fnW Tryz.func53 ?_;exact QzM
 subst ho;rw [zdt rfl,Bool.true_and] at hB
 by_cases hm:om=2
 .subst hm
  rw [zdt rfl] at hB;subst hB;refine fnW Tryz.func53 ?_;exact QzM
 .rw [zdf hm] at hB
  subst hB;refine fnW Tryz.func53 ?_;(conv=>whnf);(repeat' ((first|exact zi3|refine zj0 fun hb=>?_|refine QAl ?_|(refine QaD q0 ?_)|(refine QaD l2 ?_)|(refine zpu d2 ?_)|refine zse ?_|refine zbb ?_ ?_)<;>conv=>whnf))
  all_goals first|(exfalso;omega)|(exfalso;simp at hb;done)|first|(exact Qb5)|(refine QcD ?_ ?_;(focus (exact Qb5));first|(exact (beq_false_of_ne hm))|(exact zdf hm)|simp_all)
def Qe3 (M:Mc):Bool:= !Qch M&&QtP M
theorem QcN (M:Mc) (hM:M.ok):FN 31 [.agg (M.C 0)] [⟨false,1,wsv M.m⟩] (. =⟨.a (.s (.bool (Qe3 M))),[],[]⟩):=by
 have q0:=QcO M hM;have q1:=Qrb M hM;have yK:=Qaa M.m;unfold Qe3;generalize Qch M=b0,QtP M=b1 at *;obtain ⟨hx,hc,hY,gA,gI,gB,gH,gE,gD,gG⟩:=hM;obtain ⟨_,_,_,m,_,_,_,_,d,n⟩:=M;dsimp only at *;cases QaO hx;cases zC8 hc;cases d;cases n;dsimp only [Mc.C,Mc.D,Dk.C,Nk.C,Dk.ok,Nk.ok] at *;generalize gJ:m.length=nn,wsv m=XX at *;simp only [Qai,zca,zna,gJ] at *;clear hY gA gE gD gB gG gI gH;cases b0
 .skip
  refine fnW Tryz.func31 ?_;(repeat' ((conv=>whnf);first|exact zi3|refine zj0 fun hb=>?_|(refine QaD q0 ?_)|(refine QaD q1 ?_)|refine zse ?_|refine zbb ?_ ?_))
  all_goals exact Qfe
 .skip
  refine fnW Tryz.func31 ?_;exact QDX
end Go.Proofs.YtflaceijiphfdaaGreat
