import Derived.Test.YtflelebfmdggkaaGreatP78
import Derived.Test.YtflelebfmdggkaaGreatP100
set_option linter.unusedSimpArgs false
set_option linter.unusedVariables false
set_option maxHeartbeats 100000000
set_option maxRecDepth 100000
namespace Go.Proofs.YtflelebfmdggkaaGreat
open Go Go.RowKit
theorem QeK (M:Mc) (hM:M.ok):FN 133 [.agg (M.C 0)] [⟨false,1,wsv M.m⟩] (· =⟨.a (.s (.bool (!Qcv M))),[],[]⟩):=by
 have hm:=Qpc M hM;have hi:=Qmm M hM;have gL:=Qaa M.m;obtain ⟨B,hB⟩:∃ B,(!Qcv M)=B:=⟨_,rfl⟩;rw [hB];unfold Qcv at hB;generalize QbQ M=b1,QkV M=b2 at *;obtain ⟨hx,hc,hY,gA,_,gB,_,gE,gD,gF⟩:=hM;obtain ⟨_,_,_,m,_,_,_,_,d,n⟩:=M;dsimp only at *;obtain ⟨_,_,_,_,_,_,_,_,_,_,_,_,_,_,_,_,rfl⟩:=Qav hx;obtain ⟨_,_,_,_,_,_,_,_,rfl⟩:=QaM hc;cases d;cases n;dsimp only [Mc.C,Mc.D,Dk.C,Nk.C,Dk.ok,Nk.ok] at *;generalize m.length=nn,wsv m=XX at *;have qQ:=gF.2.2.2.1;clear hY gA gE gD gB gF;refine fnW Tryz.func133 ?_;exact QAF
def Qz0 (M:Mc):Mc:= { M with pc:=Qdd M,c:=Qda M,wt:=false }
theorem QDK:∀ E:Nat,E<32→∀ j:Nat,j<5→E &&& 2^j=E / 2^j%2*2^j:=by decide
def Qz7 (E j:Nat) (MC Z XX:List SV):St :=
 ⟨[(1,.a (.s (.ptr 1 0))),(2,.a (.s (.ptr 2 0))),(3,.a (.s (.u E))),(15,.a (.s (.i j)))],[(0,some ⟨false,1,XX⟩),(1,some ⟨true,1,MC⟩),(2,some ⟨true,1,Z⟩)],[0]⟩
theorem QeN (M:Mc) (hM:M.ok):FN 134 [.agg (M.C 0)] [⟨false,1,wsv M.m⟩] (· =⟨.a (.agg ((Qz0 M).C 0)),[],[]⟩):=by
 have he:=Qgs { M with wt:=false } (by obtain ⟨a1,a2,a3,a4,a5,a6,a7,a8,a9,a10⟩:=hM;exact ⟨a1,a2,a3,a4,a5,a6,a7,a8,a9,a10⟩);change Fn _ _ _ _ (· =⟨.a (.s (.u (Qiz M:Nat))),[],[]⟩) at he;have hE:=Qo0 M;have gL:=Qaa M.m;have b2:=Qhc (M.c.getD 0 0) (Qab hM.cr 0);unfold Qz0 Qdd Qda QcV;dsimp only [Mc.C];generalize Qiz M=E at *;obtain ⟨hx,hc,hY,gA,_,gB,gI,gE,gD,gF⟩:=hM;obtain ⟨_,pc,c,m,ks,ta,td,tf,d,n,bt,bg,ct,wt,ht⟩:=M;dsimp only at *;obtain ⟨x0,x1,x2,x3,x4,x5,x6,x7,x8,x9,x10,x11,x12,x13,x14,x15,rfl⟩:=Qav hx;obtain ⟨c0,c1,c2,c3,c4,c5,c6,c7,rfl⟩:=QaM hc;obtain ⟨d0,d1,d2,d3,d4,d5,d6,d7⟩:=d;obtain ⟨n0,n1,n2,n3,n4,n5⟩:=n;dsimp only [Mc.C,Mc.D,Dk.C,Nk.C,Dk.ok,Nk.ok] at *;generalize m.length=nn,wsv m=XX at *;simp only [List.getD_cons_zero,List.getD_cons_succ] at b2 ⊢;have h2:c0 / 2%2<2:=Nat.mod_lt _ (by decide);generalize c0 / 2%2=s2 at *;clear hY gE gD gB gF gI;simp only [Qah,List.cons_append,List.nil_append] at *
 by_cases h1:s2=1
 case neg =>
  obtain rfl:s2=0:=by omega
  replace b2:bits .and .u32 (c0:Int) 2=0:=b2;rw [decide_eq_false (by omega),zN (by decide),zN (by decide)];refine fnW Tryz.func134 ?_;(repeat' ((conv=>whnf);first|exact zi2|(refine zj0 ?_;intro hb)|refine zq0 ?_|(with_reducible refine zv b2 ?_)|refine zse ?_|refine zbb ?_ ?_))
  all_goals exact Qrv
 subst h1;replace b2:bits .and .u32 (c0:Int) 2=2:=b2;refine fnW Tryz.func134 ?_;(repeat' ((conv=>whnf);first|exact zi2|(refine zj0 ?_;intro hb)|(with_reducible refine zv b2 ?_)|(refine QaD he ?_)|refine zse ?_|refine zbb ?_ ?_));all_goals (conv=>whnf)
 all_goals first|skip
 clear he b2;obtain ⟨MC,hMC⟩:∃ MC,([.u x0,.u x1,.u x2,.u x3,.u x4,.u x5,.u x6,.u x7,.u x8,.u x9,.u x10,.u x11,.u x12,.u x13,.u x14,.u x15,.u pc,.u c0,.u c1,.u c2,.u c3,.u c4,.u c5,.u c6,.u c7,.sl 0 0 nn,.str ks,.bool ta,.u td,.bool tf,.u d0,.u d1,.u d2,.i d3,.i d4,.u d5,.u d6,.str d7,.u n0,.u n1,.bool n2,.u n3,.bool n4,.u n5,.u bt,.u bg,.w ct,.bool false,.bool ht]:List SV)=MC:=⟨_,rfl⟩;obtain ⟨Z,hZ⟩:∃ Z,([.u 0,.u 0,.u 0,.u 0,.u 0,.u 0,.u 0,.u 0,.u 0,.u 0,.u 0,.u 0,.u 0,.u 0,.u 0,.u 0,.u 0,.u 0,.u 0,.u 0,.u 0,.u 0,.u 0,.u 0,.u 0,.nilsl,.str ⟨#[]⟩,.bool false,.u 0,.bool false,.u 0,.u 0,.u 0,.i 0,.i 0,.u 0,.u 0,.str ⟨#[]⟩,.u 0,.u 0,.bool false,.u 0,.bool false,.u 0,.u 0,.u 0,.w 0,.bool false,.bool false]:List SV)=Z:=⟨_,rfl⟩;refine Lp.inv (fun mm σ=>∃ j:Nat,mm+j=5∧(∀ i,i<j→E / 2^i%2=0)∧σ=Qz7 E j MC Z XX) ?_ ?_
 ·refine ⟨5,Qz7 E 0 MC Z XX,?_,0,by omega,fun i h=>by omega,rfl⟩
  rw [← hMC,← hZ];unfold Qz7
  (exact zwL [(0,some 0),(1,some _),(2,some _)])
 rintro mm σ ⟨j,yP,fE,rfl⟩;rw [← hMC,← hZ];clear hMC hZ;unfold Qz7
 by_cases hj:j<5
 case neg =>
  obtain rfl:j=5:=by omega
  obtain rfl:E=0:=QA0 E hE fE;rw [decide_eq_false (by omega),zN (by decide),zN (by decide)];clear fE;exact QxY
 have q2:IntKind.i64.wrap ((j:Int)+1)=((j+1:Nat):Int):=QbP;have q3:IntKind.i64.wrap (16+(j:Int))=16+(j:Int):=Qb4 (by omega) (by omega);have hp:2^j<4294967296:=Nat.lt_of_le_of_lt (Nat.pow_le_pow_right (by decide) (show j≤5 by omega)) (by decide);have hs:(1:Int)*2^min (((j:Nat):Int)).toNat IntKind.u32.bits%4294967296=((2^j:Nat):Int):=Qw1 j (by omega);have ha:bits .and .u32 (E:Int) ((2^j:Nat):Int)=((E / 2^j%2*2^j:Nat):Int):=by rw [QcI E (2^j) (by omega) hp,QDK E hE j hj]
 have hp0:0<2^j:=Nat.two_pow_pos j;have hb2:E / 2^j%2<2:=Nat.mod_lt _ (by decide)
 by_cases yF:E / 2^j%2=1
 ·have qJ:=Qpj E j hj fE yF
  have HA:E≠0:=by
   rintro rfl;rw [Nat.zero_div] at yF;omega
  rw [decide_eq_true ⟨rfl,HA⟩,zP rfl,zP rfl,qJ];have fW:=Qeb [x0,x1,x2,x3,x4,x5,x6,x7,x8,x9,x10,x11,x12,x13,x14,x15] pc [c0,c1,c2,c3,c4,c5,c6,c7] (16+(j:Int)) 0 rfl rfl gA;rw [Qbo] at fW;change Fn _ _ _ _ (· =⟨.a (.agg (Qay _ c1 _)),[],[]⟩) at fW;rw [yF,Nat.one_mul] at ha;unfold trL at *;simp only [Qah,List.getD_cons_zero,List.getD_cons_succ] at fW ⊢;generalize 2^j=Pj at *;clear fE qJ hE yF hb2;(repeat' ((conv=>whnf);first|exact zi2|(refine zj0 ?_;intro hb)|refine zq0 ?_|refine zq3 ?_|((with_reducible apply Vl.mk (α:=Int)); · first|with_reducible exact q2|with_reducible exact q3|with_reducible exact ha|exact hs)|(refine zpu fW ?_)|refine zse ?_|refine zbb ?_ ?_))
  all_goals exact QBN
 ·have yQ:E / 2^j%2=0:=by omega
  have vM:∀ i,i<j+1→E / 2^i%2=0:=fun i hi=>by
   by_cases e:i=j
   ·subst e;exact yQ
   ·exact fE i (by omega)
  rw [yQ,Nat.zero_mul] at ha;generalize 2^j=Pj at *;(repeat' ((conv=>whnf);first|exact zi2|(refine zj0 ?_;intro hb)|((with_reducible apply Vl.mk (α:=Int)); · first|with_reducible exact q2|with_reducible exact ha|exact hs)|refine zse ?_|refine zbb ?_ ?_));all_goals (conv=>whnf)
  all_goals first
   | (exfalso;omega)|(exfalso;simp at hb;done)|(exfalso;simp at hb;omega)
   | (refine ⟨mm-1,Qz7 E (j+1) _ _ XX,by omega,?_,j+1,by omega,vM,rfl⟩;unfold Qz7;(exact zwL [(0,some 0),(1,some 1),(2,some 2)]))
theorem QmN (xs:List Nat) (n a:Nat) (hn:n<4294967296) (ha:a<4294967296) (hl:xs.length=n) (qY:ld4 n a=false):FN 77 [.s (.sl 0 0 n),.s (.u a),.s (.i 4)] [⟨false,1,wsv xs⟩] (· =⟨.tup [.s (.u 0),.s (.bool false)],[],[]⟩):=by
 have hw:=QcZ xs n a hn ha;rw [qY] at hw;have gL:=Qaa xs;generalize wsv xs=XX at *;refine fnW Tryz.func77 ?_;(repeat' ((conv=>whnf);first|exact zi3|(refine zj0 ?_;intro hb)|(refine QaD hw ?_)|refine zse ?_|refine zbb ?_ ?_))
 all_goals exact QfL
def QnZ (M:Mc):Nat:=M.m.getD (Qdd M / 4) 0
def QmB (M:Mc):Bool:=decide ((Qda M).getD 0 0%2=1)&&(ld4 M.m.length (Qdd M)&&(dOk (QnZ M)&&(decide (dOp (QnZ M)=60)&&decide (dM (QnZ M)=2))))
theorem QiO (M:Mc) (hM:M.ok):FN 38 [.agg (M.C 0)] [⟨false,1,wsv M.m⟩] (· =⟨.a (.s (.bool (QmB M))),[],[]⟩):=by
 have q0:=QjL M hM;have vO:=Qaa M.m;have KL:=Qbw M hM;have b1:=QmI ((Qda M).getD 0 0) (Qab (Qel M hM) 0);have ZR:=Qd2 M hM;have hml0:=hM.ml;have zJ:QnZ M<4294967296:=Qab hM.mr _;have lo1:=QeZ M.m M.m.length (Qdd M) (by omega) ZR rfl;have lo0:=QmN M.m M.m.length (Qdd M) (by omega) ZR rfl;have dc1:=Qlk (QnZ M) zJ;have dc0:=QkQ (QnZ M) zJ;have z1:=Qlk 0 (by decide);have z0:=QkQ 0 (by decide);change ld4 M.m.length (Qdd M)=true→Fn _ _ _ _ (· =⟨.tup [.s (.u (QnZ M:Nat)),.s (.bool true)],[],[]⟩) at lo1;obtain ⟨B,hB⟩:∃ B,QmB M=B:=⟨_,rfl⟩;rw [hB];unfold QmB at hB;generalize QnZ M=w,ld4 M.m.length (Qdd M)=ld at *;generalize Qdd M=ip,Qda M=ic at *;obtain ⟨i0,_,_,_,_,_,_,_,rfl⟩:=QaM KL;simp only [List.getD_cons_zero] at *;have UI:i0%2<2:=Nat.mod_lt _ (by decide);generalize i0%2=p0 at *;obtain ⟨hx,hc,hY,gA,gH,gB,gI,gE,gD,gF⟩:=hM;obtain ⟨_,_,_,m,_,_,_,_,d,n⟩:=M;dsimp only at *;obtain ⟨_,_,_,_,_,_,_,_,_,_,_,_,_,_,_,_,rfl⟩:=Qav hx;obtain ⟨_,_,_,_,_,_,_,_,rfl⟩:=QaM hc;obtain ⟨_,_,d2⟩:=d;cases n;dsimp only [Mc.C,Mc.D,Dk.C,Nk.C,Dk.ok,Nk.ok] at *;generalize gJ:m.length=nn,wsv m=XX at *;simp only [Qah,List.cons_append,List.nil_append,gJ] at *;clear hY gA gE gD gB gF gH gI
 by_cases hp:p0=1
 case neg =>
  obtain rfl:p0=0:=by omega
  replace b1:bits .and .u32 (i0:Int) 1=0:=b1;rw [decide_eq_false (by omega),Bool.false_and] at hB;subst hB;refine fnW Tryz.func38 ?_;(repeat' ((conv=>whnf);first|exact zi3|(refine zj0 ?_;intro hb)|refine Qz6 ?_|(refine QaD q0 ?_)|refine zse ?_|refine zbb ?_ ?_))
  all_goals exact QfL
 subst hp;replace b1:bits .and .u32 (i0:Int) 1=1:=b1;rw [decide_eq_true rfl,Bool.true_and] at hB;cases ld
 ·have l2:=lo0 rfl
  rw [Bool.false_and] at hB;subst hB;cases hz:dOk 0
  ·have z2:=z0 hz
   clear z0 z1 lo0 lo1 dc0 dc1;refine fnW Tryz.func38 ?_;exact Qt0
  ·have z2:=z1 hz
   clear z0 z1 lo0 lo1 dc0 dc1;generalize dOp 0=o,dA 0=oa,dB 0=ob,dC 0=oc,dM 0=om at *;refine fnW Tryz.func38 ?_;exact Qt0
 have l2:=lo1 rfl;rw [Bool.true_and] at hB;cases hd:dOk w
 ·have d2:=dc0 hd
  rw [hd,Bool.false_and] at hB;subst hB;clear z0 z1 lo0 lo1 dc0 dc1;refine fnW Tryz.func38 ?_;exact QmS
 have d2:=dc1 hd;rw [hd,Bool.true_and] at hB;clear z0 z1 lo0 lo1 dc0 dc1 hd;generalize dOp w=o,dA w=oa,dB w=ob,dC w=oc,dM w=om at *;unfold iv at d2
 by_cases ho:o=60
 case neg =>
  rw [decide_eq_false ho,Bool.false_and] at hB;subst hB;refine fnW Tryz.func38 ?_;exact QmS
 subst ho;rw [decide_eq_true rfl,Bool.true_and] at hB
 by_cases hm:om=2
 ·subst hm
  rw [decide_eq_true rfl] at hB;subst hB;refine fnW Tryz.func38 ?_;exact QmS
 ·rw [decide_eq_false hm] at hB
  subst hB;refine fnW Tryz.func38 ?_;(repeat' ((conv=>whnf);first|exact zi3|(refine zj0 ?_;intro hb)|refine Qz6 ?_|(refine QaD q0 ?_)|(refine QaD l2 ?_)|(refine zpu d2 ?_)|refine zse ?_|refine zbb ?_ ?_));all_goals (conv=>whnf)
  all_goals first|(exfalso;omega)|(exfalso;simp at hb;done)|first|(exact Qb8)|(refine QcP ?_ ?_;(focus (exact Qb8));first|(exact (beq_false_of_ne hm))|(exact decide_eq_false hm)|simp_all)
def QfC (M:Mc):Bool:= !Qcv M&&QmB M
theorem QcL (M:Mc) (hM:M.ok):FN 21 [.agg (M.C 0)] [⟨false,1,wsv M.m⟩] (· =⟨.a (.s (.bool (QfC M))),[],[]⟩):=by
 have q0:=QcS M hM;have q1:=QiO M hM;have vO:=Qaa M.m;unfold QfC;generalize Qcv M=b0,QmB M=b1 at *;obtain ⟨hx,hc,hY,gA,gH,gB,gI,gE,gD,gF⟩:=hM;obtain ⟨_,_,_,m,_,_,_,_,d,n⟩:=M;dsimp only at *;obtain ⟨_,_,_,_,_,_,_,_,_,_,_,_,_,_,_,_,rfl⟩:=Qav hx;obtain ⟨_,_,_,_,_,_,_,_,rfl⟩:=QaM hc;cases d;cases n;dsimp only [Mc.C,Mc.D,Dk.C,Nk.C,Dk.ok,Nk.ok] at *;generalize gJ:m.length=nn,wsv m=XX at *;simp only [Qah,List.cons_append,List.nil_append,gJ] at *;clear hY gA gE gD gB gF gH gI;cases b0
 ·skip
  refine fnW Tryz.func21 ?_;(repeat' ((conv=>whnf);first|exact zi3|(refine zj0 ?_;intro hb)|(refine QaD q0 ?_)|(refine QaD q1 ?_)|refine zse ?_|refine zbb ?_ ?_))
  all_goals exact QfL
 ·skip
  refine fnW Tryz.func21 ?_;exact QC4
theorem Qvb (x:List Nat) (o:Int) (A:Nat) (m:Int):(decide (eK (exE x o A m)=1)&&decide (eP (exE x o A m)=2))=(decide (o=60)&&decide (m=2)):=by
 unfold exE;split
 ·rename_i h
  subst h;rfl
 ·rename_i h
  rw [decide_eq_false h,Bool.false_and]
  repeat' split
  all_goals rfl
theorem QE9 (xs:List Nat) (n s r va:Nat) (h:Qdc s=false):(rsK xs n s r va 4 1=0↔ld4 n va=true)∧rsM xs n s r va 4 1=xs∧(ld4 n va=true→ftW xs n s r va=xs.getD (va / 4) 0):=by
 have e:rsO xs n s r va 4 1=ld4 n va:=by
  unfold rsO;rw [h,zN (by decide)];have e1:acB 4 n va=ld4 n va:=by unfold acB;rw [zP rfl]
  have e2:QdQ 1=true:=by decide
  have e3:szB 4=true:=by decide
  rw [e1,e2,e3,Bool.true_and,Bool.true_and];unfold ld4
  by_cases h4:va%4=0
  ·rw [decide_eq_true h4,decide_eq_true (by omega:(va:Int)%4=0)]
   rfl
  ·rw [decide_eq_false h4,decide_eq_false (by omega:¬ (va:Int)%4=0)]
   rfl
 have e5:rsK xs n s r va 4 1=0↔ld4 n va=true:=by
  unfold rsK;rw [e];cases hl:ld4 n va
  ·rw [zN (by decide),zN (by decide)]
   split<;>simp [Qcw]
  ·rw [zP rfl]
   simp
 have e6:rsM xs n s r va 4 1=xs:=by
  unfold rsM;rw [zN (by rw [h];simp)]
 refine ⟨e5,e6,fun hl=>?_⟩;unfold ftW;rw [zP (e5.2 hl),e6];unfold rsA;rw [e,hl,zP rfl,h,zN (by decide)]
theorem QBv (x:List Nat) (pc:Nat) (c:List Nat) (xs:List Nat) (n:Nat):(decide (eK (exS x pc c xs n).e=1)&&decide (eP (exS x pc c xs n).e=2))=(decide (c.getD 0 0%2=1)&&(ld4 n pc&&(dOk (xs.getD (pc / 4) 0)&&(decide (dOp (xs.getD (pc / 4) 0)=60)&&decide (dM (xs.getD (pc / 4) 0)=2))))):=by
 have h2:c.getD 0 0%2<2:=Nat.mod_lt _ (by decide)
 by_cases hk:c.getD 0 0%2=1
 ·rw [decide_eq_true hk,Bool.true_and]
  have hp:Qdc (c.getD 0 0)=false:=decide_eq_false (by omega);obtain ⟨k1,k2,k3⟩:=QE9 xs n (c.getD 0 0) (c.getD 6 0) pc hp;unfold exS
  by_cases hl:ld4 n pc=true
  ·rw [zN (by rw [k1.2 hl];simp),k3 hl,hl,Bool.true_and]
   generalize xs.getD (pc / 4) 0=w at *;cases hd:dOk w
   ·rw [zP rfl];rfl
   ·rw [zN (by decide),Bool.true_and,zN (by omega)]
    split
    ·rw [decide_eq_false (by omega:¬ dOp w=60)];rfl
    ·split
     ·rw [decide_eq_false (by omega:¬ dOp w=60)];rfl
     ·exact Qvb _ _ _ _
  ·rw [zP (fun h=>hl (k1.1 h)),Bool.eq_false_iff.2 hl];rfl
 ·rw [decide_eq_false hk,Bool.false_and]
  unfold exS;split
  ·rfl
  ·split
   ·rfl
   ·split
    ·rfl
    ·split
     ·rfl
     ·split
      ·rfl
      ·show (decide (eK (exE _ _ _ _)=1)&&decide (eP (exE _ _ _ _)=2))=false
       rw [Qvb,decide_eq_false (by omega),Bool.false_and]
theorem Qm5 (M:Mc) (hM:M.ok):FN 80 [.agg (M.C 0)] [⟨false,1,wsv M.m⟩] (· =⟨.a (.s (.bool (QfC M))),[],[]⟩):=by
 have q0:=QeK M hM;have q1:=QeN M hM;have q2:=QfM M.x (Qdd M) (Qda M) M.m M.m.length hM.x (Qbw M hM) (Qel M hM) (Qd2 M hM) rfl hM.mr (by have:=hM.ml;omega) hM.xr _ rfl;have hr:(decide (eK (QaJ M).e=1)&&decide (eP (QaJ M).e=2))=QmB M:=QBv M.x (Qdd M) (Qda M) M.m M.m.length;obtain ⟨k1,k2,k3,k4,k5,k6,k7,K,P,R,V,k8,_,_⟩:=QbY M hM;change Fn _ _ _ _ (· =⟨.tup [.agg (Qay (QaJ M).x (QaJ M).pc (QaJ M).c),.s (.sl 1 0 M.m.length),.agg (QaJ M).e],[],[⟨true,1,wsv (QaJ M).m⟩]⟩) at q2;have vO:=Qaa M.m;have hi:=Qbw M hM;unfold QfC;rw [← hr];unfold Qz0 at q1;dsimp only [Mc.C] at q1;generalize QaJ M=Q,Qcv M=b0,Qdd M=ip,Qda M=ic at *;obtain ⟨qx,qp,qc,qm,qe⟩:=Q;dsimp only at *;subst k8;have hr2:eK (efS K P R V)=K∧eP (efS K P R V)=P:=⟨rfl,rfl⟩;rw [hr2.1,hr2.2];unfold efS at *;obtain ⟨_,_,_,_,_,_,_,_,_,_,_,_,_,_,_,_,rfl⟩:=Qav k1;obtain ⟨_,_,_,_,_,_,_,_,rfl⟩:=QaM k2;obtain ⟨_,_,_,_,_,_,_,_,rfl⟩:=QaM hi;have UB:=Qaa qm;generalize wsv qm=XQ at *;clear hr hr2 k1 k2 k3 k4 k5 k6 k7;obtain ⟨hx,hc,hY,gA,gH,gB,gI,gE,gD,gF⟩:=hM;obtain ⟨x,pc,c,m,_,_,_,_,d,n⟩:=M;dsimp only at *;obtain ⟨_,_,_,_,_,_,_,_,_,_,_,_,_,_,_,_,rfl⟩:=Qav hx;obtain ⟨_,_,_,_,_,_,_,_,rfl⟩:=QaM hc;cases d;cases n;dsimp only [Mc.C,Mc.D,Dk.C,Nk.C,Dk.ok,Nk.ok] at *;generalize gJ:m.length=nn,wsv m=XX at *;simp only [Qah,List.cons_append,List.nil_append,gJ] at *;clear hY gA gE gD gB gF gH gI;cases b0
 ·skip
  refine fnW Tryz.func80 ?_;(repeat' ((conv=>whnf);first|exact zi3|(refine zj0 ?_;intro hb)|refine zq0 ?_|refine zq3 ?_|(refine QaD q0 ?_)|(refine QaD q1 ?_)|(refine QaD q2 ?_)|refine zse ?_|refine zbb ?_ ?_));all_goals (conv=>whnf)
  all_goals first
   | (exfalso;omega)
   | (exfalso;simp at hb;done)
   | (refine QcP ?_ ?_;(focus (exact Qb8));first|(rw [Bool.eq_iff_iff];simp;done)|(rw [Bool.eq_iff_iff];simp;omega)|(rw [Bool.eq_iff_iff];simp_all;done)|(rw [Bool.eq_iff_iff];simp;grind))
 ·skip
  refine fnW Tryz.func80 ?_;exact QC4
end Go.Proofs.YtflelebfmdggkaaGreat
