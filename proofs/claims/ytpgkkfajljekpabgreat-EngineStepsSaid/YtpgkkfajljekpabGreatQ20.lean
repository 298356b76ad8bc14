import Derived.Test.YtpgkkfajljekpabGreatQ19
set_option linter.unusedSimpArgs false
set_option linter.unusedVariables false
set_option maxHeartbeats 0
set_option maxRecDepth 100000
namespace Go.Proofs.YtpgkkfajljekpabGreat
open Go Go.RowKit
theorem QeI (M:Mc) (hM:M.ok):FN 139 [.agg (M.C 0)] [⟨false,1,wsv M.m⟩] (. =⟨.a (.s (.bool (!Qb3 M))),[],[]⟩):=by
 have hm:=Qo7 M hM;have hi:=QeF M hM;have gL:=Qaa M.m;obtain ⟨B,hB⟩:∃ B,(!Qb3 M)=B:=⟨_,rfl⟩;rw [hB];unfold Qb3 at hB;generalize Qbg M=b1,Qhk M=b2 at *;obtain ⟨hx,hc,hY,gA,_,gB,_,gE,gD,gG⟩:=hM;obtain ⟨_,_,_,m,_,_,_,_,d,n⟩:=M;dsimp only at *;cases QaJ hx;cases zC8 hc;cases d;cases n;dsimp only [Mc.C,Mc.D,Dk.C,Nk.C,Dk.ok,Nk.ok] at *;generalize m.length=nn,wsv m=XX at *;have fM:=gG.2.2.2.1;clear hY gA gE gD gB gG;refine fnW Tryz.func139 ?_;exact QDL
def QAp (M:Mc):Mc:= { M with pc:=Qde M,c:=Qdd M,wt:=false }
theorem QA1:∀ E:Nat,E<32->∀ j:Nat,j<5->E &&& 2^j=E / 2^j%2*2^j:=by decide
def QAq (E j:Nat) (MC Z XX:List SV):St :=
 ⟨[(1,.a (.s (.ptr 1 0))),(2,.a (.s (.ptr 2 0))),(3,.a (.s (.u E))),(15,.a (.s (.i j)))],[(0,some ⟨false,1,XX⟩),(1,some ⟨true,1,MC⟩),(2,some ⟨true,1,Z⟩)],[0]⟩
theorem QeE (M:Mc) (hM:M.ok):FN 140 [.agg (M.C 0)] [⟨false,1,wsv M.m⟩] (. =⟨.a (.agg ((QAp M).C 0)),[],[]⟩):=by
 have he:=Qgu { M with wt:=false } (by obtain ⟨a1,a2,a3,a4,a5,a6,a7,a8,a9,a10⟩:=hM;exact ⟨a1,a2,a3,a4,a5,a6,a7,a8,a9,a10⟩);change Fn _ _ _ _ (. =⟨.a (.s (.u (QiX M:Nat))),[],[]⟩) at he;have hE:=Qpx M;have gL:=Qaa M.m;have b2:=Qhv (M.c.getD 0 0) (Qab hM.cr 0);unfold QAp Qde Qdd QcY;dsimp only [Mc.C];generalize QiX M=E at *;obtain ⟨hx,hc,hY,gA,_,gB,gI,gE,gD,gG⟩:=hM;obtain ⟨_,pc,c,m,ks,ta,td,tf,d,n,bt,bg,ct,wt,ht⟩:=M;dsimp only at *;obtain ⟨x0,x1,x2,x3,x4,x5,x6,x7,x8,x9,x10,x11,x12,x13,x14,x15,rfl⟩:=Qem hx;obtain ⟨c0,c1,c2,c3,c4,c5,c6,c7,rfl⟩:=QfC hc;obtain ⟨d0,d1,d2,d3,d4,d5,d6,d7⟩:=d;obtain ⟨n0,n1,n2,n3,n4,n5⟩:=n;dsimp only [Mc.C,Mc.D,Dk.C,Nk.C,Dk.ok,Nk.ok] at *;generalize m.length=nn,wsv m=XX at *;simp only [List.getD_cons_zero,List.getD_cons_succ] at b2 |-;have h2:c0 / 2%2<2:=Nat.mod_lt _ (by decide);generalize c0 / 2%2=s2 at *;clear hY gE gD gB gG gI;simp only [Qaf,zca,zna] at *
 by_cases h1:s2=1
 case neg =>
  obtain rfl:s2=0:=by omega
  replace b2:bits .and .u32 (c0:Int) 2=0:=b2;rw [zdf (by omega),zN (by decide),zN (by decide)];refine fnW Tryz.func140 ?_;(repeat' ((conv=>whnf);first|exact zi2|refine zj0 fun hb=>?_|refine zq0 ?_|(with_reducible refine zv b2 ?_)|refine zse ?_|refine zbb ?_ ?_))
  all_goals exact Qet
 subst h1;replace b2:bits .and .u32 (c0:Int) 2=2:=b2;refine fnW Tryz.func140 ?_;(conv=>whnf);(repeat' ((first|exact zi2|refine zj0 fun hb=>?_|(with_reducible refine zv b2 ?_)|(refine QaA he ?_)|refine zse ?_|refine zbb ?_ ?_)<;>conv=>whnf))
 all_goals first|skip
 clear he b2;obtain ⟨MC,US⟩:∃ MC,([.u x0,.u x1,.u x2,.u x3,.u x4,.u x5,.u x6,.u x7,.u x8,.u x9,.u x10,.u x11,.u x12,.u x13,.u x14,.u x15,.u pc,.u c0,.u c1,.u c2,.u c3,.u c4,.u c5,.u c6,.u c7,.sl 0 0 nn,.str ks,.bool ta,.u td,.bool tf,.u d0,.u d1,.u d2,.i d3,.i d4,.u d5,.u d6,.str d7,.u n0,.u n1,.bool n2,.u n3,.bool n4,.u n5,.u bt,.u bg,.w ct,.bool false,.bool ht]:List SV)=MC:=⟨_,rfl⟩;obtain ⟨Z,hZ⟩:∃ Z,([.u 0,.u 0,.u 0,.u 0,.u 0,.u 0,.u 0,.u 0,.u 0,.u 0,.u 0,.u 0,.u 0,.u 0,.u 0,.u 0,.u 0,.u 0,.u 0,.u 0,.u 0,.u 0,.u 0,.u 0,.u 0,.nilsl,.str ⟨#[]⟩,.bool false,.u 0,.bool false,.u 0,.u 0,.u 0,.i 0,.i 0,.u 0,.u 0,.str ⟨#[]⟩,.u 0,.u 0,.bool false,.u 0,.bool false,.u 0,.u 0,.u 0,.w 0,.bool false,.bool false]:List SV)=Z:=⟨_,rfl⟩;refine Lp.inv (fun mm σ=>∃ j:Nat,mm+j=5/\(∀ i,i<j->E / 2^i%2=0)/\σ=QAq E j MC Z XX) ?_ ?_
 .refine ⟨5,QAq E 0 MC Z XX,?_,0,by omega,fun i h=>by omega,rfl⟩
  rw [<- US,<- hZ];unfold QAq
  (exact zwL [(0,some 0),(1,some _),(2,some _)])
 rintro mm σ ⟨j,yT,fG,rfl⟩;rw [<- US,<- hZ];clear US hZ;unfold QAq
 by_cases hj:j<5
 case neg =>
  obtain rfl:j=5:=by omega
  obtain rfl:E=0:=QBc E hE fG;rw [zdf (by omega),zN (by decide),zN (by decide)];clear fG;exact QEu
 have q2:IntKind.i64.wrap ((j:Int)+1)=((j+1:Nat):Int):=QaS;have q3:IntKind.i64.wrap (16+(j:Int))=16+(j:Int):=Qb4 (by omega) (by omega);have hp:2^j<4294967296:=Nat.lt_of_le_of_lt (Nat.pow_le_pow_right (by decide) (show j<=5 by omega)) (by decide);have hs:(1:Int)*2^min (((j:Nat):Int)).toNat IntKind.u32.bits%4294967296=((2^j:Nat):Int):=Qzs j (by omega);have ha:bits .and .u32 (E:Int) ((2^j:Nat):Int)=((E / 2^j%2*2^j:Nat):Int):=by rw [QcF E (2^j) (by omega) hp,QA1 E hE j hj]
 have hp0:0<2^j:=Nat.two_pow_pos j;have hb2:E / 2^j%2<2:=Nat.mod_lt _ (by decide)
 by_cases wY:E / 2^j%2=1
 .have qJ:=QqM E j hj fG wY
  have zV:E≠0:=by
   rintro rfl;rw [Nat.zero_div] at wY;omega
  rw [zdt ⟨rfl,zV⟩,zP rfl,zP rfl,qJ];have fW:=Qes [x0,x1,x2,x3,x4,x5,x6,x7,x8,x9,x10,x11,x12,x13,x14,x15] pc [c0,c1,c2,c3,c4,c5,c6,c7] (16+(j:Int)) 0 rfl rfl gA;rw [Qbn] at fW;change Fn _ _ _ _ (. =⟨.a (.agg (Qay _ c1 _)),[],[]⟩) at fW;rw [wY,Nat.one_mul] at ha;unfold trL at *;simp only [Qaf,List.getD_cons_zero,List.getD_cons_succ] at fW |-;generalize 2^j=Pj at *;clear fG qJ hE wY hb2;(repeat' ((conv=>whnf);first|exact zi2|refine zj0 fun hb=>?_|refine zq0 ?_|refine zq3 ?_|((with_reducible apply Vl.mk (α:=Int)); . first|with_reducible exact q2|with_reducible exact q3|with_reducible exact ha|exact hs)|(refine zpu fW ?_)|refine zse ?_|refine zbb ?_ ?_))
  all_goals exact QEd
 .have yP:E / 2^j%2=0:=by omega
  have vM:∀ i,i<j+1->E / 2^i%2=0:=fun i hi=>by
   by_cases e:i=j
   .subst e;exact yP
   .exact fG i (by omega)
  rw [yP,Nat.zero_mul] at ha;generalize 2^j=Pj at *;(conv=>whnf);(repeat' ((first|exact zi2|refine zj0 fun hb=>?_|((with_reducible apply Vl.mk (α:=Int)); . first|with_reducible exact q2|with_reducible exact ha|exact hs)|refine zse ?_|refine zbb ?_ ?_)<;>conv=>whnf))
  all_goals first
   | (exfalso;omega)|(exfalso;simp at hb;done)|(exfalso;simp at hb;omega)
   | (refine ⟨mm-1,QAq E (j+1) _ _ XX,by omega,?_,j+1,by omega,vM,rfl⟩;unfold QAq;(exact zwL [(0,some 0),(1,some 1),(2,some 2)]))
theorem QnP (xs:List Nat) (n a:Nat) (hn:ZU n) (ha:ZU a) (hl:xs.length=n) (qU:ld4 n a=false):FN 87 [.s (.sl 0 0 n),.s (.u a),.s (.i 4)] [⟨false,1,wsv xs⟩] (. =⟨.tup [.s (.u 0),.s (.bool false)],[],[]⟩):=by
 have hw:=Qc6 xs n a hn ha;rw [qU] at hw;have gL:=Qaa xs;generalize wsv xs=XX at *;refine fnW Tryz.func87 ?_;(repeat' ((conv=>whnf);first|exact zi3|refine zj0 fun hb=>?_|(refine QaA hw ?_)|refine zse ?_|refine zbb ?_ ?_))
 all_goals exact QfR
def QnJ (M:Mc):Nat:=M.m.getD (Qde M / 4) 0
def QmH (M:Mc):Bool:=decide ((Qdd M).getD 0 0%2=1)&&(ld4 M.m.length (Qde M)&&(dOk (QnJ M)&&(decide (dOp (QnJ M)=60)&&decide (dM (QnJ M)=2))))
theorem Qj3 (M:Mc) (hM:M.ok):FN 44 [.agg (M.C 0)] [⟨false,1,wsv M.m⟩] (. =⟨.a (.s (.bool (QmH M))),[],[]⟩):=by
 have q0:=QjZ M hM;have jV:=Qaa M.m;have KY:=Qbw M hM;have b1:=Ql2 ((Qdd M).getD 0 0) (Qab (Qej M hM) 0);have ZX:=Qek M hM;have hml0:=hM.ml;have zS:QnJ M<4294967296:=Qab hM.mr _;have lo1:=Qfi M.m M.m.length (Qde M) (by omega) ZX rfl;have lo0:=QnP M.m M.m.length (Qde M) (by omega) ZX rfl;have dc1:=Qls (QnJ M) zS;have dc0:=Qlr (QnJ M) zS;have z1:=Qls 0 (by decide);have z0:=Qlr 0 (by decide);change ld4 M.m.length (Qde M)=true->Fn _ _ _ _ (. =⟨.tup [.s (.u (QnJ M:Nat)),.s (.bool true)],[],[]⟩) at lo1;obtain ⟨B,hB⟩:∃ B,QmH M=B:=⟨_,rfl⟩;rw [hB];unfold QmH at hB;generalize QnJ M=w,ld4 M.m.length (Qde M)=ld at *;generalize Qde M=ip,Qdd M=ic at *;obtain ⟨i0,_,_,_,_,_,_,_,rfl⟩:=QfC KY;simp only [List.getD_cons_zero] at *;have hm2:i0%2<2:=Nat.mod_lt _ (by decide);generalize i0%2=p0 at *;obtain ⟨hx,hc,hY,gA,gH,gB,gI,gE,gD,gG⟩:=hM;obtain ⟨_,_,_,m,_,_,_,_,d,n⟩:=M;dsimp only at *;cases QaJ hx;cases zC8 hc;obtain ⟨_,_,d2⟩:=d;cases n;dsimp only [Mc.C,Mc.D,Dk.C,Nk.C,Dk.ok,Nk.ok] at *;generalize gJ:m.length=nn,wsv m=XX at *;simp only [Qaf,zca,zna,gJ] at *;clear hY gA gE gD gB gG gH gI
 by_cases hp:p0=1
 case neg =>
  obtain rfl:p0=0:=by omega
  replace b1:bits .and .u32 (i0:Int) 1=0:=b1;rw [zdf (by omega),zbf] at hB;subst hB;refine fnW Tryz.func44 ?_;(repeat' ((conv=>whnf);first|exact zi3|refine zj0 fun hb=>?_|refine QAQ ?_|(refine QaA q0 ?_)|refine zse ?_|refine zbb ?_ ?_))
  all_goals exact QfR
 subst hp;replace b1:bits .and .u32 (i0:Int) 1=1:=b1;rw [zdt rfl,Bool.true_and] at hB;cases ld
 .have l2:=lo0 rfl
  rw [zbf] at hB;subst hB;cases hz:dOk 0
  .have z2:=z0 hz
   clear z0 z1 lo0 lo1 dc0 dc1;refine fnW Tryz.func44 ?_;exact QEm
  .have z2:=z1 hz
   clear z0 z1 lo0 lo1 dc0 dc1;generalize dOp 0=o,dA 0=oa,dB 0=ob,dC 0=oc,dM 0=om at *;refine fnW Tryz.func44 ?_;exact QEm
 have l2:=lo1 rfl;rw [Bool.true_and] at hB;cases hd:dOk w
 .have d2:=dc0 hd
  rw [hd,zbf] at hB;subst hB;clear z0 z1 lo0 lo1 dc0 dc1;refine fnW Tryz.func44 ?_;exact QAg
 have d2:=dc1 hd;rw [hd,Bool.true_and] at hB;clear z0 z1 lo0 lo1 dc0 dc1 hd;generalize dOp w=o,dA w=oa,dB w=ob,dC w=oc,dM w=om at *;unfold iv at d2
 by_cases ho:o=60
 case neg =>
  rw [zdf ho,zbf] at hB;subst hB;refine fnW Tryz.func44 ?_;exact QAg
 subst ho;rw [zdt rfl,Bool.true_and] at hB
 by_cases hm:om=2
 .subst hm
  rw [zdt rfl] at hB;subst hB;refine fnW Tryz.func44 ?_;exact QAg
 .rw [zdf hm] at hB
  subst hB;refine fnW Tryz.func44 ?_;(conv=>whnf);(repeat' ((first|exact zi3|refine zj0 fun hb=>?_|refine QAQ ?_|(refine QaA q0 ?_)|(refine QaA l2 ?_)|(refine zpu d2 ?_)|refine zse ?_|refine zbb ?_ ?_)<;>conv=>whnf))
  all_goals first|(exfalso;omega)|(exfalso;simp at hb;done)|first|(exact Qb9)|(refine QcJ ?_ ?_;(focus (exact Qb9));first|(exact (beq_false_of_ne hm))|(exact zdf hm)|simp_all)
def Qd5 (M:Mc):Bool:= !Qb3 M&&QmH M
theorem QcV (M:Mc) (hM:M.ok):FN 25 [.agg (M.C 0)] [⟨false,1,wsv M.m⟩] (. =⟨.a (.s (.bool (Qd5 M))),[],[]⟩):=by
 have q0:=QcW M hM;have q1:=Qj3 M hM;have jV:=Qaa M.m;unfold Qd5;generalize Qb3 M=b0,QmH M=b1 at *;obtain ⟨hx,hc,hY,gA,gH,gB,gI,gE,gD,gG⟩:=hM;obtain ⟨_,_,_,m,_,_,_,_,d,n⟩:=M;dsimp only at *;cases QaJ hx;cases zC8 hc;cases d;cases n;dsimp only [Mc.C,Mc.D,Dk.C,Nk.C,Dk.ok,Nk.ok] at *;generalize gJ:m.length=nn,wsv m=XX at *;simp only [Qaf,zca,zna,gJ] at *;clear hY gA gE gD gB gG gH gI;cases b0
 .skip
  refine fnW Tryz.func25 ?_;(repeat' ((conv=>whnf);first|exact zi3|refine zj0 fun hb=>?_|(refine QaA q0 ?_)|(refine QaA q1 ?_)|refine zse ?_|refine zbb ?_ ?_))
  all_goals exact QfR
 .skip
  refine fnW Tryz.func25 ?_;exact QEr
theorem QvJ (x:List Nat) (o:Int) (A:Nat) (m:Int):(decide (eK (exE x o A m)=1)&&decide (eP (exE x o A m)=2))=(decide (o=60)&&decide (m=2)):=by
 unfold exE;split
 .rename_i h
  subst h;rfl
 .rename_i h
  rw [zdf h,zbf]
  repeat' split
  all_goals rfl
theorem QGq (xs:List Nat) (n s r va:Nat) (h:Qdf s=false):(rsK xs n s r va 4 1=0↔ld4 n va=true)/\rsM xs n s r va 4 1=xs/\(ld4 n va=true->ftW xs n s r va=xs.getD (va / 4) 0):=by
 have e:rsO xs n s r va 4 1=ld4 n va:=by
  unfold rsO;rw [h,zN (by decide)];have e1:acB 4 n va=ld4 n va:=by unfold acB;rw [zP rfl]
  have e2:QdP 1=true:=by decide
  have e3:szB 4=true:=by decide
  rw [e1,e2,e3,Bool.true_and,Bool.true_and];unfold ld4
  by_cases h4:va%4=0
  .rw [zdt h4,zdt (by omega:(va:Int)%4=0)]
   rfl
  .rw [zdf h4,zdf (by omega:¬ (va:Int)%4=0)]
   rfl
 have e5:rsK xs n s r va 4 1=0↔ld4 n va=true:=by
  unfold rsK;rw [e];cases hl:ld4 n va
  .rw [zN (by decide),zN (by decide)]
   split<;>simp [Qcv]
  .rw [zP rfl]
   simp
 have e6:rsM xs n s r va 4 1=xs:=by
  unfold rsM;rw [zN (by rw [h];simp)]
 refine ⟨e5,e6,fun hl=>?_⟩;unfold ftW;rw [zP (e5.2 hl),e6];unfold rsA;rw [e,hl,zP rfl,h,zN (by decide)]
theorem QBz (x:List Nat) (pc:Nat) (c:List Nat) (xs:List Nat) (n:Nat):(decide (eK (exS x pc c xs n).e=1)&&decide (eP (exS x pc c xs n).e=2))=(decide (c.getD 0 0%2=1)&&(ld4 n pc&&(dOk (xs.getD (pc / 4) 0)&&(decide (dOp (xs.getD (pc / 4) 0)=60)&&decide (dM (xs.getD (pc / 4) 0)=2))))):=by
 have h2:c.getD 0 0%2<2:=Nat.mod_lt _ (by decide)
 by_cases hk:c.getD 0 0%2=1
 .rw [zdt hk,Bool.true_and]
  have hp:Qdf (c.getD 0 0)=false:=zdf (by omega);obtain ⟨k1,_,k3⟩:=QGq xs n (c.getD 0 0) (c.getD 6 0) pc hp;unfold exS
  by_cases hl:ld4 n pc=true
  .rw [zN (by rw [k1.2 hl];simp),k3 hl,hl,Bool.true_and]
   generalize xs.getD (pc / 4) 0=w at *;cases hd:dOk w
   .rw [zP rfl];rfl
   .rw [zN (by decide),Bool.true_and,zN (by omega)]
    split
    .rw [zdf (by omega:¬ dOp w=60)];rfl
    .split
     .rw [zdf (by omega:¬ dOp w=60)];rfl
     .exact QvJ _ _ _ _
  .rw [zP (fun h=>hl (k1.1 h)),Bool.eq_false_iff.2 hl];rfl
 .rw [zdf hk,zbf]
  unfold exS;split
  .rfl
  .split
   .rfl
   .split
    .rfl
    .split
     .rfl
     .split
      .rfl
      .show (decide (eK (exE _ _ _ _)=1)&&decide (eP (exE _ _ _ _)=2))=false
       rw [QvJ,zdf (by omega),zbf]
theorem Qfa (M:Mc) (hM:M.ok):FN 83 [.agg (M.C 0)] [⟨false,1,wsv M.m⟩] (. =⟨.a (.s (.bool (Qd5 M))),[],[]⟩):=by
 have q0:=QeI M hM;have q1:=QeE M hM;have q2:=QfZ M.x (Qde M) (Qdd M) M.m M.m.length hM.x (Qbw M hM) (Qej M hM) (Qek M hM) rfl hM.mr (by have:=hM.ml;omega) hM.xr _ rfl;have hr:(decide (eK (QaI M).e=1)&&decide (eP (QaI M).e=2))=QmH M:=QBz M.x (Qde M) (Qdd M) M.m M.m.length;obtain ⟨k1,k2,k3,k4,k5,k6,k7,K,P,R,V,k8,_,_⟩:=QbY M hM;change Fn _ _ _ _ (. =⟨.tup [.agg (Qay (QaI M).x (QaI M).pc (QaI M).c),.s (.sl 1 0 M.m.length),.agg (QaI M).e],[],[⟨true,1,wsv (QaI M).m⟩]⟩) at q2;have jV:=Qaa M.m;have hi:=Qbw M hM;unfold Qd5;rw [<- hr];unfold QAp at q1;dsimp only [Mc.C] at q1;generalize QaI M=Q,Qb3 M=b0,Qde M=ip,Qdd M=ic at *;obtain ⟨_,_,_,qm,_⟩:=Q;dsimp only at *;subst k8;have hr2:eK (efS K P R V)=K/\eP (efS K P R V)=P:=⟨rfl,rfl⟩;rw [hr2.1,hr2.2];unfold efS at *;cases QaJ k1;cases zC8 k2;cases zC8 hi;have hsq:=Qaa qm;generalize wsv qm=XQ at *;clear hr hr2 k1 k2 k3 k4 k5 k6 k7;obtain ⟨hx,hc,hY,gA,gH,gB,gI,gE,gD,gG⟩:=hM;obtain ⟨x,pc,c,m,_,_,_,_,d,n⟩:=M;dsimp only at *;cases QaJ hx;cases zC8 hc;cases d;cases n;dsimp only [Mc.C,Mc.D,Dk.C,Nk.C,Dk.ok,Nk.ok] at *;generalize gJ:m.length=nn,wsv m=XX at *;simp only [Qaf,zca,zna,gJ] at *;clear hY gA gE gD gB gG gH gI;cases b0
 .skip
  refine fnW Tryz.func83 ?_;(conv=>whnf);(repeat' ((first|exact zi3|refine zj0 fun hb=>?_|refine zq0 ?_|refine zq3 ?_|(refine QaA q0 ?_)|(refine QaA q1 ?_)|(refine QaA q2 ?_)|refine zse ?_|refine zbb ?_ ?_)<;>conv=>whnf))
  all_goals first
   | (exfalso;omega)
   | (exfalso;simp at hb;done)
   | (refine QcJ ?_ ?_;(focus (exact Qb9));first|(rw [zbi];simp;done)|(rw [zbi];simp;omega)|(rw [zbi];simp_all;done)|(rw [zbi];simp;grind))
 .skip
  refine fnW Tryz.func83 ?_;exact QEr
theorem Qgv (xs:List Nat) (n:Nat) (hn:n<=1000000) (p:Nat):FN 268 [.s (.sl 0 0 n),.s (.i p)] [⟨false,1,wsv xs⟩] (. =⟨.a (.s (.bool (decide (p<mpg n)))),[],[]⟩):=by
 have hp:=QbI xs n (by omega);have gL:=Qaa xs;generalize mpg n=P,wsv xs=XX at *;refine fnW Tryz.func268 ?_;(conv=>whnf);(repeat' ((first|exact zi2|refine zj0 fun hb=>?_|(refine QaA hp ?_)|refine zse ?_|refine zbb ?_ ?_)<;>conv=>whnf))
 all_goals first
  | (refine QcJ ?_ ?_;(focus (exact Qb9));rw [zbi];simp;done)
  | (refine QcJ ?_ ?_;(focus (exact Qb9));rw [zbi];simp;omega)
  | (exfalso;simp at hb;omega)
def QAK (o j r:Nat) (X R:List SV):St :=
 ⟨[(3,.a (.s (.sl 1 0 r))),(10,.a (.s (.sl 0 o 32))),(11,.a (.s (.i 32))),(12,.a (.s (.i j)))],[(0,some ⟨false,1,X⟩),(1,some ⟨true,1,R⟩)],[0]⟩
theorem Qtg (xs:List Nat) (n:Nat) (hl:xs.length=n) (hn:n<=1000000) (hY:ZL xs) (p:Nat) (hp:p*32+32<=n):FN 269 [.s (.sl 0 (p*32) 32)] [⟨false,1,wsv xs⟩] (. =⟨.a (.s (.str (strOfNums (pgL xs p 32)))),[],[]⟩):=by
 have gL:=Qaa xs;generalize hX:wsv xs=XX at *;obtain ⟨o,ho⟩:∃ o,p*32=o:=⟨_,rfl⟩;rw [ho];have c0:IntKind.i64.wrap (4*((32:Nat):Int))=((128:Nat):Int):=rfl;refine fnW Tryz.func269 ?_;(conv=>whnf);(repeat' ((first|exact zi2|refine zj0 fun hb=>?_|(with_reducible refine zv c0 ?_)|(refine Zs.mk [] ⟨rfl,fun k s h=>by simp at h⟩ ?_)|refine zse ?_|refine zbb ?_ ?_)<;>conv=>whnf))
 all_goals try (exfalso;simp at hb;done)
 refine Lp.inv (fun mm σ=>∃ j:Nat,mm+j=32/\σ=QAK o j (4*j) XX (isv .u8 (pgL xs p j))) ?_ ?_
 .refine ⟨32,QAK o 0 0 XX [],?_,0,by omega,rfl⟩
  unfold QAK
  (exact zwL [(0,some 0),(1,some _)])
 rintro mm σ ⟨j,yT,rfl⟩;unfold QAK;have vT:=QaM .u8 (pgL xs p (j+1));have VY:=QaM .u8 (pgL xs p j);have gF:(isv .u8 (pgL xs p j)).length=4*j:=by unfold isv;rw [List.length_map,QgU]
 by_cases hj:j<32
 .have q2:IntKind.i64.wrap ((j:Int)+1)=((j+1:Nat):Int):=by rw [Qb4 (by omega) (by omega)];omega
  have HG:XX[o+j]?=some (.u (xs.getD (p*32+j) 0:Nat)):=by
   rw [<- hX,<- ho];unfold wsv;rw [zgm,zgd,zgg (by omega)];rfl
  have hvl:=Qab hY (p*32+j);have jH:isv .u8 (pgL xs p j)++isv .u8 (Qe4 (xs.getD (p*32+j) 0) 4)=isv .u8 (pgL xs p (j+1)):=by rw [pgL];unfold isv;rw [List.map_append]
  generalize xs.getD (p*32+j) 0=v at *;have s1:(v:Int) / 2^min (Int.toNat 8) IntKind.u32.bits=((v / 256:Nat):Int):=rfl;have s2:(v:Int) / 2^min (Int.toNat 16) IntKind.u32.bits=((v / 65536:Nat):Int):=rfl;have s3:(v:Int) / 2^min (Int.toNat 24) IntKind.u32.bits=((v / 16777216:Nat):Int):=rfl;have w0:IntKind.u8.wrap (v:Int)=((v%256:Nat):Int):=by rw [Qow];omega
  have w1:IntKind.u8.wrap ((v / 256:Nat):Int)=((v / 256%256:Nat):Int):=by rw [Qow];omega
  have w2:IntKind.u8.wrap ((v / 65536:Nat):Int)=((v / 65536%256:Nat):Int):=by rw [Qow];omega
  have w3:IntKind.u8.wrap ((v / 16777216:Nat):Int)=((v / 16777216%256:Nat):Int):=by rw [Qow];omega
  have zO:isv .u8 (Qe4 v 4)= [.int .u8 (v%256:Nat),.int .u8 (v / 256%256:Nat),.int .u8 (v / 65536%256:Nat),.int .u8 (v / 16777216%256:Nat)]:=by simp [Qe4,isv]
  rw [zO] at jH;generalize v%256=v0,v / 256%256=v1,v / 65536%256=v2,v / 16777216%256=v3 at *;generalize v / 256=u1,v / 65536=u2,v / 16777216=u3,isv .u8 (pgL xs p j)=R0,hR1:isv .u8 (pgL xs p (j+1))=R1,hr0:4*j=r0,yV:4*(j+1)=r1 at *;have vI:r0+4=r1:=by subst hr0 yV;omega
  (conv=>whnf);(repeat' ((first|exact zi2|refine zj0 fun hb=>?_|(with_reducible first|refine zv q2 ?_|refine zv s1 ?_|refine zv s2 ?_|refine zv s3 ?_|refine zv w0 ?_|refine zv w1 ?_|refine zv w2 ?_|refine zv w3 ?_)|((with_reducible apply Vl.mk (α:=Nat)); . with_reducible exact vI)|refine Qu8 ?_|refine QDv ?_|refine zse ?_|refine zbb ?_ ?_)<;>conv=>whnf))
  all_goals first
   | (exfalso;omega)
   | (exfalso;simp at hb;done)
   | (refine ⟨mm-1,QAK o (j+1) r1 XX R1,by omega,?_,j+1,by omega,by rw [hR1,yV];rfl⟩;unfold QAK;(exact zwL [(0,some 0),(1,some _)]))
 .clear vT
  obtain rfl:j=32:=by omega
  have ht:=QdZ (pgL xs p 32);have sg:(isv .u8 (pgL xs p 32)).length=4*32/\∀ (i:Nat) s,(isv .u8 (pgL xs p 32))[i]?=some s->(isv .u8 (pgL xs p 32))[0+i]?=some s:=⟨gF,fun i s hs=>by rw [Nat.zero_add];exact hs⟩;generalize isv .u8 (pgL xs p 32)=R0 at *;generalize pgL xs p 32=L,4*32=r0 at *;(repeat' ((conv=>whnf);first|exact zi2|refine zj0 fun hb=>?_|(apply Sg.mk; . exact sg)|refine QHo ?_|refine zse ?_|refine zbb ?_ ?_))
  all_goals exact QfR
theorem Qjl (xs:List Nat) (n:Nat) (hl:xs.length=n) (hn:n<=1000000) (hY:ZL xs) (p:Nat):FN 247 [.s (.sl 0 0 n),.s (.i p)] [⟨false,1,wsv xs⟩] (. =⟨.tup [.s (.str (pgV xs n p)),.s (.bool (decide (p<mpg n)))],[],[]⟩):=by
 have hh:=Qgv xs n hn p;have gL:=Qaa xs;have FU:=wsv_length xs;have uF:=QaT n;have hmn:mpg n*32<=n:=Qeu;unfold pgV
 by_cases gU:p<mpg n
 .rw [zP gU,zdt gU]
  rw [zdt gU] at hh;have ht:=Qtg xs n hl hn hY p (by omega);have q1:IntKind.i64.wrap ((p:Int)*32)=((p*32:Nat):Int):=QaS;have q2:IntKind.i64.wrap (((p*32:Nat):Int)+32)=((p*32+32:Nat):Int):=QaS;have wI:p*32+32<=n:=by omega
  generalize strOfNums (pgL xs p 32)=S,wsv xs=XX,p*32=o at *;have e3:(((o+32:Nat):Int)-(o:Int)).toNat=32:=by omega
  refine fnW Tryz.func247 ?_;(repeat' ((conv=>whnf);first|exact zi2|refine zj0 fun hb=>?_|refine QFo ?_|((with_reducible apply Vl.mk (α:=Nat)); . with_reducible exact e3)|(refine QaA hh ?_)|(refine Qag ht [⟨0,0⟩] [(_,_)] (by simp [QcZ,QcQ,Qc7,Qop]) ⟨rfl,trivial⟩ ⟨rfl,Qap (by assumption),trivial⟩ ⟨rfl,Qcu rfl⟩ ?_)|refine zse ?_|refine zbb ?_ ?_))
  all_goals exact QfR
 .rw [zN gU,zdf gU]
  rw [zdf gU] at hh;generalize wsv xs=XX at *;refine fnW Tryz.func247 ?_;(repeat' ((conv=>whnf);first|exact zi2|refine zj0 fun hb=>?_|(refine QaA hh ?_)|refine zse ?_|refine zbb ?_ ?_))
  all_goals exact QfR
theorem QkQ (xs:List Nat) (n:Nat) (hl:xs.length=n) (hn:ZU n) (f:Nat) (hf:ZU f):FN 244 [.s (.sl 0 0 n),.s (.u f)] [⟨false,1,wsv xs⟩] (. =⟨.a (.s (.bool (QbE n f))),[],[]⟩):=by
 have hp:=QbI xs n (by omega);have gL:=Qaa xs;have uF:=QaT n;unfold QbE;generalize mpg n=P,wsv xs=XX at *;have c1:IntKind.u64.wrap (P:Int)=P:=Ql0;have c2:IntKind.u64.wrap (f:Int)=f:=Ql0;refine fnW Tryz.func244 ?_;exact QzZ
theorem Qgw (xs:List Nat) (n:Nat) (hl:xs.length=n) (hn:ZU n) (f:Nat) (hf:ZU f):FN 246 [.s (.sl 0 0 n),.s (.u f)] [⟨false,1,wsv xs⟩] (. =⟨.a (.s (.bool (QbE n f))),[],[]⟩):=by
 have hp:=QbI xs n (by omega);have gL:=Qaa xs;have uF:=QaT n;unfold QbE;generalize mpg n=P,wsv xs=XX at *;have c1:IntKind.u64.wrap (P:Int)=P:=Ql0;have c2:IntKind.u64.wrap (f:Int)=f:=Ql0;refine fnW Tryz.func246 ?_;exact QzZ
theorem QkY (d:Dk) (c:Nat):FN 272 [.agg d.C,.s (.w c)] [] (. =⟨.tup [.agg (QnL d c),.s (.bool (Qv9 d))],[],[]⟩):=by
 obtain ⟨_,hO⟩:∃ B,QnL d c=B:=⟨_,rfl⟩;obtain ⟨B,hB⟩:∃ B,Qv9 d=B:=⟨_,rfl⟩;rw [hO,hB];unfold QnL at hO;unfold Qv9 at hB;obtain ⟨_,_,_,st,cmd⟩:=d;dsimp only [Dk.C] at *
 by_cases h1:st=1
 .rw [zP h1] at hO
  by_cases h2:cmd=1
  .rw [zP h2] at hO
   rw [zdt (by omega)] at hB;subst hO hB h1 h2;refine fnW Tryz.func272 ?_;exact Qoo
  rw [zN h2] at hO
  by_cases h3:cmd=2
  .rw [zP h3] at hO
   rw [zdt (by omega)] at hB;subst hO hB h1 h3;refine fnW Tryz.func272 ?_;exact Qoo
  rw [zN h3] at hO;rw [zdf (by omega)] at hB;subst hO hB h1;refine fnW Tryz.func272 ?_;exact Qoo
 rw [zN h1] at hO;rw [zdf (by omega)] at hB;subst hO hB;refine fnW Tryz.func272 ?_;exact QDU
theorem Qo4 (d:Dk) (hd:d.ok) (xs:List Nat) (n:Nat) (hl:xs.length=n) (hn:n<=1000000) (hY:ZL xs) (v:Nat) (hv:v=1\/v=2) (c:Nat) :
  FN 264 [.agg d.C,.s (.sl 0 0 n),.s (.i v),.s (.w c)] [⟨false,1,wsv xs⟩] (. =⟨.tup [.agg (Qa4 d xs n 6 v c).1.C,.s (oS 1 (Qa4 d xs n 6 v c).2)],[],oR (Qa4 d xs n 6 v c).2⟩):=by
 obtain ⟨_,_,e3,_,_,_,_,_⟩:=hd;have q1:=QkQ xs n hl (by omega) d.fr e3;have q2:=Qjl xs n hl hn hY d.fr;have q3:=QkY (Qps d v c (pgV xs n d.fr)) c;have gL:=Qaa xs;obtain ⟨D,hD⟩:∃ D,Qa4 d xs n 6 v c=D:=⟨_,rfl⟩;rw [hD];unfold Qa4 at hD;rw [zN (by decide),zN (by decide),zN (by decide),zN (by omega)] at hD;generalize hO:QnL (Qps d v c (pgV xs n d.fr)) c=O at *
 have YE:O.length=4/\Qao O=true/\Qat O=true:=by
  rw [<- hO];unfold QnL;split<;>(try split)<;>(try split)<;>exact ⟨rfl,rfl,rfl⟩
 generalize Qv9 (Qps d v c (pgV xs n d.fr))=RB at *;unfold Qps at *;generalize pgV xs n d.fr=PG,decide (d.fr<mpg n)=PB,QbE n d.fr=pb,wsv xs=XX at *;obtain ⟨bs,bl,fr,st⟩:=d;dsimp only [Dk.C] at *;have cf:IntKind.i64.wrap (fr:Int)=fr:=Qht
 by_cases h8:((v:Int)=1\/(v:Int)=2)/\st=0
 .rw [zP h8] at hD
  obtain ⟨_,rfl⟩:=h8
  by_cases h9:(bs:Int)<=bl
  .rw [zP h9] at hD
   subst hD;dsimp only [oS,oR];refine fnW Tryz.func264 ?_;exact Qdi
  rw [zN h9] at hD;cases pb
  .rw [zP rfl] at hD
   subst hD;dsimp only [oS,oR];refine fnW Tryz.func264 ?_;exact Qon
  rw [zN (by decide)] at hD;rcases hv with rfl|rfl
  .rw [zN (by decide)] at hD q3
   obtain rfl:O= [.i 3,.w c,.u bl,.str ⟨#[]⟩]:=by rw [<- hO];rfl
   clear hO YE;subst hD;dsimp only [oS,oR];refine fnW Tryz.func264 ?_;(repeat' ((conv=>whnf);first|exact zi2|refine zj0 fun hb=>?_|(refine QaA q1 ?_)|(refine zpu q3 ?_)|refine zse ?_|refine zbb ?_ ?_))
   all_goals exact Qcy
  .rw [zP (by decide)] at hD q3
   obtain rfl:O= [.i 4,.w c,.u bl,.str PG]:=by rw [<- hO];rfl
   clear hO YE;subst hD;dsimp only [oS,oR];refine fnW Tryz.func264 ?_;(repeat' ((conv=>whnf);first|exact zi2|refine zj0 fun hb=>?_|(with_reducible refine zv cf ?_)|(refine QaA q1 ?_)|(refine QaA q2 ?_)|(refine zpu q3 ?_)|refine zse ?_|refine zbb ?_ ?_))
   all_goals exact Qcy
 rw [zN h8] at hD;have h8':¬ st=0:=fun h=>h8 ⟨by omega,h⟩
 subst hD;dsimp only [oS,oR];refine fnW Tryz.func264 ?_;exact Qz2
theorem Qni (d:Dk) (hd:d.ok) (xs:List Nat) (n:Nat) (hl:xs.length=n) (hn:n<=1000000) (hY:ZL xs) (p:Int) (v:Nat) (hv:ZU v) (c:Nat) :
  FN 238 [.agg d.C,.s (.sl 0 0 n),.s (.i p),.s (.u v),.s (.w c)] [⟨false,1,wsv xs⟩] (. =⟨.tup [.agg (Qa4 d xs n p v c).1.C,.s (oS 1 (Qa4 d xs n p v c).2)],[],oR (Qa4 d xs n p v c).2⟩):=by
 have qI:=Qo4 d hd xs n hl hn hY v;have qP:=Qgt d;have YS:=QdL d xs n p v c;obtain ⟨D,hD⟩:∃ D,Qa4 d xs n p v c=D:=⟨_,rfl⟩;rw [hD] at YS |-;have gL:=Qaa xs;have cv:IntKind.i64.wrap (v:Int)=v:=Qht
 by_cases vS:p=6/\(v=1\/v=2)
 .obtain ⟨rfl,HJ⟩:=vS
  replace qI:=qI HJ c;rw [hD] at qI;clear hD qP;obtain ⟨d',O⟩:=D;obtain ⟨_,_,_,st,_,_,_,_⟩:=d;obtain ⟨_,_,_,_,_,_,_,_⟩:=d';dsimp only [Dk.C] at *;generalize wsv xs=XX at *
  cases O with
  | none =>
   dsimp only [oS,oR];refine fnW Tryz.func238 ?_;(conv=>whnf);(repeat' ((first|exact zi2|refine zj0 fun hb=>?_|(with_reducible refine zv cv ?_)|(refine QaA qI ?_)|refine zse ?_|refine zbb ?_ ?_)<;>conv=>whnf))
   all_goals first|(exact Qb9)
  | some O =>
   obtain ⟨_,_,_⟩:=YS O rfl;dsimp only [oS,oR];refine fnW Tryz.func238 ?_;(repeat' ((conv=>whnf);first|exact zi2|refine zj0 fun hb=>?_|(with_reducible refine zv cv ?_)|(refine QaA qI ?_)|refine zse ?_|refine zbb ?_ ?_))
   all_goals exact Qcy
 unfold Qa4 at hD;clear qI;generalize hpd:QbS d.st=pd at *;unfold QbS at hpd;generalize wsv xs=XX at *;obtain ⟨_,_,_,st,_,_,_,_⟩:=d;dsimp only [Dk.C] at *
 by_cases h4:p=4
 .rw [zP h4] at hD
  subst hD h4;dsimp only [oS,oR];refine fnW Tryz.func238 ?_;exact Qdi
 rw [zN h4] at hD
 by_cases h5:p=5
 .rw [zP h5] at hD
  subst hD h5;dsimp only [oS,oR];refine fnW Tryz.func238 ?_;exact Qdi
 rw [zN h5] at hD
 by_cases h6:¬ p=6
 .rw [zP h6] at hD
  subst hD;dsimp only [oS,oR];refine fnW Tryz.func238 ?_;exact Qdi
 rw [zN h6] at hD;obtain rfl:p=6:=by omega
 have YW:¬ v=1:=fun h=>vS ⟨rfl,.inl h⟩
 have HJ:¬ v=2:=fun h=>vS ⟨rfl,.inr h⟩
 rw [zN (by omega:¬ (((v:Int)=1\/(v:Int)=2)/\st=0))] at hD;clear vS;cases pd
 .have h7:¬ (st=2\/st=3):=of_decide_eq_false hpd
  rw [zN (fun h=>h7 h.2)] at hD;subst hD;dsimp only [oS,oR];refine fnW Tryz.func238 ?_;exact QEs
 .have h7:st=2\/st=3:=of_decide_eq_true hpd
  by_cases h8:(v:Int)=0
  .rw [zP ⟨h8,h7⟩] at hD
   obtain rfl:v=0:=by omega
   subst hD;dsimp only [oS,oR];refine fnW Tryz.func238 ?_;exact QEs
  .rw [zN (fun h=>h8 h.1)] at hD
   subst hD;dsimp only [oS,oR];refine fnW Tryz.func238 ?_;exact Qdi
def QgS (d:Nk) (xs:List Nat) (n:Nat) (c:Nat):Option (List SV) :=
 if 1<=(d.ln:Int)/\(d.ln:Int)<=128/\QbE n d.fr=true then some [.i 2,.w c,.u 0,.str ((pgV xs n d.fr).extract 0 d.ln)] else none
theorem QkS (d:Nk) (hd:d.ok) (xs:List Nat) (n:Nat) (hl:xs.length=n) (hn:n<=1000000) (hY:ZL xs) (c:Nat) :
  FN 265 [.agg d.C,.s (.sl 0 0 n),.s (.w c)] [⟨false,1,wsv xs⟩] (. =⟨.a (.s (oS 1 (QgS d xs n c))),[],oR (QgS d xs n c)⟩):=by
 obtain ⟨e1,_,_,_⟩:=hd;have q1:=Qgw xs n hl (by omega) d.fr e1;have q2:=Qjl xs n hl hn hY d.fr;have vY:=@Qiz xs n d.fr;have gL:=Qaa xs;obtain ⟨D,hD⟩:∃ D,QgS d xs n c=D:=⟨_,rfl⟩;rw [hD];unfold QgS at hD;generalize pgV xs n d.fr=PG,decide (d.fr<mpg n)=PB,QbE n d.fr=pb,wsv xs=XX at *;obtain ⟨fr,ln⟩:=d;dsimp only [Nk.C] at *;have cf:IntKind.i64.wrap (fr:Int)=fr:=Qht;have cl:IntKind.i64.wrap (ln:Int)=ln:=Qht
 by_cases h7:1<=(ln:Int)/\(ln:Int)<=128/\pb=true
 .rw [zP h7] at hD
  obtain ⟨_,_,rfl⟩:=h7;have hp8:=vY rfl;subst hD;dsimp only [oS,oR];refine fnW Tryz.func265 ?_;exact QEn
 .rw [zN h7] at hD
  subst hD;cases pb
  .skip
   dsimp only [oS,oR];refine fnW Tryz.func265 ?_;exact Qon
  .have h8:¬ (1<=(ln:Int)/\(ln:Int)<=128):=fun h=>h7 ⟨h.1,h.2,rfl⟩
   dsimp only [oS,oR];refine fnW Tryz.func265 ?_;exact Qdi
theorem Qnm (d:Nk) (hd:d.ok) (xs:List Nat) (n:Nat) (hl:xs.length=n) (hn:n<=1000000) (hY:ZL xs) (p:Int) (v:Nat) (hv:ZU v) (c:Nat) :
  FN 239 [.agg d.C,.s (.sl 0 0 n),.s (.i p),.s (.u v),.s (.w c)] [⟨false,1,wsv xs⟩] (. =⟨.tup [.agg (Qbk d xs n p v c).1.C,.s (oS 1 (Qbk d xs n p v c).2)],[],oR (Qbk d xs n p v c).2⟩):=by
 have qS:=QkS d hd xs n hl hn hY c;have q1:=Qgw xs n hl (by omega) d.fr hd.1;have YS:=QdR d xs n p v c;obtain ⟨D,hD⟩:∃ D,Qbk d xs n p v c=D:=⟨_,rfl⟩;rw [hD] at YS |-;have gL:=Qaa xs
 by_cases vS:p=9/\v=1
 .obtain ⟨rfl,rfl⟩:=vS
  have e:D=(d,QgS d xs n c):=by
   rw [<- hD];unfold Qbk QgS;rw [zN (by decide),zN (by decide),zN (by decide),zN (by decide)]
   by_cases h:1<=(d.ln:Int)/\(d.ln:Int)<=128/\QbE n d.fr=true
   .rw [zP ⟨rfl,h⟩,zP h]
   .rw [zN (fun k=>h k.2),zN h,zN (by simp)]
  clear hD;subst e;dsimp only at *;generalize QgS d xs n c=O at *;obtain ⟨fr,ln,po,_,re,_⟩:=d;dsimp only [Nk.C] at *;generalize wsv xs=XX at *
  cases O with
  | none =>
   dsimp only [oS,oR];refine fnW Tryz.func239 ?_;(conv=>whnf);(repeat' ((first|exact zi2|refine zj0 fun hb=>?_|(refine QaA qS ?_)|refine zse ?_|refine zbb ?_ ?_)<;>conv=>whnf))
   all_goals first|(exact Qb9)
  | some O =>
   obtain ⟨_,_,_⟩:=YS O rfl;dsimp only [oS,oR];refine fnW Tryz.func239 ?_;(repeat' ((conv=>whnf);first|exact zi2|refine zj0 fun hb=>?_|(refine QaA qS ?_)|refine zse ?_|refine zbb ?_ ?_))
   all_goals exact Qcy
 clear qS;unfold Qbk at hD;generalize pgV xs n d.fr=PG,QbE n d.fr=pb,wsv xs=XX at *;obtain ⟨fr,ln,po,_,re,_⟩:=d;dsimp only [Nk.C] at *
 by_cases h4:p=7
 .rw [zP h4] at hD
  subst hD h4;dsimp only [oS,oR];refine fnW Tryz.func239 ?_;exact Qdi
 rw [zN h4] at hD
 by_cases h5:p=8
 .rw [zP h5] at hD
  subst hD h5;dsimp only [oS,oR];refine fnW Tryz.func239 ?_;exact Qdi
 rw [zN h5] at hD
 by_cases h6:¬ p=9
 .rw [zP h6] at hD
  subst hD;dsimp only [oS,oR];refine fnW Tryz.func239 ?_;exact Qdi
 rw [zN h6] at hD;obtain rfl:p=9:=by omega
 have YW:¬ v=1:=fun h=>vS ⟨rfl,h⟩
 clear vS
 by_cases h0:(v:Int)=0
 .rw [zP h0] at hD
  obtain rfl:v=0:=by omega
  subst hD;dsimp only [oS,oR];refine fnW Tryz.func239 ?_;exact Qdi
 rw [zN h0,zN (by omega:¬ ((v:Int)=1/\1<=(ln:Int)/\(ln:Int)<=128/\pb=true))] at hD
 by_cases h2:(v:Int)=2
 .obtain rfl:v=2:=by omega
  cases pb<;>cases po<;>cases re
  all_goals
   first|rw [zP ⟨rfl,rfl,rfl,rfl⟩] at hD|rw [zN (by simp)] at hD
   subst hD;dsimp only [oS,oR];refine fnW Tryz.func239 ?_;exact Qon
 rw [zN (fun h=>h2 h.1)] at hD;subst hD;dsimp only [oS,oR];refine fnW Tryz.func239 ?_;exact Qz2
theorem QoY (bt bg:Nat) (h2:ZU bg) (p:Int):FN 236 [.agg [.u bt,.u bg],.s (.i p)] [] (. =⟨.a (.s (.u (Qgq bt bg p:Nat))),[],[]⟩):=by
 have hg:=Qfy bt bg h2;have jZ:=Qb5 bg 32;obtain ⟨B,hB⟩:∃ B,Qgq bt bg p=B:=⟨_,rfl⟩;rw [hB];unfold Qgq at hB;generalize QbL bg 32=P at *
 by_cases h4:p=10
 .rw [zP h4] at hB
  subst h4 hB;refine fnW Tryz.func236 ?_;exact Qvk
 rw [zN h4] at hB
 by_cases h5:p=11
 .rw [zP h5] at hB
  subst h5 hB;refine fnW Tryz.func236 ?_;exact Qvk
 rw [zN h5] at hB;subst hB;refine fnW Tryz.func236 ?_;exact QDX
theorem Qnq (M:Mc) (hM:M.ok) (p:Int) (v:Nat) (hv:ZU v) (hp:¬ (p=10\/p=11)):FN 163 [.agg (M.C 0),.s (.i p),.s (.u v),.s (.w M.ct)] [⟨false,1,wsv M.m⟩]
  (. =⟨.tup [.agg ((Qbx M p v).1.C 0),.s (oS 1 (Qbx M p v).2)],[],oR (Qbx M p v).2⟩):=by
 have q3:=QwS M.ta M.td M.tf v;have q4:=Qni M.d hM.dk M.m _ rfl hM.ml hM.mr p v hv M.ct;have q5:=Qnm M.n hM.nk M.m _ rfl hM.ml hM.mr p v hv M.ct;have h4:=QdL M.d M.m M.m.length p v M.ct;have h5:=QdR M.n M.m M.m.length p v M.ct;have gL:=Qaa M.m;obtain ⟨D,hD⟩:∃ D,Qbx M p v=D:=⟨_,rfl⟩
 have wS:¬ (0<=p/\p<=9)->D=(M,none):=by
  intro h;rw [<- hD];unfold Qbx;rw [zN (by omega)]
  by_cases h2:p<=2
  .rw [zP h2]
  .rw [zN h2,zN (by omega),zN (by omega),zN (by omega)]
   have hq:¬ gvQ M.bg M.m.length p v:=fun h=>hp (.inl h.1)
   unfold Qhj QfO;rw [zN hq,zN hq,zN (fun h=>hp (.inr h.1))]
 rw [hD];unfold Qbx at hD;generalize Qa4 M.d M.m M.m.length p v M.ct=Z4,Qbk M.n M.m M.m.length p v M.ct=Z5,Qhj M.bg M.m.length p v=gb,QfO M.m M.bg M.m.length p v=gm at *;obtain ⟨⟨_,_,_,_,_,_,_,_⟩,o4⟩:=Z4;obtain ⟨⟨_,_,_,_,_,_⟩,o5⟩:=Z5;obtain ⟨hx,hc,hY,gA,gH,gB,_,gE,gD,gG⟩:=hM;obtain ⟨_,_,_,m,_,ta,td,tf,d,n,_,bg,ct⟩:=M;dsimp only at *;cases QaJ hx;cases zC8 hc;cases d;cases n;dsimp only [Mc.C,Mc.D,Dk.C,Nk.C,Dk.ok,Nk.ok] at *;generalize gJ:m.length=nn,wsv m=XX at *;simp only [Qaf,zca,zna] at *;clear hY gA gE gD gB gG gH
 by_cases h09:0<=p/\p<=9
 case neg =>
  obtain rfl:=wS h09;clear hD q3 q4 q5 h4 h5;dsimp only [oS,oR,Mc.C,Mc.D,Dk.C,Nk.C];simp only [Qaf,zca,zna];rw [gJ];refine fnW Tryz.func163 ?_;exact QAj
 clear wS
 by_cases h1:p=0
 .rw [zP h1] at hD
  subst h1 hD;clear q3 q4 q5 h4 h5;dsimp only [oS,oR,Mc.C,Mc.D,Dk.C,Nk.C];simp only [Qaf,zca,zna];rw [gJ];refine fnW Tryz.func163 ?_;(repeat' ((conv=>whnf);first|exact zi2|refine zj0 fun hb=>?_|refine zq0 ?_|refine QHn ?_|refine zse ?_|refine zbb ?_ ?_))
  all_goals exact Qcy
 rw [zN h1] at hD
 by_cases h2:p<=2
 .rw [zP h2] at hD
  subst hD;clear q3 q4 q5 h4 h5;dsimp only [oS,oR,Mc.C,Mc.D,Dk.C,Nk.C];simp only [Qaf,zca,zna];rw [gJ];refine fnW Tryz.func163 ?_;exact QAj
 rw [zN h2] at hD
 by_cases h3:p=3
 .rw [zP h3] at hD
  subst h3 hD;clear q4 q5 h4 h5;dsimp only [oS,oR,Mc.C,Mc.D,Dk.C,Nk.C];simp only [Qaf,zca,zna];rw [gJ];unfold QAo at q3
  by_cases hv0:(v:Int)=0
  .rw [zP hv0] at q3
   rw [zdf (not_not_intro hv0)];obtain rfl:v=0:=by omega
   refine fnW Tryz.func163 ?_;exact QAi
  .rw [zN hv0] at q3
   rw [zdt hv0];refine fnW Tryz.func163 ?_;exact QAi
 rw [zN h3] at hD
 by_cases h6:p<=6
 .rw [zP h6] at hD
  subst hD;clear q3 q5 h5;dsimp only [Mc.C,Mc.D,Dk.C,Nk.C] at *;simp only [Qaf,zca,zna] at *;rw [gJ];have e:p=4\/p=5\/p=6:=by omega
  rcases e with rfl|rfl|rfl
  all_goals
   cases o4 with
   | none =>
    dsimp only [oS,oR] at *;refine fnW Tryz.func163 ?_;(conv=>whnf);(repeat' ((first|exact zi2|refine zj0 fun hb=>?_|refine zq0 ?_|(refine QaA q4 ?_)|refine zse ?_|refine zbb ?_ ?_)<;>conv=>whnf))
    all_goals first|(exact Qb9)
   | some l =>
    obtain ⟨_,_,_⟩:=h4 l rfl;dsimp only [oS,oR] at *;refine fnW Tryz.func163 ?_;(repeat' ((conv=>whnf);first|exact zi2|refine zj0 fun hb=>?_|refine zq0 ?_|(refine QaA q4 ?_)|refine zse ?_|refine zbb ?_ ?_))
    all_goals exact Qcy
 rw [zN h6] at hD;rw [zP h09.2] at hD;subst hD;clear q3 q4 h4;dsimp only [Mc.C,Mc.D,Dk.C,Nk.C] at *;simp only [Qaf,zca,zna] at *;rw [gJ];have e:p=7\/p=8\/p=9:=by omega
 rcases e with rfl|rfl|rfl
 all_goals
  cases o5 with
  | none =>
   dsimp only [oS,oR] at *;refine fnW Tryz.func163 ?_;(conv=>whnf);(repeat' ((first|exact zi2|refine zj0 fun hb=>?_|refine zq0 ?_|(refine QaA q5 ?_)|refine zse ?_|refine zbb ?_ ?_)<;>conv=>whnf))
   all_goals first|(exact Qb9)
  | some l =>
   obtain ⟨_,_,_⟩:=h5 l rfl;dsimp only [oS,oR] at *;refine fnW Tryz.func163 ?_;(repeat' ((conv=>whnf);first|exact zi2|refine zj0 fun hb=>?_|refine zq0 ?_|(refine QaA q5 ?_)|refine zse ?_|refine zbb ?_ ?_))
   all_goals exact Qcy
def z128:ByteArray:=⟨(List.replicate 128 0).toArray⟩
theorem QHa:((List.range 32).all fun j=>(z128.extract (4*j) (4*j+4)).size==4&&(List.range 4).all fun k=>(z128.extract (4*j) (4*j+4))[k]?==some 0)=true:=by kernel_rfl
theorem QJB (j:Nat) (hj:j<32):(z128.extract (4*j) (4*j+4)).size=4/\∀ k,k<4->(z128.extract (4*j) (4*j+4))[k]?=some 0:=by
 have h:=List.all_eq_true.1 QHa j (List.mem_range.2 hj);rw [zba] at h;exact ⟨eq_of_beq h.1,fun k hk=>eq_of_beq (List.all_eq_true.1 h.2 k (List.mem_range.2 hk))⟩
def QAI (n o j:Nat) (S:ByteArray) (X R:List SV):St :=
 ⟨[(2,.a (.s (.str S))),(8,.a (.s (.sl 1 0 n))),(9,.a (.s (.i o))),(26,.a (.s (.i j)))],[(0,some ⟨false,1,X⟩),(1,some ⟨true,1,R⟩)],[0]⟩
theorem QkZ (xs:List Nat) (n:Nat) (hl:xs.length=n) (hn:n<=1000000) (v:Nat) (hv:v<mpg n):FN 245 [.s (.sl 0 0 n),.s (.i v),.s (.str z128)] [⟨false,1,wsv xs⟩]
  (. =⟨.tup [.s (.sl 1 0 n),.s (.bool true)],[],[⟨true,1,wsv (zrL xs v 32)⟩]⟩):=by
 have hh:=Qgv xs n hn v;rw [zdt hv] at hh;have hc:=QbG xs n hl (by omega);have gL:=Qaa xs;have uF:=QaT n;have hmn:mpg n*32<=n:=Qeu;obtain ⟨ZZ,JM⟩:∃ ZZ,∀ k,k=32->zrL xs v k=ZZ:=⟨zrL xs v 32,fun k h=>by rw [h]⟩;rw [JM 32 rfl];have q3:IntKind.i64.wrap ((v:Int)*32)=((v*32:Nat):Int):=QaS;have hz8:z128.size=128:=rfl;have WX:=QJB;generalize z128=S,hX:wsv xs=XX at *;refine fnW Tryz.func245 ?_;(conv=>whnf);(repeat' ((first|exact zi2|refine zj0 fun hb=>?_|(with_reducible refine zv q3 ?_)|(refine QaA hc ?_)|(refine QaA hh ?_)|refine zse ?_|refine zbb ?_ ?_)<;>conv=>whnf))
 all_goals try (exfalso;simp at hb;done)
 all_goals try (exfalso;omega)
 all_goals try (exfalso;simp at hb;omega)
 refine Lp.inv (fun mm σ=>∃ j:Nat,mm+j=32/\σ=QAI n (v*32) j S XX (wsv (zrL xs v j))) ?_ ?_
 .refine ⟨32,QAI n (v*32) 0 S XX XX,?_,0,by omega,by rw [<- hX];rfl⟩
  unfold QAI
  (exact zwL [(0,some 0),(1,some _)])
 clear hc hh q3;rintro mm σ ⟨j,yT,rfl⟩;unfold QAI;have hZ:=Qaa (zrL xs v (j+1));have UY:=Qaa (zrL xs v j)
 by_cases hj:j<32
 .have fE:QaC (wsv (zrL xs v j)) (v*32+j) [SV.int .u32 0]=wsv (zrL xs v (j+1)) :=
    QbA (zrL xs v j) (v*32+j) 0 (by rw [Qft];omega)
  have hlz:(wsv (zrL xs v j)).length=n:=by simp [Qft,hl]
  have q2:IntKind.i64.wrap ((j:Int)+1)=((j+1:Nat):Int):=QaS;have q4:IntKind.i64.wrap (((v*32:Nat):Int)+(j:Int))=((v*32+j:Nat):Int):=QaS;have q5:IntKind.i64.wrap (4*(j:Int))=((4*j:Nat):Int):=QaS;have q6:IntKind.i64.wrap (((4*j:Nat):Int)+4)=((4*j+4:Nat):Int):=QaS;have YY:(0:Int)<=((v*32+j:Nat):Int)/\((v*32+j:Nat):Int)<(n:Int):=by omega
  obtain ⟨_,WZ⟩:=WX j hj;have zV:=WZ 0 (by omega);have ZD:=WZ 1 (by omega);have HN:=WZ 2 (by omega);have hE3:=WZ 3 (by omega);clear WZ WX;have jZ:4*j+4<=128:=by omega
  generalize hE:S.extract (4*j) (4*j+4)=E,wsv (zrL xs v j)=Z0,hZ1:wsv (zrL xs v (j+1))=Z1,v*32+j=ix at *;generalize v*32=v32,4*j=j4 at *;have hsd:ix+1<=Z0.length:=by omega
  have hE':S.extract (((j4:Nat):Int)).toNat (((j4+4:Nat):Int)).toNat=E:=hE;have w0:IntKind.u32.wrap (((0:UInt8).toNat:Nat):Int)=0:=rfl;have o0:bits .or .u32 0 0=0:=rfl;(conv=>whnf);(repeat' ((first|exact zi2|refine zj0 fun hb=>?_|(with_reducible first|refine zv q2 ?_|refine zv q4 ?_|refine zv q5 ?_|refine zv q6 ?_|refine zv w0 ?_)|((with_reducible apply Vl.mk (α:=ByteArray)); . with_reducible exact hE')|((with_reducible apply Ge.mk (α:=UInt8)); . first|exact zV|exact ZD|exact HN|exact hE3)|(apply Sd.mk; . first|with_reducible exact YY|exact ⟨rfl,rfl,rfl,hsd⟩)|refine QFn ?_|refine zse ?_|refine zbb ?_ ?_)<;>conv=>whnf))
  all_goals first
   | (exfalso;omega)
   | (exfalso;simp at hb;done)
   | (refine ⟨mm-1,QAI n v32 (j+1) S XX Z1,by omega,?_,j+1,by omega,by rw [hZ1];rfl⟩;unfold QAI;(exact zwL [(0,some 0),(1,some 1)]))
 .obtain rfl:j=32:=by omega
  clear hZ;rw [JM 32 rfl] at UY |-;clear JM WX;generalize wsv ZZ=Z0 at *;(repeat' ((conv=>whnf);first|exact zi2|refine zj0 fun hb=>?_|refine zse ?_|refine zbb ?_ ?_))
  all_goals exact QsE
theorem QA2 (b v:Nat):b &&& 2^v=b / 2^v%2*2^v:=by
 have h:b / 2^v%2<2:=Nat.mod_lt _ (by decide);have hb:b.testBit v=decide (b / 2^v%2=1):=Nat.testBit_eq_decide_div_mod_eq;apply Nat.eq_of_testBit_eq;intro i;rw [Nat.testBit_and,Nat.testBit_two_pow];generalize b / 2^v%2=c at *;have e:c=0\/c=1:=by omega
 by_cases hi:v=i
 .subst hi
  rw [hb];rcases e with rfl|rfl
  .simp
  .simp [Nat.testBit_two_pow]
 .rw [zdf hi,Bool.and_false]
  rcases e with rfl|rfl
  .simp
  .rw [Nat.one_mul,Nat.testBit_two_pow,zdf hi]
theorem Qne (fJ:FN 266 [.s (.str ⟨#[0]⟩),.s (.i 128)] [] (. =⟨.a (.s (.str z128)),[],[]⟩)) (bt bg:Nat) (hb:ZU bg) (xs:List Nat) (n:Nat) (hl:xs.length=n) (hn:n<=1000000) (p:Int) (v:Nat) (hv:ZU v) :
  FN 240 [.agg [.u bt,.u bg],.s (.sl 0 0 n),.s (.i p),.s (.u v)] [⟨false,1,wsv xs⟩] (. =⟨.tup [.agg [.u bt,.u (Qhj bg n p v)],.s (.sl 1 0 n)],[],[⟨true,1,wsv (QfO xs bg n p v)⟩]⟩):=by
 have hc:=QbG xs n hl (by omega);have hp:=QbI xs n (by omega);have gL:=Qaa xs;have uF:=QaT n;have qv:IntKind.i64.wrap (v:Int)=v:=Qht;have yU:QbE n v=true↔v<mpg n:=by unfold QbE;rw [zde];omega
 by_cases h32:v<32
 case neg =>
  have hq:¬ gvQ bg n p v:=fun h=>by have:=yU.1 h.2.1;omega
  unfold Qhj QfO;rw [zN hq,zN hq,zN (by omega)];have ha:(0:Int)=0:=rfl;have ho:=ha;have vI:=ha;have hs:=ha;clear hp yU hq fJ;generalize wsv xs=XX at *;refine fnW Tryz.func240 ?_;(repeat' ((conv=>whnf);first|exact zi2|refine zj0 fun hb=>?_|(refine QaA hc ?_)|refine zse ?_|refine zbb ?_ ?_))
  all_goals exact Qcy
 have FY:2^v<4294967296:=Nat.lt_of_lt_of_le (Nat.pow_lt_pow_right (by decide) h32) (by decide);have hp0:0<2^v:=Nat.two_pow_pos v;have hs:(1:Int)*2^min (((v:Nat):Int)).toNat IntKind.u32.bits%4294967296=((2^v:Nat):Int):=Qzs v h32;have ha:bits .and .u32 (bg:Int) ((2^v:Nat):Int)=((bg / 2^v%2*2^v:Nat):Int):=by rw [QcF bg (2^v) hb FY,QA2]
 have ho:=Qyn bg (2^v) hb FY;have vI:=(Qi2 bg (2^v)).1;have hb2:bg / 2^v%2<2:=Nat.mod_lt _ (by decide);unfold Qhj QfO
 by_cases jW:p=10
 .subst jW
  by_cases hq:v<mpg n/\bg / 2^v%2=0
  .have gN:=QkZ xs n hl hn v hq.1
   have hz:=Qaa (zrL xs v 32);have JX:gvQ bg n 10 v:=⟨rfl,yU.2 hq.1,hq.2⟩;rw [zP JX,zP JX];clear JX;rw [hq.2,Nat.zero_mul] at ha;have hq1:=hq.1;clear yU hq hb2 hc;generalize wsv (zrL xs v 32)=Z1,wsv xs=XX,z128=S,bg ||| 2^v=b2 at *;generalize 2^v=pw,mpg n=P at *;refine fnW Tryz.func240 ?_;(repeat' ((conv=>whnf);first|exact zi2|refine zj0 fun hb=>?_|((with_reducible apply Vl.mk (α:=Int)); . first|with_reducible exact qv|with_reducible exact ha|with_reducible exact ho|exact hs)|(refine QaA hp ?_)|(refine zpu fJ ?_)|(refine QaA gN ?_)|refine zse ?_|refine zbb ?_ ?_))
   all_goals exact Qcy
  .have FZ:¬ gvQ bg n 10 v:=fun h=>hq ⟨yU.1 h.2.1,h.2.2⟩
   rw [zN FZ,zN FZ,zN (by omega)];clear FZ yU fJ
   by_cases gU:v<mpg n
   .have h1:bg / 2^v%2=1:=by
     by_cases e:bg / 2^v%2=0
     .exact absurd ⟨gU,e⟩ hq
     .omega
    rw [h1,Nat.one_mul] at ha;clear hq hb2 h1;generalize wsv xs=XX,2^v=pw,mpg n=P at *;refine fnW Tryz.func240 ?_;(repeat' ((conv=>whnf);first|exact zi2|refine zj0 fun hb=>?_|((with_reducible apply Vl.mk (α:=Int)); . first|with_reducible exact qv|with_reducible exact ha|exact hs)|(refine QaA hp ?_)|(refine QaA hc ?_)|refine zse ?_|refine zbb ?_ ?_))
    all_goals exact Qcy
   .clear hq hb2 ha
    have ha:(0:Int)=0:=rfl;generalize wsv xs=XX,2^v=pw,mpg n=P at *;refine fnW Tryz.func240 ?_;(repeat' ((conv=>whnf);first|exact zi2|refine zj0 fun hb=>?_|((with_reducible apply Vl.mk (α:=Int)); . first|with_reducible exact qv|exact hs)|(refine QaA hp ?_)|(refine QaA hc ?_)|refine zse ?_|refine zbb ?_ ?_))
    all_goals exact Qcy
 .have JX:¬ gvQ bg n p v:=fun h=>jW h.1
  rw [zN JX,zN JX];clear JX;clear hp yU fJ ha hb2;have ha:(0:Int)=0:=rfl
  by_cases yN:p=11
  .subst yN
   rw [zP ⟨rfl,by omega⟩];generalize wsv xs=XX,anV bg (2^v)=b2 at *;generalize 2^v=pw at *;refine fnW Tryz.func240 ?_;(repeat' ((conv=>whnf);first|exact zi2|refine zj0 fun hb=>?_|((with_reducible apply Vl.mk (α:=Int)); . first|with_reducible exact vI|exact hs)|(refine QaA hc ?_)|refine zse ?_|refine zbb ?_ ?_))
   all_goals exact Qcy
  .rw [zN (fun h=>yN h.1)]
   generalize wsv xs=XX,2^v=pw at *;refine fnW Tryz.func240 ?_;(repeat' ((conv=>whnf);first|exact zi2|refine zj0 fun hb=>?_|((with_reducible apply Vl.mk (α:=Int)); . exact hs)|(refine QaA hc ?_)|refine zse ?_|refine zbb ?_ ?_))
   all_goals exact Qcy
end Go.Proofs.YtpgkkfajljekpabGreat
