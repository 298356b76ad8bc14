import Derived.Test.YtpgkkfajljekpaaGreatP24
set_option linter.unusedSimpArgs false
set_option linter.unusedVariables false
set_option maxHeartbeats 0
set_option maxRecDepth 100000
namespace Go.Proofs.YtpgkkfajljekpaaGreat
open Go Go.RowKit
theorem Qng (fG:FN 133 [.s (.str ⟨#[0]⟩),.s (.i 128)] [] (. =⟨.a (.s (.str z128)),[],[]⟩)) (M:Mc) (hM:M.ok) (p:Int) (v:Nat) (hv:v<4294967296) (hp:p=10\/p=11):FN 24 [.agg (M.C 0),.s (.i p),.s (.u v),.s (.w M.ct)] [⟨false,1,wsv M.m⟩]
  (. =⟨.tup [.agg ((QbA M p v).1.C 1),.s .nilsl],[],[⟨true,1,wsv (QbA M p v).1.m⟩]⟩):=by
 have q6:=Qm3 fG M.bt M.bg hM.dv.2.2.1 M.m _ rfl hM.ml p v hv;have hgl:=QeN M.m M.bg M.m.length p v;have gL:=Qaa M.m;have jN:=Qaa (QfK M.m M.bg M.m.length p v)
 have hD:QbA M p v=({ M with bg:=Qhd M.bg M.m.length p v,m:=QfK M.m M.bg M.m.length p v },none):=by
  unfold QbA;rw [zN (by omega),zN (by omega),zN (by omega),zN (by omega),zN (by omega)]
 rw [hD];clear hD fG;generalize Qhd M.bg M.m.length p v=gb,QfK M.m M.bg M.m.length p v=gm at *;dsimp only [Mc.C,Mc.D];rw [hgl];obtain ⟨hx,hc,hY,gA,gH,gB,_,gD,gE,gF⟩:=hM;obtain ⟨_,_,_,m,_,_,_,_,d,n,bt,bg,ct⟩:=M;dsimp only at *;cases QJP hx;cases zC8 hc;cases d;cases n;dsimp only [Mc.C,Mc.D,Dk.C,Nk.C,Dk.ok,Nk.ok] at *;generalize m.length=nn,wsv m=XX,wsv gm=GG at *;simp only [Qaf,zca,zna] at *;clear hY gA gD gE gB gF gH;rcases hp with rfl|rfl
 all_goals
  refine fnW Tryz.func24 ?_;(repeat' ((conv=>whnf);first|exact zi2|(refine zj0 ?_;intro hb)|refine zq0 ?_|(refine Qaz q6 ?_)|refine zse ?_|refine zbb ?_ ?_))
  all_goals exact Qcv
theorem QGf {k:ByteArray} (h:k.size=0):(k.toList==(⟨#[]⟩:ByteArray).toList)=true:=by
 show noD k=true;rw [Qim];exact zdt h
theorem QGe {k:ByteArray} (h:¬ k.size=0):(k.toList==(⟨#[]⟩:ByteArray).toList)=false:=by
 show noD k=false;rw [Qim];exact zdf h
theorem QoQ (k:ByteArray) (hk:k.size<=1000000) (p:Int):FN 59 [.agg [.str k],.s (.i p)] [] (. =⟨.tup [.agg [.str (QkG k p)],.s (.u (Qoe k p:Nat))],[],[]⟩):=by
 obtain ⟨_,hA⟩:∃ B,QkG k p=B:=⟨_,rfl⟩;obtain ⟨B,hB⟩:∃ B,Qoe k p=B:=⟨_,rfl⟩;rw [hA,hB];unfold QkG at hA;unfold Qoe at hB
 by_cases h4:p=0
 .rw [zP h4] at hA hB
  subst h4
  by_cases h0:k.size=0
  .rw [zP h0] at hA
   have hn:k[0]?=none:=by simp [h0]
   rw [hn] at hB;have qJ:=QGf h0;subst hA hB;dsimp only;refine fnW Tryz.func59 ?_;(repeat' ((conv=>whnf);first|exact zi2|(refine zj0 ?_;intro hb)|refine QDp ?_|refine zse ?_|refine zbb ?_ ?_))
   all_goals exact zF_
  .rw [zN h0] at hA
   have hn:k[0]?=some k[0]:=by simp
   rw [hn] at hB;have qJ:=QGe h0;have gT:=UInt8.toNat_lt k[0];generalize k[0]=b at *;subst hA hB;dsimp only;refine fnW Tryz.func59 ?_;(repeat' ((conv=>whnf);first|exact zi2|(refine zj0 ?_;intro hb)|((with_reducible apply Ge.mk (α:=UInt8)); . exact hn)|refine QDp ?_|refine zse ?_|refine zbb ?_ ?_))
   all_goals exact zF_
 rw [zN h4] at hA hB
 by_cases h5:p=1
 .rw [zP h5] at hB
  subst h5 hA hB;refine fnW Tryz.func59 ?_;exact QD7
 rw [zN h5] at hB;subst hA hB;refine fnW Tryz.func59 ?_;exact QDw
theorem Qjf (M:Mc) (hM:M.ok) (p:Int) (w:Nat):FN 23 [.agg (M.C 0),.s (.i p),.s (.u w)] [⟨false,1,wsv M.m⟩]
  (. =⟨.tup [.agg ((inM M p).C 0),.s (.u (inV M p w:Nat))],[],[]⟩):=by
 have q1:=QoQ M.ks hM.dv.2.2.2.2 p;have q2:=Qo9 M.ta M.td M.tf;have q3:=QoR M.d p;have q4:=QoX M.n p;have q5:=QoO M.bt M.bg hM.dv.2.2.1 p;have gL:=Qaa M.m;obtain ⟨B,hB⟩:∃ B,inV M p w=B:=⟨_,rfl⟩;obtain ⟨M2,wM⟩:∃ B,inM M p=B:=⟨_,rfl⟩
 have wX:¬ (0<=p/\p<=11)->B=0/\M2=M:=by
  intro h;constructor
  .rw [<- hB]
   unfold inV;split
   .unfold Qoe
    rw [zN (by omega),zN (by omega)]
   .rw [zN (by omega),zN (by omega),zN (by omega),zN (by omega)]
    unfold Qgk;rw [zN (by omega),zN (by omega)]
  .rw [<- wM]
   unfold inM;split
   .unfold QkG
    rw [zN (by omega)]
   .rfl
 rw [hB,wM];unfold inV at hB;unfold inM at wM;generalize Qoe M.ks p=v1,QkG M.ks p=k2,QnV M.tf=v2,Qhc M.d p=v3,Qhf M.n p=v4,Qgk M.bt M.bg p=v5 at *;obtain ⟨hx,hc,hY,gA,gH,gB,_,gD,gE,gF⟩:=hM;obtain ⟨_,_,_,m,ks,ta,td,tf,d,n,bt,bg⟩:=M;dsimp only at *;cases QJP hx;cases zC8 hc;cases d;cases n;dsimp only [Mc.C,Mc.D,Dk.C,Nk.C,Dk.ok,Nk.ok] at *;generalize gJ:m.length=nn,wsv m=XX at *;simp only [Qaf,zca,zna] at *;clear hY gA gD gE gB gF gH
 by_cases h1:0<=p/\p<=1
 .rw [zP h1.2] at hB wM
  subst hB wM;clear wX;dsimp only [Mc.C,Mc.D];simp only [Qaf,zca,zna];rw [gJ];have e:p=0\/p=1:=by omega
  rcases e with rfl|rfl
  all_goals
   refine fnW Tryz.func23 ?_;(repeat' ((conv=>whnf);first|exact zi2|(refine zj0 ?_;intro hb)|refine zq0 ?_|(refine zpu q1 ?_)|refine zse ?_|refine zbb ?_ ?_))
   all_goals exact Qeu
 by_cases vP:0<=p/\p<=11
 case neg =>
  obtain ⟨rfl,rfl⟩:=wX vP;clear hB wM;dsimp only [Mc.C,Mc.D];simp only [Qaf,zca,zna];rw [gJ];refine fnW Tryz.func23 ?_;exact QEf
 clear wX;rw [zN (by omega)] at hB wM;subst wM;dsimp only [Mc.C,Mc.D];simp only [Qaf,zca,zna];rw [gJ]
 by_cases h2:p=2
 .rw [zP h2] at hB
  subst hB h2;refine fnW Tryz.func23 ?_;exact QEo
 rw [zN h2] at hB
 by_cases h3:p=3
 .rw [zP h3] at hB
  subst hB h3;refine fnW Tryz.func23 ?_;(repeat' ((conv=>whnf);first|exact zi2|(refine zj0 ?_;intro hb)|refine zq0 ?_|(refine zpu q2 ?_)|refine zse ?_|refine zbb ?_ ?_))
  all_goals exact Qeu
 rw [zN h3] at hB
 by_cases h4:p<=6
 .rw [zP h4] at hB
  subst hB;have e:p=4\/p=5\/p=6:=by omega
  rcases e with rfl|rfl|rfl
  all_goals
   refine fnW Tryz.func23 ?_;exact QEd
 rw [zN h4] at hB
 by_cases h5:p<=9
 .rw [zP h5] at hB
  subst hB;have e:p=7\/p=8\/p=9:=by omega
  rcases e with rfl|rfl|rfl
  all_goals
   refine fnW Tryz.func23 ?_;(repeat' ((conv=>whnf);first|exact zi2|(refine zj0 ?_;intro hb)|refine zq0 ?_|(refine zpu q4 ?_)|refine zse ?_|refine zbb ?_ ?_))
   all_goals exact Qeu
 rw [zN h5] at hB;subst hB;have e:p=10\/p=11:=by omega
 rcases e with rfl|rfl
 all_goals
  refine fnW Tryz.func23 ?_;(repeat' ((conv=>whnf);first|exact zi2|(refine zj0 ?_;intro hb)|refine zq0 ?_|(refine zpu q5 ?_)|refine zse ?_|refine zbb ?_ ?_))
  all_goals exact Qeu
theorem Qnd (M:Mc) (hM:M.ok) (w:Nat) (hs:QbM M=true):FN 7 [.agg (M.C 0),.s (.u w)] [⟨false,1,wsv M.m⟩]
  (. =⟨.tup [.agg (M.C 1),.s .nilsl],[],[⟨true,1,wsv M.m⟩]⟩):=by
 have hc:=Qbt M.m _ rfl (by have:=hM.ml;omega);have hr:=QeG M hM;rw [hs] at hr;have gL:=Qaa M.m;clear hs;obtain ⟨hx,hc,hY,gA,gH,gB,_,gD,gE,gF⟩:=hM;obtain ⟨_,_,_,m,_,_,_,_,d,n⟩:=M;dsimp only at *;cases QJP hx;cases zC8 hc;cases d;cases n;dsimp only [Mc.C,Mc.D,Dk.C,Nk.C,Dk.ok,Nk.ok] at *;generalize m.length=nn,wsv m=XX at *;simp only [Qaf,zca,zna] at *;clear hY gA gD gE gB gF gH;refine fnW Tryz.func7 ?_;(repeat' ((conv=>whnf);first|exact zi3|(refine zj0 ?_;intro hb)|refine zq0 ?_|(refine Qaz hc ?_)|(refine Qaz hr ?_)|refine zse ?_|refine zbb ?_ ?_))
 all_goals exact Qet
theorem Qo6 (M:Mc) (hM:M.ok) (w:Nat) (hs:QbM M=false) (yW:¬ eK (QaG M).e=1) (jE:¬ eK (QaG M).e=2):FN 7 [.agg (M.C 0),.s (.u w)] [⟨false,1,wsv M.m⟩]
  (. =⟨.tup [.agg ((Qa0 M w).1.C 1),.s .nilsl],[],[⟨true,1,wsv (Qa0 M w).1.m⟩]⟩):=by
 have hc:=Qbt M.m _ rfl (by have:=hM.ml;omega);have q0:=QeG M hM;have q1:=QeD M hM;have q2:=QfV M.x (Qc4 M) (Qc3 M) M.m M.m.length hM.x (Qbv M hM) (Qeh M hM) (Qei M hM) rfl hM.mr (by have:=hM.ml;omega) hM.xr _ rfl;rw [hs] at q0;obtain ⟨k1,k2,k3,k4,k5,k6,k7,K,_,_,_,k8,_,_⟩:=QbW M hM;change Fn _ _ _ _ (. =⟨.tup [.agg (Qax (QaG M).x (QaG M).pc (QaG M).c),.s (.sl 1 0 M.m.length),.agg (QaG M).e],[],[⟨true,1,wsv (QaG M).m⟩]⟩) at q2;have KC:IntKind.u64.wrap ((M.ct:Int)+1)=(((M.ct+1)%18446744073709551616:Nat):Int):=by rw [Qn5];omega
 obtain ⟨D,hD⟩:∃ D,(Qa0 M w).1=D:=⟨_,rfl⟩;rw [hD];unfold Qa0 at hD;rw [zN yW,zN jE] at hD;have qB:=Qaa M.m;have hi:=Qbv M hM;clear hs;unfold QAk at q1;dsimp only [Mc.C] at q1;unfold QaE at hD;generalize QaG M=Q,Qc4 M=ip,Qc3 M=ic at *;obtain ⟨_,_,_,qm,_⟩:=Q;dsimp only at *;subst k8;change ¬ K=1 at yW;change ¬ K=2 at jE;change (if K=3 then _ else if K=4 then _ else _:Mc × Option (List SV)).1=D at hD;unfold efS at *;cases QJP k1;cases zC8 k2;cases zC8 hi;have hsq:=Qaa qm;clear k1 k2 k4 k5 k6 k7;obtain ⟨hx,hc,hY,gA,gH,gB,gI,gD,gE,gF⟩:=hM;obtain ⟨x,pc,c,m,_,_,_,_,d,n,_,_,ct⟩:=M;dsimp only at *;cases QJP hx;cases zC8 hc;cases d;cases n;dsimp only [Mc.C,Mc.D,Dk.C,Nk.C,Dk.ok,Nk.ok] at *;generalize m.length=nn,wsv m=XX,hXQ:wsv qm=XQ,jA:(ct+1)%18446744073709551616=ct2 at *;clear hY gA gD gE gB gF gH gI
 by_cases h3:K=3
 .rw [zP h3] at hD
  subst h3 hD;dsimp only [Qda,Mc.C,Mc.D,Dk.C,Nk.C] at *;simp only [Qaf,zca,zna] at *;rw [jA,k3,hXQ];refine fnW Tryz.func7 ?_;exact Qoc
 rw [zN h3] at hD
 by_cases h4:K=4
 .rw [zP h4] at hD
  subst h4 hD;dsimp only [Qda,Mc.C,Mc.D,Dk.C,Nk.C] at *;simp only [Qaf,zca,zna] at *;rw [jA,k3,hXQ];refine fnW Tryz.func7 ?_;exact Qoc
 rw [zN h4] at hD;subst hD;dsimp only [Qda,Mc.C,Mc.D,Dk.C,Nk.C] at *;simp only [Qaf,zca,zna] at *;rw [jA,k3,hXQ];refine fnW Tryz.func7 ?_;exact Qoc
theorem Qzl (x:List Nat) (R v:Nat) (rest:List SV) (hR:R<x.length):QaC (wsv x++rest) R [.u (v:Nat)]=wsv (x.set R v)++rest:=by
 show (wsv x++rest).set R _=_;rw [List.set_append_left _ _ (by rw [wsv_length];exact hR)];unfold wsv;rw [List.map_set]
theorem QBV (M:Mc) (p:Int):inM M p= { M with ks:=(inM M p).ks }:=by
 unfold inM;split<;>rfl
theorem Qo5 (M:Mc) (hM:M.ok) (w:Nat) (hs:QbM M=false) (yW:eK (QaG M).e=1):FN 7 [.agg (M.C 0),.s (.u w)] [⟨false,1,wsv M.m⟩]
  (. =⟨.tup [.agg ((Qa0 M w).1.C 1),.s .nilsl],[],[⟨true,1,wsv (Qa0 M w).1.m⟩]⟩):=by
 have hc:=Qbt M.m _ rfl (by have:=hM.ml;omega);have q0:=QeG M hM;have q1:=QeD M hM;have q2:=QfV M.x (Qc4 M) (Qc3 M) M.m M.m.length hM.x (Qbv M hM) (Qeh M hM) (Qei M hM) rfl hM.mr (by have:=hM.ml;omega) hM.xr _ rfl;rw [hs] at q0;obtain ⟨k1,k2,k3,k4,k5,k6,k7,K,P,R,_,k8,_,_⟩:=QbW M hM;have i1:=Qjf (QaE M) (QdS M hM) P w;change Fn _ _ _ _ (. =⟨.tup [.agg (Qax (QaG M).x (QaG M).pc (QaG M).c),.s (.sl 1 0 M.m.length),.agg (QaG M).e],[],[⟨true,1,wsv (QaG M).m⟩]⟩) at q2;have KC:IntKind.u64.wrap ((M.ct:Int)+1)=(((M.ct+1)%18446744073709551616:Nat):Int):=by rw [Qn5];omega
 obtain ⟨D,hD⟩:∃ D,(Qa0 M w).1=D:=⟨_,rfl⟩;rw [hD];unfold Qa0 at hD;rw [zP yW,k8] at hD;change Qda { inM (QaE M) P with x:=QaD (QaE M).x R (inV (QaE M) P w) }=D at hD;rw [QBV] at hD i1;have hX3:=Qay (QaE M).x R (inV (QaE M) P w);have hXs:¬ R=0->QaD (QaE M).x R (inV (QaE M) P w)=(QaE M).x.set R (inV (QaE M) P w):=fun h=>by unfold QaD;rw [zN h]
 have FZ:R=0->QaD (QaE M).x R (inV (QaE M) P w)=(QaE M).x:=fun h=>by unfold QaD;rw [zP h]
 generalize QaD (QaE M).x R (inV (QaE M) P w)=X2 at *;generalize inV (QaE M) P w=v1,(inM (QaE M) P).ks=ks2 at *;have qB:=Qaa M.m;have hi:=Qbv M hM;clear hs;unfold QAk at q1;dsimp only [Mc.C] at q1;unfold QaE at *;generalize QaG M=Q,Qc4 M=ip,Qc3 M=ic at *;obtain ⟨qx,_,_,qm,_⟩:=Q;dsimp only at *;subst k8;obtain rfl:K=1:=yW;unfold efS at *;have gZ:¬ R=0->∀ rest:List SV,QaC (wsv qx++rest) R [.u (v1:Nat)]=wsv X2++rest:=fun h rest=>by rw [hXs h];exact Qzl qx R v1 rest (by omega)
 clear hXs;cases QJP k1;cases zC8 k2;cases zC8 hi;obtain ⟨_,_,_,_,_,_,_,_,_,_,_,_,_,_,_,_,rfl⟩:=QdY (hX3.trans rfl);have hsq:=Qaa qm;clear k1 k2 k4 k5 k6 k7 hX3;obtain ⟨hx,hc,hY,gA,gH,gB,gI,gD,gE,gF⟩:=hM;obtain ⟨x,pc,c,m,ks,_,_,_,d,n,_,_,ct⟩:=M;dsimp only at *;cases QJP hx;cases zC8 hc;cases d;cases n;dsimp only [Mc.C,Mc.D,Dk.C,Nk.C,Dk.ok,Nk.ok] at *;generalize m.length=nn,wsv m=XX,hXQ:wsv qm=XQ,jA:(ct+1)%18446744073709551616=ct2 at *;clear hY gA gD gE gB gF gH gI;subst hD;dsimp only [Qda,Mc.C,Mc.D,Dk.C,Nk.C] at *;simp only [Qaf,zca,zna] at *;rw [k3] at i1;rw [jA,k3,hXQ]
 by_cases HV:R=0
 .have e:=FZ HV
  simp only [List.cons.injEq,and_true] at e;obtain ⟨rfl,rfl,rfl,rfl,rfl,rfl,rfl,rfl,rfl,rfl,rfl,rfl,rfl,rfl,rfl,rfl⟩:=e;clear gZ FZ;subst HV;refine fnW Tryz.func7 ?_;(repeat' ((conv=>whnf);first|exact zi3|(refine zj0 ?_;intro hb)|refine zq0 ?_|refine zq3 ?_|refine QDk ?_|(refine Qaz hc ?_)|(refine Qaz q0 ?_)|(refine Qaz q1 ?_)|(refine Qaz q2 ?_)|(refine Qaz i1 ?_)|refine zse ?_|refine zbb ?_ ?_))
  all_goals exact Qcv
 .have gY:=gZ HV
  clear gZ FZ;simp only [wsv,List.map_cons,List.map_nil,zca,zna] at gY;refine fnW Tryz.func7 ?_;(repeat' ((conv=>whnf);first|exact zi3|(refine zj0 ?_;intro hb)|refine zq0 ?_|refine zq3 ?_|refine QDk ?_|(refine Qaz hc ?_)|(refine Qaz q0 ?_)|(refine Qaz q1 ?_)|(refine Qaz q2 ?_)|(refine Qaz i1 ?_)|(apply Sd.mk; . first|(refine ⟨rfl,rfl,rfl,?_⟩;show R+1<=49;omega)|(show (0:Int)<=R/\(R:Int)<16;omega))|((with_reducible apply Vl.mk (α:=List SV)); . exact gY _)|refine zse ?_|refine zbb ?_ ?_));all_goals (conv=>whnf)
  all_goals first|(exfalso;simp at hb;omega)|(exact QbG)
theorem QCn (M:Mc) (p:Int) (v:Nat) (hp:¬ (p=10\/p=11)):(QbA M p v).1.m=M.m:=by
 unfold QbA
 repeat' split
 all_goals first|rfl|skip
 have hq:¬ gvQ M.bg M.m.length p v:=fun h=>hp (.inl h.1)
 show QfK _ _ _ _ _=_;unfold QfK;rw [zN hq]
theorem Qo7 (fG:FN 133 [.s (.str ⟨#[0]⟩),.s (.i 128)] [] (. =⟨.a (.s (.str z128)),[],[]⟩)) (M:Mc) (hM:M.ok) (w:Nat) (hs:QbM M=false) (yW:eK (QaG M).e=2):FN 7 [.agg (M.C 0),.s (.u w)] [⟨false,1,wsv M.m⟩]
  (. =⟨.tup [.agg ((Qa0 M w).1.C 1),.s (oS 2 (Qa0 M w).2)],[],⟨true,1,wsv (Qa0 M w).1.m⟩::oR (Qa0 M w).2⟩):=by
 have hc:=Qbt M.m _ rfl (by have:=hM.ml;omega);have q0:=QeG M hM;have q1:=QeD M hM;have q2:=QfV M.x (Qc4 M) (Qc3 M) M.m M.m.length hM.x (Qbv M hM) (Qeh M hM) (Qei M hM) rfl hM.mr (by have:=hM.ml;omega) hM.xr _ rfl;rw [hs] at q0;obtain ⟨k1,k2,k3,k4,k5,k6,k7,K,P,_,V,k8,_,hV⟩:=QbW M hM;have iA:=Qnf (QaE M) (QdS M hM) P V hV;have iB:=Qng fG (QaE M) (QdS M hM) P V hV;have hO:=Qio (QaE M) P V;have hOl:=Qin (QaE M) P V;have UX:=QCn (QaE M) P V
 have UW:P=10\/P=11->(QbA (QaE M) P V).2=none:=fun h=>by
  unfold QbA;rw [zN (by omega),zN (by omega),zN (by omega),zN (by omega),zN (by omega)]
 change Fn _ _ _ _ (. =⟨.tup [.agg (Qax (QaG M).x (QaG M).pc (QaG M).c),.s (.sl 1 0 M.m.length),.agg (QaG M).e],[],[⟨true,1,wsv (QaG M).m⟩]⟩) at q2;have KC:IntKind.u64.wrap ((M.ct:Int)+1)=(((M.ct+1)%18446744073709551616:Nat):Int):=by rw [Qn5];omega
 obtain ⟨D,hD⟩:∃ D,Qa0 M w=D:=⟨_,rfl⟩;rw [hD];unfold Qa0 at hD;rw [zN (by rw [yW];decide),zP yW,k8] at hD;change (Qda (QbA (QaE M) P V).1,(QbA (QaE M) P V).2)=D at hD;have YK:=Qmq (QaE M) P V;rw [YK] at hD iA iB;dsimp only at hD iA iB;generalize (QbA (QaE M) P V).2=O2,(QbA (QaE M) P V).1.m=m2,(QbA (QaE M) P V).1.ta=ta2,(QbA (QaE M) P V).1.td=td2,(QbA (QaE M) P V).1.tf=tf2,(QbA (QaE M) P V).1.d=d2,(QbA (QaE M) P V).1.n=n2,(QbA (QaE M) P V).1.bg=bg2 at *;have qB:=Qaa M.m;have hsm2:=Qaa m2;have hi:=Qbv M hM;clear hs fG YK;unfold QAk at q1;dsimp only [Mc.C] at q1;unfold QaE at *;generalize QaG M=Q,Qc4 M=ip,Qc3 M=ic at *;obtain ⟨_,_,_,qm,_⟩:=Q;dsimp only at *;subst k8;obtain rfl:K=2:=yW;unfold efS at *;cases QJP k1;cases zC8 k2;cases zC8 hi;cases d2;cases n2;have hsq:=Qaa qm;clear k1 k2 k4 k5 k6 k7;obtain ⟨hx,hc,hY,gA,gH,gB,gI,gD,gE,gF⟩:=hM;obtain ⟨x,pc,c,m,_,ta,td,tf,d,n,_,bg,ct⟩:=M;dsimp only at *;cases QJP hx;cases zC8 hc;obtain ⟨_,_,d2⟩:=d;obtain ⟨_,_,n2⟩:=n;dsimp only [Mc.C,Mc.D,Dk.C,Nk.C,Dk.ok,Nk.ok] at *;generalize m.length=nn,wsv m=XX,jA:(ct+1)%18446744073709551616=ct2 at *;clear hY gA gD gE gB gF gH gI;subst hD
 by_cases hP:P=10\/P=11
 .have e:=UW hP
  replace iB:=iB hP;subst e;clear iA hO UX UW;dsimp only [Qda,oS,oR,Mc.C,Mc.D,Dk.C,Nk.C] at *;simp only [Qaf,zca,zna] at *;rw [hOl,k3] at iB |-;rw [jA];generalize wsv qm=XQ,wsv m2=X2 at *;refine fnW Tryz.func7 ?_;(repeat' ((conv=>whnf);first|exact zi3|(refine zj0 ?_;intro hb)|refine zq0 ?_|refine zq3 ?_|refine QDk ?_|(refine Qaz hc ?_)|(refine Qaz q0 ?_)|(refine Qaz q1 ?_)|(refine Qaz q2 ?_)|(refine Qaz iB ?_)|refine zse ?_|refine zbb ?_ ?_))
  all_goals exact Qcv
 .replace iA:=iA hP
  obtain rfl:=UX hP;clear iB hOl UX UW;dsimp only [Qda,Mc.C,Mc.D,Dk.C,Nk.C] at *;simp only [Qaf,zca,zna] at *;rw [k3] at iA |-;rw [jA];generalize wsv m2=XQ at *
  cases O2 with
  | none =>
   dsimp only [oS,oR] at *;refine fnW Tryz.func7 ?_;(repeat' ((conv=>whnf);first|exact zi3|(refine zj0 ?_;intro hb)|refine zq0 ?_|refine zq3 ?_|refine QDk ?_|(refine Qaz hc ?_)|(refine Qaz q0 ?_)|(refine Qaz q1 ?_)|(refine Qaz q2 ?_)|(refine Qaz iA ?_)|refine zse ?_|refine zbb ?_ ?_));all_goals (conv=>whnf)
   all_goals first|(exact QbG)
  | some l =>
   obtain ⟨_,_,_⟩:=hO l rfl;dsimp only [oS,oR] at *;refine fnW Tryz.func7 ?_;(repeat' ((conv=>whnf);first|exact zi3|(refine zj0 ?_;intro hb)|refine zq0 ?_|refine zq3 ?_|refine QDk ?_|(refine Qaz hc ?_)|(refine Qaz q0 ?_)|(refine Qaz q1 ?_)|(refine Qaz q2 ?_)|(refine Qaz iA ?_)|refine zse ?_|refine zbb ?_ ?_));all_goals (conv=>whnf)
   all_goals first|(exact QDg)
def QbS (M:Mc) (w:Nat):Mc × Option (List SV):=if QbM M=true then (M,none) else Qa0 M w
theorem Qor (M:Mc) (w:Nat) (h:¬ eK (QaG M).e=2):(Qa0 M w).2=none:=by
 unfold Qa0
 by_cases h1:eK (QaG M).e=1
 .rw [zP h1]
 .rw [zN h1,zN h]
  split
  .rfl
  .split<;>rfl
theorem QeH (fG:FN 133 [.s (.str ⟨#[0]⟩),.s (.i 128)] [] (. =⟨.a (.s (.str z128)),[],[]⟩)) (M:Mc) (hM:M.ok) (w:Nat):FN 7 [.agg (M.C 0),.s (.u w)] [⟨false,1,wsv M.m⟩]
  (. =⟨.tup [.agg ((QbS M w).1.C 1),.s (oS 2 (QbS M w).2)],[],⟨true,1,wsv (QbS M w).1.m⟩::oR (QbS M w).2⟩):=by
 cases hs:QbM M
 .have e:QbS M w=Qa0 M w:=by unfold QbS;rw [hs,zN (by decide)]
  rw [e]
  by_cases h2:eK (QaG M).e=2
  .exact Qo7 fG M hM w hs h2
  .rw [Qor M w h2]
   by_cases h1:eK (QaG M).e=1
   .exact Qo5 M hM w hs h1
   .exact Qo6 M hM w hs h1 h2
 .have e:QbS M w=(M,none):=by unfold QbS;rw [hs,zP rfl]
  rw [e];exact Qnd M hM w hs
theorem Ql5 {H:List Row} {Q:Res->Prop} {R0:Res} {σ:St} {x:TV} (hq:Q R0) (h:Fin H (. =R0) σ x):Fin H Q σ x:=by
 induction h with
 | mk R m h1 h2 h3 h4=>exact .mk R m (h1 ▸ hq) h2 h3 h4
 | mv R m h1 h2 h3 h4=>exact .mv R m (h1 ▸ hq) h2 h3 h4
 | fr hn hf _ ih=>exact .fr hn hf ih
theorem QBL {P:Program} {f:FuncId} {args:List AV} {H:List Row} {Q Q':Res->Prop} (h:Fn P f args H Q) (hq:∀ R,Q R->Q' R):Fn P f args H Q' :=
 ⟨h.1,fun ρ w vs a b c=>(h.2 ρ w vs a b c).mono fun e w' he=>by
  obtain ⟨R,v,ρ',hR,rest⟩:=he
  exact ⟨R,v,ρ',hq R hR,rest⟩⟩
end Go.Proofs.YtpgkkfajljekpaaGreat
