import Derived.Test.YtpgkkfajljekpabGreatQ9
import Derived.Test.YtpgkkfajljekpabGreatQ12
import Derived.Test.YtpgkkfajljekpabGreatQ20
set_option linter.unusedSimpArgs false
set_option linter.unusedVariables false
set_option maxHeartbeats 0
set_option maxRecDepth 100000
namespace Go.Proofs.YtpgkkfajljekpabGreat
open Go Go.RowKit
theorem Qnr (fJ:FN 266 [.s (.str ⟨#[0]⟩),.s (.i 128)] [] (. =⟨.a (.s (.str z128)),[],[]⟩)) (M:Mc) (hM:M.ok) (p:Int) (v:Nat) (hv:ZU v) (hp:p=10\/p=11):FN 163 [.agg (M.C 0),.s (.i p),.s (.u v),.s (.w M.ct)] [⟨false,1,wsv M.m⟩]
  (. =⟨.tup [.agg ((Qbx M p v).1.C 1),.s .nilsl],[],[⟨true,1,wsv (Qbx M p v).1.m⟩]⟩):=by
 have q6:=Qne fJ M.bt M.bg hM.dv.2.2.1 M.m _ rfl hM.ml p v hv;have hgl:=QeO M.m M.bg M.m.length p v;have gL:=Qaa M.m;have jK:=Qaa (QfO M.m M.bg M.m.length p v)
 have hD:Qbx M p v=({ M with bg:=Qhj M.bg M.m.length p v,m:=QfO M.m M.bg M.m.length p v },none):=by
  unfold Qbx;rw [zN (by omega),zN (by omega),zN (by omega),zN (by omega),zN (by omega)]
 rw [hD];clear hD fJ;generalize Qhj M.bg M.m.length p v=gb,QfO M.m M.bg M.m.length p v=gm at *;dsimp only [Mc.C,Mc.D];rw [hgl];obtain ⟨hx,hc,hY,gA,gH,gB,_,gE,gD,gG⟩:=hM;obtain ⟨_,_,_,m,_,_,_,_,d,n,bt,bg,ct⟩:=M;dsimp only at *;cases QaJ hx;cases zC8 hc;cases d;cases n;dsimp only [Mc.C,Mc.D,Dk.C,Nk.C,Dk.ok,Nk.ok] at *;generalize m.length=nn,wsv m=XX,wsv gm=GG at *;simp only [Qaf,zca,zna] at *;clear hY gA gE gD gB gG gH;rcases hp with rfl|rfl
 all_goals
  refine fnW Tryz.func163 ?_;(repeat' ((conv=>whnf);first|exact zi2|refine zj0 fun hb=>?_|refine zq0 ?_|(refine QaA q6 ?_)|refine zse ?_|refine zbb ?_ ?_))
  all_goals exact Qcy
theorem QGn {k:ByteArray} (h:k.size=0):(k.toList==(⟨#[]⟩:ByteArray).toList)=true:=by
 show noD k=true;rw [Qiv];exact zdt h
theorem QGm {k:ByteArray} (h:¬ k.size=0):(k.toList==(⟨#[]⟩:ByteArray).toList)=false:=by
 show noD k=false;rw [Qiv];exact zdf h
theorem Qo0 (k:ByteArray) (hk:k.size<=1000000) (p:Int):FN 232 [.agg [.str k],.s (.i p)] [] (. =⟨.tup [.agg [.str (QkV k p)],.s (.u (Qoq k p:Nat))],[],[]⟩):=by
 obtain ⟨_,hA⟩:∃ B,QkV k p=B:=⟨_,rfl⟩;obtain ⟨B,hB⟩:∃ B,Qoq k p=B:=⟨_,rfl⟩;rw [hA,hB];unfold QkV at hA;unfold Qoq at hB
 by_cases h4:p=0
 .rw [zP h4] at hA hB
  subst h4
  by_cases h0:k.size=0
  .rw [zP h0] at hA
   have hn:k[0]?=none:=by simp [h0]
   rw [hn] at hB;have qH:=QGn h0;subst hA hB;dsimp only;refine fnW Tryz.func232 ?_;(repeat' ((conv=>whnf);first|exact zi2|refine zj0 fun hb=>?_|refine QDx ?_|refine zse ?_|refine zbb ?_ ?_))
   all_goals exact zF_
  .rw [zN h0] at hA
   have hn:k[0]?=some k[0]:=by simp
   rw [hn] at hB;have qH:=QGm h0;have gU:=UInt8.toNat_lt k[0];generalize k[0]=b at *;subst hA hB;dsimp only;refine fnW Tryz.func232 ?_;(repeat' ((conv=>whnf);first|exact zi2|refine zj0 fun hb=>?_|((with_reducible apply Ge.mk (α:=UInt8)); . exact hn)|refine QDx ?_|refine zse ?_|refine zbb ?_ ?_))
   all_goals exact zF_
 rw [zN h4] at hA hB
 by_cases h5:p=1
 .rw [zP h5] at hB
  subst h5 hA hB;refine fnW Tryz.func232 ?_;exact Qfv
 rw [zN h5] at hB;subst hA hB;refine fnW Tryz.func232 ?_;exact Qoj
theorem Qjm (M:Mc) (hM:M.ok) (p:Int) (w:Nat):FN 162 [.agg (M.C 0),.s (.i p),.s (.u w)] [⟨false,1,wsv M.m⟩]
  (. =⟨.tup [.agg ((inM M p).C 0),.s (.u (inV M p w:Nat))],[],[]⟩):=by
 have q1:=Qo0 M.ks hM.dv.2.2.2.2 p;have q2:=Qpk M.ta M.td M.tf;have q3:=Qo1 M.d p;have q4:=Qo8 M.n p;have q5:=QoY M.bt M.bg hM.dv.2.2.1 p;have gL:=Qaa M.m;obtain ⟨B,hB⟩:∃ B,inV M p w=B:=⟨_,rfl⟩;obtain ⟨M2,wE⟩:∃ B,inM M p=B:=⟨_,rfl⟩
 have wS:¬ (0<=p/\p<=11)->B=0/\M2=M:=by
  intro h;constructor
  .rw [<- hB]
   unfold inV;split
   .unfold Qoq
    rw [zN (by omega),zN (by omega)]
   .rw [zN (by omega),zN (by omega),zN (by omega),zN (by omega)]
    unfold Qgq;rw [zN (by omega),zN (by omega)]
  .rw [<- wE]
   unfold inM;split
   .unfold QkV
    rw [zN (by omega)]
   .rfl
 rw [hB,wE];unfold inV at hB;unfold inM at wE;generalize Qoq M.ks p=v1,QkV M.ks p=k2,Qn7 M.tf=v2,Qhi M.d p=v3,Qhm M.n p=v4,Qgq M.bt M.bg p=v5 at *;obtain ⟨hx,hc,hY,gA,gH,gB,_,gE,gD,gG⟩:=hM;obtain ⟨_,_,_,m,ks,ta,td,tf,d,n,bt,bg⟩:=M;dsimp only at *;cases QaJ hx;cases zC8 hc;cases d;cases n;dsimp only [Mc.C,Mc.D,Dk.C,Nk.C,Dk.ok,Nk.ok] at *;generalize gJ:m.length=nn,wsv m=XX at *;simp only [Qaf,zca,zna] at *;clear hY gA gE gD gB gG gH
 by_cases h1:0<=p/\p<=1
 .rw [zP h1.2] at hB wE
  subst hB wE;clear wS;dsimp only [Mc.C,Mc.D];simp only [Qaf,zca,zna];rw [gJ];have e:p=0\/p=1:=by omega
  rcases e with rfl|rfl
  all_goals
   refine fnW Tryz.func162 ?_;(repeat' ((conv=>whnf);first|exact zi2|refine zj0 fun hb=>?_|refine zq0 ?_|(refine zpu q1 ?_)|refine zse ?_|refine zbb ?_ ?_))
   all_goals exact Qet
 by_cases vS:0<=p/\p<=11
 case neg =>
  obtain ⟨rfl,rfl⟩:=wS vS;clear hB wE;dsimp only [Mc.C,Mc.D];simp only [Qaf,zca,zna];rw [gJ];refine fnW Tryz.func162 ?_;exact QAj
 clear wS;rw [zN (by omega)] at hB wE;subst wE;dsimp only [Mc.C,Mc.D];simp only [Qaf,zca,zna];rw [gJ]
 by_cases h2:p=2
 .rw [zP h2] at hB
  subst hB h2;refine fnW Tryz.func162 ?_;exact QEu
 rw [zN h2] at hB
 by_cases h3:p=3
 .rw [zP h3] at hB
  subst hB h3;refine fnW Tryz.func162 ?_;(repeat' ((conv=>whnf);first|exact zi2|refine zj0 fun hb=>?_|refine zq0 ?_|(refine zpu q2 ?_)|refine zse ?_|refine zbb ?_ ?_))
  all_goals exact Qet
 rw [zN h3] at hB
 by_cases h4:p<=6
 .rw [zP h4] at hB
  subst hB;have e:p=4\/p=5\/p=6:=by omega
  rcases e with rfl|rfl|rfl
  all_goals
   refine fnW Tryz.func162 ?_;exact QAi
 rw [zN h4] at hB
 by_cases h5:p<=9
 .rw [zP h5] at hB
  subst hB;have e:p=7\/p=8\/p=9:=by omega
  rcases e with rfl|rfl|rfl
  all_goals
   refine fnW Tryz.func162 ?_;(repeat' ((conv=>whnf);first|exact zi2|refine zj0 fun hb=>?_|refine zq0 ?_|(refine zpu q4 ?_)|refine zse ?_|refine zbb ?_ ?_))
   all_goals exact Qet
 rw [zN h5] at hB;subst hB;have e:p=10\/p=11:=by omega
 rcases e with rfl|rfl
 all_goals
  refine fnW Tryz.func162 ?_;(repeat' ((conv=>whnf);first|exact zi2|refine zj0 fun hb=>?_|refine zq0 ?_|(refine zpu q5 ?_)|refine zse ?_|refine zbb ?_ ?_))
  all_goals exact Qet
theorem Qno (M:Mc) (hM:M.ok) (w:Nat) (hs:Qb3 M=true):FN 94 [.agg (M.C 0),.s (.u w)] [⟨false,1,wsv M.m⟩]
  (. =⟨.tup [.agg (M.C 1),.s .nilsl],[],[⟨true,1,wsv M.m⟩]⟩):=by
 have hc:=QbG M.m _ rfl (by have:=hM.ml;omega);have hr:=QeI M hM;rw [hs] at hr;have gL:=Qaa M.m;clear hs;obtain ⟨hx,hc,hY,gA,gH,gB,_,gE,gD,gG⟩:=hM;obtain ⟨_,_,_,m,_,_,_,_,d,n⟩:=M;dsimp only at *;cases QaJ hx;cases zC8 hc;cases d;cases n;dsimp only [Mc.C,Mc.D,Dk.C,Nk.C,Dk.ok,Nk.ok] at *;generalize m.length=nn,wsv m=XX at *;simp only [Qaf,zca,zna] at *;clear hY gA gE gD gB gG gH;refine fnW Tryz.func94 ?_;(repeat' ((conv=>whnf);first|exact zi3|refine zj0 fun hb=>?_|refine zq0 ?_|(refine QaA hc ?_)|(refine QaA hr ?_)|refine zse ?_|refine zbb ?_ ?_))
 all_goals exact Qe2
theorem Qpg (M:Mc) (hM:M.ok) (w:Nat) (hs:Qb3 M=false) (yR:¬ eK (QaI M).e=1) (jA:¬ eK (QaI M).e=2):FN 94 [.agg (M.C 0),.s (.u w)] [⟨false,1,wsv M.m⟩]
  (. =⟨.tup [.agg ((Qbh M w).1.C 1),.s .nilsl],[],[⟨true,1,wsv (Qbh M w).1.m⟩]⟩):=by
 have hc:=QbG M.m _ rfl (by have:=hM.ml;omega);have q0:=QeI M hM;have q1:=QeE M hM;have q2:=QfZ M.x (Qde M) (Qdd M) M.m M.m.length hM.x (Qbw M hM) (Qej M hM) (Qek M hM) rfl hM.mr (by have:=hM.ml;omega) hM.xr _ rfl;rw [hs] at q0;obtain ⟨k1,k2,k3,k4,k5,k6,k7,K,_,_,_,k8,_,_⟩:=QbY M hM;change Fn _ _ _ _ (. =⟨.tup [.agg (Qay (QaI M).x (QaI M).pc (QaI M).c),.s (.sl 1 0 M.m.length),.agg (QaI M).e],[],[⟨true,1,wsv (QaI M).m⟩]⟩) at q2;have FQ:IntKind.u64.wrap ((M.ct:Int)+1)=(((M.ct+1)%18446744073709551616:Nat):Int):=by rw [Qoh];omega
 obtain ⟨D,hD⟩:∃ D,(Qbh M w).1=D:=⟨_,rfl⟩;rw [hD];unfold Qbh at hD;rw [zN yR,zN jA] at hD;have jV:=Qaa M.m;have hi:=Qbw M hM;clear hs;unfold QAp at q1;dsimp only [Mc.C] at q1;unfold QaF at hD;generalize QaI M=Q,Qde M=ip,Qdd M=ic at *;obtain ⟨_,_,_,qm,_⟩:=Q;dsimp only at *;subst k8;change ¬ K=1 at yR;change ¬ K=2 at jA;change (if K=3 then _ else if K=4 then _ else _:Mc × Option (List SV)).1=D at hD;unfold efS at *;cases QaJ k1;cases zC8 k2;cases zC8 hi;have hsq:=Qaa qm;clear k1 k2 k4 k5 k6 k7;obtain ⟨hx,hc,hY,gA,gH,gB,gI,gE,gD,gG⟩:=hM;obtain ⟨x,pc,c,m,_,_,_,_,d,n,_,_,ct⟩:=M;dsimp only at *;cases QaJ hx;cases zC8 hc;cases d;cases n;dsimp only [Mc.C,Mc.D,Dk.C,Nk.C,Dk.ok,Nk.ok] at *;generalize m.length=nn,wsv m=XX,hXQ:wsv qm=XQ,qV:(ct+1)%18446744073709551616=ct2 at *;clear hY gA gE gD gB gG gH gI
 by_cases h3:K=3
 .rw [zP h3] at hD
  subst h3 hD;dsimp only [Qdc,Mc.C,Mc.D,Dk.C,Nk.C] at *;simp only [Qaf,zca,zna] at *;rw [qV,k3,hXQ];refine fnW Tryz.func94 ?_;exact QAf
 rw [zN h3] at hD
 by_cases h4:K=4
 .rw [zP h4] at hD
  subst h4 hD;dsimp only [Qdc,Mc.C,Mc.D,Dk.C,Nk.C] at *;simp only [Qaf,zca,zna] at *;rw [qV,k3,hXQ];refine fnW Tryz.func94 ?_;exact QAf
 rw [zN h4] at hD;subst hD;dsimp only [Qdc,Mc.C,Mc.D,Dk.C,Nk.C] at *;simp only [Qaf,zca,zna] at *;rw [qV,k3,hXQ];refine fnW Tryz.func94 ?_;exact QAf
theorem Qzq (x:List Nat) (R v:Nat) (rest:List SV) (hR:R<x.length):QaC (wsv x++rest) R [.u (v:Nat)]=wsv (x.set R v)++rest:=by
 show (wsv x++rest).set R _=_;rw [List.set_append_left _ _ (by rw [wsv_length];exact hR)];unfold wsv;rw [List.map_set]
theorem QB5 (M:Mc) (p:Int):inM M p= { M with ks:=(inM M p).ks }:=by
 unfold inM;split<;>rfl
theorem Qpf (M:Mc) (hM:M.ok) (w:Nat) (hs:Qb3 M=false) (yR:eK (QaI M).e=1):FN 94 [.agg (M.C 0),.s (.u w)] [⟨false,1,wsv M.m⟩]
  (. =⟨.tup [.agg ((Qbh M w).1.C 1),.s .nilsl],[],[⟨true,1,wsv (Qbh M w).1.m⟩]⟩):=by
 have hc:=QbG M.m _ rfl (by have:=hM.ml;omega);have q0:=QeI M hM;have q1:=QeE M hM;have q2:=QfZ M.x (Qde M) (Qdd M) M.m M.m.length hM.x (Qbw M hM) (Qej M hM) (Qek M hM) rfl hM.mr (by have:=hM.ml;omega) hM.xr _ rfl;rw [hs] at q0;obtain ⟨k1,k2,k3,k4,k5,k6,k7,K,P,R,_,k8,_,_⟩:=QbY M hM;have i1:=Qjm (QaF M) (QdW M hM) P w;change Fn _ _ _ _ (. =⟨.tup [.agg (Qay (QaI M).x (QaI M).pc (QaI M).c),.s (.sl 1 0 M.m.length),.agg (QaI M).e],[],[⟨true,1,wsv (QaI M).m⟩]⟩) at q2;have FQ:IntKind.u64.wrap ((M.ct:Int)+1)=(((M.ct+1)%18446744073709551616:Nat):Int):=by rw [Qoh];omega
 obtain ⟨D,hD⟩:∃ D,(Qbh M w).1=D:=⟨_,rfl⟩;rw [hD];unfold Qbh at hD;rw [zP yR,k8] at hD;change Qdc { inM (QaF M) P with x:=QaD (QaF M).x R (inV (QaF M) P w) }=D at hD;rw [QB5] at hD i1;have hX3:=Qaz (QaF M).x R (inV (QaF M) P w);have hXs:¬ R=0->QaD (QaF M).x R (inV (QaF M) P w)=(QaF M).x.set R (inV (QaF M) P w):=fun h=>by unfold QaD;rw [zN h]
 have UX:R=0->QaD (QaF M).x R (inV (QaF M) P w)=(QaF M).x:=fun h=>by unfold QaD;rw [zP h]
 generalize QaD (QaF M).x R (inV (QaF M) P w)=X2 at *;generalize inV (QaF M) P w=v1,(inM (QaF M) P).ks=ks2 at *;have jV:=Qaa M.m;have hi:=Qbw M hM;clear hs;unfold QAp at q1;dsimp only [Mc.C] at q1;unfold QaF at *;generalize QaI M=Q,Qde M=ip,Qdd M=ic at *;obtain ⟨qx,_,_,qm,_⟩:=Q;dsimp only at *;subst k8;obtain rfl:K=1:=yR;unfold efS at *;have fE:¬ R=0->∀ rest:List SV,QaC (wsv qx++rest) R [.u (v1:Nat)]=wsv X2++rest:=fun h rest=>by rw [hXs h];exact Qzq qx R v1 rest (by omega)
 clear hXs;cases QaJ k1;cases zC8 k2;cases zC8 hi;obtain ⟨_,_,_,_,_,_,_,_,_,_,_,_,_,_,_,_,rfl⟩:=Qem (hX3.trans rfl);have hsq:=Qaa qm;clear k1 k2 k4 k5 k6 k7 hX3;obtain ⟨hx,hc,hY,gA,gH,gB,gI,gE,gD,gG⟩:=hM;obtain ⟨x,pc,c,m,ks,_,_,_,d,n,_,_,ct⟩:=M;dsimp only at *;cases QaJ hx;cases zC8 hc;cases d;cases n;dsimp only [Mc.C,Mc.D,Dk.C,Nk.C,Dk.ok,Nk.ok] at *;generalize m.length=nn,wsv m=XX,hXQ:wsv qm=XQ,qV:(ct+1)%18446744073709551616=ct2 at *;clear hY gA gE gD gB gG gH gI;subst hD;dsimp only [Qdc,Mc.C,Mc.D,Dk.C,Nk.C] at *;simp only [Qaf,zca,zna] at *;rw [k3] at i1;rw [qV,k3,hXQ]
 by_cases VY:R=0
 .have e:=UX VY
  simp only [List.cons.injEq,and_true] at e;obtain ⟨rfl,rfl,rfl,rfl,rfl,rfl,rfl,rfl,rfl,rfl,rfl,rfl,rfl,rfl,rfl,rfl⟩:=e;clear fE UX;subst VY;refine fnW Tryz.func94 ?_;(repeat' ((conv=>whnf);first|exact zi3|refine zj0 fun hb=>?_|refine zq0 ?_|refine zq3 ?_|refine QsU ?_|(refine QaA hc ?_)|(refine QaA q0 ?_)|(refine QaA q1 ?_)|(refine QaA q2 ?_)|(refine QaA i1 ?_)|refine zse ?_|refine zbb ?_ ?_))
  all_goals exact Qcy
 .have gO:=fE VY
  clear fE UX;simp only [wsv,List.map_cons,List.map_nil,zca,zna] at gO;refine fnW Tryz.func94 ?_;(conv=>whnf);(repeat' ((first|exact zi3|refine zj0 fun hb=>?_|refine zq0 ?_|refine zq3 ?_|refine QsU ?_|(refine QaA hc ?_)|(refine QaA q0 ?_)|(refine QaA q1 ?_)|(refine QaA q2 ?_)|(refine QaA i1 ?_)|(apply Sd.mk; . first|(refine ⟨rfl,rfl,rfl,?_⟩;show R+1<=49;omega)|(show (0:Int)<=R/\(R:Int)<16;omega))|((with_reducible apply Vl.mk (α:=List SV)); . exact gO _)|refine zse ?_|refine zbb ?_ ?_)<;>conv=>whnf))
  all_goals first|(exfalso;simp at hb;omega)|(exact QbJ)
theorem Quv (M:Mc) (hM:M.ok) (p:Int) (v:Nat) (hv:ZU v):FN 57 [.s (.ptr 0 0),.s (.i p),.s (.u v)] [⟨true,1,M.C 1⟩,⟨true,1,wsv M.m⟩]
  (. =⟨.a (.s (oS 2 (Qbx M p v).2)),[(0,some ⟨true,1,(Qbx M p v).1.C 1⟩),(1,some ⟨true,1,wsv (Qbx M p v).1.m⟩)],oR (Qbx M p v).2⟩):=by
 have q3:=Qyy v;have q4:=QnI M.d hM.dk M.m _ rfl hM.ml hM.mr p v hv M.ct;have q5:=QnR M.n hM.nk M.m _ rfl hM.ml hM.mr p v hv M.ct;have q6:=Quq M.bt M.bg hM.dv.2.2.1 M.m _ rfl hM.ml p v hv;have h4:=QdL M.d M.m M.m.length p v M.ct;have h5:=QdR M.n M.m M.m.length p v M.ct;have hgl:=QeO M.m M.bg M.m.length p v;have gL:=Qaa M.m;have jK:=Qaa (QfO M.m M.bg M.m.length p v);obtain ⟨D,hD⟩:∃ D,Qbx M p v=D:=⟨_,rfl⟩;rw [hD];unfold Qbx at hD;generalize Qa4 M.d M.m M.m.length p v M.ct=Z4,Qbk M.n M.m M.m.length p v M.ct=Z5,Qhj M.bg M.m.length p v=gb,QfO M.m M.bg M.m.length p v=gm at *;obtain ⟨⟨_,_,_,_,_,_,_,_⟩,o4⟩:=Z4;obtain ⟨⟨_,_,_,_,_,_⟩,o5⟩:=Z5;obtain ⟨hx,hc,hY,gA,gH,gB,_,gE,gD,gG⟩:=hM;obtain ⟨_,_,_,m,_,_,_,_,d,n,bt,bg,ct⟩:=M;dsimp only at *;cases QaJ hx;cases zC8 hc;cases d;cases n;dsimp only [Mc.C,Mc.D,Dk.C,Nk.C,Dk.ok,Nk.ok] at *;generalize gJ:m.length=nn,hX:wsv m=XX,hG:wsv gm=GG at *;clear hY gA gE gD gB gG gH
 by_cases h1:p=0
 .rw [zP h1] at hD
  subst h1 hD;clear q3 q4 q5 q6 h4 h5;dsimp only [oS,oR];rw [gJ,hX];refine fnW Tryz.func57 ?_;(conv=>whnf);(repeat' ((first|exact zi3|refine zj0 fun hb=>?_|refine QHn ?_|refine zse ?_|refine zbb ?_ ?_)<;>conv=>whnf))
  all_goals first|(exact Qkt)
 rw [zN h1] at hD
 by_cases h2:p<=2
 .rw [zP h2] at hD
  subst hD;clear q3 q4 q5 q6 h4 h5;dsimp only [oS,oR];rw [gJ,hX];refine fnW Tryz.func57 ?_;(repeat' ((conv=>whnf);first|exact zi3|refine zj0 fun hb=>?_|refine zse ?_|refine zbb ?_ ?_))
  all_goals exact Qhs
 rw [zN h2] at hD
 by_cases h3:p=3
 .rw [zP h3] at hD
  subst h3 hD;clear q4 q5 q6 h4 h5;dsimp only [oS,oR];rw [gJ,hX];unfold QAo at q3
  by_cases hv0:(v:Int)=0
  .rw [zP hv0] at q3
   rw [zdf (not_not_intro hv0)];obtain rfl:v=0:=by omega
   refine fnW Tryz.func57 ?_;exact QEt
  .rw [zN hv0] at q3
   rw [zdt hv0];refine fnW Tryz.func57 ?_;exact QEt
 rw [zN h3] at hD
 by_cases h6:p<=6
 .rw [zP h6] at hD
  subst hD;clear q3 q5 q6 h5;dsimp only [Mc.C,Mc.D,Dk.C,Nk.C] at *;rw [gJ,hX]
  cases o4 with
  | none =>
   dsimp only [oS,oR] at *;refine fnW Tryz.func57 ?_;(conv=>whnf);(repeat' ((first|exact zi3|refine zj0 fun hb=>?_|(refine QaA q4 ?_)|refine zse ?_|refine zbb ?_ ?_)<;>conv=>whnf))
   all_goals first|(exact Qdg)
  | some l =>
   obtain ⟨_,_,_⟩:=h4 l rfl;dsimp only [oS,oR] at *;refine fnW Tryz.func57 ?_;(conv=>whnf);(repeat' ((first|exact zi3|refine zj0 fun hb=>?_|(refine QaA q4 ?_)|refine zse ?_|refine zbb ?_ ?_)<;>conv=>whnf))
   all_goals first|(exact Qkt)
 rw [zN h6] at hD
 by_cases h9:p<=9
 .rw [zP h9] at hD
  subst hD;clear q3 q4 q6 h4;dsimp only [Mc.C,Mc.D,Dk.C,Nk.C] at *;rw [gJ,hX]
  cases o5 with
  | none =>
   dsimp only [oS,oR] at *;refine fnW Tryz.func57 ?_;(conv=>whnf);(repeat' ((first|exact zi3|refine zj0 fun hb=>?_|(refine QaA q5 ?_)|refine zse ?_|refine zbb ?_ ?_)<;>conv=>whnf))
   all_goals first|(exact Qdg)
  | some l =>
   obtain ⟨_,_,_⟩:=h5 l rfl;dsimp only [oS,oR] at *;refine fnW Tryz.func57 ?_;(conv=>whnf);(repeat' ((first|exact zi3|refine zj0 fun hb=>?_|(refine QaA q5 ?_)|refine zse ?_|refine zbb ?_ ?_)<;>conv=>whnf))
   all_goals first|(exact Qkt)
 rw [zN h9] at hD;subst hD;clear q3 q4 q5 h4 h5;dsimp only [Mc.C,Mc.D,Dk.C,Nk.C] at *;rw [hG,hgl];dsimp only [oS,oR];refine fnW Tryz.func57 ?_;(repeat' ((conv=>whnf);first|exact zi3|refine zj0 fun hb=>?_|(refine Qhq q6 ?_)|refine zse ?_|refine zbb ?_ ?_))
 all_goals exact Qhs
theorem QmF (M:Mc) (p:Int) (v:Nat):Qbx M p v=({ M with m:=(Qbx M p v).1.m,ta:=(Qbx M p v).1.ta,td:=(Qbx M p v).1.td,tf:=(Qbx M p v).1.tf,d:=(Qbx M p v).1.d,n:=(Qbx M p v).1.n,bg:=(Qbx M p v).1.bg },(Qbx M p v).2):=by
 unfold Qbx
 repeat' split
 all_goals rfl
theorem QxW (M:Mc) (p:Int):inM M p= { M with ks:=(inM M p).ks }:=by
 unfold inM;split<;>rfl
theorem QiD (M:Mc) (hM:M.ok) (w:Nat) (hw:ZU w):FN 26 [.s (.ptr 0 0),.s (.u w)] [⟨true,1,M.C 1⟩,⟨true,1,wsv M.m⟩]
  (. =⟨.a (.s (oS 2 (Qbh M w).2)),[(0,some ⟨true,1,(Qbh M w).1.C 1⟩),(1,some ⟨true,1,wsv (Qbh M w).1.m⟩)],oR (Qbh M w).2⟩):=by
 have q0:=QjZ M hM;have q1:=QCD M.x (Qde M) (Qdd M) M.m _ hM.x (Qbw M hM) (Qej M hM) (Qek M hM) rfl hM.mr (by have:=hM.ml;omega) hM.xr _ rfl;have hS:=QdW M hM;have hQ:=QbY M hM;obtain ⟨K,P,R,V,he,hR,hV⟩:=hQ.ef;have i1:=QCJ (QaF M) hS P w;have i2:=Quv (QaF M) hS P V hV;have i3:=Qg4 (QaF M).x (QaF M).pc (QaF M).c R (inV (QaF M) P w) hS.x hS.c hR;have gV:=Qaz (QaF M).x R (inV (QaF M) P w);have hO:=Qix (QaF M) P V;have hOl:=Qiw (QaF M) P V;have YF:=QmF (QaF M) P V;have hIe:=QxW (QaF M) P;have FQ:IntKind.u64.wrap ((M.ct:Int)+1)=(((M.ct+1)%18446744073709551616:Nat):Int):=by rw [Qoh];omega
 obtain ⟨D,hD⟩:∃ D,Qbh M w=D:=⟨_,rfl⟩;rw [hD];unfold Qbh at hD;rw [he] at hD;change (if K=1 then (Qdc { inM (QaF M) P with x:=QaD (QaF M).x R (inV (QaF M) P w) },none) else if K=2 then (Qdc (Qbx (QaF M) P V).1,(Qbx (QaF M) P V).2) else if K=3 then (Qdc { QaF M with wt:=true },none) else if K=4 then (Qdc { QaF M with ht:=true },none) else (Qdc (QaF M),none))=D at hD;change Fn _ _ _ _ (. =⟨.tup [.agg (Qay (QaI M).x (QaI M).pc (QaI M).c),.agg (QaI M).e],[(0,some ⟨true,1,wsv (QaI M).m⟩)],[]⟩) at q1;rw [he] at q1;have h1:=hQ.xl;have h2:=hQ.cl;have h3:=hQ.ml;have h4:=Qbw M hM;have gL:=Qaa M.m;have GH:=Qaa (QaI M).m;have hm2:(QaF M).m.length=M.m.length:=hQ.ml;rw [YF] at hOl hD i2;rw [hIe] at i1 hD;generalize (inM (QaF M) P).ks=k2,YU:QaD (QaF M).x R (inV (QaF M) P w)=X2,(Qbx (QaF M) P V).2=O2,(Qbx (QaF M) P V).1.m=m2,(Qbx (QaF M) P V).1.ta=ta2,(Qbx (QaF M) P V).1.td=td2,(Qbx (QaF M) P V).1.tf=tf2,(Qbx (QaF M) P V).1.d=d2,(Qbx (QaF M) P V).1.n=n2,(Qbx (QaF M) P V).1.bg=bg2 at *;have gO:=Qaa m2;clear YF hIe hS;unfold QaF at *;generalize inV _ P w=v1 at i1 i3 YU;generalize QaI M=Q at *;obtain ⟨_,_,_,qm,_⟩:=Q;dsimp only at *;subst he;clear hQ;have hX3:X2.length=16:=by rw [gV];exact h1
 generalize Qde M=ip,Qdd M=ic at *;clear YU gV;cases QaJ h1;cases zC8 h2;cases QaJ hX3;cases zC8 h4;cases d2;cases n2;obtain ⟨hx,hc,hY,gA,gH,gB,_,gE,gD,gG⟩:=hM;obtain ⟨x,pc,c,m,ks,ta,td,tf,d,n,_,bg,ct,wt,ht⟩:=M;dsimp only at *;cases QaJ hx;cases zC8 hc;obtain ⟨_,_,d2⟩:=d;obtain ⟨_,_,n2⟩:=n;dsimp only [Mc.C,Mc.D,Dk.C,Nk.C,Dk.ok,Nk.ok] at *;unfold efS at *;generalize m.length=nn,wsv m=XX,hQQ:wsv qm=QQ at *;generalize h22:wsv m2=M2,qV:(ct+1)%18446744073709551616=ct2 at *;clear hY gA gE gD gB gG gH
 by_cases k1:K=1
 .rw [zP k1] at hD
  subst k1 hD;clear i2 hO hOl;dsimp only [oS,oR,Qdc,Mc.C,Mc.D,Dk.C,Nk.C] at *;simp only [Qaf,zca,zna] at *;rw [qV]
  try rw [h3] at *
  try rw [hQQ]
  refine fnW Tryz.func26 ?_;(repeat' ((conv=>whnf);first|exact zi3|refine zj0 fun hb=>?_|(refine QaA q0 ?_)|(refine Qhq q1 ?_)|refine zq3 ?_|refine QsU ?_|(refine Qkr i1 ?_)|(refine zpu i3 ?_)|refine zse ?_|refine zbb ?_ ?_))
  all_goals exact Qhs
 rw [zN k1] at hD
 by_cases k2':K=2
 .rw [zP k2'] at hD
  subst k2' hD;clear i1 i3
  cases O2 with
  | none =>
   dsimp only [oS,oR,Qdc,Mc.C,Mc.D,Dk.C,Nk.C] at *;simp only [Qaf,zca,zna] at *;rw [qV];rw [hOl.trans h3] at i2 |-;rw [h3] at i2
   try rw [h22]
   refine fnW Tryz.func26 ?_;(conv=>whnf);(repeat' ((first|exact zi3|refine zj0 fun hb=>?_|(refine QaA q0 ?_)|(refine Qhq q1 ?_)|refine zq3 ?_|refine QsU ?_|(refine Qkr i2 ?_)|refine zse ?_|refine zbb ?_ ?_)<;>conv=>whnf))
   all_goals first|(exact Qdg)
  | some l =>
   obtain ⟨_,_,_⟩:=hO l rfl;dsimp only [oS,oR,Qdc,Mc.C,Mc.D,Dk.C,Nk.C] at *;simp only [Qaf,zca,zna] at *;rw [qV];rw [hOl.trans h3] at i2 |-;rw [h3] at i2
   try rw [h22]
   refine fnW Tryz.func26 ?_;(conv=>whnf);(repeat' ((first|exact zi3|refine zj0 fun hb=>?_|(refine QaA q0 ?_)|(refine Qhq q1 ?_)|refine zq3 ?_|refine QsU ?_|(refine Qkr i2 ?_)|refine zse ?_|refine zbb ?_ ?_)<;>conv=>whnf))
   all_goals first|(exact Qkt)
 rw [zN k2'] at hD
 by_cases k3:K=3
 .rw [zP k3] at hD
  subst k3 hD;clear i1 i2 i3 hO hOl;dsimp only [oS,oR,Qdc,Mc.C,Mc.D,Dk.C,Nk.C] at *;simp only [Qaf,zca,zna] at *;rw [qV]
  try rw [h3] at *
  try rw [hQQ]
  refine fnW Tryz.func26 ?_;exact QAh
 rw [zN k3] at hD
 by_cases k4:K=4
 .rw [zP k4] at hD
  subst k4 hD;clear i1 i2 i3 hO hOl;dsimp only [oS,oR,Qdc,Mc.C,Mc.D,Dk.C,Nk.C] at *;simp only [Qaf,zca,zna] at *;rw [qV]
  try rw [h3] at *
  try rw [hQQ]
  refine fnW Tryz.func26 ?_;exact QAh
 rw [zN k4] at hD;subst hD;clear i1 i2 i3 hO hOl;dsimp only [oS,oR,Qdc,Mc.C,Mc.D,Dk.C,Nk.C] at *;simp only [Qaf,zca,zna] at *;rw [qV]
 try rw [h3] at *
 try rw [hQQ]
 refine fnW Tryz.func26 ?_;exact QAh
theorem QCy (M:Mc) (p:Int) (v:Nat) (hp:¬ (p=10\/p=11)):(Qbx M p v).1.m=M.m:=by
 unfold Qbx
 repeat' split
 all_goals first|rfl|skip
 have hq:¬ gvQ M.bg M.m.length p v:=fun h=>hp (.inl h.1)
 show QfO _ _ _ _ _=_;unfold QfO;rw [zN hq]
theorem Qph (fJ:FN 266 [.s (.str ⟨#[0]⟩),.s (.i 128)] [] (. =⟨.a (.s (.str z128)),[],[]⟩)) (M:Mc) (hM:M.ok) (w:Nat) (hs:Qb3 M=false) (yR:eK (QaI M).e=2):FN 94 [.agg (M.C 0),.s (.u w)] [⟨false,1,wsv M.m⟩]
  (. =⟨.tup [.agg ((Qbh M w).1.C 1),.s (oS 2 (Qbh M w).2)],[],⟨true,1,wsv (Qbh M w).1.m⟩::oR (Qbh M w).2⟩):=by
 have hc:=QbG M.m _ rfl (by have:=hM.ml;omega);have q0:=QeI M hM;have q1:=QeE M hM;have q2:=QfZ M.x (Qde M) (Qdd M) M.m M.m.length hM.x (Qbw M hM) (Qej M hM) (Qek M hM) rfl hM.mr (by have:=hM.ml;omega) hM.xr _ rfl;rw [hs] at q0;obtain ⟨k1,k2,k3,k4,k5,k6,k7,K,P,_,V,k8,_,hV⟩:=QbY M hM;have iA:=Qnq (QaF M) (QdW M hM) P V hV;have iB:=Qnr fJ (QaF M) (QdW M hM) P V hV;have hO:=Qix (QaF M) P V;have hOl:=Qiw (QaF M) P V;have UW:=QCy (QaF M) P V
 have UV:P=10\/P=11->(Qbx (QaF M) P V).2=none:=fun h=>by
  unfold Qbx;rw [zN (by omega),zN (by omega),zN (by omega),zN (by omega),zN (by omega)]
 change Fn _ _ _ _ (. =⟨.tup [.agg (Qay (QaI M).x (QaI M).pc (QaI M).c),.s (.sl 1 0 M.m.length),.agg (QaI M).e],[],[⟨true,1,wsv (QaI M).m⟩]⟩) at q2;have FQ:IntKind.u64.wrap ((M.ct:Int)+1)=(((M.ct+1)%18446744073709551616:Nat):Int):=by rw [Qoh];omega
 obtain ⟨D,hD⟩:∃ D,Qbh M w=D:=⟨_,rfl⟩;rw [hD];unfold Qbh at hD;rw [zN (by rw [yR];decide),zP yR,k8] at hD;change (Qdc (Qbx (QaF M) P V).1,(Qbx (QaF M) P V).2)=D at hD;have YF:=QmF (QaF M) P V;rw [YF] at hD iA iB;dsimp only at hD iA iB;generalize (Qbx (QaF M) P V).2=O2,(Qbx (QaF M) P V).1.m=m2,(Qbx (QaF M) P V).1.ta=ta2,(Qbx (QaF M) P V).1.td=td2,(Qbx (QaF M) P V).1.tf=tf2,(Qbx (QaF M) P V).1.d=d2,(Qbx (QaF M) P V).1.n=n2,(Qbx (QaF M) P V).1.bg=bg2 at *;have jV:=Qaa M.m;have hsm2:=Qaa m2;have hi:=Qbw M hM;clear hs fJ YF;unfold QAp at q1;dsimp only [Mc.C] at q1;unfold QaF at *;generalize QaI M=Q,Qde M=ip,Qdd M=ic at *;obtain ⟨_,_,_,qm,_⟩:=Q;dsimp only at *;subst k8;obtain rfl:K=2:=yR;unfold efS at *;cases QaJ k1;cases zC8 k2;cases zC8 hi;cases d2;cases n2;have hsq:=Qaa qm;clear k1 k2 k4 k5 k6 k7;obtain ⟨hx,hc,hY,gA,gH,gB,gI,gE,gD,gG⟩:=hM;obtain ⟨x,pc,c,m,_,ta,td,tf,d,n,_,bg,ct⟩:=M;dsimp only at *;cases QaJ hx;cases zC8 hc;obtain ⟨_,_,d2⟩:=d;obtain ⟨_,_,n2⟩:=n;dsimp only [Mc.C,Mc.D,Dk.C,Nk.C,Dk.ok,Nk.ok] at *;generalize m.length=nn,wsv m=XX,qV:(ct+1)%18446744073709551616=ct2 at *;clear hY gA gE gD gB gG gH gI;subst hD
 by_cases hP:P=10\/P=11
 .have e:=UV hP
  replace iB:=iB hP;subst e;clear iA hO UW UV;dsimp only [Qdc,oS,oR,Mc.C,Mc.D,Dk.C,Nk.C] at *;simp only [Qaf,zca,zna] at *;rw [hOl,k3] at iB |-;rw [qV];generalize wsv qm=XQ,wsv m2=X2 at *;refine fnW Tryz.func94 ?_;(repeat' ((conv=>whnf);first|exact zi3|refine zj0 fun hb=>?_|refine zq0 ?_|refine zq3 ?_|refine QsU ?_|(refine QaA hc ?_)|(refine QaA q0 ?_)|(refine QaA q1 ?_)|(refine QaA q2 ?_)|(refine QaA iB ?_)|refine zse ?_|refine zbb ?_ ?_))
  all_goals exact Qcy
 .replace iA:=iA hP
  obtain rfl:=UW hP;clear iB hOl UW UV;dsimp only [Qdc,Mc.C,Mc.D,Dk.C,Nk.C] at *;simp only [Qaf,zca,zna] at *;rw [k3] at iA |-;rw [qV];generalize wsv m2=XQ at *
  cases O2 with
  | none =>
   dsimp only [oS,oR] at *;refine fnW Tryz.func94 ?_;(conv=>whnf);(repeat' ((first|exact zi3|refine zj0 fun hb=>?_|refine zq0 ?_|refine zq3 ?_|refine QsU ?_|(refine QaA hc ?_)|(refine QaA q0 ?_)|(refine QaA q1 ?_)|(refine QaA q2 ?_)|(refine QaA iA ?_)|refine zse ?_|refine zbb ?_ ?_)<;>conv=>whnf))
   all_goals first|(exact QbJ)
  | some l =>
   obtain ⟨_,_,_⟩:=hO l rfl;dsimp only [oS,oR] at *;refine fnW Tryz.func94 ?_;(conv=>whnf);(repeat' ((first|exact zi3|refine zj0 fun hb=>?_|refine zq0 ?_|refine zq3 ?_|refine QsU ?_|(refine QaA hc ?_)|(refine QaA q0 ?_)|(refine QaA q1 ?_)|(refine QaA q2 ?_)|(refine QaA iA ?_)|refine zse ?_|refine zbb ?_ ?_)<;>conv=>whnf))
   all_goals first|(exact QDo)
def Qdj (M:Mc) (w:Nat):Mc × Option (List SV):=if Qb3 M=true then (M,none) else Qbh M w
theorem QoD (M:Mc) (w:Nat) (h:¬ eK (QaI M).e=2):(Qbh M w).2=none:=by
 unfold Qbh
 by_cases h1:eK (QaI M).e=1
 .rw [zP h1]
 .rw [zN h1,zN h]
  split
  .rfl
  .split<;>rfl
theorem Qmf (fJ:FN 266 [.s (.str ⟨#[0]⟩),.s (.i 128)] [] (. =⟨.a (.s (.str z128)),[],[]⟩)) (M:Mc) (hM:M.ok) (w:Nat):FN 94 [.agg (M.C 0),.s (.u w)] [⟨false,1,wsv M.m⟩]
  (. =⟨.tup [.agg ((Qdj M w).1.C 1),.s (oS 2 (Qdj M w).2)],[],⟨true,1,wsv (Qdj M w).1.m⟩::oR (Qdj M w).2⟩):=by
 cases hs:Qb3 M
 .have e:Qdj M w=Qbh M w:=by unfold Qdj;rw [hs,zN (by decide)]
  rw [e]
  by_cases h2:eK (QaI M).e=2
  .exact Qph fJ M hM w hs h2
  .rw [QoD M w h2]
   by_cases h1:eK (QaI M).e=1
   .exact Qpf M hM w hs h1
   .exact Qpg M hM w hs h1 h2
 .have e:Qdj M w=(M,none):=by unfold Qdj;rw [hs,zP rfl]
  rw [e];exact Qno M hM w hs
structure Eg where
 (M:Mc) (T:List Te) (B:List Bk) (o:List (List SV)) (f:Nat) (s:Bool)
def Eg.C (E:Eg) (a b c d:Nat):List SV:=E.M.C a++ [.sl b 0 E.T.length,.sl c 0 E.B.length,.sl d 0 E.o.length,.i E.f,.bool E.s]
def Eg.H (E:Eg):List Row:= [⟨true,1,E.C 1 2 3 4⟩,⟨true,1,wsv E.M.m⟩,⟨true,4,tes E.T⟩,⟨true,3,bks E.B⟩,⟨true,4,OLs E.o⟩]
def Eg.R (E:Eg) (v:TV):Res:=⟨v,[(0,some ⟨true,1,E.C 5 6 7 8⟩),(1,none),(2,none),(3,none),(4,none)],[⟨true,1,wsv E.M.m⟩,⟨true,4,tes E.T⟩,⟨true,3,bks E.B⟩,⟨true,4,OLs E.o⟩]⟩
def Eg.Rk (E:Eg) (k:Nat) (v:TV):Res:=⟨v,[(0,some ⟨true,1,E.C k (k+1) (k+2) (k+3)⟩),(1,none),(2,none),(3,none),(4,none)],[⟨true,1,wsv E.M.m⟩,⟨true,4,tes E.T⟩,⟨true,3,bks E.B⟩,⟨true,4,OLs E.o⟩]⟩
structure Eg.ok (E:Eg):Prop where
 (M:E.M.ok) (T:TB E.T) (tl:E.T.length<=8) (B:∀ b∈E.B,b.ok) (bl:E.B.length<=16) (o:Qbe E.o) (ol:E.o.length<=900000) (f:E.f<4294967296)
def cR (M:Mc):Nat:=M.c.getD 6 0
def wrt (fr:Nat) (E:Eg):Eg:= { E with B:=E.B.filter (fun b=>decide (fk b≠(fr:Int))),s:=E.s||decide (fr=E.f) }
def sgm (a:List Nat) (i:Nat):List Nat:=(a.drop (i*32)).take 32
def chg (a b:List Nat) (n:Nat):Nat->List Nat
 | 0=> []
 | i+1=>if sgm a i=sgm b i then chg a b n i else chg a b n i++ [i]
def Qd2 (a b:List Nat) (n:Nat):List Nat:=chg a b n (mpg n)
def QiS (l:List Nat) (E:Eg):Eg:=l.foldl (fun E i=>wrt i E) E
def QcM (E:Eg) (i:Nat):Eg:=if i=cR E.M then { wrt i E with T:= [] } else wrt i E
def QkC (r:Nat) (E:Eg):Eg:=if r=cR E.M then E else { E with T:= [] }
def stl (M0:Mc) (E:Eg):Eg:=(Qd2 M0.m E.M.m E.M.m.length).foldl QcM (QkC (cR M0) E)
def sgl (w:Nat) (E:Eg):Eg:=stl E.M { E with M:=(Qdj E.M w).1,o:=E.o++(Qdj E.M w).2.toList }
def Qos (T:List Te) (pg:Nat) (ac:Int):Option (Nat × Te) :=
 match T[(Qf6 pg T 0).toNat]? with
 | some e=>if 0<=Qf6 pg T 0/\Qsj e.w e.x ac=true then some ((Qf6 pg T 0).toNat,e) else none
 | none=>none
def rsv (E:Eg) (va sz:Nat) (ac:Int):Eg × Nat × Bool :=
 if va%sz≠0 then (E,0,false)
 else if Qdf (E.M.c.getD 0 0)=false then (E,va,decide (va<4*E.M.m.length))
 else match Qos E.T (va / 128) ac with
  | some (i,e)=>({ E with T:=QbB E.T i e },(e.f*128+va%128)%4294967296,true)
  | none=>if Qbo E.M.m E.M.m.length (cR E.M) va ac=true then
    (QiS (Qd2 E.M.m (Qbt E.M.m E.M.m.length (cR E.M) va ac) E.M.m.length) { E with T:=QcI E.T E.M.m E.M.m.length (cR E.M) va ac,M:= { E.M with m:=Qbt E.M.m E.M.m.length (cR E.M) va ac } },frW (QaR E.M.m (cR E.M) va)*128+va%128,true)
   else (E,0,false)
def fnd (E:Eg) (a:Nat):Eg × Bk :=
 match E.B[(QgI a (E.B.map (·.A)) 0).toNat]? with
 | some b=>if 0<=QgI a (E.B.map (·.A)) 0 then ({ E with B:=Qbd E.B (QgI a (E.B.map (·.A)) 0).toNat b },b) else ({ E with B:=Qkz E.B (fdB E.M.m E.M.m.length a 16) },fdB E.M.m E.M.m.length a 16)
 | none=>({ E with B:=Qkz E.B (fdB E.M.m E.M.m.length a 16) },fdB E.M.m E.M.m.length a 16)
def lpc (pc:Nat) (n:Int):Nat:=w32 ((pc:Int)+w32 (4*w32 (n-1)))
def fnE (E:Eg) (a v pc:Nat):Eg:= { E with M:= { E.M with x:=QaD E.M.x a v,pc:=pc } }
def szO (o:Int):Nat:=if o=32\/o=35 then 4 else 1
def ldE (E:Eg) (m:Mi):Eg × Nat × Bool:=rsv E (w32 ((E.M.x.getD m.b 0:Nat)+(m.k:Nat))) (szO m.o) 2
def QhS (E:Eg) (m:Mi) (a:Nat) (v:Nat):Eg :=
 let E2:=wrt (a / 128) { E with M:= { E.M with m:=stM m.o E.M.m a v } }
 if a / 128=cR E.M then { E2 with T:= [],s:=true } else E2
def stE (E:Eg) (m:Mi):Eg × Bool :=
 let r:=rsv E (w32 ((E.M.x.getD m.b 0:Nat)+(m.k:Nat))) (szO m.o) 3
 if r.2.2=true then (QhS r.1 m r.2.1 (E.M.x.getD m.a 0),true) else (E,false)
def exO (E:Eg) (m:Mi):Eg × Bool :=
 if m.o=24 then (fnE E m.a m.k (w32 ((lpc E.M.pc m.n:Nat)+4)),true)
 else if 32<=m.o/\m.o<=34 then
  (if (ldE E m).2.2=true then (fnE (ldE E m).1 m.a (ldV m.o (ldE E m).1.M.m (ldE E m).2.1) (w32 ((lpc E.M.pc m.n:Nat)+4)),true) else (E,false))
 else if m.o=35\/m.o=36 then
  (if (stE E m).2=true then (fnE (stE E m).1 0 0 (w32 ((lpc E.M.pc m.n:Nat)+4)),true) else (E,false))
 else if 40<=m.o/\m.o<=45 then
  (fnE E 0 0 (if Qdk m.o (E.M.x.getD m.a 0) (E.M.x.getD m.b 0)=true then w32 ((lpc E.M.pc m.n:Nat)+(m.k:Nat)) else w32 ((lpc E.M.pc m.n:Nat)+4)),true)
 else if m.o=48 then (fnE E m.a (w32 ((lpc E.M.pc m.n:Nat)+4)) (w32 ((lpc E.M.pc m.n:Nat)+(m.k:Nat))),true)
 else if m.o=49 then (fnE E m.a (w32 ((lpc E.M.pc m.n:Nat)+4)) (w32 ((E.M.x.getD m.b 0:Nat)+(m.k:Nat))),true)
 else if QbV m.o=true then (fnE E m.a (Qbu m.o (E.M.x.getD m.b 0) (if m.o<=13 then E.M.x.getD m.c 0 else m.k)) (w32 ((lpc E.M.pc m.n:Nat)+4)),true)
 else (E,false)
def ctE (n:Nat) (E:Eg):Eg:= { E with M:= { E.M with ct:=(E.M.ct+n)%18446744073709551616 } }
def QfQ:List Mi->Nat->Nat->Eg->Eg × Nat
 | [],_,d,E=>(E,d)
 | m::l,lim,d,E =>
  if lim-d<m.n.toNat then (E,d)
  else if (exO E m).2=false then (E,d)
  else if (exO E m).1.s=true then (ctE m.n.toNat (exO E m).1,d+m.n.toNat)
  else QfQ l lim (d+m.n.toNat) (ctE m.n.toNat (exO E m).1)
def miL (l:List Mz):List Mi:=l.map fun z=>⟨z.o,z.a.toNat,z.b.toNat,z.c.toNat,z.k,z.n⟩
theorem Qyb:∀ l:List Mi,miL (l.map Mi.z)=l
 | []=>rfl
 | m::l=>by
  show (⟨m.o,((m.a:Int)).toNat,((m.b:Int)).toNat,((m.c:Int)).toNat,m.k,m.n⟩:Mi)::miL (l.map Mi.z)=m::l;rw [Qyb l];rfl
def Qe6 (lim:Nat) (E:Eg):Eg × Nat :=
 if E.M.wt=true\/QcY E.M=true then (E,0)
 else if (rsv E E.M.pc 4 1).2.2=false then (E,0)
 else QfQ (miL (fnd (rsv E E.M.pc 4 1).1 (rsv E E.M.pc 4 1).2.1).2.l) lim 0
  { (fnd (rsv E E.M.pc 4 1).1 (rsv E E.M.pc 4 1).2.1).1 with f:=(fnd (rsv E E.M.pc 4 1).1 (rsv E E.M.pc 4 1).2.1).2.A / 128,s:=false }
def Qjp (M:Mc):Bool:=M.ht||Qhk M||decide (1152921504606846976<=M.ct)||Qd5 M
def Qky:Nat->Nat->Nat->Eg->Eg × Nat
 | 0,_,n,E=>(E,n)
 | k+1,lim,n,E =>
  if n<lim/\Qjp E.M=false then
   (if (Qe6 (lim-n) E).2=0 then Qky k lim (n+1) (sgl 0 (Qe6 (lim-n) E).1) else Qky k lim (n+(Qe6 (lim-n) E).2) (Qe6 (lim-n) E).1)
  else (E,n)
theorem QmU (a:List Nat) (i j:Nat) (h:i*32+32<=a.length) (hj:j<32):(sgm a i)[j]?=some (a.getD (i*32+j) 0):=by
 unfold sgm;rw [List.getElem?_take,zP hj,List.getElem?_drop,zgg (by omega),zgd,zgg (by omega)];rfl
theorem Qr0 (a:List Nat) (i:Nat) (h:i*32+32<=a.length):(sgm a i).length=32:=by
 unfold sgm;rw [List.length_take,List.length_drop];omega
theorem Ql9 (a b:List Nat) (n:Nat):∀ k,(chg a b n k).length<=k
 | 0=>Nat.le_refl _
 | k+1=>by
  unfold chg;have:=Ql9 a b n k;split
  .omega
  .rw [zla];show _+1<=_;omega
theorem Qh7 (a b:List Nat) (n:Nat):∀ k i,i∈chg a b n k↔i<k/\sgm a i≠sgm b i
 | 0,i=>by unfold chg;simp
 | k+1,i=>by
  unfold chg;have ih:=Qh7 a b n k i;split
  .rename_i h
   rw [ih];constructor
   .exact fun q=>⟨by omega,q.2⟩
   .rintro ⟨q1,q2⟩
    refine ⟨?_,q2⟩;rcases Nat.lt_or_ge i k with h1|h1
    .exact h1
    .obtain rfl:i=k:=by omega
     exact absurd h q2
  .rename_i h
   rw [List.mem_append,List.mem_singleton,ih];constructor
   .rintro (q|rfl)
    .exact ⟨by omega,q.2⟩
    .exact ⟨by omega,h⟩
   .rintro ⟨q1,q2⟩
    rcases Nat.lt_or_ge i k with h1|h1
    .exact .inl ⟨h1,q2⟩
    .exact .inr (by omega)
def QES (o i:Nat) (LL L2:List SV):St :=
 ⟨[(0,.a (.s (.sl 0 o 32))),(1,.a (.s (.sl 1 o 32))),(12,.a (.s (.i 32))),(13,.a (.s (.i i)))],[(0,some ⟨false,1,LL⟩),(1,some ⟨false,1,L2⟩)],[0]⟩
theorem QpD (xs ys:List Nat) (n i:Nat) (hx:xs.length=n) (hy:ys.length=n) (hi:i*32+32<=n) (hn:n<=1000000) (B:Bool) (hB:decide (sgm xs i=sgm ys i)=B) :
  FN 222 [.s (.sl 0 (i*32) 32),.s (.sl 1 (i*32) 32)] [⟨false,1,wsv xs⟩,⟨false,1,wsv ys⟩] (. =⟨.a (.s (.bool B)),[],[]⟩):=by
 have fK:=Qaa xs;have hsc':=Qaa ys;have hg:=fun j (h:j<n)=>QaZ xs j (by omega)
 have ZS:=fun j (h:j<n)=>QaZ ys j (by omega)
 have ha:=fun j hj=>QmU xs i j (by omega) hj
 have KS:=fun j hj=>QmU ys i j (by omega) hj
 have yZ:=Qr0 xs i (by omega);have hln':=Qr0 ys i (by omega);generalize wsv xs=LL,wsv ys=L2,sgm xs i=S,sgm ys i=S',i*32=o at *;refine fnW Tryz.func222 ?_;(conv=>whnf);(repeat' ((first|exact zi2|refine zj0 fun hb=>?_|refine zse ?_|refine zbb ?_ ?_)<;>conv=>whnf))
 refine Lp.inv (fun mm σ=>∃ j,mm+j=32/\S.take j=S'.take j/\σ=QES o j LL L2) ?_ ?_
 .refine ⟨32,QES o 0 LL L2,?_,0,by omega,rfl,rfl⟩
  (exact zwL [(0,some 0),(1,some 1)])
 rintro mm σ ⟨j,yT,fG,rfl⟩;unfold QES
 by_cases hj:j<32
 .have g0:=hg (o+j) (by omega)
  have g0':=ZS (o+j) (by omega);have a0:=ha j hj;have a0':=KS j hj;have q2:IntKind.i64.wrap ((j:Int)+1)=((j+1:Nat):Int):=QaS;have x1:o+((j:Nat):Int).toNat * ty26.size=o+j:=by show o+((j:Nat):Int).toNat * 1=_;omega
  generalize xs.getD (o+j) 0=y,ys.getD (o+j) 0=y' at *
  by_cases hyy:y=y'
  .have gW:=QfI fG a0 a0' hyy
   subst hyy;clear fG hB a0 a0' ha KS hg ZS;(conv=>whnf);(repeat' ((first|exact zi2|refine zj0 fun hb=>?_|refine QhW ?_|refine zq6 ?_|((with_reducible apply Ge.mk (α:=SV)); . first|exact g0|exact g0')|refine Qew ?_|refine zse ?_|refine zbb ?_ ?_)<;>conv=>whnf))
   all_goals first
    | (
      refine ⟨mm-1,QES o (j+1) LL L2,by omega,?_,j+1,by omega,gW,rfl⟩
      (exact zwL [(0,some 0),(1,some 1)]))
  .obtain rfl:B=false:=by rw [<- hB];exact zdf (QmB a0 a0' hyy)
   have hy2:¬ ((y:Nat):Int)=(y':Int):=by omega
   clear fG hB a0 a0' ha KS hg ZS;(repeat' ((conv=>whnf);first|exact zi2|refine zj0 fun hb=>?_|refine zq6 ?_|((with_reducible apply Ge.mk (α:=SV)); . first|exact g0|exact g0')|refine Qew ?_|refine zse ?_|refine zbb ?_ ?_))
   all_goals exact Qhs
 .obtain rfl:j=32:=by omega
  obtain rfl:B=true:=by
   rw [<- hB];rw [List.take_of_length_le (by omega),List.take_of_length_le (by omega)] at fG;exact zdt fG
  clear ha KS hg ZS;exact Qvl
def Qh8 (n P j r:Nat) (A X Y R:List SV):St :=
 ⟨[(0,.a (.s (.sl 0 0 n))),(1,.a (.s (.sl 1 0 n))),(6,.a (.s (.sl 2 0 r))),(16,.a (.s (.i P))),(17,.a (.s (.i j)))],
  [(0,some ⟨false,1,X⟩),(1,some ⟨false,1,Y⟩),(2,some ⟨true,1,R⟩)],[0]⟩
def frs (l:List Nat):List SV:=isv .i64 (l.map fun (i:Nat)=>(i:Int))
theorem QxN (l:List Nat) (i:Nat):frs (l++ [i])=frs l++ [.i i]:=by unfold frs isv;rw [List.map_append,List.map_append];rfl
theorem QxO (l:List Nat):(frs l).length=l.length:=by unfold frs isv;rw [List.length_map,List.length_map]
theorem Qf3 (l:List Nat):Qao (frs l)=true:=QaM _ _
theorem Qhy (xs ys:List Nat) (n:Nat) (hx:xs.length=n) (hy:ys.length=n) (hn:n<=1000000):FN 154 [.s (.sl 0 0 n),.s (.sl 1 0 n)] [⟨false,1,wsv xs⟩,⟨false,1,wsv ys⟩]
  (. =⟨.a (.s (.sl 2 0 (Qd2 xs ys n).length)),[],[⟨true,1,frs (Qd2 xs ys n)⟩]⟩):=by
 have p1:=QbI xs n (by omega);have p2:=QbI ys n (by omega);have fK:=Qaa xs;have hsc':=Qaa ys;have FU:=wsv_length xs;have hly:=wsv_length ys;have uF:=QaT n;have hmn:mpg n*32<=n:=Qeu;have ZO:=fun i (h:i<mpg n)=>QpD xs ys n i hx hy (by omega) hn _ rfl
 unfold Qd2;generalize mpg n=P at *;obtain ⟨R,hR⟩:∃ R,chg xs ys n P=R:=⟨_,rfl⟩;rw [hR];generalize wsv xs=LL,wsv ys=L2 at *;refine fnW Tryz.func154 ?_;(conv=>whnf);(repeat' ((first|exact zi2|refine zj0 fun hb=>?_|(refine QaA p1 ?_)|(refine QaA p2 ?_)|refine zse ?_|refine zbb ?_ ?_)<;>conv=>whnf))
 all_goals first|skip
 refine Lp.inv (fun mm σ=>∃ j,mm+j=P/\σ=Qh8 n P j (chg xs ys n j).length [] LL L2 (frs (chg xs ys n j))) ?_ ?_
 .refine ⟨P,Qh8 n P 0 0 [] LL L2 [],?_,0,by omega,rfl⟩
  (exact zwL [(0,some 0),(1,some 1),(2,none)])
 rintro mm σ ⟨j,yT,rfl⟩;unfold Qh8;have gK:=Ql9 xs ys n j;have WC:=Qf3 (chg xs ys n j);have GR:=QxO (chg xs ys n j)
 by_cases hj:j<P
 .have ce:=ZO j hj
  have wI:j*32+32<=n:=by omega
  have q1:IntKind.i64.wrap ((j:Int)*32)=((j*32:Nat):Int):=QaS;have q2:IntKind.i64.wrap ((j:Int)+1)=((j+1:Nat):Int):=QaS;have q3:IntKind.i64.wrap (((j+1:Nat):Int)*32)=((j*32+32:Nat):Int):=QaS;have e3:(((j*32+32:Nat):Int)-((j*32:Nat):Int)).toNat=32:=by omega
  have e4:0+((j*32:Nat):Int).toNat * ty26.size=j*32:=by show 0+((j*32:Nat):Int).toNat * 1=_;omega
  have hap:=QxN (chg xs ys n j) j;have JP:=Qf3 (chg xs ys n (j+1));clear ZO
  by_cases hs:sgm xs j=sgm ys j
  .rw [zdt hs] at ce
   have gN:chg xs ys n (j+1)=chg xs ys n j:=by show (if _ then _ else _)=_;rw [zP hs]
   rw [gN] at JP;have hK:Qh8 n P (j+1) (chg xs ys n (j+1)).length [] LL L2 (frs (chg xs ys n (j+1)))=Qh8 n P (j+1) (chg xs ys n j).length [] LL L2 (frs (chg xs ys n j)):=by rw [gN]
   generalize (chg xs ys n j).length=r,HA:frs (chg xs ys n j)=RR,j*32=o at *;(conv=>whnf);(repeat' ((first|exact zi2|refine zj0 fun hb=>?_|refine QHj ?_|refine QIo ?_|(refine Qag ce [⟨0,0⟩,⟨1,0⟩] [(0,_),(1,_)] (by simp [QcZ,QcQ,Qc7,Qop]) ⟨rfl,rfl,trivial⟩ ⟨rfl,Qap (by assumption),rfl,Qap (by assumption),trivial⟩ ⟨rfl,Qcu rfl⟩ ?_)|refine zse ?_|refine zbb ?_ ?_)<;>conv=>whnf))
   all_goals first
    | (
      refine ⟨mm-1,Qh8 n P (j+1) r [] LL L2 RR,by omega,?_,j+1,by omega,hK.symm⟩
      (exact zwL [(0,some 0),(1,some 1),(2,some _)]))
  .rw [zdf hs] at ce
   have gN:chg xs ys n (j+1)=chg xs ys n j++ [j]:=by show (if _ then _ else _)=_;rw [zN hs]
   rw [gN] at JP;have hK:Qh8 n P (j+1) (chg xs ys n (j+1)).length [] LL L2 (frs (chg xs ys n (j+1)))=Qh8 n P (j+1) ((chg xs ys n j).length+1) [] LL L2 (frs (chg xs ys n j++ [j])):=by rw [gN,zla];rfl
   generalize (chg xs ys n j).length=r,frs (chg xs ys n j++ [j])=R3,HA:frs (chg xs ys n j)=RR,j*32=o at *;(conv=>whnf);(repeat' ((first|exact zi2|refine zj0 fun hb=>?_|refine QHj ?_|refine QIo ?_|(refine Qag ce [⟨0,0⟩,⟨1,0⟩] [(0,_),(1,_)] (by simp [QcZ,QcQ,Qc7,Qop]) ⟨rfl,rfl,trivial⟩ ⟨rfl,Qap (by assumption),rfl,Qap (by assumption),trivial⟩ ⟨rfl,Qcu rfl⟩ ?_)|((with_reducible apply Vl.mk (α:=List SV)); . with_reducible exact hap.symm)|(apply Sd.mk; . (refine ⟨rfl,rfl,?_,?_,?_⟩;(focus (show RR.length=r*1;omega));(focus (show (r+1)*8<=_;omega));omega))|refine zse ?_|refine zbb ?_ ?_)<;>conv=>whnf))
   all_goals first
    | (
      refine ⟨mm-1,Qh8 n P (j+1) (r+1) [] LL L2 R3,by omega,?_,j+1,by omega,hK.symm⟩
      (exact zwL [(0,some 0),(1,some 1),(2,some 327872)]))
 .obtain rfl:j=P:=by omega
  rw [hR] at WC |-;clear ZO gK GR;generalize HA:frs R=RR at *;(repeat' ((conv=>whnf);first|exact zi2|refine zj0 fun hb=>?_|refine zse ?_|refine zbb ?_ ?_))
  all_goals exact QsJ
end Go.Proofs.YtpgkkfajljekpabGreat
