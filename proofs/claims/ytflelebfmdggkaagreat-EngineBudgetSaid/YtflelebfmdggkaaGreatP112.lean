import Derived.Test.YtflelebfmdggkaaGreatP108
import Derived.Test.YtflelebfmdggkaaGreatP110
set_option linter.unusedSimpArgs false
set_option linter.unusedVariables false
set_option maxHeartbeats 100000000
set_option maxRecDepth 100000
namespace Go.Proofs.YtflelebfmdggkaaGreat
open Go Go.RowKit
theorem QnJ (fI:FN 251 [.s (.str ⟨#[0]⟩),.s (.i 128)] [] (· =⟨.a (.s (.str z128)),[],[]⟩)) (M:Mc) (hM:M.ok) (p:Int) (v:Nat) (hv:v<4294967296) (hp:p=10∨p=11):FN 154 [.agg (M.C 0),.s (.i p),.s (.u v),.s (.w M.ct)] [⟨false,1,wsv M.m⟩]
  (· =⟨.tup [.agg ((Qbz M p v).1.C 1),.s .nilsl],[],[⟨true,1,wsv (Qbz M p v).1.m⟩]⟩):=by
 have q6:=QnX fI M.bt M.bg hM.dv.2.2.1 M.m _ rfl hM.ml p v hv;have UA:=QeH M.m M.bg M.m.length p v;have gL:=Qaa M.m;have jK:=Qaa (QfG M.m M.bg M.m.length p v)
 have hD:Qbz M p v=({ M with bg:=Qg0 M.bg M.m.length p v,m:=QfG M.m M.bg M.m.length p v },none):=by
  unfold Qbz;rw [zN (by omega),zN (by omega),zN (by omega),zN (by omega),zN (by omega)]
 rw [hD];clear hD fI;generalize Qg0 M.bg M.m.length p v=gb,QfG M.m M.bg M.m.length p v=gm at *;dsimp only [Mc.C,Mc.D];rw [UA];obtain ⟨hx,hc,hY,gA,gH,gB,_,gE,gD,gF⟩:=hM;obtain ⟨_,_,_,m,_,_,_,_,d,n,bt,bg,ct⟩:=M;dsimp only at *;obtain ⟨_,_,_,_,_,_,_,_,_,_,_,_,_,_,_,_,rfl⟩:=Qav hx;obtain ⟨_,_,_,_,_,_,_,_,rfl⟩:=QaM hc;cases d;cases n;dsimp only [Mc.C,Mc.D,Dk.C,Nk.C,Dk.ok,Nk.ok] at *;generalize m.length=nn,wsv m=XX,wsv gm=GG at *;simp only [Qah,List.cons_append,List.nil_append] at *;clear hY gA gE gD gB gF gH;rcases hp with rfl|rfl
 all_goals
  refine fnW Tryz.func154 ?_;(repeat' ((conv=>whnf);first|exact zi2|(refine zj0 ?_;intro hb)|refine zq0 ?_|(refine QaD q6 ?_)|refine zse ?_|refine zbb ?_ ?_))
  all_goals exact QfE
theorem QE3 {k:ByteArray} (h:k.size=0):(k.toList==(⟨#[]⟩:ByteArray).toList)=true:=by
 show noD k=true;rw [Qix];exact decide_eq_true h
theorem QFB {k:ByteArray} (h:¬ k.size=0):(k.toList==(⟨#[]⟩:ByteArray).toList)=false:=by
 show noD k=false;rw [Qix];exact decide_eq_false h
theorem Qrx (k:ByteArray) (hk:k.size≤1000000) (p:Int):FN 219 [.agg [.str k],.s (.i p)] [] (· =⟨.tup [.agg [.str (Qll k p)],.s (.u (Qoc k p:Nat))],[],[]⟩):=by
 obtain ⟨A,hA⟩:∃ B,Qll k p=B:=⟨_,rfl⟩;obtain ⟨B,hB⟩:∃ B,Qoc k p=B:=⟨_,rfl⟩;rw [hA,hB];unfold Qll at hA;unfold Qoc at hB
 by_cases h4:p=0
 ·rw [zP h4] at hA hB
  subst h4
  by_cases h0:k.size=0
  ·rw [zP h0] at hA
   have hn:k[0]?=none:=by simp [h0]
   rw [hn] at hB;have qH:=QE3 h0;subst hA hB;dsimp only;refine fnW Tryz.func219 ?_;(repeat' ((conv=>whnf);first|exact zi2|(refine zj0 ?_;intro hb)|refine QCv ?_|refine zse ?_|refine zbb ?_ ?_))
   all_goals exact zF_
  ·rw [zN h0] at hA
   have hn:k[0]?=some k[0]:=by simp
   rw [hn] at hB;have qH:=QFB h0;have gT:=UInt8.toNat_lt k[0];generalize k[0]=b at *;subst hA hB;dsimp only;refine fnW Tryz.func219 ?_;(repeat' ((conv=>whnf);first|exact zi2|(refine zj0 ?_;intro hb)|((with_reducible apply Ge.mk (α:=UInt8)); · exact hn)|refine QCv ?_|refine zse ?_|refine zbb ?_ ?_))
   all_goals exact zF_
 rw [zN h4] at hA hB
 by_cases h5:p=1
 ·rw [zP h5] at hB
  subst h5 hA hB;refine fnW Tryz.func219 ?_;exact QKf
 rw [zN h5] at hB;subst hA hB;refine fnW Tryz.func219 ?_;exact QnI
theorem Qjp (M:Mc) (hM:M.ok) (p:Int) (w:Nat):FN 153 [.agg (M.C 0),.s (.i p),.s (.u w)] [⟨false,1,wsv M.m⟩]
  (· =⟨.tup [.agg ((inM M p).C 0),.s (.u (inV M p w:Nat))],[],[]⟩):=by
 have q1:=Qrx M.ks hM.dv.2.2.2.2 p;have q2:=Qst M.ta M.td M.tf;have q3:=Qqq M.d p;have q4:=Qsn M.n p;have q5:=Qsg M.bt M.bg hM.dv.2.2.1 p;have gL:=Qaa M.m;obtain ⟨B,hB⟩:∃ B,inV M p w=B:=⟨_,rfl⟩;obtain ⟨M2,wI⟩:∃ B,inM M p=B:=⟨_,rfl⟩
 have wS:¬ (0≤p∧p≤11)→B=0∧M2=M:=by
  intro h;constructor
  ·rw [← hB]
   unfold inV;split
   ·unfold Qoc
    rw [zN (by omega),zN (by omega)]
   ·rw [zN (by omega),zN (by omega),zN (by omega),zN (by omega)]
    unfold QgO;rw [zN (by omega),zN (by omega)]
  ·rw [← wI]
   unfold inM;split
   ·unfold Qll
    rw [zN (by omega)]
   ·rfl
 rw [hB,wI];unfold inV at hB;unfold inM at wI;generalize Qoc M.ks p=v1,Qll M.ks p=k2,QmV M.tf=v2,Qg8 M.d p=v3,QgZ M.n p=v4,QgO M.bt M.bg p=v5 at *;obtain ⟨hx,hc,hY,gA,gH,gB,_,gE,gD,gF⟩:=hM;obtain ⟨_,_,_,m,ks,ta,td,tf,d,n,bt,bg⟩:=M;dsimp only at *;obtain ⟨_,_,_,_,_,_,_,_,_,_,_,_,_,_,_,_,rfl⟩:=Qav hx;obtain ⟨_,_,_,_,_,_,_,_,rfl⟩:=QaM hc;cases d;cases n;dsimp only [Mc.C,Mc.D,Dk.C,Nk.C,Dk.ok,Nk.ok] at *;generalize gJ:m.length=nn,wsv m=XX at *;simp only [Qah,List.cons_append,List.nil_append] at *;clear hY gA gE gD gB gF gH
 by_cases h1:0≤p∧p≤1
 ·rw [zP h1.2] at hB wI
  subst hB wI;clear wS;dsimp only [Mc.C,Mc.D];simp only [Qah,List.cons_append,List.nil_append];rw [gJ];have e:p=0∨p=1:=by omega
  rcases e with rfl|rfl
  all_goals
   refine fnW Tryz.func153 ?_;(repeat' ((conv=>whnf);first|exact zi2|(refine zj0 ?_;intro hb)|refine zq0 ?_|(refine zpu q1 ?_)|refine zse ?_|refine zbb ?_ ?_))
   all_goals exact Qrv
 by_cases vX:0≤p∧p≤11
 case neg =>
  obtain ⟨rfl,rfl⟩:=wS vX;clear hB wI;dsimp only [Mc.C,Mc.D];simp only [Qah,List.cons_append,List.nil_append];rw [gJ];refine fnW Tryz.func153 ?_;exact QCG
 clear wS;rw [zN (by omega)] at hB wI;subst wI;dsimp only [Mc.C,Mc.D];simp only [Qah,List.cons_append,List.nil_append];rw [gJ]
 by_cases h2:p=2
 ·rw [zP h2] at hB
  subst hB h2;refine fnW Tryz.func153 ?_;exact QxY
 rw [zN h2] at hB
 by_cases h3:p=3
 ·rw [zP h3] at hB
  subst hB h3;refine fnW Tryz.func153 ?_;(repeat' ((conv=>whnf);first|exact zi2|(refine zj0 ?_;intro hb)|refine zq0 ?_|(refine zpu q2 ?_)|refine zse ?_|refine zbb ?_ ?_))
  all_goals exact Qrv
 rw [zN h3] at hB
 by_cases h4:p≤6
 ·rw [zP h4] at hB
  subst hB;have e:p=4∨p=5∨p=6:=by omega
  rcases e with rfl|rfl|rfl
  all_goals
   refine fnW Tryz.func153 ?_;exact Qp2
 rw [zN h4] at hB
 by_cases h5:p≤9
 ·rw [zP h5] at hB
  subst hB;have e:p=7∨p=8∨p=9:=by omega
  rcases e with rfl|rfl|rfl
  all_goals
   refine fnW Tryz.func153 ?_;(repeat' ((conv=>whnf);first|exact zi2|(refine zj0 ?_;intro hb)|refine zq0 ?_|(refine zpu q4 ?_)|refine zse ?_|refine zbb ?_ ?_))
   all_goals exact Qrv
 rw [zN h5] at hB;subst hB;have e:p=10∨p=11:=by omega
 rcases e with rfl|rfl
 all_goals
  refine fnW Tryz.func153 ?_;(repeat' ((conv=>whnf);first|exact zi2|(refine zj0 ?_;intro hb)|refine zq0 ?_|(refine zpu q5 ?_)|refine zse ?_|refine zbb ?_ ?_))
  all_goals exact Qrv
theorem Qn4 (M:Mc) (hM:M.ok) (w:Nat) (hs:Qcv M=true):FN 86 [.agg (M.C 0),.s (.u w)] [⟨false,1,wsv M.m⟩]
  (· =⟨.tup [.agg (M.C 1),.s .nilsl],[],[⟨true,1,wsv M.m⟩]⟩):=by
 have hc:=QbH M.m _ rfl (by have:=hM.ml;omega);have hr:=QeK M hM;rw [hs] at hr;have gL:=Qaa M.m;clear hs;obtain ⟨hx,hc,hY,gA,gH,gB,_,gE,gD,gF⟩:=hM;obtain ⟨_,_,_,m,_,_,_,_,d,n⟩:=M;dsimp only at *;obtain ⟨_,_,_,_,_,_,_,_,_,_,_,_,_,_,_,_,rfl⟩:=Qav hx;obtain ⟨_,_,_,_,_,_,_,_,rfl⟩:=QaM hc;cases d;cases n;dsimp only [Mc.C,Mc.D,Dk.C,Nk.C,Dk.ok,Nk.ok] at *;generalize m.length=nn,wsv m=XX at *;simp only [Qah,List.cons_append,List.nil_append] at *;clear hY gA gE gD gB gF gH;refine fnW Tryz.func86 ?_;(repeat' ((conv=>whnf);first|exact zi3|(refine zj0 ?_;intro hb)|refine zq0 ?_|(refine QaD hc ?_)|(refine QaD hr ?_)|refine zse ?_|refine zbb ?_ ?_))
 all_goals exact Qe8
theorem QoW (M:Mc) (hM:M.ok) (w:Nat) (hs:Qcv M=false) (yL:¬ eK (QaJ M).e=1) (jC:¬ eK (QaJ M).e=2):FN 86 [.agg (M.C 0),.s (.u w)] [⟨false,1,wsv M.m⟩]
  (· =⟨.tup [.agg ((Qbh M w).1.C 1),.s .nilsl],[],[⟨true,1,wsv (Qbh M w).1.m⟩]⟩):=by
 have hc:=QbH M.m _ rfl (by have:=hM.ml;omega);have q0:=QeK M hM;have q1:=QeN M hM;have q2:=QfM M.x (Qdd M) (Qda M) M.m M.m.length hM.x (Qbw M hM) (Qel M hM) (Qd2 M hM) rfl hM.mr (by have:=hM.ml;omega) hM.xr _ rfl;rw [hs] at q0;obtain ⟨k1,k2,k3,k4,k5,k6,k7,K,_,_,_,k8,_,_⟩:=QbY M hM;change Fn _ _ _ _ (· =⟨.tup [.agg (Qay (QaJ M).x (QaJ M).pc (QaJ M).c),.s (.sl 1 0 M.m.length),.agg (QaJ M).e],[],[⟨true,1,wsv (QaJ M).m⟩]⟩) at q2;have FJ:IntKind.u64.wrap ((M.ct:Int)+1)=(((M.ct+1)%18446744073709551616:Nat):Int):=by rw [QnY];omega
 obtain ⟨D,hD⟩:∃ D,(Qbh M w).1=D:=⟨_,rfl⟩;rw [hD];unfold Qbh at hD;rw [zN yL,zN jC] at hD;have vO:=Qaa M.m;have hi:=Qbw M hM;clear hs;unfold Qz0 at q1;dsimp only [Mc.C] at q1;unfold QaG at hD;generalize QaJ M=Q,Qdd M=ip,Qda M=ic at *;obtain ⟨qx,qp,qc,qm,qe⟩:=Q;dsimp only at *;subst k8;change ¬ K=1 at yL;change ¬ K=2 at jC;change (if K=3 then _ else if K=4 then _ else _:Mc × Option (List SV)).1=D at hD;unfold efS at *;obtain ⟨_,_,_,_,_,_,_,_,_,_,_,_,_,_,_,_,rfl⟩:=Qav k1;obtain ⟨_,_,_,_,_,_,_,_,rfl⟩:=QaM k2;obtain ⟨_,_,_,_,_,_,_,_,rfl⟩:=QaM hi;have UB:=Qaa qm;clear k1 k2 k4 k5 k6 k7;obtain ⟨hx,hc,hY,gA,gH,gB,gI,gE,gD,gF⟩:=hM;obtain ⟨x,pc,c,m,_,_,_,_,d,n,_,_,ct⟩:=M;dsimp only at *;obtain ⟨_,_,_,_,_,_,_,_,_,_,_,_,_,_,_,_,rfl⟩:=Qav hx;obtain ⟨_,_,_,_,_,_,_,_,rfl⟩:=QaM hc;cases d;cases n;dsimp only [Mc.C,Mc.D,Dk.C,Nk.C,Dk.ok,Nk.ok] at *;generalize m.length=nn,wsv m=XX,hXQ:wsv qm=XQ,qZ:(ct+1)%18446744073709551616=ct2 at *;clear hY gA gE gD gB gF gH gI
 by_cases h3:K=3
 ·rw [zP h3] at hD
  subst h3 hD;dsimp only [Qdb,Mc.C,Mc.D,Dk.C,Nk.C] at *;simp only [Qah,List.cons_append,List.nil_append] at *;rw [qZ,k3,hXQ];refine fnW Tryz.func86 ?_;exact QeY
 rw [zN h3] at hD
 by_cases h4:K=4
 ·rw [zP h4] at hD
  subst h4 hD;dsimp only [Qdb,Mc.C,Mc.D,Dk.C,Nk.C] at *;simp only [Qah,List.cons_append,List.nil_append] at *;rw [qZ,k3,hXQ];refine fnW Tryz.func86 ?_;exact QeY
 rw [zN h4] at hD;subst hD;dsimp only [Qdb,Mc.C,Mc.D,Dk.C,Nk.C] at *;simp only [Qah,List.cons_append,List.nil_append] at *;rw [qZ,k3,hXQ];refine fnW Tryz.func86 ?_;exact QeY
theorem Qy9 (x:List Nat) (R v:Nat) (rest:List SV) (hR:R<x.length):QaC (wsv x++rest) R [.u (v:Nat)]=wsv (x.set R v)++rest:=by
 show (wsv x++rest).set R _=_;rw [List.set_append_left _ _ (by rw [wsv_length];exact hR)];unfold wsv;rw [List.map_set]
theorem QAV (M:Mc) (p:Int):inM M p= { M with ks:=(inM M p).ks }:=by
 unfold inM;split<;>rfl
theorem Qqs (M:Mc) (hM:M.ok) (w:Nat) (hs:Qcv M=false) (yL:eK (QaJ M).e=1):FN 86 [.agg (M.C 0),.s (.u w)] [⟨false,1,wsv M.m⟩]
  (· =⟨.tup [.agg ((Qbh M w).1.C 1),.s .nilsl],[],[⟨true,1,wsv (Qbh M w).1.m⟩]⟩):=by
 have hc:=QbH M.m _ rfl (by have:=hM.ml;omega);have q0:=QeK M hM;have q1:=QeN M hM;have q2:=QfM M.x (Qdd M) (Qda M) M.m M.m.length hM.x (Qbw M hM) (Qel M hM) (Qd2 M hM) rfl hM.mr (by have:=hM.ml;omega) hM.xr _ rfl;rw [hs] at q0;obtain ⟨k1,k2,k3,k4,k5,k6,k7,K,P,R,_,k8,_,_⟩:=QbY M hM;have i1:=Qjp (QaG M) (QdN M hM) P w;change Fn _ _ _ _ (· =⟨.tup [.agg (Qay (QaJ M).x (QaJ M).pc (QaJ M).c),.s (.sl 1 0 M.m.length),.agg (QaJ M).e],[],[⟨true,1,wsv (QaJ M).m⟩]⟩) at q2;have FJ:IntKind.u64.wrap ((M.ct:Int)+1)=(((M.ct+1)%18446744073709551616:Nat):Int):=by rw [QnY];omega
 obtain ⟨D,hD⟩:∃ D,(Qbh M w).1=D:=⟨_,rfl⟩;rw [hD];unfold Qbh at hD;rw [zP yL,k8] at hD;change Qdb { inM (QaG M) P with x:=QaE (QaG M).x R (inV (QaG M) P w) }=D at hD;rw [QAV] at hD i1;have hX3:=Qaz (QaG M).x R (inV (QaG M) P w);have hXs:¬ R=0→QaE (QaG M).x R (inV (QaG M) P w)=(QaG M).x.set R (inV (QaG M) P w):=fun h=>by unfold QaE;rw [zN h]
 have KI:R=0→QaE (QaG M).x R (inV (QaG M) P w)=(QaG M).x:=fun h=>by unfold QaE;rw [zP h]
 generalize QaE (QaG M).x R (inV (QaG M) P w)=X2 at *;generalize inV (QaG M) P w=v1,(inM (QaG M) P).ks=ks2 at *;have vO:=Qaa M.m;have hi:=Qbw M hM;clear hs;unfold Qz0 at q1;dsimp only [Mc.C] at q1;unfold QaG at *;generalize QaJ M=Q,Qdd M=ip,Qda M=ic at *;obtain ⟨qx,qp,qc,qm,qe⟩:=Q;dsimp only at *;subst k8;obtain rfl:K=1:=yL;unfold efS at *;have fC:¬ R=0→∀ rest:List SV,QaC (wsv qx++rest) R [.u (v1:Nat)]=wsv X2++rest:=fun h rest=>by rw [hXs h];exact Qy9 qx R v1 rest (by omega)
 clear hXs;obtain ⟨_,_,_,_,_,_,_,_,_,_,_,_,_,_,_,_,rfl⟩:=Qav k1;obtain ⟨_,_,_,_,_,_,_,_,rfl⟩:=QaM k2;obtain ⟨_,_,_,_,_,_,_,_,rfl⟩:=QaM hi;obtain ⟨_,_,_,_,_,_,_,_,_,_,_,_,_,_,_,_,rfl⟩:=Qav (hX3.trans rfl);have UB:=Qaa qm;clear k1 k2 k4 k5 k6 k7 hX3;obtain ⟨hx,hc,hY,gA,gH,gB,gI,gE,gD,gF⟩:=hM;obtain ⟨x,pc,c,m,ks,_,_,_,d,n,_,_,ct⟩:=M;dsimp only at *;obtain ⟨_,_,_,_,_,_,_,_,_,_,_,_,_,_,_,_,rfl⟩:=Qav hx;obtain ⟨_,_,_,_,_,_,_,_,rfl⟩:=QaM hc;cases d;cases n;dsimp only [Mc.C,Mc.D,Dk.C,Nk.C,Dk.ok,Nk.ok] at *;generalize m.length=nn,wsv m=XX,hXQ:wsv qm=XQ,qZ:(ct+1)%18446744073709551616=ct2 at *;clear hY gA gE gD gB gF gH gI;subst hD;dsimp only [Qdb,Mc.C,Mc.D,Dk.C,Nk.C] at *;simp only [Qah,List.cons_append,List.nil_append] at *;rw [k3] at i1;rw [qZ,k3,hXQ]
 by_cases VG:R=0
 ·have e:=KI VG
  simp only [List.cons.injEq,and_true] at e;obtain ⟨rfl,rfl,rfl,rfl,rfl,rfl,rfl,rfl,rfl,rfl,rfl,rfl,rfl,rfl,rfl,rfl⟩:=e;clear fC KI;subst VG;refine fnW Tryz.func86 ?_;(repeat' ((conv=>whnf);first|exact zi3|(refine zj0 ?_;intro hb)|refine zq0 ?_|refine zq3 ?_|refine Qsz ?_|(refine QaD hc ?_)|(refine QaD q0 ?_)|(refine QaD q1 ?_)|(refine QaD q2 ?_)|(refine QaD i1 ?_)|refine zse ?_|refine zbb ?_ ?_))
  all_goals exact QfE
 ·have gY:=fC VG
  clear fC KI;simp only [wsv,List.map_cons,List.map_nil,List.cons_append,List.nil_append] at gY;refine fnW Tryz.func86 ?_;(repeat' ((conv=>whnf);first|exact zi3|(refine zj0 ?_;intro hb)|refine zq0 ?_|refine zq3 ?_|refine Qsz ?_|(refine QaD hc ?_)|(refine QaD q0 ?_)|(refine QaD q1 ?_)|(refine QaD q2 ?_)|(refine QaD i1 ?_)|(apply Sd.mk; · first|(refine ⟨rfl,rfl,rfl,?_⟩;show R+1≤49;omega)|(show (0:Int)≤R∧(R:Int)<16;omega))|((with_reducible apply Vl.mk (α:=List SV)); · exact gY _)|refine zse ?_|refine zbb ?_ ?_));all_goals (conv=>whnf)
  all_goals first|(exfalso;simp at hb;omega)|(exact QbA)
end Go.Proofs.YtflelebfmdggkaaGreat
