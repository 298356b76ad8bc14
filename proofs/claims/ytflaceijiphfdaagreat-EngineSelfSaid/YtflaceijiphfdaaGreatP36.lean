import Derived.Test.YtflaceijiphfdaaGreatP24
import Derived.Test.YtflaceijiphfdaaGreatP26
import Derived.Test.YtflaceijiphfdaaGreatP28
import Derived.Test.YtflaceijiphfdaaGreatP32
import Derived.Test.YtflaceijiphfdaaGreatP34
import Derived.Test.YtflaceijiphfdaaGreatP35
set_option linter.unusedSimpArgs false
set_option linter.unusedVariables false
set_option maxHeartbeats 0
set_option maxRecDepth 100000
namespace Go.Proofs.YtflaceijiphfdaaGreat
open Go Go.RowKit
theorem QyS (x:List Nat) (R v:Nat) (rest:List SV) (hR:R<x.length):QaB (wsv x++rest) R [.u (v:Nat)]=wsv (x.set R v)++rest:=by
 show (wsv x++rest).set R _=_;rw [List.set_append_left _ _ (by rw [wsv_length];exact hR)];unfold wsv;rw [List.map_set]
theorem QBz (M:Mc) (p:Int):inM M p= { M with ks:=(inM M p).ks }:=by
 unfold inM;split<;>rfl
theorem QoN (M:Mc) (hM:M.ok) (w:Nat) (hs:Qch M=false) (wB:eK (QaI M).e=1):FN 78 [.agg (M.C 0),.s (.u w)] [⟨false,1,wsv M.m⟩]
  (. =⟨.tup [.agg ((Qbi M w).1.C 1),.s .nilsl],[],[⟨true,1,wsv (Qbi M w).1.m⟩]⟩):=by
 have hc:=QbC M.m _ rfl (by have:=hM.ml;omega);have q0:=Qeu M hM;have q1:=Qer M hM;have q2:=QfJ M.x (Qdm M) (Qdl M) M.m M.m.length hM.x (Qbt M hM) (Qd7 M hM) (Qd8 M hM) rfl hM.mr (by have:=hM.ml;omega) hM.xr _ rfl;rw [hs] at q0;obtain ⟨k1,k2,k3,k4,k5,k6,k7,K,P,R,_,k8,_,_⟩:=Qcc M hM;have i1:=Qi0 (QaF M) (QdK M hM) P w;change Fn _ _ _ _ (. =⟨.tup [.agg (Qax (QaI M).x (QaI M).pc (QaI M).c),.s (.sl 1 0 M.m.length),.agg (QaI M).e],[],[⟨true,1,wsv (QaI M).m⟩]⟩) at q2;have GP:IntKind.u64.wrap ((M.ct:Int)+1)=(((M.ct+1)%18446744073709551616:Nat):Int):=by rw [QnP];omega
 obtain ⟨D,hD⟩:∃ D,(Qbi M w).1=D:=⟨_,rfl⟩;rw [hD];unfold Qbi at hD;rw [zP wB,k8] at hD;change Qdk { inM (QaF M) P with x:=QaC (QaF M).x R (inV (QaF M) P w) }=D at hD;rw [QBz] at hD i1;have hX3:=Qay (QaF M).x R (inV (QaF M) P w);have hXs:¬ R=0->QaC (QaF M).x R (inV (QaF M) P w)=(QaF M).x.set R (inV (QaF M) P w):=fun h=>by unfold QaC;rw [zN h]
 have ZG:R=0->QaC (QaF M).x R (inV (QaF M) P w)=(QaF M).x:=fun h=>by unfold QaC;rw [zP h]
 generalize QaC (QaF M).x R (inV (QaF M) P w)=X2 at *;generalize inV (QaF M) P w=v1,(inM (QaF M) P).ks=ks2 at *;have yK:=Qaa M.m;have hi:=Qbt M hM;clear hs;unfold QzV at q1;dsimp only [Mc.C] at q1;unfold QaF at *;generalize QaI M=Q,Qdm M=ip,Qdl M=ic at *;obtain ⟨qx,_,_,qm,_⟩:=Q;dsimp only at *;subst k8;obtain rfl:K=1:=wB;unfold efS at *;have gY:¬ R=0->∀ rest:List SV,QaB (wsv qx++rest) R [.u (v1:Nat)]=wsv X2++rest:=fun h rest=>by rw [hXs h];exact QyS qx R v1 rest (by omega)
 clear hXs;cases QaO k1;cases zC8 k2;cases zC8 hi;obtain ⟨_,_,_,_,_,_,_,_,_,_,_,_,_,_,_,_,rfl⟩:=Qgt (hX3.trans rfl);have UJ:=Qaa qm;clear k1 k2 k4 k5 k6 k7 hX3;obtain ⟨hx,hc,hY,gA,gI,gB,gH,gE,gD,gG⟩:=hM;obtain ⟨x,pc,c,m,ks,_,_,_,d,n,_,_,ct⟩:=M;dsimp only at *;cases QaO hx;cases zC8 hc;cases d;cases n;dsimp only [Mc.C,Mc.D,Dk.C,Nk.C,Dk.ok,Nk.ok] at *;generalize m.length=nn,wsv m=XX,hXQ:wsv qm=XQ,qY:(ct+1)%18446744073709551616=ct2 at *;clear hY gA gE gD gB gG gI gH;subst hD;dsimp only [Qdk,Mc.C,Mc.D,Dk.C,Nk.C] at *;simp only [Qai,zca,zna] at *;rw [k3] at i1;rw [qY,k3,hXQ]
 by_cases GK:R=0
 .have e:=ZG GK
  simp only [List.cons.injEq,and_true] at e;obtain ⟨rfl,rfl,rfl,rfl,rfl,rfl,rfl,rfl,rfl,rfl,rfl,rfl,rfl,rfl,rfl,rfl⟩:=e;clear gY ZG;subst GK;refine fnW Tryz.func78 ?_;(repeat' ((conv=>whnf);first|exact zi3|refine zj0 fun hb=>?_|refine zq0 ?_|refine zq3 ?_|refine Qsr ?_|(refine QaD hc ?_)|(refine QaD q0 ?_)|(refine QaD q1 ?_)|(refine QaD q2 ?_)|(refine QaD i1 ?_)|refine zse ?_|refine zbb ?_ ?_))
  all_goals exact Qcv
 .have gW:=gY GK
  clear gY ZG;simp only [wsv,List.map_cons,List.map_nil,zca,zna] at gW;refine fnW Tryz.func78 ?_;(conv=>whnf);(repeat' ((first|exact zi3|refine zj0 fun hb=>?_|refine zq0 ?_|refine zq3 ?_|refine Qsr ?_|(refine QaD hc ?_)|(refine QaD q0 ?_)|(refine QaD q1 ?_)|(refine QaD q2 ?_)|(refine QaD i1 ?_)|(apply Sd.mk; . first|(refine ⟨rfl,rfl,rfl,?_⟩;show R+1<=49;omega)|(show (0:Int)<=R/\(R:Int)<16;omega))|((with_reducible apply Vl.mk (α:=List SV)); . exact gW _)|refine zse ?_|refine zbb ?_ ?_)<;>conv=>whnf))
  all_goals first|(exfalso;simp at hb;omega)|(exact QbL)
theorem Qt0 (M:Mc) (hM:M.ok) (p:Int) (v:Nat) (hv:ZU v):FN 58 [.s (.ptr 0 0),.s (.i p),.s (.u v)] [⟨true,1,M.C 1⟩,⟨true,1,wsv M.m⟩]
  (. =⟨.a (.s (oS 2 (Qbz M p v).2)),[(0,some ⟨true,1,(Qbz M p v).1.C 1⟩),(1,some ⟨true,1,wsv (Qbz M p v).1.m⟩)],oR (Qbz M p v).2⟩):=by
 have q3:=QxZ v;have q4:=Qni M.d hM.dk M.m _ rfl hM.ml hM.mr p v hv M.ct;have q5:=Qnq M.n hM.nk M.m _ rfl hM.ml hM.mr p v hv M.ct;have q6:=QtV M.bt M.bg hM.dv.2.2.1 M.m _ rfl hM.ml p v hv;have h4:=Qdy M.d M.m M.m.length p v M.ct;have h5:=QdE M.n M.m M.m.length p v M.ct;have ZO:=QeB M.m M.bg M.m.length p v;have gK:=Qaa M.m;have jH:=Qaa (QfO M.m M.bg M.m.length p v);obtain ⟨D,hD⟩:∃ D,Qbz M p v=D:=⟨_,rfl⟩;rw [hD];unfold Qbz at hD;generalize Qa7 M.d M.m M.m.length p v M.ct=Z4,Qbj M.n M.m M.m.length p v M.ct=Z5,Qhl M.bg M.m.length p v=gb,QfO M.m M.bg M.m.length p v=gm at *;obtain ⟨⟨_,_,_,_,_,_,_,_⟩,o4⟩:=Z4;obtain ⟨⟨_,_,_,_,_,_⟩,o5⟩:=Z5;obtain ⟨hx,hc,hY,gA,gI,gB,_,gE,gD,gG⟩:=hM;obtain ⟨_,_,_,m,_,_,_,_,d,n,bt,bg,ct⟩:=M;dsimp only at *;cases QaO hx;cases zC8 hc;cases d;cases n;dsimp only [Mc.C,Mc.D,Dk.C,Nk.C,Dk.ok,Nk.ok] at *;generalize gJ:m.length=nn,hX:wsv m=XX,hG:wsv gm=GG at *;clear hY gA gE gD gB gG gI
 by_cases h1:p=0
 .rw [zP h1] at hD
  subst h1 hD;clear q3 q4 q5 q6 h4 h5;dsimp only [oS,oR];rw [gJ,hX];refine fnW Tryz.func58 ?_;(conv=>whnf);(repeat' ((first|exact zi3|refine zj0 fun hb=>?_|refine QGI ?_|refine zse ?_|refine zbb ?_ ?_)<;>conv=>whnf))
  all_goals first|(exact QjZ)
 rw [zN h1] at hD
 by_cases h2:p<=2
 .rw [zP h2] at hD
  subst hD;clear q3 q4 q5 q6 h4 h5;dsimp only [oS,oR];rw [gJ,hX];refine fnW Tryz.func58 ?_;(repeat' ((conv=>whnf);first|exact zi3|refine zj0 fun hb=>?_|refine zse ?_|refine zbb ?_ ?_))
  all_goals exact Qha
 rw [zN h2] at hD
 by_cases h3:p=3
 .rw [zP h3] at hD
  subst h3 hD;clear q4 q5 q6 h4 h5;dsimp only [oS,oR];rw [gJ,hX];unfold QzU at q3
  by_cases hv0:(v:Int)=0
  .rw [zP hv0] at q3
   rw [zdf (not_not_intro hv0)];obtain rfl:v=0:=by omega
   refine fnW Tryz.func58 ?_;exact QDZ
  .rw [zN hv0] at q3
   rw [zdt hv0];refine fnW Tryz.func58 ?_;exact QDZ
 rw [zN h3] at hD
 by_cases h6:p<=6
 .rw [zP h6] at hD
  subst hD;clear q3 q5 q6 h5;dsimp only [Mc.C,Mc.D,Dk.C,Nk.C] at *;rw [gJ,hX]
  cases o4 with
  | none =>
   dsimp only [oS,oR] at *;refine fnW Tryz.func58 ?_;(conv=>whnf);(repeat' ((first|exact zi3|refine zj0 fun hb=>?_|(refine QaD q4 ?_)|refine zse ?_|refine zbb ?_ ?_)<;>conv=>whnf))
   all_goals first|(exact QdQ)
  | some l =>
   obtain ⟨_,_,_⟩:=h4 l rfl;dsimp only [oS,oR] at *;refine fnW Tryz.func58 ?_;(conv=>whnf);(repeat' ((first|exact zi3|refine zj0 fun hb=>?_|(refine QaD q4 ?_)|refine zse ?_|refine zbb ?_ ?_)<;>conv=>whnf))
   all_goals first|(exact QjZ)
 rw [zN h6] at hD
 by_cases h9:p<=9
 .rw [zP h9] at hD
  subst hD;clear q3 q4 q6 h4;dsimp only [Mc.C,Mc.D,Dk.C,Nk.C] at *;rw [gJ,hX]
  cases o5 with
  | none =>
   dsimp only [oS,oR] at *;refine fnW Tryz.func58 ?_;(conv=>whnf);(repeat' ((first|exact zi3|refine zj0 fun hb=>?_|(refine QaD q5 ?_)|refine zse ?_|refine zbb ?_ ?_)<;>conv=>whnf))
   all_goals first|(exact QdQ)
  | some l =>
   obtain ⟨_,_,_⟩:=h5 l rfl;dsimp only [oS,oR] at *;refine fnW Tryz.func58 ?_;(conv=>whnf);(repeat' ((first|exact zi3|refine zj0 fun hb=>?_|(refine QaD q5 ?_)|refine zse ?_|refine zbb ?_ ?_)<;>conv=>whnf))
   all_goals first|(exact QjZ)
 rw [zN h9] at hD;subst hD;clear q3 q4 q5 h4 h5;dsimp only [Mc.C,Mc.D,Dk.C,Nk.C] at *;rw [hG,ZO];dsimp only [oS,oR];refine fnW Tryz.func58 ?_;(repeat' ((conv=>whnf);first|exact zi3|refine zj0 fun hb=>?_|(refine Qg7 q6 ?_)|refine zse ?_|refine zbb ?_ ?_))
 all_goals exact Qha
theorem Qmc (M:Mc) (p:Int) (v:Nat):Qbz M p v=({ M with m:=(Qbz M p v).1.m,ta:=(Qbz M p v).1.ta,td:=(Qbz M p v).1.td,tf:=(Qbz M p v).1.tf,d:=(Qbz M p v).1.d,n:=(Qbz M p v).1.n,bg:=(Qbz M p v).1.bg },(Qbz M p v).2):=by
 unfold Qbz
 repeat' split
 all_goals rfl
theorem Qxn (M:Mc) (p:Int):inM M p= { M with ks:=(inM M p).ks }:=by
 unfold inM;split<;>rfl
theorem Qme (M:Mc) (hM:M.ok) (w:Nat) (hw:ZU w):FN 32 [.s (.ptr 0 0),.s (.u w)] [⟨true,1,M.C 1⟩,⟨true,1,wsv M.m⟩]
  (. =⟨.a (.s (oS 2 (Qbi M w).2)),[(0,some ⟨true,1,(Qbi M w).1.C 1⟩),(1,some ⟨true,1,wsv (Qbi M w).1.m⟩)],oR (Qbi M w).2⟩):=by
 have q0:=QjA M hM;have q1:=QB4 M.x (Qdm M) (Qdl M) M.m _ hM.x (Qbt M hM) (Qd7 M hM) (Qd8 M hM) rfl hM.mr (by have:=hM.ml;omega) hM.xr _ rfl;have hS:=QdK M hM;have hQ:=Qcc M hM;obtain ⟨K,P,R,V,he,hR,hV⟩:=hQ.ef;have i1:=QCb (QaF M) hS P w;have i2:=Qt0 (QaF M) hS P V hV;have i3:=QgM (QaF M).x (QaF M).pc (QaF M).c R (inV (QaF M) P w) hS.x hS.c hR;have gT:=Qay (QaF M).x R (inV (QaF M) P w);have hO:=Qid (QaF M) P V;have hOl:=Qic (QaF M) P V;have VQ:=Qmc (QaF M) P V;have hIe:=Qxn (QaF M) P;have GP:IntKind.u64.wrap ((M.ct:Int)+1)=(((M.ct+1)%18446744073709551616:Nat):Int):=by rw [QnP];omega
 obtain ⟨D,hD⟩:∃ D,Qbi M w=D:=⟨_,rfl⟩;rw [hD];unfold Qbi at hD;rw [he] at hD;change (if K=1 then (Qdk { inM (QaF M) P with x:=QaC (QaF M).x R (inV (QaF M) P w) },none) else if K=2 then (Qdk (Qbz (QaF M) P V).1,(Qbz (QaF M) P V).2) else if K=3 then (Qdk { QaF M with wt:=true },none) else if K=4 then (Qdk { QaF M with ht:=true },none) else (Qdk (QaF M),none))=D at hD;change Fn _ _ _ _ (. =⟨.tup [.agg (Qax (QaI M).x (QaI M).pc (QaI M).c),.agg (QaI M).e],[(0,some ⟨true,1,wsv (QaI M).m⟩)],[]⟩) at q1;rw [he] at q1;have h1:=hQ.xl;have h2:=hQ.cl;have h3:=hQ.ml;have h4:=Qbt M hM;have gK:=Qaa M.m;have JE:=Qaa (QaI M).m;have UA:(QaF M).m.length=M.m.length:=hQ.ml;rw [VQ] at hOl hD i2;rw [hIe] at i1 hD;generalize (inM (QaF M) P).ks=k2,WH:QaC (QaF M).x R (inV (QaF M) P w)=X2,(Qbz (QaF M) P V).2=O2,(Qbz (QaF M) P V).1.m=m2,(Qbz (QaF M) P V).1.ta=ta2,(Qbz (QaF M) P V).1.td=td2,(Qbz (QaF M) P V).1.tf=tf2,(Qbz (QaF M) P V).1.d=d2,(Qbz (QaF M) P V).1.n=n2,(Qbz (QaF M) P V).1.bg=bg2 at *;have gW:=Qaa m2;clear VQ hIe hS;unfold QaF at *;generalize inV _ P w=v1 at i1 i3 WH;generalize QaI M=Q at *;obtain ⟨_,_,_,qm,_⟩:=Q;dsimp only at *;subst he;clear hQ;have hX3:X2.length=16:=by rw [gT];exact h1
 generalize Qdm M=ip,Qdl M=ic at *;clear WH gT;cases QaO h1;cases zC8 h2;cases QaO hX3;cases zC8 h4;cases d2;cases n2;obtain ⟨hx,hc,hY,gA,gI,gB,_,gE,gD,gG⟩:=hM;obtain ⟨x,pc,c,m,ks,ta,td,tf,d,n,_,bg,ct,wt,ht⟩:=M;dsimp only at *;cases QaO hx;cases zC8 hc;obtain ⟨_,_,d2⟩:=d;obtain ⟨_,_,n2⟩:=n;dsimp only [Mc.C,Mc.D,Dk.C,Nk.C,Dk.ok,Nk.ok] at *;unfold efS at *;generalize m.length=nn,wsv m=XX,hQQ:wsv qm=QQ at *;generalize h22:wsv m2=M2,qY:(ct+1)%18446744073709551616=ct2 at *;clear hY gA gE gD gB gG gI
 by_cases k1:K=1
 .rw [zP k1] at hD
  subst k1 hD;clear i2 hO hOl;dsimp only [oS,oR,Qdk,Mc.C,Mc.D,Dk.C,Nk.C] at *;simp only [Qai,zca,zna] at *;rw [qY]
  try rw [h3] at *
  try rw [hQQ]
  refine fnW Tryz.func32 ?_;(repeat' ((conv=>whnf);first|exact zi3|refine zj0 fun hb=>?_|(refine QaD q0 ?_)|(refine Qg7 q1 ?_)|refine zq3 ?_|refine Qsr ?_|(refine Qsc i1 ?_)|(refine zpu i3 ?_)|refine zse ?_|refine zbb ?_ ?_))
  all_goals exact Qha
 rw [zN k1] at hD
 by_cases k2':K=2
 .rw [zP k2'] at hD
  subst k2' hD;clear i1 i3
  cases O2 with
  | none =>
   dsimp only [oS,oR,Qdk,Mc.C,Mc.D,Dk.C,Nk.C] at *;simp only [Qai,zca,zna] at *;rw [qY];rw [hOl.trans h3] at i2 |-;rw [h3] at i2
   try rw [h22]
   refine fnW Tryz.func32 ?_;(conv=>whnf);(repeat' ((first|exact zi3|refine zj0 fun hb=>?_|(refine QaD q0 ?_)|(refine Qg7 q1 ?_)|refine zq3 ?_|refine Qsr ?_|(refine Qsc i2 ?_)|refine zse ?_|refine zbb ?_ ?_)<;>conv=>whnf))
   all_goals first|(exact QdQ)
  | some l =>
   obtain ⟨_,_,_⟩:=hO l rfl;dsimp only [oS,oR,Qdk,Mc.C,Mc.D,Dk.C,Nk.C] at *;simp only [Qai,zca,zna] at *;rw [qY];rw [hOl.trans h3] at i2 |-;rw [h3] at i2
   try rw [h22]
   refine fnW Tryz.func32 ?_;(conv=>whnf);(repeat' ((first|exact zi3|refine zj0 fun hb=>?_|(refine QaD q0 ?_)|(refine Qg7 q1 ?_)|refine zq3 ?_|refine Qsr ?_|(refine Qsc i2 ?_)|refine zse ?_|refine zbb ?_ ?_)<;>conv=>whnf))
   all_goals first|(exact QjZ)
 rw [zN k2'] at hD
 by_cases k3:K=3
 .rw [zP k3] at hD
  subst k3 hD;clear i1 i2 i3 hO hOl;dsimp only [oS,oR,Qdk,Mc.C,Mc.D,Dk.C,Nk.C] at *;simp only [Qai,zca,zna] at *;rw [qY]
  try rw [h3] at *
  try rw [hQQ]
  refine fnW Tryz.func32 ?_;exact QzN
 rw [zN k3] at hD
 by_cases k4:K=4
 .rw [zP k4] at hD
  subst k4 hD;clear i1 i2 i3 hO hOl;dsimp only [oS,oR,Qdk,Mc.C,Mc.D,Dk.C,Nk.C] at *;simp only [Qai,zca,zna] at *;rw [qY]
  try rw [h3] at *
  try rw [hQQ]
  refine fnW Tryz.func32 ?_;exact QzN
 rw [zN k4] at hD;subst hD;clear i1 i2 i3 hO hOl;dsimp only [oS,oR,Qdk,Mc.C,Mc.D,Dk.C,Nk.C] at *;simp only [Qai,zca,zna] at *;rw [qY]
 try rw [h3] at *
 try rw [hQQ]
 refine fnW Tryz.func32 ?_;exact QzN
theorem QBZ (M:Mc) (p:Int) (v:Nat) (hp:¬ (p=10\/p=11)):(Qbz M p v).1.m=M.m:=by
 unfold Qbz
 repeat' split
 all_goals first|rfl|skip
 have hq:¬ gvQ M.bg M.m.length p v:=fun h=>hp (.inl h.1)
 show QfO _ _ _ _ _=_;unfold QfO;rw [zN hq]
theorem QoP (fX:FN 244 [.s (.str ⟨#[0]⟩),.s (.i 128)] [] (. =⟨.a (.s (.str z128)),[],[]⟩)) (M:Mc) (hM:M.ok) (w:Nat) (hs:Qch M=false) (wB:eK (QaI M).e=2):FN 78 [.agg (M.C 0),.s (.u w)] [⟨false,1,wsv M.m⟩]
  (. =⟨.tup [.agg ((Qbi M w).1.C 1),.s (oS 2 (Qbi M w).2)],[],⟨true,1,wsv (Qbi M w).1.m⟩::oR (Qbi M w).2⟩):=by
 have hc:=QbC M.m _ rfl (by have:=hM.ml;omega);have q0:=Qeu M hM;have q1:=Qer M hM;have q2:=QfJ M.x (Qdm M) (Qdl M) M.m M.m.length hM.x (Qbt M hM) (Qd7 M hM) (Qd8 M hM) rfl hM.mr (by have:=hM.ml;omega) hM.xr _ rfl;rw [hs] at q0;obtain ⟨k1,k2,k3,k4,k5,k6,k7,K,P,_,V,k8,_,hV⟩:=Qcc M hM;have iA:=QmZ (QaF M) (QdK M hM) P V hV;have iB:=Qm0 fX (QaF M) (QdK M hM) P V hV;have hO:=Qid (QaF M) P V;have hOl:=Qic (QaF M) P V;have ZF:=QBZ (QaF M) P V
 have ZE:P=10\/P=11->(Qbz (QaF M) P V).2=none:=fun h=>by
  unfold Qbz;rw [zN (by omega),zN (by omega),zN (by omega),zN (by omega),zN (by omega)]
 change Fn _ _ _ _ (. =⟨.tup [.agg (Qax (QaI M).x (QaI M).pc (QaI M).c),.s (.sl 1 0 M.m.length),.agg (QaI M).e],[],[⟨true,1,wsv (QaI M).m⟩]⟩) at q2;have GP:IntKind.u64.wrap ((M.ct:Int)+1)=(((M.ct+1)%18446744073709551616:Nat):Int):=by rw [QnP];omega
 obtain ⟨D,hD⟩:∃ D,Qbi M w=D:=⟨_,rfl⟩;rw [hD];unfold Qbi at hD;rw [zN (by rw [wB];decide),zP wB,k8] at hD;change (Qdk (Qbz (QaF M) P V).1,(Qbz (QaF M) P V).2)=D at hD;have VQ:=Qmc (QaF M) P V;rw [VQ] at hD iA iB;dsimp only at hD iA iB;generalize (Qbz (QaF M) P V).2=O2,(Qbz (QaF M) P V).1.m=m2,(Qbz (QaF M) P V).1.ta=ta2,(Qbz (QaF M) P V).1.td=td2,(Qbz (QaF M) P V).1.tf=tf2,(Qbz (QaF M) P V).1.d=d2,(Qbz (QaF M) P V).1.n=n2,(Qbz (QaF M) P V).1.bg=bg2 at *;have yK:=Qaa M.m;have hsm2:=Qaa m2;have hi:=Qbt M hM;clear hs fX VQ;unfold QzV at q1;dsimp only [Mc.C] at q1;unfold QaF at *;generalize QaI M=Q,Qdm M=ip,Qdl M=ic at *;obtain ⟨_,_,_,qm,_⟩:=Q;dsimp only at *;subst k8;obtain rfl:K=2:=wB;unfold efS at *;cases QaO k1;cases zC8 k2;cases zC8 hi;cases d2;cases n2;have UJ:=Qaa qm;clear k1 k2 k4 k5 k6 k7;obtain ⟨hx,hc,hY,gA,gI,gB,gH,gE,gD,gG⟩:=hM;obtain ⟨x,pc,c,m,_,ta,td,tf,d,n,_,bg,ct⟩:=M;dsimp only at *;cases QaO hx;cases zC8 hc;obtain ⟨_,_,d2⟩:=d;obtain ⟨_,_,n2⟩:=n;dsimp only [Mc.C,Mc.D,Dk.C,Nk.C,Dk.ok,Nk.ok] at *;generalize m.length=nn,wsv m=XX,qY:(ct+1)%18446744073709551616=ct2 at *;clear hY gA gE gD gB gG gI gH;subst hD
 by_cases hP:P=10\/P=11
 .have e:=ZE hP
  replace iB:=iB hP;subst e;clear iA hO ZF ZE;dsimp only [Qdk,oS,oR,Mc.C,Mc.D,Dk.C,Nk.C] at *;simp only [Qai,zca,zna] at *;rw [hOl,k3] at iB |-;rw [qY];generalize wsv qm=XQ,wsv m2=X2 at *;refine fnW Tryz.func78 ?_;(repeat' ((conv=>whnf);first|exact zi3|refine zj0 fun hb=>?_|refine zq0 ?_|refine zq3 ?_|refine Qsr ?_|(refine QaD hc ?_)|(refine QaD q0 ?_)|(refine QaD q1 ?_)|(refine QaD q2 ?_)|(refine QaD iB ?_)|refine zse ?_|refine zbb ?_ ?_))
  all_goals exact Qcv
 .replace iA:=iA hP
  obtain rfl:=ZF hP;clear iB hOl ZF ZE;dsimp only [Qdk,Mc.C,Mc.D,Dk.C,Nk.C] at *;simp only [Qai,zca,zna] at *;rw [k3] at iA |-;rw [qY];generalize wsv m2=XQ at *
  cases O2 with
  | none =>
   dsimp only [oS,oR] at *;refine fnW Tryz.func78 ?_;(conv=>whnf);(repeat' ((first|exact zi3|refine zj0 fun hb=>?_|refine zq0 ?_|refine zq3 ?_|refine Qsr ?_|(refine QaD hc ?_)|(refine QaD q0 ?_)|(refine QaD q1 ?_)|(refine QaD q2 ?_)|(refine QaD iA ?_)|refine zse ?_|refine zbb ?_ ?_)<;>conv=>whnf))
   all_goals first|(exact QbL)
  | some l =>
   obtain ⟨_,_,_⟩:=hO l rfl;dsimp only [oS,oR] at *;refine fnW Tryz.func78 ?_;(conv=>whnf);(repeat' ((first|exact zi3|refine zj0 fun hb=>?_|refine zq0 ?_|refine zq3 ?_|refine Qsr ?_|(refine QaD hc ?_)|(refine QaD q0 ?_)|(refine QaD q1 ?_)|(refine QaD q2 ?_)|(refine QaD iA ?_)|refine zse ?_|refine zbb ?_ ?_)<;>conv=>whnf))
   all_goals first|(exact QCT)
def QdL (M:Mc) (w:Nat):Mc × Option (List SV):=if Qch M=true then (M,none) else Qbi M w
theorem Qod (M:Mc) (w:Nat) (h:¬ eK (QaI M).e=2):(Qbi M w).2=none:=by
 unfold Qbi
 by_cases h1:eK (QaI M).e=1
 .rw [zP h1]
 .rw [zN h1,zN h]
  split
  .rfl
  .split<;>rfl
theorem QlL (fX:FN 244 [.s (.str ⟨#[0]⟩),.s (.i 128)] [] (. =⟨.a (.s (.str z128)),[],[]⟩)) (M:Mc) (hM:M.ok) (w:Nat):FN 78 [.agg (M.C 0),.s (.u w)] [⟨false,1,wsv M.m⟩]
  (. =⟨.tup [.agg ((QdL M w).1.C 1),.s (oS 2 (QdL M w).2)],[],⟨true,1,wsv (QdL M w).1.m⟩::oR (QdL M w).2⟩):=by
 cases hs:Qch M
 .have e:QdL M w=Qbi M w:=by unfold QdL;rw [hs,zN (by decide)]
  rw [e]
  by_cases h2:eK (QaI M).e=2
  .exact QoP fX M hM w hs h2
  .rw [Qod M w h2]
   by_cases h1:eK (QaI M).e=1
   .exact QoN M hM w hs h1
   .exact QoO M hM w hs h1 h2
 .have e:QdL M w=(M,none):=by unfold QdL;rw [hs,zP rfl]
  rw [e];exact QmX M hM w hs
structure Eg where
 (M:Mc) (T:List Te) (B:List Bk) (o:List (List SV)) (f:Nat) (s:Bool)
def Eg.C (E:Eg) (a b c d:Nat):List SV:=E.M.C a++ [.sl b 0 E.T.length,.sl c 0 E.B.length,.sl d 0 E.o.length,.i E.f,.bool E.s]
def Eg.H (E:Eg):List Row:= [⟨true,1,E.C 1 2 3 4⟩,⟨true,1,wsv E.M.m⟩,⟨true,4,tes E.T⟩,⟨true,3,bks E.B⟩,⟨true,4,OLs E.o⟩]
def Eg.R (E:Eg) (v:TV):Res:=⟨v,[(0,some ⟨true,1,E.C 5 6 7 8⟩),(1,none),(2,none),(3,none),(4,none)],[⟨true,1,wsv E.M.m⟩,⟨true,4,tes E.T⟩,⟨true,3,bks E.B⟩,⟨true,4,OLs E.o⟩]⟩
def Eg.Rk (E:Eg) (k:Nat) (v:TV):Res:=⟨v,[(0,some ⟨true,1,E.C k (k+1) (k+2) (k+3)⟩),(1,none),(2,none),(3,none),(4,none)],[⟨true,1,wsv E.M.m⟩,⟨true,4,tes E.T⟩,⟨true,3,bks E.B⟩,⟨true,4,OLs E.o⟩]⟩
structure Eg.ok (E:Eg):Prop where
 (M:E.M.ok) (T:TB E.T) (tl:E.T.length<=8) (B:∀ b∈E.B,b.ok) (bl:E.B.length<=16) (o:QbA E.o) (ol:E.o.length<=900000) (f:E.f<4294967296)
def cR (M:Mc):Nat:=M.c.getD 6 0
def wrt (fr:Nat) (E:Eg):Eg:= { E with B:=E.B.filter (fun b=>decide (fk b≠(fr:Int))),s:=E.s||decide (fr=E.f) }
def sgm (a:List Nat) (i:Nat):List Nat:=(a.drop (i*32)).take 32
def chg (a b:List Nat) (n:Nat):Nat->List Nat
 | 0=> []
 | i+1=>if sgm a i=sgm b i then chg a b n i else chg a b n i++ [i]
def QdR (a b:List Nat) (n:Nat):List Nat:=chg a b n (mpg n)
def Qix (l:List Nat) (E:Eg):Eg:=l.foldl (fun E i=>wrt i E) E
def QcG (E:Eg) (i:Nat):Eg:=if i=cR E.M then { wrt i E with T:= [] } else wrt i E
def Qka (r:Nat) (E:Eg):Eg:=if r=cR E.M then E else { E with T:= [] }
def stl (M0:Mc) (E:Eg):Eg:=(QdR M0.m E.M.m E.M.m.length).foldl QcG (Qka (cR M0) E)
def sgl (w:Nat) (E:Eg):Eg:=stl E.M { E with M:=(QdL E.M w).1,o:=E.o++(QdL E.M w).2.toList }
def QnZ (T:List Te) (pg:Nat) (ac:Int):Option (Nat × Te) :=
 match T[(QfR pg T 0).toNat]? with
 | some e=>if 0<=QfR pg T 0/\QrR e.w e.x ac=true then some ((QfR pg T 0).toNat,e) else none
 | none=>none
def rsv (E:Eg) (va sz:Nat) (ac:Int):Eg × Nat × Bool :=
 if va%sz≠0 then (E,0,false)
 else if Qc5 (E.M.c.getD 0 0)=false then (E,va,decide (va<4*E.M.m.length))
 else match QnZ E.T (va / 128) ac with
  | some (i,e)=>({ E with T:=Qbw E.T i e },(e.f*128+va%128)%4294967296,true)
  | none=>if Qbl E.M.m E.M.m.length (cR E.M) va ac=true then
    (Qix (QdR E.M.m (Qbq E.M.m E.M.m.length (cR E.M) va ac) E.M.m.length) { E with T:=QcC E.T E.M.m E.M.m.length (cR E.M) va ac,M:= { E.M with m:=Qbq E.M.m E.M.m.length (cR E.M) va ac } },frW (QaR E.M.m (cR E.M) va)*128+va%128,true)
   else (E,0,false)
def fnd (E:Eg) (a:Nat):Eg × Bk :=
 match E.B[(Qgp a (E.B.map (·.A)) 0).toNat]? with
 | some b=>if 0<=Qgp a (E.B.map (·.A)) 0 then ({ E with B:=Qbc E.B (Qgp a (E.B.map (·.A)) 0).toNat b },b) else ({ E with B:=Qj8 E.B (fdB E.M.m E.M.m.length a 16) },fdB E.M.m E.M.m.length a 16)
 | none=>({ E with B:=Qj8 E.B (fdB E.M.m E.M.m.length a 16) },fdB E.M.m E.M.m.length a 16)
def lpc (pc:Nat) (n:Int):Nat:=w32 ((pc:Int)+w32 (4*w32 (n-1)))
def fnE (E:Eg) (a v pc:Nat):Eg:= { E with M:= { E.M with x:=QaC E.M.x a v,pc:=pc } }
def szO (o:Int):Nat:=if o=32\/o=35 then 4 else 1
def ldE (E:Eg) (m:Mi):Eg × Nat × Bool:=rsv E (w32 ((E.M.x.getD m.b 0:Nat)+(m.k:Nat))) (szO m.o) 2
def QhA (E:Eg) (m:Mi) (a:Nat) (v:Nat):Eg :=
 let E2:=wrt (a / 128) { E with M:= { E.M with m:=stM m.o E.M.m a v } }
 if a / 128=cR E.M then { E2 with T:= [],s:=true } else E2
def stE (E:Eg) (m:Mi):Eg × Bool :=
 let r:=rsv E (w32 ((E.M.x.getD m.b 0:Nat)+(m.k:Nat))) (szO m.o) 3
 if r.2.2=true then (QhA r.1 m r.2.1 (E.M.x.getD m.a 0),true) else (E,false)
def exO (E:Eg) (m:Mi):Eg × Bool :=
 if m.o=24 then (fnE E m.a m.k (w32 ((lpc E.M.pc m.n:Nat)+4)),true)
 else if 32<=m.o/\m.o<=34 then
  (if (ldE E m).2.2=true then (fnE (ldE E m).1 m.a (ldV m.o (ldE E m).1.M.m (ldE E m).2.1) (w32 ((lpc E.M.pc m.n:Nat)+4)),true) else (E,false))
 else if m.o=35\/m.o=36 then
  (if (stE E m).2=true then (fnE (stE E m).1 0 0 (w32 ((lpc E.M.pc m.n:Nat)+4)),true) else (E,false))
 else if 40<=m.o/\m.o<=45 then
  (fnE E 0 0 (if Qc7 m.o (E.M.x.getD m.a 0) (E.M.x.getD m.b 0)=true then w32 ((lpc E.M.pc m.n:Nat)+(m.k:Nat)) else w32 ((lpc E.M.pc m.n:Nat)+4)),true)
 else if m.o=48 then (fnE E m.a (w32 ((lpc E.M.pc m.n:Nat)+4)) (w32 ((lpc E.M.pc m.n:Nat)+(m.k:Nat))),true)
 else if m.o=49 then (fnE E m.a (w32 ((lpc E.M.pc m.n:Nat)+4)) (w32 ((E.M.x.getD m.b 0:Nat)+(m.k:Nat))),true)
 else if QbS m.o=true then (fnE E m.a (Qbr m.o (E.M.x.getD m.b 0) (if m.o<=13 then E.M.x.getD m.c 0 else m.k)) (w32 ((lpc E.M.pc m.n:Nat)+4)),true)
 else (E,false)
def ctE (n:Nat) (E:Eg):Eg:= { E with M:= { E.M with ct:=(E.M.ct+n)%18446744073709551616 } }
def QfB:List Mi->Nat->Nat->Eg->Eg × Nat
 | [],_,d,E=>(E,d)
 | m::l,lim,d,E =>
  if lim-d<m.n.toNat then (E,d)
  else if (exO E m).2=false then (E,d)
  else if (exO E m).1.s=true then (ctE m.n.toNat (exO E m).1,d+m.n.toNat)
  else QfB l lim (d+m.n.toNat) (ctE m.n.toNat (exO E m).1)
def miL (l:List Mz):List Mi:=l.map fun z=>⟨z.o,z.a.toNat,z.b.toNat,z.c.toNat,z.k,z.n⟩
theorem QxC:∀ l:List Mi,miL (l.map Mi.z)=l
 | []=>rfl
 | m::l=>by
  show (⟨m.o,((m.a:Int)).toNat,((m.b:Int)).toNat,((m.c:Int)).toNat,m.k,m.n⟩:Mi)::miL (l.map Mi.z)=m::l;rw [QxC l];rfl
def QeT (lim:Nat) (E:Eg):Eg × Nat :=
 if E.M.wt=true\/QcQ E.M=true then (E,0)
 else if (rsv E E.M.pc 4 1).2.2=false then (E,0)
 else QfB (miL (fnd (rsv E E.M.pc 4 1).1 (rsv E E.M.pc 4 1).2.1).2.l) lim 0
  { (fnd (rsv E E.M.pc 4 1).1 (rsv E E.M.pc 4 1).2.1).1 with f:=(fnd (rsv E E.M.pc 4 1).1 (rsv E E.M.pc 4 1).2.1).2.A / 128,s:=false }
def Qi4 (M:Mc):Bool:=M.ht||Qm5 M||decide (1152921504606846976<=M.ct)||Qe3 M
def Qj7:Nat->Nat->Nat->Eg->Eg × Nat
 | 0,_,n,E=>(E,n)
 | k+1,lim,n,E =>
  if n<lim/\Qi4 E.M=false then
   (if (QeT (lim-n) E).2=0 then Qj7 k lim (n+1) (sgl 0 (QeT (lim-n) E).1) else Qj7 k lim (n+(QeT (lim-n) E).2) (QeT (lim-n) E).1)
  else (E,n)
theorem Qmp (a:List Nat) (i j:Nat) (h:i*32+32<=a.length) (hj:j<32):(sgm a i)[j]?=some (a.getD (i*32+j) 0):=by
 unfold sgm;rw [List.getElem?_take,zP hj,List.getElem?_drop,zgg (by omega),zgd,zgg (by omega)];rfl
theorem Qrx (a:List Nat) (i:Nat) (h:i*32+32<=a.length):(sgm a i).length=32:=by
 unfold sgm;rw [List.length_take,List.length_drop];omega
theorem QlF (a b:List Nat) (n:Nat):∀ k,(chg a b n k).length<=k
 | 0=>Nat.le_refl _
 | k+1=>by
  unfold chg;have:=QlF a b n k;split
  .omega
  .rw [zla];show _+1<=_;omega
theorem QhO (a b:List Nat) (n:Nat):∀ k i,i∈chg a b n k↔i<k/\sgm a i≠sgm b i
 | 0,i=>by unfold chg;simp
 | k+1,i=>by
  unfold chg;have ih:=QhO a b n k i;split
  .rename_i h
   rw [ih];constructor
   .exact fun q=>⟨by omega,q.2⟩
   .rintro ⟨q1,q2⟩
    refine ⟨?_,q2⟩;rcases Nat.lt_or_ge i k with h1|h1
    .exact h1
    .obtain rfl:i=k:=by omega
     exact absurd h q2
  .rename_i h
   rw [List.mem_append,List.mem_singleton,ih];constructor
   .rintro (q|rfl)
    .exact ⟨by omega,q.2⟩
    .exact ⟨by omega,h⟩
   .rintro ⟨q1,q2⟩
    rcases Nat.lt_or_ge i k with h1|h1
    .exact .inl ⟨h1,q2⟩
    .exact .inr (by omega)
def QEo (o i:Nat) (LL L2:List SV):St :=
 ⟨[(0,.a (.s (.sl 0 o 32))),(1,.a (.s (.sl 1 o 32))),(12,.a (.s (.i 32))),(13,.a (.s (.i i)))],[(0,some ⟨false,1,LL⟩),(1,some ⟨false,1,L2⟩)],[0]⟩
theorem Qo8 (xs ys:List Nat) (n i:Nat) (hx:xs.length=n) (hy:ys.length=n) (hi:i*32+32<=n) (hn:n<=1000000) (B:Bool) (hB:decide (sgm xs i=sgm ys i)=B) :
  FN 197 [.s (.sl 0 (i*32) 32),.s (.sl 1 (i*32) 32)] [⟨false,1,wsv xs⟩,⟨false,1,wsv ys⟩] (. =⟨.a (.s (.bool B)),[],[]⟩):=by
 have qA:=Qaa xs;have hsc':=Qaa ys;have hg:=fun j (h:j<n)=>QaX xs j (by omega)
 have YI:=fun j (h:j<n)=>QaX ys j (by omega)
 have ha:=fun j hj=>Qmp xs i j (by omega) hj
 have FH:=fun j hj=>Qmp ys i j (by omega) hj
 have yO:=Qrx xs i (by omega);have hln':=Qrx ys i (by omega);generalize wsv xs=LL,wsv ys=L2,sgm xs i=S,sgm ys i=S',i*32=o at *;refine fnW Tryz.func197 ?_;(conv=>whnf);(repeat' ((first|exact zi2|refine zj0 fun hb=>?_|refine zse ?_|refine zbb ?_ ?_)<;>conv=>whnf))
 refine Lp.inv (fun mm σ=>∃ j,mm+j=32/\S.take j=S'.take j/\σ=QEo o j LL L2) ?_ ?_
 .refine ⟨32,QEo o 0 LL L2,?_,0,by omega,rfl,rfl⟩
  (exact zwL [(0,some 0),(1,some 1)])
 rintro mm σ ⟨j,yG,fC,rfl⟩;unfold QEo
 by_cases hj:j<32
 .have g0:=hg (o+j) (by omega)
  have g0':=YI (o+j) (by omega);have a0:=ha j hj;have a0':=FH j hj;have q2:IntKind.i64.wrap ((j:Int)+1)=((j+1:Nat):Int):=QbF;have x1:o+((j:Nat):Int).toNat * ty23.size=o+j:=by show o+((j:Nat):Int).toNat * 1=_;omega
  generalize xs.getD (o+j) 0=y,ys.getD (o+j) 0=y' at *
  by_cases hyy:y=y'
  .have gU:=Qfv fC a0 a0' hyy
   subst hyy;clear fC hB a0 a0' ha FH hg YI;(conv=>whnf);(repeat' ((first|exact zi2|refine zj0 fun hb=>?_|refine QhE ?_|refine zq6 ?_|((with_reducible apply Ge.mk (α:=SV)); . first|exact g0|exact g0')|refine Qek ?_|refine zse ?_|refine zbb ?_ ?_)<;>conv=>whnf))
   all_goals first
    | (
      refine ⟨mm-1,QEo o (j+1) LL L2,by omega,?_,j+1,by omega,gU,rfl⟩
      (exact zwL [(0,some 0),(1,some 1)]))
  .obtain rfl:B=false:=by rw [<- hB];exact zdf (Ql8 a0 a0' hyy)
   have hy2:¬ ((y:Nat):Int)=(y':Int):=by omega
   clear fC hB a0 a0' ha FH hg YI;(repeat' ((conv=>whnf);first|exact zi2|refine zj0 fun hb=>?_|refine zq6 ?_|((with_reducible apply Ge.mk (α:=SV)); . first|exact g0|exact g0')|refine Qek ?_|refine zse ?_|refine zbb ?_ ?_))
   all_goals exact Qha
 .obtain rfl:j=32:=by omega
  obtain rfl:B=true:=by
   rw [<- hB];rw [List.take_of_length_le (by omega),List.take_of_length_le (by omega)] at fC;exact zdt fC
  clear ha FH hg YI;exact QzR
def QhP (n P j r:Nat) (A X Y R:List SV):St :=
 ⟨[(0,.a (.s (.sl 0 0 n))),(1,.a (.s (.sl 1 0 n))),(6,.a (.s (.sl 2 0 r))),(16,.a (.s (.i P))),(17,.a (.s (.i j)))],
  [(0,some ⟨false,1,X⟩),(1,some ⟨false,1,Y⟩),(2,some ⟨true,1,R⟩)],[0]⟩
def frs (l:List Nat):List SV:=isv .i64 (l.map fun (i:Nat)=>(i:Int))
theorem Qxe (l:List Nat) (i:Nat):frs (l++ [i])=frs l++ [.i i]:=by unfold frs isv;rw [List.map_append,List.map_append];rfl
theorem Qxf (l:List Nat):(frs l).length=l.length:=by unfold frs isv;rw [List.length_map,List.length_map]
theorem QfN (l:List Nat):Qaq (frs l)=true:=Qbe _ _
theorem Qhg (xs ys:List Nat) (n:Nat) (hx:xs.length=n) (hy:ys.length=n) (hn:n<=1000000):FN 140 [.s (.sl 0 0 n),.s (.sl 1 0 n)] [⟨false,1,wsv xs⟩,⟨false,1,wsv ys⟩]
  (. =⟨.a (.s (.sl 2 0 (QdR xs ys n).length)),[],[⟨true,1,frs (QdR xs ys n)⟩]⟩):=by
 have p1:=QbE xs n (by omega);have p2:=QbE ys n (by omega);have qA:=Qaa xs;have hsc':=Qaa ys;have GT:=wsv_length xs;have hly:=wsv_length ys;have zQ:=QaT n;have hmn:mpg n*32<=n:=Qeh;have YE:=fun i (h:i<mpg n)=>Qo8 xs ys n i hx hy (by omega) hn _ rfl
 unfold QdR;generalize mpg n=P at *;obtain ⟨R,hR⟩:∃ R,chg xs ys n P=R:=⟨_,rfl⟩;rw [hR];generalize wsv xs=LL,wsv ys=L2 at *;refine fnW Tryz.func140 ?_;(conv=>whnf);(repeat' ((first|exact zi2|refine zj0 fun hb=>?_|(refine QaD p1 ?_)|(refine QaD p2 ?_)|refine zse ?_|refine zbb ?_ ?_)<;>conv=>whnf))
 all_goals first|skip
 refine Lp.inv (fun mm σ=>∃ j,mm+j=P/\σ=QhP n P j (chg xs ys n j).length [] LL L2 (frs (chg xs ys n j))) ?_ ?_
 .refine ⟨P,QhP n P 0 0 [] LL L2 [],?_,0,by omega,rfl⟩
  (exact zwL [(0,some 0),(1,some 1),(2,none)])
 rintro mm σ ⟨j,yG,rfl⟩;unfold QhP;have gM:=QlF xs ys n j;have YB:=QfN (chg xs ys n j);have KE:=Qxf (chg xs ys n j)
 by_cases hj:j<P
 .have ce:=YE j hj
  have wA:j*32+32<=n:=by omega
  have q1:IntKind.i64.wrap ((j:Int)*32)=((j*32:Nat):Int):=QbF;have q2:IntKind.i64.wrap ((j:Int)+1)=((j+1:Nat):Int):=QbF;have q3:IntKind.i64.wrap (((j+1:Nat):Int)*32)=((j*32+32:Nat):Int):=QbF;have e3:(((j*32+32:Nat):Int)-((j*32:Nat):Int)).toNat=32:=by omega
  have e4:0+((j*32:Nat):Int).toNat * ty23.size=j*32:=by show 0+((j*32:Nat):Int).toNat * 1=_;omega
  have hap:=Qxe (chg xs ys n j) j;have hc3:=QfN (chg xs ys n (j+1));clear YE
  by_cases hs:sgm xs j=sgm ys j
  .rw [zdt hs] at ce
   have gN:chg xs ys n (j+1)=chg xs ys n j:=by show (if _ then _ else _)=_;rw [zP hs]
   rw [gN] at hc3;have hK:QhP n P (j+1) (chg xs ys n (j+1)).length [] LL L2 (frs (chg xs ys n (j+1)))=QhP n P (j+1) (chg xs ys n j).length [] LL L2 (frs (chg xs ys n j)):=by rw [gN]
   generalize (chg xs ys n j).length=r,uL:frs (chg xs ys n j)=RR,j*32=o at *;(conv=>whnf);(repeat' ((first|exact zi2|refine zj0 fun hb=>?_|refine QGF ?_|refine QHA ?_|(refine Qae ce [⟨0,0⟩,⟨1,0⟩] [(0,_),(1,_)] (by simp [Qc0,QcJ,Qc1,QnW]) ⟨rfl,rfl,trivial⟩ ⟨rfl,Qar (by assumption),rfl,Qar (by assumption),trivial⟩ ⟨rfl,QbK rfl⟩ ?_)|refine zse ?_|refine zbb ?_ ?_)<;>conv=>whnf))
   all_goals first
    | (
      refine ⟨mm-1,QhP n P (j+1) r [] LL L2 RR,by omega,?_,j+1,by omega,hK.symm⟩
      (exact zwL [(0,some 0),(1,some 1),(2,some _)]))
  .rw [zdf hs] at ce
   have gN:chg xs ys n (j+1)=chg xs ys n j++ [j]:=by show (if _ then _ else _)=_;rw [zN hs]
   rw [gN] at hc3;have hK:QhP n P (j+1) (chg xs ys n (j+1)).length [] LL L2 (frs (chg xs ys n (j+1)))=QhP n P (j+1) ((chg xs ys n j).length+1) [] LL L2 (frs (chg xs ys n j++ [j])):=by rw [gN,zla];rfl
   generalize (chg xs ys n j).length=r,frs (chg xs ys n j++ [j])=R3,uL:frs (chg xs ys n j)=RR,j*32=o at *;(conv=>whnf);(repeat' ((first|exact zi2|refine zj0 fun hb=>?_|refine QGF ?_|refine QHA ?_|(refine Qae ce [⟨0,0⟩,⟨1,0⟩] [(0,_),(1,_)] (by simp [Qc0,QcJ,Qc1,QnW]) ⟨rfl,rfl,trivial⟩ ⟨rfl,Qar (by assumption),rfl,Qar (by assumption),trivial⟩ ⟨rfl,QbK rfl⟩ ?_)|((with_reducible apply Vl.mk (α:=List SV)); . with_reducible exact hap.symm)|(apply Sd.mk; . (refine ⟨rfl,rfl,?_,?_,?_⟩;(focus (show RR.length=r*1;omega));(focus (show (r+1)*8<=_;omega));omega))|refine zse ?_|refine zbb ?_ ?_)<;>conv=>whnf))
   all_goals first
    | (
      refine ⟨mm-1,QhP n P (j+1) (r+1) [] LL L2 R3,by omega,?_,j+1,by omega,hK.symm⟩
      (exact zwL [(0,some 0),(1,some 1),(2,some 327872)]))
 .obtain rfl:j=P:=by omega
  rw [hR] at YB |-;clear YE gM KE;generalize uL:frs R=RR at *;(repeat' ((conv=>whnf);first|exact zi2|refine zj0 fun hb=>?_|refine zse ?_|refine zbb ?_ ?_))
  all_goals exact Qsg
theorem Qdr (E:Eg) (hE:E.ok):FN 139 [.s (.ptr 0 0)] [⟨true,1,E.C 1 2 3 4⟩,⟨true,1,wsv E.M.m⟩,⟨true,4,tes E.T⟩,⟨true,3,bks E.B⟩,⟨true,4,OLs E.o⟩] (. =⟨.a (.s (.u (cR E.M:Nat))),[],[]⟩):=by
 have fJ:=Qaa E.M.m;have gW:=Qaf E.T;have fG:=Qad E.B;have qH:=(Qaz hE.o).2.1;obtain ⟨hM,hT,_,hB,_,ho,_,_⟩:=hE;obtain ⟨M,T,B,o,_,s⟩:=E;unfold cR;dsimp only at *;obtain ⟨hx,hc,hY,gA,gI,gB,gH,gE,gD,gG⟩:=hM;obtain ⟨_,_,_,m,_,_,_,_,d,n⟩:=M;dsimp only at *;cases QaO hx;cases zC8 hc;cases d;cases n;dsimp only [Mc.C,Mc.D,Dk.C,Nk.C,Dk.ok,Nk.ok] at *;generalize gP:wsv m=XX,gT:tes T=TT,hX3:bks B=BB,hX4:OLs o=OO at *
 try dsimp only [Eg.H,Eg.R,Eg.C,wrt,fnE,Qdk,Mc.C,Mc.D,Dk.C,Nk.C] at *
 try simp only [Qai,zca,zna] at *
 generalize m.length=nn,T.length=tn,B.length=bn,o.length=on at *;clear gP gT hX3 hX4 hT hB ho hY gA gI gB gH gE gD gG;refine fnW Tryz.func139 ?_;(conv=>whnf);(repeat' ((first|exact zi0|refine zj0 fun hb=>?_|refine zst ?_|refine zbb ?_ ?_)<;>conv=>whnf))
 all_goals first|(apply Fin.mk (m:= [(0,some 0),(1,some 1),(2,some 2),(3,some 3),(4,some 4)]);(focus exact rfl);(all_goals ((try (show HlS _ _ [] _));first|(exact aFi)|exact rfl)))
theorem Qf4 (E:Eg) (hE:E.ok):FN 136 [.s (.ptr 0 0)] [⟨true,1,E.C 1 2 3 4⟩,⟨true,1,wsv E.M.m⟩,⟨true,4,tes E.T⟩,⟨true,3,bks E.B⟩,⟨true,4,OLs E.o⟩] (. =⟨.a (.s (.bool (Qc5 (E.M.c.getD 0 0)))),[],[]⟩):=by
 have fJ:=Qaa E.M.m;have gW:=Qaf E.T;have fG:=Qad E.B;have qH:=(Qaz hE.o).2.1;obtain ⟨hM,hT,_,hB,_,ho,_,_⟩:=hE;have h0:=Qab hM.cr 0;obtain ⟨M,T,B,o,_,s⟩:=E;dsimp only at *;obtain ⟨hx,hc,hY,gA,gI,gB,gH,gE,gD,gG⟩:=hM;obtain ⟨_,_,c,m,_,_,_,_,d,n⟩:=M;dsimp only at *;cases QaO hx;obtain ⟨c0,_,_,_,_,_,_,_,rfl⟩:=Qfo hc;cases d;cases n;dsimp only [Mc.C,Mc.D,Dk.C,Nk.C,Dk.ok,Nk.ok] at *;generalize gP:wsv m=XX,gT:tes T=TT,hX3:bks B=BB,hX4:OLs o=OO at *
 try dsimp only [Eg.H,Eg.R,Eg.C,wrt,fnE,Qdk,Mc.C,Mc.D,Dk.C,Nk.C] at *
 try simp only [Qai,zca,zna] at *
 simp only [List.getD_cons_zero] at h0 |-;have e1:=Qly c0 h0;have e4:=QuQ c0 h0;unfold Qc5;generalize m.length=nn,T.length=tn,B.length=bn,o.length=on at *;clear gP gT hX3 hX4 hT hB ho hY gA gI gB gH gE gD gG;obtain ⟨_,wB⟩:∃ k,c0%2=k:=⟨_,rfl⟩;obtain ⟨_,qZ⟩:∃ k,c0 / 4%2=k:=⟨_,rfl⟩;rw [wB] at e1 |-;rw [qZ] at e4 |-;refine fnW Tryz.func136 ?_;(conv=>whnf);(repeat' ((first|exact zi2|refine zj0 fun hb=>?_|(with_reducible first|refine zv e1 ?_|refine zv e4 ?_)|refine zse ?_|refine zbb ?_ ?_)<;>conv=>whnf))
 all_goals first
  | (refine QcD ?_ ?_;(focus (apply Fin.mk (m:= [(0,some 0),(1,some 1),(2,some 2),(3,some 3),(4,some 4)]);(focus exact rfl);(all_goals ((try (show HlS _ _ [] _));first|(exact aFi)|exact rfl))));symm;first|exact zdf (by omega)|exact zdt (by omega)|(rw [zbi];simp;done)|(rw [zbi];simp;omega)|(rw [zbi];simp;grind))
theorem Qpa (o:Int) (a b:Nat) (ha:ZU a) (fM:ZU b):FN 146 [.s (.i o),.s (.u a),.s (.u b)] [] (. =⟨.a (.s (.bool (Qc7 o a b))),[],[]⟩):=by
 refine fnW Tryz.func146 ?_;exact Qzu
theorem QcK (o:Int):FN 204 [.s (.i o)] [] (. =⟨.a (.s (.u (szO o:Nat))),[],[]⟩):=by
 unfold szO;refine fnW Tryz.func204 ?_;(conv=>whnf);(repeat' ((first|exact zi0|refine zj0 fun hb=>?_|refine zs0 ?_|refine zbb ?_ ?_)<;>conv=>whnf))
 all_goals first|(refine Qam rfl ?_;first|(simp_all;done)|(rw [zP (by omega)];rfl)|(rw [zN (by omega)];rfl))
theorem Qls (E:Eg) (hE:E.ok) (fr:Nat) (jA:fr=E.f):FN 141 [.s (.ptr 0 0),.s (.i (fr:Nat))] E.H (. =(wrt fr E).R (.tup [])):=by
 have ci:=QeC E.B _ rfl (by have:=hE.bl;omega) hE.B (fr:Int) _ rfl _ rfl;have YQ:=Qad (E.B.filter (fun b=>decide (fk b≠(fr:Int))));have fJ:=Qaa E.M.m;have gW:=Qaf E.T;have fG:=Qad E.B;have qH:=(Qaz hE.o).2.1;obtain ⟨hM,hT,_,hB,_,ho,_,_⟩:=hE;obtain ⟨M,T,B,o,f,s⟩:=E;dsimp only [Eg.H,Eg.R,Eg.C,wrt] at *;generalize JN:B.filter (fun b=>decide (fk b≠(fr:Int)))=B2 at *;obtain ⟨hx,hc,hY,gA,gI,gB,gH,gE,gD,gG⟩:=hM;obtain ⟨_,_,_,m,_,_,_,_,d,n⟩:=M;dsimp only at *;cases QaO hx;cases zC8 hc;cases d;cases n;dsimp only [Mc.C,Mc.D,Dk.C,Nk.C,Dk.ok,Nk.ok] at *;generalize gP:wsv m=XX,gT:tes T=TT,hX3:bks B=BB,hX4:OLs o=OO at *
 try dsimp only [Eg.H,Eg.R,Eg.C,wrt,fnE,Qdk,Mc.C,Mc.D,Dk.C,Nk.C] at *
 try simp only [Qai,zca,zna] at *
 generalize hX5:bks B2=BB2,gJ:m.length=nn,htn:T.length=tn,gL:B.length=bn,hb2n:B2.length=b2n,hon:o.length=on at *;have hff:((fr:Nat):Int)=(f:Int):=by omega
 rw [zdt jA,Bool.or_true];exact QDd
theorem Qlr (E:Eg) (hE:E.ok) (fr:Nat) (jA:¬ fr=E.f):FN 141 [.s (.ptr 0 0),.s (.i (fr:Nat))] E.H (. =(wrt fr E).R (.tup [])):=by
 have ci:=QeC E.B _ rfl (by have:=hE.bl;omega) hE.B (fr:Int) _ rfl _ rfl;have YQ:=Qad (E.B.filter (fun b=>decide (fk b≠(fr:Int))));have fJ:=Qaa E.M.m;have gW:=Qaf E.T;have fG:=Qad E.B;have qH:=(Qaz hE.o).2.1;obtain ⟨hM,hT,_,hB,_,ho,_,_⟩:=hE;obtain ⟨M,T,B,o,f,s⟩:=E;dsimp only [Eg.H,Eg.R,Eg.C,wrt] at *;generalize JN:B.filter (fun b=>decide (fk b≠(fr:Int)))=B2 at *;obtain ⟨hx,hc,hY,gA,gI,gB,gH,gE,gD,gG⟩:=hM;obtain ⟨_,_,_,m,_,_,_,_,d,n⟩:=M;dsimp only at *;cases QaO hx;cases zC8 hc;cases d;cases n;dsimp only [Mc.C,Mc.D,Dk.C,Nk.C,Dk.ok,Nk.ok] at *;generalize gP:wsv m=XX,gT:tes T=TT,hX3:bks B=BB,hX4:OLs o=OO at *
 try dsimp only [Eg.H,Eg.R,Eg.C,wrt,fnE,Qdk,Mc.C,Mc.D,Dk.C,Nk.C] at *
 try simp only [Qai,zca,zna] at *
 generalize hX5:bks B2=BB2,gJ:m.length=nn,htn:T.length=tn,gL:B.length=bn,hb2n:B2.length=b2n,hon:o.length=on at *;have hff:¬ ((fr:Nat):Int)=(f:Int):=by omega
 rw [zdf jA,Bool.or_false];exact QDd
theorem Qci (E:Eg) (hE:E.ok) (fr:Nat):FN 141 [.s (.ptr 0 0),.s (.i (fr:Nat))] E.H (. =(wrt fr E).R (.tup [])):=by
 by_cases h:fr=E.f
 .exact Qls E hE fr h
 .exact Qlr E hE fr h
theorem QeN {E:Eg} (hE:E.ok) (fr:Nat):(wrt fr E).ok :=
 ⟨hE.M,hE.T,hE.tl,fun b hb=>hE.B b (List.mem_filter.1 hb).1,Nat.le_trans (List.length_filter_le _ _) hE.bl,hE.o,hE.ol,hE.f⟩
theorem QrF {E:Eg} (hE:E.ok) (i:Nat):(QcG E i).ok:=by
 have h:=QeN hE i;unfold QcG;split
 .exact ⟨h.M,QiE,Nat.zero_le _,h.B,h.bl,h.o,h.ol,h.f⟩
 .exact h
def Qso (r j:Nat) (C0 W0 X T B O L:List SV):St :=
 ⟨[(0,.a (.s (.ptr 0 0))),(25,.a (.s (.sl 10 0 r))),(26,.a (.s (.i r))),(27,.a (.s (.i j)))],
  [(0,some ⟨true,1,C0⟩),(1,none),(2,none),(3,none),(4,none),(5,some ⟨false,1,W0⟩),(6,some ⟨true,1,X⟩),(7,some ⟨true,4,T⟩),(8,some ⟨true,3,B⟩),(9,some ⟨true,4,O⟩),(10,some ⟨true,1,L⟩)],[0]⟩
theorem QpW (l:List Nat) (j fr:Nat) (h:l[j]?=some fr):(frs l)[j]?=some (.i (fr:Nat)):=by
 unfold frs isv;rw [zgm,zgm,h];rfl
theorem QyT (M0:Mc) (E:Eg) (hE:E.ok) (hl:M0.m.length=E.M.m.length) (hx:E.M.x.length=16) (hc:E.M.c.length=8) (l:List Nat) (jI:l.length<=32) (gO:ZL l) (Ez:Eg) :
  ∀ (j:Nat) (T:List Te) (B:List Bk) (s:Bool),j<l.length->(⟨E.M,T,B,E.o,E.f,s⟩:Eg).ok->(l.drop j).foldl QcG ⟨E.M,T,B,E.o,E.f,s⟩=Ez ->
   ∃ (T2:List Te) (B2:List Bk) (s2:Bool),QcG ⟨E.M,T,B,E.o,E.f,s⟩ (l.getD j 0)=⟨E.M,T2,B2,E.o,E.f,s2⟩/\(⟨E.M,T2,B2,E.o,E.f,s2⟩:Eg).ok/\(l.drop (j+1)).foldl QcG ⟨E.M,T2,B2,E.o,E.f,s2⟩=Ez:=by
 intro j T B s hj hok hf
 have hd:l.drop j=l.getD j 0::l.drop (j+1):=by
  have:l[j]?=some (l.getD j 0):=by rw [zgd,zgg hj];rfl
  exact Qck l j _ this
 rw [hd] at hf;have h1:=QrF hok (l.getD j 0)
 have he:∀ F:Eg,∃ (T2:List Te) (B2:List Bk) (s2:Bool),QcG F (l.getD j 0)=⟨F.M,T2,B2,F.o,F.f,s2⟩:=fun F=>by
  unfold QcG;split
  .exact ⟨_,_,_,rfl⟩
  .exact ⟨_,_,_,rfl⟩
 obtain ⟨T2,B2,s2,h2⟩:=he ⟨E.M,T,B,E.o,E.f,s⟩;refine ⟨T2,B2,s2,h2,by rw [h2] at h1;exact h1,?_⟩;rw [<- hf];show _=(l.drop (j+1)).foldl QcG (QcG _ _);rw [h2]
theorem QjO (M0:Mc) (WU:M0.ok) (E:Eg) (hE:E.ok) (hl:M0.m.length=E.M.m.length):FN 79 [.s (.ptr 0 0),.agg (M0.C 5)] (E.H++ [⟨false,1,wsv M0.m⟩]) (. =(stl M0 E).Rk 6 (.tup [])):=by
 have vL:=Qhg M0.m E.M.m E.M.m.length hl rfl hE.M.ml;have gM:(QdR M0.m E.M.m E.M.m.length).length<=32:=Nat.le_trans (QlF _ _ _ _) (QaT _)
 have gO:∀ i∈QdR M0.m E.M.m E.M.m.length,i<4294967296:=fun i hi=>by
  unfold QdR at hi;rw [QhO] at hi;have:=QaT E.M.m.length;omega
 obtain ⟨Ez,FX⟩:∃ Ez,stl M0 E=Ez:=⟨_,rfl⟩;rw [FX];have ZN:=QfN (QdR M0.m E.M.m E.M.m.length);have GA:=fun j fr h=>QpW (QdR M0.m E.M.m E.M.m.length) j fr h
 have uI:=Qdr E hE;have uS:=fun T B s h=>Qdr ⟨E.M,T,B,E.o,E.f,s⟩ h
 have wG:=fun T B s h fr=>Qci ⟨E.M,T,B,E.o,E.f,s⟩ h fr
 have gU:=QyT M0 E hE hl hE.M.x hE.M.c (QdR M0.m E.M.m E.M.m.length) gM gO Ez
 obtain ⟨T0,s0,hT0⟩:∃ T0 s0,Qka (cR M0) E=⟨E.M,T0,E.B,E.o,E.f,E.s⟩/\(cR M0=cR E.M->T0=E.T)/\(¬ cR M0=cR E.M->T0= [])/\s0=E.s:=by
  unfold Qka
  by_cases h:cR M0=cR E.M
  .exact ⟨E.T,E.s,by rw [zP h],fun _=>rfl,fun h2=>absurd h h2,rfl⟩
  .exact ⟨[],E.s,by rw [zN h],fun h2=>absurd h2 h,fun _=>rfl,rfl⟩
 obtain ⟨hT1,GM,KA,_⟩:=hT0
 have wE:(⟨E.M,T0,E.B,E.o,E.f,E.s⟩:Eg).ok:=⟨hE.M,by
  by_cases h:cR M0=cR E.M
  .rw [GM h];exact hE.T
  .rw [KA h];exact QiE,by
  by_cases h:cR M0=cR E.M
  .rw [GM h];exact hE.tl
  .rw [KA h];exact Nat.zero_le _,hE.B,hE.bl,hE.o,hE.ol,hE.f⟩
 have jM:((QdR M0.m E.M.m E.M.m.length).drop 0).foldl QcG ⟨E.M,T0,E.B,E.o,E.f,E.s⟩=Ez:=by
  rw [<- FX];unfold stl;rw [hT1];rfl
 have hsT0:=Qaf T0;have yK:=Qaa M0.m;have fJ:=Qaa E.M.m;have gW:=Qaf E.T;have fG:=Qad E.B;have qH:=(Qaz hE.o).2.1;have hM:=hE.M;obtain ⟨_,_,_⟩:E.T.length<=8/\E.B.length<=16/\E.o.length<=900000:=⟨hE.tl,hE.bl,hE.ol⟩;have hroot:cR M0=M0.c.getD 6 0:=rfl;have hroot2:cR E.M=E.M.c.getD 6 0:=rfl;clear hE;obtain ⟨M,T,B,o,f,s⟩:=E;dsimp only [Eg.H,Eg.R,Eg.Rk,Eg.C,wrt] at *;generalize QdR M0.m M.m M.m.length=l at *;obtain ⟨h0x,h0c,_,_,_,_,_,_,_,_⟩:=WU;obtain ⟨_,_,_,w,_,_,_,_,d',n'⟩:=M0;dsimp only at *;cases QaO h0x;obtain ⟨_,_,_,_,_,_,z6,_,rfl⟩:=Qfo h0c;obtain ⟨_,e1,e2,e3,_,_,_,_⟩:=d';obtain ⟨g0,_,_,_,_,_⟩:=n';dsimp only [Mc.C,Mc.D,Dk.C,Nk.C] at *;rw [hl] at *;obtain ⟨hx,hc,hY,gA,gI,gB,gH,gE,gD,gG⟩:=hM;obtain ⟨x,pc,c,m,ks,ta,td,tf,d,n,bt,bg,ct,wt,ht⟩:=M;dsimp only at *;obtain ⟨x0,x1,x2,x3,x4,x5,x6,x7,x8,x9,x10,x11,x12,x13,x14,x15,rfl⟩:=Qgt hx;obtain ⟨c0,c1,c2,c3,c4,c5,c6,c7,rfl⟩:=Qfo hc;obtain ⟨d0,d1,d2,d3,d4,d5,d6,d7⟩:=d;obtain ⟨n0,n1,n2,n3,n4,n5⟩:=n;dsimp only [Mc.C,Mc.D,Dk.C,Nk.C,Dk.ok,Nk.ok] at *;dsimp only [cR,Mc.C,Mc.D,Dk.C,Nk.C] at *;simp only [Qai,zca,zna,List.getD_cons_succ,List.getD_cons_zero] at *;generalize hXX:wsv m=XX,hWW:wsv w=WW,hOO:OLs o=OO,VN:frs l=LL,gJ:m.length=nn,hon:o.length=on,uG:l.length=rl at *;have hz:((z6:Nat):Int)=c6↔z6=c6:=by omega
 clear hY gA gE gD gB gG gI gH hT1 FX
 by_cases hr:z6=c6
 .have zS:((z6:Nat):Int)=(c6:Int):=by omega
  obtain rfl:=GM hr;have VE:=Qad B;refine fnW Tryz.func79 ?_;(conv=>whnf);(repeat' ((first|exact zi2|refine zj0 fun hb=>?_|(refine Qaw uI ?_)|(refine Qg6 vL ?_)|refine zse ?_|refine zbb ?_ ?_)<;>conv=>whnf))
  all_goals first|(exfalso;simp at hb;omega)|skip
  refine Lp.inv (fun mm σ=>∃ (j:Nat) (T:List Te) (B:List Bk) (s:Bool),mm+j=rl/\(⟨⟨[x0,x1,x2,x3,x4,x5,x6,x7,x8,x9,x10,x11,x12,x13,x14,x15],pc,[c0,c1,c2,c3,c4,c5,c6,c7],m,ks,ta,td,tf,⟨d0,d1,d2,d3,d4,d5,d6,d7⟩,⟨n0,n1,n2,n3,n4,n5⟩,bt,bg,ct,wt,ht⟩,T,B,o,f,s⟩:Eg).ok/\(l.drop j).foldl QcG ⟨⟨[x0,x1,x2,x3,x4,x5,x6,x7,x8,x9,x10,x11,x12,x13,x14,x15],pc,[c0,c1,c2,c3,c4,c5,c6,c7],m,ks,ta,td,tf,⟨d0,d1,d2,d3,d4,d5,d6,d7⟩,⟨n0,n1,n2,n3,n4,n5⟩,bt,bg,ct,wt,ht⟩,T,B,o,f,s⟩=Ez /\
    σ=Qso rl j [.u x0,.u x1,.u x2,.u x3,.u x4,.u x5,.u x6,.u x7,.u x8,.u x9,.u x10,.u x11,.u x12,.u x13,.u x14,.u x15,.u pc,.u c0,.u c1,.u c2,.u c3,.u c4,.u c5,.u c6,.u c7,.sl 6 0 nn,.str ks,.bool ta,.u td,.bool tf,.u d0,.u d1,.u d2,.i d3,.i d4,.u d5,.u d6,.str d7,.u n0,.u n1,.bool n2,.u n3,.bool n4,.u n5,.u bt,.u bg,.w ct,.bool wt,.bool ht,.sl 7 0 T.length,.sl 8 0 B.length,.sl 9 0 on,.i f,.bool s] WW XX (tes T) (bks B) OO LL) ?_ ?_
  .refine ⟨rl,Qso rl 0 [.u x0,.u x1,.u x2,.u x3,.u x4,.u x5,.u x6,.u x7,.u x8,.u x9,.u x10,.u x11,.u x12,.u x13,.u x14,.u x15,.u pc,.u c0,.u c1,.u c2,.u c3,.u c4,.u c5,.u c6,.u c7,.sl 6 0 nn,.str ks,.bool ta,.u td,.bool tf,.u d0,.u d1,.u d2,.i d3,.i d4,.u d5,.u d6,.str d7,.u n0,.u n1,.bool n2,.u n3,.bool n4,.u n5,.u bt,.u bg,.w ct,.bool wt,.bool ht,.sl 7 0 T0.length,.sl 8 0 B.length,.sl 9 0 on,.i f,.bool s] WW XX (tes T0) (bks B) OO LL,?_,0,_,_,_,by omega,wE,jM,rfl⟩
   (exact zwV [(0,some 0),(1,some 1),(2,some 2),(3,some 3),(4,some 4),(5,some 5),(6,some 1),(7,some 2),(8,some 3),(9,some 4),(10,some _)])
  rintro mm σ ⟨j,T,B,s,yG,hok,hf,rfl⟩;unfold Qso;have YR:=Qaf T;have VE:=Qad B;obtain ⟨_,jU⟩:T.length<=8/\B.length<=16:=⟨hok.tl,hok.bl⟩
  by_cases hj:j<rl
  .obtain ⟨_,_,s2,h2,hok2,zM⟩:=gU j T B s hj hok hf
   have g0:=GA j (l.getD j 0) (by rw [zgd,zgg (by omega)];rfl);have ca:=wG T B s hok (l.getD j 0);have cr:=uS _ _ _ (QeN hok (l.getD j 0));have jA:=gO (l.getD j 0) (by rw [zgd,zgg (by omega)];exact List.getElem_mem _);unfold QcG at h2;dsimp only [cR,wrt,Mc.C,Mc.D,Dk.C,Nk.C] at ca cr h2;simp only [Qai,zca,zna,List.getD_cons_succ,List.getD_cons_zero] at ca cr h2;have hsB2:=Qad (B.filter (fun b=>decide (fk b≠((l.getD j 0:Nat):Int))));have hbl2:(B.filter (fun b=>decide (fk b≠((l.getD j 0:Nat):Int)))).length<=16:=Nat.le_trans (List.length_filter_le _ _) jU;have q2:IntKind.i64.wrap ((j:Int)+1)=((j+1:Nat):Int):=QbF;have q5:IntKind.u32.wrap ((l.getD j 0:Nat):Int)=((l.getD j 0:Nat):Int):=QeO (by omega) (by omega);have ix1:0+((j:Nat):Int).toNat * ty3.size=j:=QzJ;generalize l.getD j 0=fr at *;generalize HU:B.filter (fun b=>decide (fk b≠((fr:Nat):Int)))=Bf at *;clear gU wG uS GA hok hf GM KA jM wE uI vL
   by_cases hq:fr=c6
   .have GF:((fr:Nat):Int)=(c6:Int):=by omega
    rw [zP hq] at h2;injection h2 with _ e1 e2 _ _ e3
    subst e1 e2;generalize yN:tes T=TT,FW:bks B=BB at *;generalize wN:bks Bf=BB2,T.length=tn,B.length=bn,hbfn:Bf.length=bfn at *;rw [e3] at ca cr;(conv=>whnf);(repeat' ((first|exact zi2|refine zj0 fun hb=>?_|refine QET ?_|refine QvT ?_|refine QmE ?_|refine Qek ?_|(refine Qaw ca ?_)|(refine Qaw cr ?_)|refine zse ?_|refine zbb ?_ ?_)<;>conv=>whnf))
    all_goals first
     | (exfalso;simp at hb;omega)
     | (
       refine ⟨mm-1,Qso rl (j+1) [.u x0,.u x1,.u x2,.u x3,.u x4,.u x5,.u x6,.u x7,.u x8,.u x9,.u x10,.u x11,.u x12,.u x13,.u x14,.u x15,.u pc,.u c0,.u c1,.u c2,.u c3,.u c4,.u c5,.u c6,.u c7,.sl 6 0 nn,.str ks,.bool ta,.u td,.bool tf,.u d0,.u d1,.u d2,.i d3,.i d4,.u d5,.u d6,.str d7,.u n0,.u n1,.bool n2,.u n3,.bool n4,.u n5,.u bt,.u bg,.w ct,.bool wt,.bool ht,.sl 7 0 0,.sl 8 0 bfn,.sl 9 0 on,.i f,.bool s2] WW XX [] BB2 OO LL,by omega,?_,j+1,[],Bf,s2,by omega,hok2,zM,by rw [wN,hbfn];try rfl⟩
       (exact zwV [(0,some 0),(1,some 1),(2,some 2),(3,some 3),(4,some 4),(5,some 5),(6,some 196736),(7,none),(8,some 196738),(9,some 196739),(10,some 10)]))
   .have GF:¬ ((fr:Nat):Int)=(c6:Int):=by omega
    rw [zN hq] at h2;injection h2 with _ e1 e2 _ _ e3
    subst e1 e2;generalize yN:tes T=TT,FW:bks B=BB at *;generalize wN:bks Bf=BB2,htn:T.length=tn,B.length=bn,hbfn:Bf.length=bfn at *;rw [e3] at ca cr;(conv=>whnf);(repeat' ((first|exact zi2|refine zj0 fun hb=>?_|refine QET ?_|refine QvT ?_|refine QmE ?_|refine Qek ?_|(refine Qaw ca ?_)|(refine Qaw cr ?_)|refine zse ?_|refine zbb ?_ ?_)<;>conv=>whnf))
    all_goals first
     | (exfalso;simp at hb;omega)
     | (
       refine ⟨mm-1,Qso rl (j+1) [.u x0,.u x1,.u x2,.u x3,.u x4,.u x5,.u x6,.u x7,.u x8,.u x9,.u x10,.u x11,.u x12,.u x13,.u x14,.u x15,.u pc,.u c0,.u c1,.u c2,.u c3,.u c4,.u c5,.u c6,.u c7,.sl 6 0 nn,.str ks,.bool ta,.u td,.bool tf,.u d0,.u d1,.u d2,.i d3,.i d4,.u d5,.u d6,.str d7,.u n0,.u n1,.bool n2,.u n3,.bool n4,.u n5,.u bt,.u bg,.w ct,.bool wt,.bool ht,.sl 7 0 tn,.sl 8 0 bfn,.sl 9 0 on,.i f,.bool s2] WW XX TT BB2 OO LL,by omega,?_,j+1,T,Bf,s2,by omega,hok2,zM,by rw [wN,hbfn,yN,htn];try rfl⟩
       (exact zwV [(0,some 0),(1,some 1),(2,some 2),(3,some 3),(4,some 4),(5,some 5),(6,some 196736),(7,some 196737),(8,some 196738),(9,some 196739),(10,some 10)]))
  .obtain rfl:j=rl:=by omega
   rw [List.drop_eq_nil_of_le (by omega)] at hf;change (⟨_,T,B,o,f,s⟩:Eg)=Ez at hf;subst hf;clear gU wG uS GA hok GM KA jM wE uI vL;dsimp only [Eg.C,Mc.C,Mc.D,Dk.C,Nk.C];simp only [Qai,zca,zna];rw [gJ,hon,hXX,hOO];generalize yN:tes T=TT,FW:bks B=BB,T.length=tn,B.length=bn at *;exact QD8
 .have zS:¬ ((z6:Nat):Int)=(c6:Int):=by omega
  obtain rfl:=KA hr;have VE:=Qad B;refine fnW Tryz.func79 ?_;(conv=>whnf);(repeat' ((first|exact zi2|refine zj0 fun hb=>?_|(refine Qaw uI ?_)|(refine Qg6 vL ?_)|refine zse ?_|refine zbb ?_ ?_)<;>conv=>whnf))
  all_goals first|(exfalso;simp at hb;omega)|skip
  refine Lp.inv (fun mm σ=>∃ (j:Nat) (T:List Te) (B:List Bk) (s:Bool),mm+j=rl/\(⟨⟨[x0,x1,x2,x3,x4,x5,x6,x7,x8,x9,x10,x11,x12,x13,x14,x15],pc,[c0,c1,c2,c3,c4,c5,c6,c7],m,ks,ta,td,tf,⟨d0,d1,d2,d3,d4,d5,d6,d7⟩,⟨n0,n1,n2,n3,n4,n5⟩,bt,bg,ct,wt,ht⟩,T,B,o,f,s⟩:Eg).ok/\(l.drop j).foldl QcG ⟨⟨[x0,x1,x2,x3,x4,x5,x6,x7,x8,x9,x10,x11,x12,x13,x14,x15],pc,[c0,c1,c2,c3,c4,c5,c6,c7],m,ks,ta,td,tf,⟨d0,d1,d2,d3,d4,d5,d6,d7⟩,⟨n0,n1,n2,n3,n4,n5⟩,bt,bg,ct,wt,ht⟩,T,B,o,f,s⟩=Ez /\
    σ=Qso rl j [.u x0,.u x1,.u x2,.u x3,.u x4,.u x5,.u x6,.u x7,.u x8,.u x9,.u x10,.u x11,.u x12,.u x13,.u x14,.u x15,.u pc,.u c0,.u c1,.u c2,.u c3,.u c4,.u c5,.u c6,.u c7,.sl 6 0 nn,.str ks,.bool ta,.u td,.bool tf,.u d0,.u d1,.u d2,.i d3,.i d4,.u d5,.u d6,.str d7,.u n0,.u n1,.bool n2,.u n3,.bool n4,.u n5,.u bt,.u bg,.w ct,.bool wt,.bool ht,.sl 7 0 T.length,.sl 8 0 B.length,.sl 9 0 on,.i f,.bool s] WW XX (tes T) (bks B) OO LL) ?_ ?_
  .refine ⟨rl,Qso rl 0 [.u x0,.u x1,.u x2,.u x3,.u x4,.u x5,.u x6,.u x7,.u x8,.u x9,.u x10,.u x11,.u x12,.u x13,.u x14,.u x15,.u pc,.u c0,.u c1,.u c2,.u c3,.u c4,.u c5,.u c6,.u c7,.sl 6 0 nn,.str ks,.bool ta,.u td,.bool tf,.u d0,.u d1,.u d2,.i d3,.i d4,.u d5,.u d6,.str d7,.u n0,.u n1,.bool n2,.u n3,.bool n4,.u n5,.u bt,.u bg,.w ct,.bool wt,.bool ht,.sl 7 0 0,.sl 8 0 B.length,.sl 9 0 on,.i f,.bool s] WW XX (tes []) (bks B) OO LL,?_,0,_,_,_,by omega,wE,jM,rfl⟩
   (exact zwV [(0,some 0),(1,some 1),(2,some 2),(3,some 3),(4,some 4),(5,some 5),(6,some 1),(7,none),(8,some 3),(9,some 4),(10,some _)])
  rintro mm σ ⟨j,T,B,s,yG,hok,hf,rfl⟩;unfold Qso;have YR:=Qaf T;have VE:=Qad B;obtain ⟨_,jU⟩:T.length<=8/\B.length<=16:=⟨hok.tl,hok.bl⟩
  by_cases hj:j<rl
  .obtain ⟨_,_,s2,h2,hok2,zM⟩:=gU j T B s hj hok hf
   have g0:=GA j (l.getD j 0) (by rw [zgd,zgg (by omega)];rfl);have ca:=wG T B s hok (l.getD j 0);have cr:=uS _ _ _ (QeN hok (l.getD j 0));have jA:=gO (l.getD j 0) (by rw [zgd,zgg (by omega)];exact List.getElem_mem _);unfold QcG at h2;dsimp only [cR,wrt,Mc.C,Mc.D,Dk.C,Nk.C] at ca cr h2;simp only [Qai,zca,zna,List.getD_cons_succ,List.getD_cons_zero] at ca cr h2;have hsB2:=Qad (B.filter (fun b=>decide (fk b≠((l.getD j 0:Nat):Int))));have hbl2:(B.filter (fun b=>decide (fk b≠((l.getD j 0:Nat):Int)))).length<=16:=Nat.le_trans (List.length_filter_le _ _) jU;have q2:IntKind.i64.wrap ((j:Int)+1)=((j+1:Nat):Int):=QbF;have q5:IntKind.u32.wrap ((l.getD j 0:Nat):Int)=((l.getD j 0:Nat):Int):=QeO (by omega) (by omega);have ix1:0+((j:Nat):Int).toNat * ty3.size=j:=QzJ;generalize l.getD j 0=fr at *;generalize HU:B.filter (fun b=>decide (fk b≠((fr:Nat):Int)))=Bf at *;clear gU wG uS GA hok hf GM KA jM wE uI vL
   by_cases hq:fr=c6
   .have GF:((fr:Nat):Int)=(c6:Int):=by omega
    rw [zP hq] at h2;injection h2 with _ e1 e2 _ _ e3
    subst e1 e2;generalize yN:tes T=TT,FW:bks B=BB at *;generalize wN:bks Bf=BB2,T.length=tn,B.length=bn,hbfn:Bf.length=bfn at *;rw [e3] at ca cr;(conv=>whnf);(repeat' ((first|exact zi2|refine zj0 fun hb=>?_|refine QET ?_|refine QvT ?_|refine QmE ?_|refine Qek ?_|(refine Qaw ca ?_)|(refine Qaw cr ?_)|refine zse ?_|refine zbb ?_ ?_)<;>conv=>whnf))
    all_goals first
     | (exfalso;simp at hb;omega)
     | (
       refine ⟨mm-1,Qso rl (j+1) [.u x0,.u x1,.u x2,.u x3,.u x4,.u x5,.u x6,.u x7,.u x8,.u x9,.u x10,.u x11,.u x12,.u x13,.u x14,.u x15,.u pc,.u c0,.u c1,.u c2,.u c3,.u c4,.u c5,.u c6,.u c7,.sl 6 0 nn,.str ks,.bool ta,.u td,.bool tf,.u d0,.u d1,.u d2,.i d3,.i d4,.u d5,.u d6,.str d7,.u n0,.u n1,.bool n2,.u n3,.bool n4,.u n5,.u bt,.u bg,.w ct,.bool wt,.bool ht,.sl 7 0 0,.sl 8 0 bfn,.sl 9 0 on,.i f,.bool s2] WW XX [] BB2 OO LL,by omega,?_,j+1,[],Bf,s2,by omega,hok2,zM,by rw [wN,hbfn];try rfl⟩
       (exact zwV [(0,some 0),(1,some 1),(2,some 2),(3,some 3),(4,some 4),(5,some 5),(6,some 196736),(7,none),(8,some 196738),(9,some 196739),(10,some 10)]))
   .have GF:¬ ((fr:Nat):Int)=(c6:Int):=by omega
    rw [zN hq] at h2;injection h2 with _ e1 e2 _ _ e3
    subst e1 e2;generalize yN:tes T=TT,FW:bks B=BB at *;generalize wN:bks Bf=BB2,htn:T.length=tn,B.length=bn,hbfn:Bf.length=bfn at *;rw [e3] at ca cr;(conv=>whnf);(repeat' ((first|exact zi2|refine zj0 fun hb=>?_|refine QET ?_|refine QvT ?_|refine QmE ?_|refine Qek ?_|(refine Qaw ca ?_)|(refine Qaw cr ?_)|refine zse ?_|refine zbb ?_ ?_)<;>conv=>whnf))
    all_goals first
     | (exfalso;simp at hb;omega)
     | (
       refine ⟨mm-1,Qso rl (j+1) [.u x0,.u x1,.u x2,.u x3,.u x4,.u x5,.u x6,.u x7,.u x8,.u x9,.u x10,.u x11,.u x12,.u x13,.u x14,.u x15,.u pc,.u c0,.u c1,.u c2,.u c3,.u c4,.u c5,.u c6,.u c7,.sl 6 0 nn,.str ks,.bool ta,.u td,.bool tf,.u d0,.u d1,.u d2,.i d3,.i d4,.u d5,.u d6,.str d7,.u n0,.u n1,.bool n2,.u n3,.bool n4,.u n5,.u bt,.u bg,.w ct,.bool wt,.bool ht,.sl 7 0 tn,.sl 8 0 bfn,.sl 9 0 on,.i f,.bool s2] WW XX TT BB2 OO LL,by omega,?_,j+1,T,Bf,s2,by omega,hok2,zM,by rw [wN,hbfn,yN,htn];try rfl⟩
       (exact zwV [(0,some 0),(1,some 1),(2,some 2),(3,some 3),(4,some 4),(5,some 5),(6,some 196736),(7,some 196737),(8,some 196738),(9,some 196739),(10,some 10)]))
  .obtain rfl:j=rl:=by omega
   rw [List.drop_eq_nil_of_le (by omega)] at hf;change (⟨_,T,B,o,f,s⟩:Eg)=Ez at hf;subst hf;clear gU wG uS GA hok GM KA jM wE uI vL;dsimp only [Eg.C,Mc.C,Mc.D,Dk.C,Nk.C];simp only [Qai,zca,zna];rw [gJ,hon,hXX,hOO];generalize yN:tes T=TT,FW:bks B=BB,T.length=tn,B.length=bn at *;exact QD8
theorem QkH (pg:Nat):∀ (t:List Te) (k:Nat),0<=QfR pg t k->∃ (i:Nat) (e:Te),QfR pg t k=((k+i:Nat):Int)/\t[i]?=some e/\e.p=pg
 | [],k,h=>by change (0:Int)<= -1 at h;omega
 | e::l,k,h=>by
  by_cases hp:e.p=pg
  .exact ⟨0,e,by show (if _ then _ else _)=_;rw [zP hp];rfl,rfl,hp⟩
  .have hu:QfR pg (e::l) k=QfR pg l (k+1):=by show (if _ then _ else _)=_;rw [zN hp]
   rw [hu] at h;obtain ⟨i,e',h1,h2,h3⟩:=QkH pg l (k+1) h;exact ⟨i+1,e',by rw [hu,h1];congr 1;omega,h2,h3⟩
theorem Qh2 {T:List Te} {pg:Nat} {ac:Int} {i:Nat} {e:Te} (h:QnZ T pg ac=some (i,e)):T[i]?=some e/\e.p=pg/\QrR e.w e.x ac=true/\QfR pg T 0=(i:Int):=by
 unfold QnZ at h;split at h
 .rename_i e0 he
  split at h
  .rename_i hc
   injection h with h
   injection h with h1 h2
   subst h2;obtain ⟨j,_,g1,g2,g3⟩:=QkH pg T 0 hc.1;have hj:(QfR pg T 0).toNat=j:=by rw [g1];omega
   rw [hj] at he h1;rw [g2] at he;injection he with he
   subst he;subst h1;exact ⟨g2,g3,hc.2,by rw [g1];omega⟩
  .cases h
 .cases h
theorem QvQ (l:List Nat):∀ E:Eg,(Qix l E).M=E.M/\(Qix l E).T=E.T/\(Qix l E).o=E.o/\(Qix l E).f=E.f/\(Qix l E).B.Sublist E.B/\(∀ b∈(Qix l E).B,∀ i∈l,fk b≠(i:Int))/\((Qix l E).s=false->E.s=false/\∀ i∈l,i≠E.f)/\(E.s=true->(Qix l E).s=true):=by
 induction l with
 | nil=>grind [Qix,fk]
 | cons a l ih =>
  intro E;obtain ⟨h1,h2,h3,h4,h5,h6,h7,h8⟩:=ih (wrt a E);refine ⟨h1,h2,h3,h4,h5.trans List.filter_sublist,fun b hb i hi=>?_,fun h=>?_,fun h=>h8 (by show (E.s||_)=true;rw [h,Bool.true_or])⟩
  .rcases List.mem_cons.1 hi with rfl|hi
   .have:=(List.mem_filter.1 (h5.subset hb)).2
    exact of_decide_eq_true this
   .exact h6 b hb i hi
  .obtain ⟨g1,g2⟩:=h7 h
   change (E.s||decide (a=E.f))=false at g1;rw [Bool.or_eq_false_iff,decide_eq_false_iff_not] at g1;refine ⟨g1.1,fun i hi=>?_⟩;rcases List.mem_cons.1 hi with rfl|hi
   .exact g1.2
   .exact g2 i hi
theorem Qsa (l:List Nat):∀ {E:Eg},E.ok->(Qix l E).ok:=by
 induction l with
 | nil=>exact fun h=>h
 | cons a l ih=>exact fun {E} h=>ih (E:=wrt a E) ⟨h.M,h.T,h.tl,fun b hb=>h.B b (List.mem_filter.1 hb).1,Nat.le_trans (List.length_filter_le _ _) h.bl,h.o,h.ol,h.f⟩
theorem Qul {a b:List Nat} {n i:Nat} (ha:a.length=n) (hb:b.length=n) (hi:i*32+32<=n) (h:sgm a i=sgm b i) (j:Nat) (hj:j / 32=i):a.getD j 0=b.getD j 0:=by
 have h1:=Qmp a i (j-i*32) (by omega) (by omega);have h2:=Qmp b i (j-i*32) (by omega) (by omega);rw [h,h2] at h1;rw [show i*32+(j-i*32)=j by omega] at h1;exact (Option.some.inj h1).symm
theorem QiR {a b:List Nat} {n:Nat} (ha:a.length=n) (hb:b.length=n) (hn:mpg n*32=n) (i:Nat) (h:i ∉ QdR a b n) (j:Nat) (hj:j / 32=i):a.getD j 0=b.getD j 0:=by
 by_cases hi:i<mpg n
 .unfold QdR at h
  rw [QhO] at h;have:sgm a i=sgm b i:=by grind
  exact Qul ha hb (by omega) this j hj
 .grind
theorem QiW {t:List Te} {xs ys:List Nat} {n r:Nat} (h:∀ j,j / 32=r->xs.getD j 0=ys.getD j 0) (hc:QhQ t xs n r=true):QhQ t ys n r=true:=by grind [Qes,QmF,Qsk,ys,QhQ]
theorem QlI (xs:List Nat) (n r:Nat):QhQ [] xs n r=true:=by rw [Qes];exact ⟨Nat.zero_le _,fun e he=>(by cases he),List.nodup_nil⟩
theorem QeA (xs:List Nat) (a w j:Nat) (h:a≠j):(xs.set a w).getD j 0=xs.getD j 0:=by grind
structure Coh (E:Eg):Prop where
 (n:mpg E.M.m.length*32=E.M.m.length) (T:QhQ E.T E.M.m E.M.m.length (cR E.M)=true) (B:Qhc E.M.m E.M.m.length E.B)
def sO (E:Eg) (va sz:Nat) (ac:Int):Bool:=rsO E.M.m E.M.m.length (E.M.c.getD 0 0) (cR E.M) va sz ac
def sA (E:Eg) (va sz:Nat) (ac:Int):Nat:=rsA E.M.m E.M.m.length (E.M.c.getD 0 0) (cR E.M) va sz ac
def sM (E:Eg) (va sz:Nat) (ac:Int):List Nat:=rsM E.M.m E.M.m.length (E.M.c.getD 0 0) (cR E.M) va sz ac
theorem QCK (r va:Nat):Qa6 r va / 4=r*32+va / 128:=by unfold Qa6;omega
structure Rsv (E:Eg) (va sz:Nat) (ac:Int) (R:Eg × Nat × Bool):Prop where
 (ok:R.1.ok) (coh:Coh R.1) (b:R.2.2=sO E va sz ac) (no:R.2.2=false->R.1=E) (a:R.2.2=true->R.2.1=sA E va sz ac)
 (m:R.1.M= { E.M with m:=sM E va sz ac }) (o:R.1.o=E.o) (f:R.1.f=E.f) (s:E.s=true->R.1.s=true)
 (s0:R.1.s=false->E.s=false/\∀ j,j / 32=E.f->R.1.M.m.getD j 0=E.M.m.getD j 0)
 (in_:R.2.2=true->R.2.1 / 4<E.M.m.length/\R.2.1<4294967296)
theorem QeK (E:Eg) (hE:E.ok) (hC:Coh E) (va sz:Nat) (ac:Int) (gV:ZU va) (fQ:sz=1\/sz=4) (KC:ac=1\/ac=2\/ac=3):Rsv E va sz ac (rsv E va sz ac):=by
 have wL:QdC ac=true:=by unfold QdC;rw [zde];omega
 have hsb:szB (sz:Int)=true:=by unfold szB;rw [zde];omega
 have gH:=hE.M.ml;have uQ:((va:Int)%(sz:Int)=0)↔va%sz=0:=by omega
 have key:∀ B:Bool,(if Qc5 (E.M.c.getD 0 0)=true then Qbl E.M.m E.M.m.length (cR E.M) va ac else acB sz E.M.m.length va)=B->va%sz=0->sO E va sz ac=B:=fun B h1 h2=>by grind [sO,rsO,rsv]
 unfold rsv
 by_cases h1:va%sz≠0
 .rw [zP h1]
  have hb:sO E va sz ac=false:=by grind [sO,rsO,rsv]
  have hm:sM E va sz ac=E.M.m:=by grind [sM,rsM,sO,rsv]
  exact ⟨hE,hC,hb.symm,fun _=>rfl,(fun h=>by cases h),by rw [hm],rfl,rfl,fun h=>h,fun h=>⟨h,fun _ _=>rfl⟩,(fun h=>by cases h)⟩
 rw [zN h1];have h0:va%sz=0:=by omega
 by_cases hp:Qc5 (E.M.c.getD 0 0)=false
 .rw [zP hp]
  have hn:=hC.n
  have hb:sO E va sz ac=decide (va<4*E.M.m.length):=by
   refine key _ ?_ h0;rw [zN (by rw [hp];decide)];unfold acB;rcases fQ with rfl|rfl
   .grind [ld1,rsv]
   .rw [zP (by omega)]
    unfold ld4;rw [zdt h0,Bool.true_and];exact decide_eq_decide.2 (by omega)
  have hm:sM E va sz ac=E.M.m:=by grind [sM,rsM,rsv]
  refine ⟨hE,hC,hb.symm,fun _=>rfl,fun h=>?_,by rw [hm],rfl,rfl,fun h=>h,fun h=>⟨h,fun _ _=>rfl⟩,fun h=>?_⟩
  .grind [sO,sA,rsA,rsv]
  .grind
 rw [zN hp];have uE:Qc5 (E.M.c.getD 0 0)=true:=by cases h:Qc5 (E.M.c.getD 0 0) with|true=>rfl|false=>exact absurd h hp
 have hr:=Qab hE.M.cr 6;have hX:XB E.M.m E.M.m.length:=⟨rfl,hE.M.mr⟩
 cases hh:QnZ E.T (va / 128) ac with
 | some q =>
  obtain ⟨i,e⟩:=q;obtain ⟨g1,g2,g3,_⟩:=Qh2 hh;have zK:=((Qes _ _ _ _).1 hC.T).2.1 e (List.mem_of_getElem? g1);unfold QmF Qsk at zK;simp only [zba,zde] at zK;have hp32:=zK.1.1.1.1;have hef:=zK.1.1.2;have zQ:=QaT E.M.m.length;obtain ⟨c1,c2,_,c4⟩:=Qwl E.T E.M.m E.M.m.length (cR E.M) va ac i e g1 g2 KC (by omega) g3 hC.T;have hb:sO E va sz ac=true:=key _ (by rw [zP uE];exact c2) h0
  have hm:sM E va sz ac=E.M.m:=by
   unfold sM rsM;rw [QCK];split
   .show E.M.m.set _ (QbG (QaR E.M.m (cR E.M) va) ac)=_
    rw [c4];unfold QaR;have zS:cR E.M<mpg E.M.m.length:=zK.1.1.1.2;apply List.ext_getElem?;intro j;rw [List.getElem?_set];have hn:=hC.n;have gO:cR E.M*32+va / 128<E.M.m.length:=by omega
    split
    .grind
    .rfl
   .rfl
  dsimp only;have jA:(e.f*128+va%128)%4294967296=e.f*128+va%128:=Nat.mod_eq_of_lt (by omega);refine ⟨⟨hE.M,fun x hx=>hE.T x ((Qgn E.T i e g1 x).1 hx),by show (Qbw E.T i e).length<=8;rw [Qey E.T i e g1];exact hE.tl,hE.B,hE.bl,hE.o,hE.ol,hE.f⟩,⟨hC.n,c1,hC.B⟩,hb.symm,(fun h=>by cases h),fun _=>?_,by rw [hm],rfl,rfl,fun h=>h,fun h=>⟨h,fun _ _=>rfl⟩,fun _=>?_⟩
  .grind [sA,rsA,sO,rsv]
  .show (e.f*128+va%128)%4294967296 / 4<_/\(e.f*128+va%128)%4294967296<_
   have hn:=hC.n;rw [jA];omega
 | none =>
  dsimp only
  by_cases hw:Qbl E.M.m E.M.m.length (cR E.M) va ac=true
  .rw [zP hw]
   have hb:sO E va sz ac=true:=key _ (by rw [zP uE];exact hw) h0;have qW:=hw;unfold Qbl at qW;simp only [zba,zde] at qW;obtain ⟨⟨⟨⟨_,_⟩,_⟩,_⟩,_⟩:=qW
   have YH:sM E va sz ac=Qbq E.M.m E.M.m.length (cR E.M) va ac:=by
    unfold sM rsM Qbq;unfold sO at hb;rw [zP ⟨hb,uE⟩,zP hw,QCK];rfl
   have GT:(Qbq E.M.m E.M.m.length (cR E.M) va ac).length=E.M.m.length:=(QhY hX).1;have YC:=QsJ E.T E.M.m E.M.m.length (cR E.M) va ac hX (by have:=hC.n;omega) hC.T;have JT:=QkE (t:=E.T) (xs:=E.M.m) (n:=E.M.m.length) (r:=cR E.M) (ac:=ac) hE.T gV;have VR:=Qgi (t:=E.T) (xs:=E.M.m) (n:=E.M.m.length) (r:=cR E.M) (va:=va) (ac:=ac) hE.tl;have HA:=QhY (r:=cR E.M) (va:=va) (ac:=ac) hX;have HD:=fun i h j hj=>QiR (a:=E.M.m) (b:=Qbq E.M.m E.M.m.length (cR E.M) va ac) rfl GT hC.n i h j hj
   generalize Qbq E.M.m E.M.m.length (cR E.M) va ac=X,QcC E.T E.M.m E.M.m.length (cR E.M) va ac=T2 at *;have HV:Eg.ok { E with T:=T2,M:= { E.M with m:=X } }:=⟨⟨hE.M.x,hE.M.c,hE.M.xr,hE.M.cr,hE.M.pr,HA.2,by show X.length<=_;rw [GT];exact gH,hE.M.dk,hE.M.nk,hE.M.dv⟩,JT,VR,hE.B,hE.bl,hE.o,hE.ol,hE.f⟩;obtain ⟨k1,k2,k3,k4,k5,k6,k7,k8⟩:=QvQ (QdR E.M.m X E.M.m.length) { E with T:=T2,M:= { E.M with m:=X } };have JB:=Qsa (QdR E.M.m X E.M.m.length) HV;generalize Qix (QdR E.M.m X E.M.m.length) { E with T:=T2,M:= { E.M with m:=X } }=E' at *;dsimp only at k1 k2 k3 k4 k5 k7 k8;have hlE:E'.M.m.length=E.M.m.length:=by rw [k1];exact GT
   refine ⟨JB,⟨by rw [hlE];exact hC.n,?_,?_⟩,hb.symm,(fun h=>by cases h),fun _=>?_,by rw [YH];exact k1,k3,k4,k8,fun h=>⟨(k7 h).1,fun j hj=>?_⟩,fun _=>?_⟩
   .grind [cR,rsv]
   .rw [hlE]
    have:E'.M.m=X:=by rw [k1]
    rw [this];refine Qkr E.M.m X _ E.B E'.B k5 (fun b jU j hj=>?_) hC.B;refine HD (b.A / 128) (fun hmem=>?_) j hj;exact k6 b jU _ hmem rfl
   .grind [sA,rsA,sO,rsv]
   .grind
   .show (frW (QaR E.M.m (cR E.M) va)*128+va%128) / 4<_/\frW (QaR E.M.m (cR E.M) va)*128+va%128<_
    have hn:=hC.n;have zQ:=QaT E.M.m.length;omega
  .rw [zN hw]
   have hwf:Qbl E.M.m E.M.m.length (cR E.M) va ac=false:=by cases h:Qbl E.M.m E.M.m.length (cR E.M) va ac with|true=>exact absurd h hw|false=>rfl
   have hb:sO E va sz ac=false:=key _ (by rw [zP uE];exact hwf) h0;have hm:sM E va sz ac=E.M.m:=by grind [sM,rsM,sO,rsv]
   exact ⟨hE,hC,hb.symm,fun _=>rfl,(fun h=>by cases h),by rw [hm],rfl,rfl,fun h=>h,fun h=>⟨h,fun _ _=>rfl⟩,(fun h=>by cases h)⟩
theorem QpY {T:List Te} {pg:Nat} {ac:Int} {i:Nat} {e:Te} (h:QnZ T pg ac=some (i,e)):T[i]?=some e/\e.p=pg/\QrR e.w e.x ac=true/\QfR pg T 0=(i:Int):=Qh2 h
theorem Qjj (T:List Te) (hT:T.length<=1000000) (pg:Nat) (ac:Int) (h:QnZ T pg ac=none):FN 137 [.s (.sl 0 0 T.length),.s (.u (pg:Nat)),.s (.i ac)] [⟨false,4,tes T⟩] (. =⟨.tup [.s (.u 0),.s (.sl 1 0 T.length),.s (.bool false)],[],[⟨true,4,tes T⟩]⟩):=by
 by_cases h0:0<=QfR pg T 0
 .obtain ⟨i,e,h1,h2,_⟩:=QkH pg T 0 h0
  rw [Nat.zero_add] at h1;refine Qm9 T _ rfl hT pg ac i e h2 h1 ?_;unfold QnZ at h;rw [show (QfR pg T 0).toNat=i by rw [h1];omega,h2] at h;dsimp only at h
  cases hp:QrR e.w e.x ac with
  | false=>rfl
  | true=>rw [zP ⟨h0,hp⟩] at h;cases h
 .refine QkM T _ rfl hT pg ac ?_
  have:∀ (t:List Te) (k:Nat),¬ 0<=QfR pg t k->QfR pg t k= -1:=fun t=>by
   induction t with
   | nil=>exact fun k _=>rfl
   | cons e l ih =>
    intro k hk;change ¬ 0<=(if e.p=pg then (k:Int) else QfR pg l (k+1)) at hk;show (if e.p=pg then (k:Int) else QfR pg l (k+1))= -1;split at hk
    .omega
    .rename_i fY
     rw [zN fY];exact ih (k+1) hk
  exact this T 0 h0
theorem Qyq (E:Eg) (hE:E.ok) (va sz:Nat) (ac:Int) (gV:ZU va) (fQ:sz=1\/sz=4) (h:¬ va%sz=0) :
  FN 74 [.s (.ptr 0 0),.s (.u va),.s (.u sz),.s (.i ac)] E.H (. =E.R (.tup [.s (.u (0:Nat)),.s (.bool false)])):=by
 have fJ:=Qaa E.M.m;have gW:=Qaf E.T;have fG:=Qad E.B;have qH:=(Qaz hE.o).2.1;obtain ⟨hM,hT,_,hB,_,ho,_,_⟩:=hE;obtain ⟨M,T,B,o,_,s⟩:=E;dsimp only [Eg.H,Eg.R,Eg.Rk,Eg.C,wrt] at *;obtain ⟨hx,hc,hY,gA,gI,gB,gH,gE,gD,gG⟩:=hM;obtain ⟨_,_,_,m,_,_,_,_,d,n⟩:=M;dsimp only at *;cases QaO hx;cases zC8 hc;cases d;cases n;dsimp only [Mc.C,Mc.D,Dk.C,Nk.C,Dk.ok,Nk.ok] at *
 try dsimp only [cR,Mc.C,Mc.D,Dk.C,Nk.C] at *
 try simp only [Qai,zca,zna,List.getD_cons_succ,List.getD_cons_zero] at *
 generalize gP:wsv m=XX,hX3:bks B=BB,hX4:OLs o=OO,gJ:m.length=nn,gL:B.length=bn,hon:o.length=on,tes T=TT,T.length=tn at *;have tm1:Int.tmod (va:Int) (sz:Int)=((va%sz:Nat):Int):=Qj0;generalize va%sz=vs at *;clear gP hX3 hX4 gJ gL hon hT hB ho hY gA gI gB gH gE gD gG;have FE:¬ ((vs:Nat):Int)=0:=by omega
 refine fnW Tryz.func74 ?_;(repeat' ((conv=>whnf);first|exact zi2|refine zj0 fun hb=>?_|(with_reducible refine zv tm1 ?_)|refine zse ?_|refine zbb ?_ ?_))
 all_goals exact Qzz
theorem Qyr (E:Eg) (hE:E.ok) (va sz:Nat) (ac:Int) (gV:ZU va) (fQ:sz=1\/sz=4) (h:va%sz=0) (hp:Qc5 (E.M.c.getD 0 0)=false) :
  FN 74 [.s (.ptr 0 0),.s (.u va),.s (.u sz),.s (.i ac)] E.H (. =E.R (.tup [.s (.u va),.s (.bool (decide (va<4*E.M.m.length)))])):=by
 have fK:=Qf4 E hE;rw [hp] at fK;have fJ:=Qaa E.M.m;have gW:=Qaf E.T;have fG:=Qad E.B;have qH:=(Qaz hE.o).2.1;obtain ⟨hM,hT,_,hB,_,ho,_,_⟩:=hE;obtain ⟨M,T,B,o,_,s⟩:=E;dsimp only [Eg.H,Eg.R,Eg.Rk,Eg.C,wrt] at *;obtain ⟨hx,hc,hY,gA,gI,gB,gH,gE,gD,gG⟩:=hM;obtain ⟨_,_,c,m,_,_,_,_,d,n⟩:=M;dsimp only at *;cases QaO hx;cases zC8 hc;cases d;cases n;dsimp only [Mc.C,Mc.D,Dk.C,Nk.C,Dk.ok,Nk.ok] at *
 try dsimp only [cR,Mc.C,Mc.D,Dk.C,Nk.C] at *
 try simp only [Qai,zca,zna,List.getD_cons_succ,List.getD_cons_zero] at *
 generalize gP:wsv m=XX,hX3:bks B=BB,hX4:OLs o=OO,gJ:m.length=nn,gL:B.length=bn,hon:o.length=on,tes T=TT,T.length=tn at *;have tm1:Int.tmod (va:Int) (sz:Int)=((va%sz:Nat):Int):=Qj0;generalize va%sz=vs at *;have HN:nn<=1000000:=gH;have gO:decide ((va:Int)<4*(nn:Int))=decide (va<4*nn):=decide_eq_decide.2 (by omega);generalize decide (va<4*nn)=Bq at *;have FE:((vs:Nat):Int)=0:=by omega
 clear gP hX3 hX4 gJ gL hon hT hB ho hY gA gI gB gH gE gD gG;refine fnW Tryz.func74 ?_;(repeat' ((conv=>whnf);first|exact zi2|refine zj0 fun hb=>?_|((with_reducible apply Vl.mk (α:=Bool)); . with_reducible exact gO)|(with_reducible refine zv tm1 ?_)|(refine Qaw fK ?_)|refine zse ?_|refine zbb ?_ ?_))
 all_goals exact Qzz
theorem Qys (E:Eg) (hE:E.ok) (va sz:Nat) (ac:Int) (gV:ZU va) (fQ:sz=1\/sz=4) (h:va%sz=0) (hp:Qc5 (E.M.c.getD 0 0)=true) (i:Nat) (e:Te) (hh:QnZ E.T (va / 128) ac=some (i,e)) :
  FN 74 [.s (.ptr 0 0),.s (.u va),.s (.u sz),.s (.i ac)] E.H (. =(({ E with T:=Qbw E.T i e }:Eg)).R (.tup [.s (.u ((e.f*128+va%128)%4294967296:Nat)),.s (.bool true)])):=by
 have fK:=Qf4 E hE;rw [hp] at fK;obtain ⟨k1,k2,k3,k4⟩:=QpY hh;have uP:=Qm8 E.T _ rfl (by have:=hE.tl;omega) (va / 128) ac i e k1 k4 k3;have YQ:=Qaf (Qbw E.T i e);have zO:(Qbw E.T i e).length=E.T.length:=Qey E.T i e k1;have hef:=hE.T e (List.mem_of_getElem? k1);have fJ:=Qaa E.M.m;have gW:=Qaf E.T;have fG:=Qad E.B;have qH:=(Qaz hE.o).2.1;obtain ⟨hM,hT,_,hB,_,ho,_,_⟩:=hE;obtain ⟨M,T,B,o,f,s⟩:=E;dsimp only [Eg.H,Eg.R,Eg.Rk,Eg.C,wrt] at *;rw [zO];generalize GM:tes (Qbw T i e)=T2 at *;obtain ⟨hx,hc,hY,gA,gI,gB,gH,gE,gD,gG⟩:=hM;obtain ⟨_,_,c,m,_,_,_,_,d,n⟩:=M;dsimp only at *;cases QaO hx;cases zC8 hc;cases d;cases n;dsimp only [Mc.C,Mc.D,Dk.C,Nk.C,Dk.ok,Nk.ok] at *
 try dsimp only [cR,Mc.C,Mc.D,Dk.C,Nk.C] at *
 try simp only [Qai,zca,zna,List.getD_cons_succ,List.getD_cons_zero] at *
 generalize gP:wsv m=XX,hX3:bks B=BB,hX4:OLs o=OO,gJ:m.length=nn,gL:B.length=bn,hon:o.length=on,tes T=TT,T.length=tn at *;have tm1:Int.tmod (va:Int) (sz:Int)=((va%sz:Nat):Int):=Qj0;generalize va%sz=vs at *;have tm2:Int.tmod (va:Int) 128=((va%128:Nat):Int):=Qj0;have dv2:Int.tdiv (va:Int) 128=((va / 128:Nat):Int):=QfC;have dv3:IntKind.u32.wrap (Int.tdiv (va:Int) 128)=((va / 128:Nat):Int):=QzK;have FE:((vs:Nat):Int)=0:=by omega
 obtain ⟨_,ef,_,_⟩:=e;dsimp only at *;have q1:IntKind.u32.wrap ((ef:Int)*128)=((ef*128%4294967296:Nat):Int):=by rw [Qce];omega
 have q3:IntKind.u32.wrap (((ef*128%4294967296:Nat):Int)+((va%128:Nat):Int))=(((ef*128+va%128)%4294967296:Nat):Int):=by rw [Qce];omega
 generalize (ef*128+va%128)%4294967296=R1,ef*128%4294967296=R0 at *;generalize va%128=V0,va / 128=V1 at *;clear gP hX3 hX4 gJ gL hon hT hB ho hY gA gI gB gH gE gD gG;clear hh k1 k2 k3 k4 GM;refine fnW Tryz.func74 ?_;(conv=>whnf);(repeat' ((first|exact zi2|refine zj0 fun hb=>?_|(with_reducible first|refine zv tm1 ?_|refine zv tm2 ?_|refine zv dv3 ?_|refine zv q1 ?_|refine zv q3 ?_)|(refine Qaw fK ?_)|(refine QaD uP ?_)|refine zse ?_|refine zbb ?_ ?_)<;>conv=>whnf))
 all_goals first|(apply Fin.mv (m:= [(0,some 0),(1,some 1),(2,some 2),(3,some 3),(4,some 4),(5,some 1),(6,some 262656),(7,some 3),(8,some 4)]);(focus exact rfl);(all_goals ((try (show QcI _ _ _ [] _));first|exact aFi|exact rfl)))|(exfalso;simp at hb;omega)
theorem Qyt (E:Eg) (hE:E.ok) (va sz:Nat) (ac:Int) (gV:ZU va) (fQ:sz=1\/sz=4) (h:va%sz=0) (hp:Qc5 (E.M.c.getD 0 0)=true) (hh:QnZ E.T (va / 128) ac=none) (hw:Qbl E.M.m E.M.m.length (cR E.M) va ac=false) :
  FN 74 [.s (.ptr 0 0),.s (.u va),.s (.u sz),.s (.i ac)] E.H (. =E.R (.tup [.s (.u (0:Nat)),.s (.bool false)])):=by
 have fK:=Qf4 E hE;rw [hp] at fK;have uP:FN 137 [.s (.sl 0 0 E.T.length),.s (.u (va / 128:Nat)),.s (.i ac)] [⟨false,4,tes E.T⟩] (. =⟨.tup [.s (.u 0),.s (.sl 1 0 E.T.length),.s (.bool false)],[],[⟨true,4,tes E.T⟩]⟩):=Qjj E.T (by have:=hE.tl;omega) (va / 128) ac hh;have zA:=Qmv E.T _ rfl (by have:=hE.tl;omega) E.M.m E.M.m.length (cR E.M) va ac ⟨rfl,hE.M.mr⟩ (by have:=hE.M.ml;omega) (Qab hE.M.cr 6) gV;have uS:=Qdr E hE;have WL:Qfx E.M.m E.M.m.length (cR E.M) va ac= [.u 0,.u 0,.i (Qcs ac)]:=by unfold Qfx;rw [zN (by rw [hw];decide)]
 have yE:QcC E.T E.M.m E.M.m.length (cR E.M) va ac=E.T:=by unfold QcC;rw [zN (by rw [hw];decide)]
 have YH:Qbq E.M.m E.M.m.length (cR E.M) va ac=E.M.m:=by unfold Qbq;rw [zN (by rw [hw];decide)]
 have qJ:¬ Qcs ac=0:=by unfold Qcs;split;decide;split<;>decide
 rw [WL,yE,YH] at zA;clear WL yE YH hw hh;generalize Qcs ac=ca at *;have fJ:=Qaa E.M.m;have gW:=Qaf E.T;have fG:=Qad E.B;have qH:=(Qaz hE.o).2.1;obtain ⟨hM,hT,_,hB,_,ho,_,_⟩:=hE;obtain ⟨M,T,B,o,_,s⟩:=E;dsimp only [Eg.H,Eg.R,Eg.Rk,Eg.C,wrt] at *;obtain ⟨hx,hc,hY,gA,gI,gB,gH,gE,gD,gG⟩:=hM;obtain ⟨_,_,c,m,_,_,_,_,d,n⟩:=M;dsimp only at *;cases QaO hx;cases zC8 hc;cases d;cases n;dsimp only [Mc.C,Mc.D,Dk.C,Nk.C,Dk.ok,Nk.ok] at *
 try dsimp only [cR,Mc.C,Mc.D,Dk.C,Nk.C] at *
 try simp only [Qai,zca,zna,List.getD_cons_succ,List.getD_cons_zero] at *
 generalize gP:wsv m=XX,hX3:bks B=BB,hX4:OLs o=OO,gJ:m.length=nn,gL:B.length=bn,hon:o.length=on,tes T=TT,T.length=tn at *;have tm1:Int.tmod (va:Int) (sz:Int)=((va%sz:Nat):Int):=Qj0;generalize va%sz=vs at *;have tm2:Int.tmod (va:Int) 128=((va%128:Nat):Int):=Qj0;have dv2:Int.tdiv (va:Int) 128=((va / 128:Nat):Int):=QfC;have dv3:IntKind.u32.wrap (Int.tdiv (va:Int) 128)=((va / 128:Nat):Int):=QzK;have FE:((vs:Nat):Int)=0:=by omega
 generalize va%128=V0,va / 128=V1 at *;clear gP hX3 hX4 gJ gL hon hT hB ho hY gA gI gB gH gE gD gG;refine fnW Tryz.func74 ?_;(repeat' ((conv=>whnf);first|exact zi2|refine zj0 fun hb=>?_|(with_reducible first|refine zv tm1 ?_|refine zv dv3 ?_)|(refine Qaw fK ?_)|(refine QaD uP ?_)|(refine Qaw uS ?_)|(refine Qg6 zA ?_)|refine zse ?_|refine zbb ?_ ?_))
 all_goals exact Qzz
def QEB (r j:Nat) (C0 X T B O L W:List SV):St :=
 ⟨[(0,.a (.s (.ptr 0 0))),(14,.a (.s (.ptr 10 0))),(99,.a (.s (.sl 9 0 r))),(100,.a (.s (.i r))),(101,.a (.s (.i j)))],
  [(0,some ⟨true,1,C0⟩),(1,none),(2,none),(3,none),(4,none),(5,some ⟨true,1,X⟩),(6,some ⟨true,4,T⟩),(7,some ⟨true,3,B⟩),(8,some ⟨true,4,O⟩),(9,some ⟨true,1,L⟩),(10,some ⟨true,1,W⟩)],[0]⟩
theorem QGv (M:Mc) (T:List Te) (o:List (List SV)) (f:Nat) (l:List Nat) (Ez:Eg) :
  ∀ (j:Nat) (B:List Bk) (s:Bool),j<l.length->Qix (l.drop j) ⟨M,T,B,o,f,s⟩=Ez->Qix (l.drop (j+1)) (wrt (l.getD j 0) ⟨M,T,B,o,f,s⟩)=Ez:=by
 intro j B s hj hf
 have hd:l.drop j=l.getD j 0::l.drop (j+1):=by
  have:l[j]?=some (l.getD j 0):=by rw [zgd,zgg hj];rfl
  exact Qck l j _ this
 rw [hd] at hf;exact hf
theorem Qyu (E:Eg) (hE:E.ok) (va sz:Nat) (ac:Int) (gV:ZU va) (fQ:sz=1\/sz=4) (h:va%sz=0) (hp:Qc5 (E.M.c.getD 0 0)=true) (hh:QnZ E.T (va / 128) ac=none) (hw:Qbl E.M.m E.M.m.length (cR E.M) va ac=true) :
  FN 74 [.s (.ptr 0 0),.s (.u va),.s (.u sz),.s (.i ac)] E.H (. =(Qix (QdR E.M.m (Qbq E.M.m E.M.m.length (cR E.M) va ac) E.M.m.length) { E with T:=QcC E.T E.M.m E.M.m.length (cR E.M) va ac,M:= { E.M with m:=Qbq E.M.m E.M.m.length (cR E.M) va ac } }:Eg).R (.tup [.s (.u (frW (QaR E.M.m (cR E.M) va)*128+va%128:Nat)),.s (.bool true)])):=by
 have fK:=Qf4 E hE;rw [hp] at fK;have uP:FN 137 [.s (.sl 0 0 E.T.length),.s (.u (va / 128:Nat)),.s (.i ac)] [⟨false,4,tes E.T⟩] (. =⟨.tup [.s (.u 0),.s (.sl 1 0 E.T.length),.s (.bool false)],[],[⟨true,4,tes E.T⟩]⟩):=Qjj E.T (by have:=hE.tl;omega) (va / 128) ac hh;have zA:=Qmv E.T _ rfl (by have:=hE.tl;omega) E.M.m E.M.m.length (cR E.M) va ac ⟨rfl,hE.M.mr⟩ (by have:=hE.M.ml;omega) (Qab hE.M.cr 6) gV;have uS:=Qdr E hE;have WL:Qfx E.M.m E.M.m.length (cR E.M) va ac= [.u (frW (QaR E.M.m (cR E.M) va)*128+va%128:Nat),.u (Qa6 (cR E.M) va:Nat),.i 0]:=by unfold Qfx;rw [zP hw]
 have hX:XB E.M.m E.M.m.length:=⟨rfl,hE.M.mr⟩;have HA:=QhY (r:=cR E.M) (va:=va) (ac:=ac) hX;have JT:=QkE (t:=E.T) (xs:=E.M.m) (n:=E.M.m.length) (r:=cR E.M) (ac:=ac) hE.T gV;have VR:=Qgi (t:=E.T) (xs:=E.M.m) (n:=E.M.m.length) (r:=cR E.M) (va:=va) (ac:=ac) hE.tl;have vL:=Qhg E.M.m (Qbq E.M.m E.M.m.length (cR E.M) va ac) E.M.m.length rfl HA.1 hE.M.ml;rw [WL] at zA;clear WL hw hh;have hml0:=hE.M.ml;have wE:(⟨{ E.M with m:=Qbq E.M.m E.M.m.length (cR E.M) va ac },QcC E.T E.M.m E.M.m.length (cR E.M) va ac,E.B,E.o,E.f,E.s⟩:Eg).ok:=⟨⟨hE.M.x,hE.M.c,hE.M.xr,hE.M.cr,hE.M.pr,HA.2,by show (Qbq _ _ _ _ _).length<=_;rw [HA.1];exact hml0,hE.M.dk,hE.M.nk,hE.M.dv⟩,JT,VR,hE.B,hE.bl,hE.o,hE.ol,hE.f⟩;have gM:(QdR E.M.m (Qbq E.M.m E.M.m.length (cR E.M) va ac) E.M.m.length).length<=32:=Nat.le_trans (QlF _ _ _ _) (QaT _)
 have gO:∀ i∈QdR E.M.m (Qbq E.M.m E.M.m.length (cR E.M) va ac) E.M.m.length,i<4294967296:=fun i hi=>by
  unfold QdR at hi;rw [QhO] at hi;have:=QaT E.M.m.length;omega
 have hXl:=HA.1;clear HA hX JT;have ZN:=QfN (QdR E.M.m (Qbq E.M.m E.M.m.length (cR E.M) va ac) E.M.m.length);have GA:=fun j fr h=>QpW (QdR E.M.m (Qbq E.M.m E.M.m.length (cR E.M) va ac) E.M.m.length) j fr h
 generalize QdR E.M.m (Qbq E.M.m E.M.m.length (cR E.M) va ac) E.M.m.length=l at *;have WH:=Qaa (Qbq E.M.m E.M.m.length (cR E.M) va ac);have YR:=Qaf (QcC E.T E.M.m E.M.m.length (cR E.M) va ac);generalize Qbq E.M.m E.M.m.length (cR E.M) va ac=X,QcC E.T E.M.m E.M.m.length (cR E.M) va ac=T',frW (QaR E.M.m (cR E.M) va)*128+va%128=A1,Qa6 (cR E.M) va=A2 at *;have wG:=fun B s h fr=>Qci ⟨{ E.M with m:=X },T',B,E.o,E.f,s⟩ h fr
 have UN:=fun B s (h:(⟨{ E.M with m:=X },T',B,E.o,E.f,s⟩:Eg).ok) fr=>QeN h fr
 have gU:=QGv { E.M with m:=X } T' E.o E.f l;obtain ⟨Ez,FX⟩:∃ Ez,Qix l { E with T:=T',M:= { E.M with m:=X } }=Ez:=⟨_,rfl⟩;rw [FX];have gU:=gU Ez;have jM:Qix (l.drop 0) ⟨{ E.M with m:=X },T',E.B,E.o,E.f,E.s⟩=Ez:=FX;have fJ:=Qaa E.M.m;have gW:=Qaf E.T;have fG:=Qad E.B;have qH:=(Qaz hE.o).2.1;obtain ⟨hM,hT,_,_,_,_,_,zM⟩:=hE;obtain ⟨M,T,B,o,f,s⟩:=E;dsimp only [Eg.H,Eg.R,Eg.Rk,Eg.C,wrt] at *;obtain ⟨hx,hc,hY,gA,gI,gB,gH,gE,gD,gG⟩:=hM;obtain ⟨x,pc,c,m,ks,ta,td,tf,d,n,bt,bg,ct,wt,ht⟩:=M;dsimp only at *;obtain ⟨x0,x1,x2,x3,x4,x5,x6,x7,x8,x9,x10,x11,x12,x13,x14,x15,rfl⟩:=Qgt hx;obtain ⟨c0,c1,c2,c3,c4,c5,c6,c7,rfl⟩:=Qfo hc;obtain ⟨d0,d1,d2,d3,d4,d5,d6,d7⟩:=d;obtain ⟨n0,n1,n2,n3,n4,n5⟩:=n;dsimp only [Mc.C,Mc.D,Dk.C,Nk.C,Dk.ok,Nk.ok] at *
 try dsimp only [cR,Mc.C,Mc.D,Dk.C,Nk.C] at *
 try simp only [Qai,zca,zna,List.getD_cons_succ,List.getD_cons_zero] at *
 generalize gP:wsv m=XX,hX3:bks B=BB,hX4:OLs o=OO,gJ:m.length=nn,gL:B.length=bn,hon:o.length=on,gT:tes T=TT,htn:T.length=tn,hXX2:wsv X=X2 at *;generalize hTT2:tes T'=T2,VN:frs l=LL,hXl3:X.length=xn at *;have hXl:=hXl.symm;subst hXl;generalize ht2n:T'.length=t2n,uG:l.length=rl at *;have tm1:Int.tmod (va:Int) (sz:Int)=((va%sz:Nat):Int):=Qj0;generalize YT:va%sz=vs at *;have tm2:Int.tmod (va:Int) 128=((va%128:Nat):Int):=Qj0;have dv2:Int.tdiv (va:Int) 128=((va / 128:Nat):Int):=QfC;have dv3:IntKind.u32.wrap (Int.tdiv (va:Int) 128)=((va / 128:Nat):Int):=QzK;have FE:((vs:Nat):Int)=0:=by omega
 generalize va%128=V0,va / 128=V1 at *;clear gP gT hY gA gI gB gH gE gD gG hT FX;refine fnW Tryz.func74 ?_;(conv=>whnf);(repeat' ((first|exact zi2|refine zj0 fun hb=>?_|(with_reducible first|refine zv tm1 ?_|refine zv dv3 ?_)|(refine Qaw fK ?_)|(refine QaD uP ?_)|(refine Qaw uS ?_)|(refine Qg6 zA ?_)|(refine Qg6 vL ?_)|refine zse ?_|refine zbb ?_ ?_)<;>conv=>whnf))
 all_goals first|(exfalso;simp at hb;omega)|skip
 refine Lp.inv (fun mm σ=>∃ (j:Nat) (B:List Bk) (s:Bool),mm+j=rl/\(⟨⟨[x0,x1,x2,x3,x4,x5,x6,x7,x8,x9,x10,x11,x12,x13,x14,x15],pc,[c0,c1,c2,c3,c4,c5,c6,c7],X,ks,ta,td,tf,⟨d0,d1,d2,d3,d4,d5,d6,d7⟩,⟨n0,n1,n2,n3,n4,n5⟩,bt,bg,ct,wt,ht⟩,T',B,o,f,s⟩:Eg).ok/\Qix (l.drop j) ⟨⟨[x0,x1,x2,x3,x4,x5,x6,x7,x8,x9,x10,x11,x12,x13,x14,x15],pc,[c0,c1,c2,c3,c4,c5,c6,c7],X,ks,ta,td,tf,⟨d0,d1,d2,d3,d4,d5,d6,d7⟩,⟨n0,n1,n2,n3,n4,n5⟩,bt,bg,ct,wt,ht⟩,T',B,o,f,s⟩=Ez/\σ=QEB rl j [.u x0,.u x1,.u x2,.u x3,.u x4,.u x5,.u x6,.u x7,.u x8,.u x9,.u x10,.u x11,.u x12,.u x13,.u x14,.u x15,.u pc,.u c0,.u c1,.u c2,.u c3,.u c4,.u c5,.u c6,.u c7,.sl 5 0 nn,.str ks,.bool ta,.u td,.bool tf,.u d0,.u d1,.u d2,.i d3,.i d4,.u d5,.u d6,.str d7,.u n0,.u n1,.bool n2,.u n3,.bool n4,.u n5,.u bt,.u bg,.w ct,.bool wt,.bool ht,.sl 6 0 t2n,.sl 7 0 B.length,.sl 8 0 on,.i f,.bool s] X2 T2 (bks B) OO LL [.u A1,.u A2,.i 0]) ?_ ?_
 .refine ⟨rl,QEB rl 0 [.u x0,.u x1,.u x2,.u x3,.u x4,.u x5,.u x6,.u x7,.u x8,.u x9,.u x10,.u x11,.u x12,.u x13,.u x14,.u x15,.u pc,.u c0,.u c1,.u c2,.u c3,.u c4,.u c5,.u c6,.u c7,.sl 5 0 nn,.str ks,.bool ta,.u td,.bool tf,.u d0,.u d1,.u d2,.i d3,.i d4,.u d5,.u d6,.str d7,.u n0,.u n1,.bool n2,.u n3,.bool n4,.u n5,.u bt,.u bg,.w ct,.bool wt,.bool ht,.sl 6 0 t2n,.sl 7 0 bn,.sl 8 0 on,.i f,.bool s] X2 T2 BB OO LL [.u A1,.u A2,.i 0],?_,0,B,s,by omega,wE,jM,by rw [hX3,gL];try rfl⟩
  (exact zwV [(0,some 0),(1,some 1),(2,some 2),(3,some 3),(4,some 4),(5,some 459393),(6,some 459392),(7,some 3),(8,some 4),(9,some 655488),(10,some 459712)])
 rintro mm σ ⟨j,B,s,yG,hok,hf,rfl⟩;unfold QEB;have VE:=Qad B
 by_cases hj:j<rl
 .have zM:=gU j B s hj hf
  have g0:=GA j (l.getD j 0) (by rw [zgd,zgg (by omega)];rfl);have ca:=wG B s hok (l.getD j 0);have hok2:=UN B s hok (l.getD j 0);have jA:=gO (l.getD j 0) (by rw [zgd,zgg (by omega)];exact List.getElem_mem _)
  try dsimp only [cR,wrt,Mc.C,Mc.D,Dk.C,Nk.C] at ca zM hok2
  try simp only [Qai,zca,zna,List.getD_cons_succ,List.getD_cons_zero] at ca
  have hsB2:=Qad (B.filter (fun b=>decide (fk b≠((l.getD j 0:Nat):Int))));have q2:IntKind.i64.wrap ((j:Int)+1)=((j+1:Nat):Int):=QbF;have ix1:0+((j:Nat):Int).toNat * ty3.size=j:=QzJ;generalize l.getD j 0=fr at *;generalize gW:(s||decide (fr=f))=s2,HU:B.filter (fun b=>decide (fk b≠((fr:Nat):Int)))=Bf,FW:bks B=BB3 at *;generalize wN:bks Bf=BB2,B.length=bn3,hbfn:Bf.length=bfn at *;clear gU wG UN GA hok hf jM wE uS vL zA uP fK;(conv=>whnf);(repeat' ((first|exact zi2|refine zj0 fun hb=>?_|refine QhE ?_|refine QvT ?_|refine QmE ?_|refine Qek ?_|(refine Qaw ca ?_)|refine zse ?_|refine zbb ?_ ?_)<;>conv=>whnf))
  all_goals first
   | (exfalso;simp at hb;omega)
   | (
     refine ⟨mm-1,QEB rl (j+1) [.u x0,.u x1,.u x2,.u x3,.u x4,.u x5,.u x6,.u x7,.u x8,.u x9,.u x10,.u x11,.u x12,.u x13,.u x14,.u x15,.u pc,.u c0,.u c1,.u c2,.u c3,.u c4,.u c5,.u c6,.u c7,.sl 5 0 nn,.str ks,.bool ta,.u td,.bool tf,.u d0,.u d1,.u d2,.i d3,.i d4,.u d5,.u d6,.str d7,.u n0,.u n1,.bool n2,.u n3,.bool n4,.u n5,.u bt,.u bg,.w ct,.bool wt,.bool ht,.sl 6 0 t2n,.sl 7 0 bfn,.sl 8 0 on,.i f,.bool s2] X2 T2 BB2 OO LL [.u A1,.u A2,.i 0],by omega,?_,j+1,Bf,s2,by omega,hok2,zM,by rw [wN,hbfn];try rfl⟩
     (exact zwV [(0,some 0),(1,some 1),(2,some 2),(3,some 3),(4,some 4),(5,some 196736),(6,some 196737),(7,some 196738),(8,some 196739),(9,some 9),(10,some 10)]))
 .obtain rfl:j=rl:=by omega
  rw [List.drop_eq_nil_of_le (by omega)] at hf;change (⟨_,T',B,o,f,s⟩:Eg)=Ez at hf;subst hf;dsimp only [Eg.C,Mc.C,Mc.D,Dk.C,Nk.C];simp only [Qai,zca,zna];rw [hXl3,hon,hXX2,hX4,hTT2,ht2n];clear gU wG UN GA hok jM wE uS vL zA uP fK;generalize FW:bks B=BB3,B.length=bn3 at *;exact QD9
theorem Qfs (E:Eg) (hE:E.ok) (va sz:Nat) (ac:Int) (gV:ZU va) (fQ:sz=1\/sz=4) :
  FN 74 [.s (.ptr 0 0),.s (.u va),.s (.u sz),.s (.i ac)] E.H (. =(rsv E va sz ac).1.R (.tup [.s (.u ((rsv E va sz ac).2.1:Nat)),.s (.bool (rsv E va sz ac).2.2)])):=by
 unfold rsv
 by_cases h:va%sz=0
 .rw [zN (fun h2=>h2 h)]
  by_cases hp:Qc5 (E.M.c.getD 0 0)=false
  .rw [zP hp]
   exact Qyr E hE va sz ac gV fQ h hp
  .rw [zN hp]
   have uE:Qc5 (E.M.c.getD 0 0)=true:=by cases q:Qc5 (E.M.c.getD 0 0) with|true=>rfl|false=>exact absurd q hp
   cases hh:QnZ E.T (va / 128) ac with
   | some q=>obtain ⟨i,e⟩:=q;exact Qys E hE va sz ac gV fQ h uE i e hh
   | none =>
    dsimp only
    by_cases hw:Qbl E.M.m E.M.m.length (cR E.M) va ac=true
    .rw [zP hw]
     exact Qyu E hE va sz ac gV fQ h uE hh hw
    .rw [zN hw]
     exact Qyt E hE va sz ac gV fQ h uE hh (by cases q:Qbl E.M.m E.M.m.length (cR E.M) va ac with|true=>exact absurd q hw|false=>rfl)
 .rw [zP h]
  exact Qyq E hE va sz ac gV fQ h
theorem Qht (E:Eg) (hE:E.ok) (va sz:Nat) (ac:Int) (gV:ZU va):∃ (X:List Nat) (T1:List Te) (B1:List Bk) (s1:Bool),(rsv E va sz ac).1=⟨{ E.M with m:=X },T1,B1,E.o,E.f,s1⟩/\X.length=E.M.m.length/\(rsv E va sz ac).1.ok/\((rsv E va sz ac).2.2=false->(rsv E va sz ac).1=E):=by
 unfold rsv
 by_cases h:va%sz≠0
 .rw [zP h];exact ⟨E.M.m,E.T,E.B,E.s,rfl,rfl,hE,fun _=>rfl⟩
 rw [zN h]
 by_cases hp:Qc5 (E.M.c.getD 0 0)=false
 .rw [zP hp];exact ⟨E.M.m,E.T,E.B,E.s,rfl,rfl,hE,fun _=>rfl⟩
 rw [zN hp]
 cases hh:QnZ E.T (va / 128) ac with
 | some q =>
  obtain ⟨i,e⟩:=q;obtain ⟨g1,_⟩:=Qh2 hh;exact ⟨E.M.m,Qbw E.T i e,E.B,E.s,rfl,rfl,⟨hE.M,fun x hx=>hE.T x ((Qgn E.T i e g1 x).1 hx),by show (Qbw E.T i e).length<=8;rw [Qey E.T i e g1];exact hE.tl,hE.B,hE.bl,hE.o,hE.ol,hE.f⟩,fun h=>by cases h⟩
 | none =>
  dsimp only
  by_cases hw:Qbl E.M.m E.M.m.length (cR E.M) va ac=true
  .rw [zP hw]
   have hX:XB E.M.m E.M.m.length:=⟨rfl,hE.M.mr⟩;have HA:=QhY (r:=cR E.M) (va:=va) (ac:=ac) hX;have JT:=QkE (t:=E.T) (xs:=E.M.m) (n:=E.M.m.length) (r:=cR E.M) (ac:=ac) hE.T gV;have VR:=Qgi (t:=E.T) (xs:=E.M.m) (n:=E.M.m.length) (r:=cR E.M) (va:=va) (ac:=ac) hE.tl;have gH:=hE.M.ml;have HV:Eg.ok { E with T:=QcC E.T E.M.m E.M.m.length (cR E.M) va ac,M:= { E.M with m:=Qbq E.M.m E.M.m.length (cR E.M) va ac } }:=⟨⟨hE.M.x,hE.M.c,hE.M.xr,hE.M.cr,hE.M.pr,HA.2,by show (Qbq _ _ _ _ _).length<=_;rw [HA.1];exact gH,hE.M.dk,hE.M.nk,hE.M.dv⟩,JT,VR,hE.B,hE.bl,hE.o,hE.ol,hE.f⟩;have JB:=Qsa (QdR E.M.m (Qbq E.M.m E.M.m.length (cR E.M) va ac) E.M.m.length) HV;obtain ⟨k1,_,k3,k4,_⟩:=QvQ (QdR E.M.m (Qbq E.M.m E.M.m.length (cR E.M) va ac) E.M.m.length) { E with T:=QcC E.T E.M.m E.M.m.length (cR E.M) va ac,M:= { E.M with m:=Qbq E.M.m E.M.m.length (cR E.M) va ac } };generalize Qix (QdR E.M.m (Qbq E.M.m E.M.m.length (cR E.M) va ac) E.M.m.length) { E with T:=QcC E.T E.M.m E.M.m.length (cR E.M) va ac,M:= { E.M with m:=Qbq E.M.m E.M.m.length (cR E.M) va ac } }=E' at *;obtain ⟨_,T',B',_,_,s'⟩:=E';dsimp only at k1 k3 k4;subst k1 k3 k4;exact ⟨_,T',B',s',rfl,HA.1,JB,fun h=>by cases h⟩
  .rw [zN hw];exact ⟨E.M.m,E.T,E.B,E.s,rfl,rfl,hE,fun _=>rfl⟩
theorem QkI (x:Nat):∀ (t:List Bk) (k:Nat),(0<=Qgp x (t.map (·.A)) k->∃ (i:Nat) (b:Bk),Qgp x (t.map (·.A)) k=((k+i:Nat):Int)/\t[i]?=some b/\b.A=x)/\(¬ 0<=Qgp x (t.map (·.A)) k->Qgp x (t.map (·.A)) k= -1)
 | [],k=>⟨fun h=>by change (0:Int)<= -1 at h;omega,fun _=>rfl⟩
 | b::l,k=>by
  by_cases hp:b.A=x
  .have hu:Qgp x ((b::l).map (·.A)) k=(k:Int):=by show (if _ then _ else _)=_;rw [zP hp]
   rw [hu];exact ⟨fun _=>⟨0,b,rfl,rfl,hp⟩,fun h=>by omega⟩
  .have hu:Qgp x ((b::l).map (·.A)) k=Qgp x (l.map (·.A)) (k+1):=by show (if _ then _ else _)=_;rw [zN hp]
   rw [hu];obtain ⟨h1,h2⟩:=QkI x l (k+1);refine ⟨fun h=>?_,h2⟩;obtain ⟨i,e',g1,g2,g3⟩:=h1 h;exact ⟨i+1,e',by rw [g1];congr 1;omega,g2,g3⟩
theorem Qxb (E:Eg) (hE:E.ok) (a:Nat) (ha:ZU a) (i:Nat) (b:Bk) (hb:E.B[i]?=some b) (hi:Qgp a (E.B.map (·.A)) 0=(i:Int)) :
  FN 75 [.s (.ptr 0 0),.s (.u a)] E.H (. =({ E with B:=Qbc E.B i b }:Eg).R (.a (.agg b.C))):=by
 have ZM:=Qte E.B _ rfl (by have:=hE.bl;omega) hE.B a i b hb hi
 have zO:(Qbc E.B i b).length=E.B.length:=by
  have gO:=(zgs.1 hb).1;unfold Qbc;rw [List.length_cons,zla,List.length_take,List.length_drop];omega
 have YQ:=Qad (Qbc E.B i b);have fJ:=Qaa E.M.m;have gW:=Qaf E.T;have fG:=Qad E.B;have qH:=(Qaz hE.o).2.1;obtain ⟨hM,hT,_,hB,_,ho,_,_⟩:=hE;obtain ⟨M,T,B,o,_,s⟩:=E;dsimp only [Eg.H,Eg.R,Eg.Rk,Eg.C,wrt] at *;rw [zO];generalize JN:bks (Qbc B i b)=B2,hX3:bks B=BB,gL:B.length=bn at *;obtain ⟨A,_,l⟩:=b;dsimp only [Bk.C] at *;generalize l.length=NL,mzs l=ML at *;obtain ⟨hx,hc,hY,gA,gI,gB,gH,gE,gD,gG⟩:=hM;obtain ⟨_,_,_,m,_,_,_,_,d,n⟩:=M;dsimp only at *;cases QaO hx;cases zC8 hc;cases d;cases n;dsimp only [Mc.C,Mc.D,Dk.C,Nk.C,Dk.ok,Nk.ok] at *
 try dsimp only [cR,Mc.C,Mc.D,Dk.C,Nk.C] at *
 try simp only [Qai,zca,zna,List.getD_cons_succ,List.getD_cons_zero] at *
 generalize gP:wsv m=XX,tes T=TT,hX4:OLs o=OO,gJ:m.length=nn,T.length=tn,hon:o.length=on at *;clear gP hX3 hX4 gJ gL hon hT hB ho hY gA gI gB gH gE gD gG hi hb zO JN;refine fnW Tryz.func75 ?_;(conv=>whnf);(repeat' ((first|exact zi2|refine zj0 fun hb=>?_|(refine QaD ZM ?_)|refine zse ?_|refine zbb ?_ ?_)<;>conv=>whnf))
 all_goals first|(apply Fin.mv (m:= [(0,some 0),(1,some 1),(2,some 2),(3,some 3),(4,some 4),(5,some 1),(6,some 2),(7,some 131456),(8,some 4)]);(focus exact rfl);(all_goals ((try (show QcI _ _ _ [] _));first|exact aFi|exact rfl)))
theorem Qxc (E:Eg) (hE:E.ok) (a:Nat) (ha:ZU a) (hi:Qgp a (E.B.map (·.A)) 0= -1) :
  FN 75 [.s (.ptr 0 0),.s (.u a)] E.H (. =({ E with B:=Qj8 E.B (fdB E.M.m E.M.m.length a 16) }:Eg).R (.a (.agg (fdB E.M.m E.M.m.length a 16).C))):=by
 have ZM:=Qw9 E.B _ rfl (by have:=hE.bl;omega) hE.B a hi;obtain ⟨F,_,_,_,hF,JP,_,cb,cf⟩:=Qu0 E.M.m E.M.m.length rfl (by have:=hE.M.ml;omega) hE.M.mr a ha;rw [<- hF];have fV:=Qp9 E.B _ rfl (by have:=hE.bl;omega) hE.B F JP _ rfl _ rfl;have YQ:=Qad (Qj8 E.B F);have fJ:=Qaa E.M.m;have gW:=Qaf E.T;have fG:=Qad E.B;have qH:=(Qaz hE.o).2.1;obtain ⟨hM,hT,_,hB,_,ho,_,_⟩:=hE;obtain ⟨M,T,B,o,_,s⟩:=E;dsimp only [Eg.H,Eg.R,Eg.Rk,Eg.C,wrt] at *;generalize JN:bks (Qj8 B F)=B2,jU:(Qj8 B F).length=b2n,hX3:bks B=BB,gL:B.length=bn at *;clear hF JP;obtain ⟨A,_,l⟩:=F;dsimp only [Bk.C] at *;generalize l.length=NL,mzs l=ML at *;obtain ⟨hx,hc,hY,gA,gI,gB,gH,gE,gD,gG⟩:=hM;obtain ⟨_,_,_,m,_,_,_,_,d,n⟩:=M;dsimp only at *;cases QaO hx;cases zC8 hc;cases d;cases n;dsimp only [Mc.C,Mc.D,Dk.C,Nk.C,Dk.ok,Nk.ok] at *
 try dsimp only [cR,Mc.C,Mc.D,Dk.C,Nk.C] at *
 try simp only [Qai,zca,zna,List.getD_cons_succ,List.getD_cons_zero] at *
 generalize gP:wsv m=XX,tes T=TT,hX4:OLs o=OO,gJ:m.length=nn,T.length=tn,hon:o.length=on at *;clear gP hX3 hX4 gJ gL hon hT hB ho hY gA gI gB gH gE gD gG hi JN jU;refine fnW Tryz.func75 ?_;(conv=>whnf);(repeat' ((first|exact zi2|refine zj0 fun hb=>?_|(refine QaD ZM ?_)|(refine QaD cb ?_)|(refine QaD cf ?_)|(refine QaD fV ?_)|refine zse ?_|refine zbb ?_ ?_)<;>conv=>whnf))
 all_goals first|(apply Fin.mv (m:= [(0,some 0),(1,some 1),(2,some 2),(3,some 3),(4,some 4),(5,some 1),(6,some 2),(7,some 328128),(8,some 4)]);(focus exact rfl);(all_goals ((try (show QcI _ _ _ [] _));first|exact aFi|exact rfl)))
theorem QBo (E:Eg) (hE:E.ok) (a:Nat) (ha:ZU a):FN 75 [.s (.ptr 0 0),.s (.u a)] E.H (. =(fnd E a).1.R (.a (.agg (fnd E a).2.C))):=by
 obtain ⟨h1,h2⟩:=QkI a E.B 0
 by_cases h0:0<=Qgp a (E.B.map (·.A)) 0
 .obtain ⟨i,b,g1,g2,_⟩:=h1 h0
  rw [Nat.zero_add] at g1;have hu:(Qgp a (E.B.map (·.A)) 0).toNat=i:=by rw [g1];omega
  unfold fnd;rw [hu,g2];dsimp only;rw [zP h0];exact Qxb E hE a ha i b g2 g1
 .have hm:=Qxc E hE a ha (h2 h0)
  unfold fnd;split
  .rw [zN h0];exact hm
  .exact hm
end Go.Proofs.YtflaceijiphfdaaGreat
