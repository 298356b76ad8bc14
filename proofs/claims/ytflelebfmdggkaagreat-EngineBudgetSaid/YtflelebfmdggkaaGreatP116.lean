import Derived.Test.YtflelebfmdggkaaGreatP100
set_option linter.unusedSimpArgs false
set_option linter.unusedVariables false
set_option maxHeartbeats 100000000
set_option maxRecDepth 100000
namespace Go.Proofs.YtflelebfmdggkaaGreat
open Go Go.RowKit
theorem QsF (M:Mc) (hM:M.ok) (p:Int) (v:Nat) (hv:v<4294967296):FN 51 [.s (.ptr 0 0),.s (.i p),.s (.u v)] [⟨true,1,M.C 1⟩,⟨true,1,wsv M.m⟩]
  (· =⟨.a (.s (oS 2 (Qbz M p v).2)),[(0,some ⟨true,1,(Qbz M p v).1.C 1⟩),(1,some ⟨true,1,wsv (Qbz M p v).1.m⟩)],oR (Qbz M p v).2⟩):=by
 have q3:=QzH v;have q4:=Qns M.d hM.dk M.m _ rfl hM.ml hM.mr p v hv M.ct;have q5:=QnS M.n hM.nk M.m _ rfl hM.ml hM.mr p v hv M.ct;have q6:=QtF M.bt M.bg hM.dv.2.2.1 M.m _ rfl hM.ml p v hv;have h4:=QdO M.d M.m M.m.length p v M.ct;have h5:=QdE M.n M.m M.m.length p v M.ct;have UA:=QeH M.m M.bg M.m.length p v;have gL:=Qaa M.m;have jK:=Qaa (QfG M.m M.bg M.m.length p v);obtain ⟨D,hD⟩:∃ D,Qbz M p v=D:=⟨_,rfl⟩;rw [hD];unfold Qbz at hD;generalize Qa6 M.d M.m M.m.length p v M.ct=Z4,Qbk M.n M.m M.m.length p v M.ct=Z5,Qg0 M.bg M.m.length p v=gb,QfG M.m M.bg M.m.length p v=gm at *;obtain ⟨⟨e0,e1,e2,e3,e4,e5,e6,e7⟩,o4⟩:=Z4;obtain ⟨⟨f0,f1,f2,f3,f4,f5⟩,o5⟩:=Z5;obtain ⟨hx,hc,hY,gA,gH,gB,_,gE,gD,gF⟩:=hM;obtain ⟨_,_,_,m,_,_,_,_,d,n,bt,bg,ct⟩:=M;dsimp only at *;obtain ⟨_,_,_,_,_,_,_,_,_,_,_,_,_,_,_,_,rfl⟩:=Qav hx;obtain ⟨_,_,_,_,_,_,_,_,rfl⟩:=QaM hc;cases d;cases n;dsimp only [Mc.C,Mc.D,Dk.C,Nk.C,Dk.ok,Nk.ok] at *;generalize gJ:m.length=nn,hX:wsv m=XX,hG:wsv gm=GG at *;clear hY gA gE gD gB gF gH
 by_cases h1:p=0
 ·rw [zP h1] at hD
  subst h1 hD;clear q3 q4 q5 q6 h4 h5;dsimp only [oS,oR];rw [gJ,hX];refine fnW Tryz.func51 ?_;(repeat' ((conv=>whnf);first|exact zi3|(refine zj0 ?_;intro hb)|((with_reducible apply Ge.mk (α:=List Int)); · exact rfl)|refine zse ?_|refine zbb ?_ ?_));all_goals (conv=>whnf)
  all_goals first|(exact QjY)
 rw [zN h1] at hD
 by_cases h2:p≤2
 ·rw [zP h2] at hD
  subst hD;clear q3 q4 q5 q6 h4 h5;dsimp only [oS,oR];rw [gJ,hX];refine fnW Tryz.func51 ?_;(repeat' ((conv=>whnf);first|exact zi3|(refine zj0 ?_;intro hb)|refine zse ?_|refine zbb ?_ ?_))
  all_goals exact QFw
 rw [zN h2] at hD
 by_cases h3:p=3
 ·rw [zP h3] at hD
  subst h3 hD;clear q4 q5 q6 h4 h5;dsimp only [oS,oR];rw [gJ,hX];unfold QzS at q3
  by_cases hv0:(v:Int)=0
  ·rw [zP hv0] at q3
   rw [decide_eq_false (not_not_intro hv0)];obtain rfl:v=0:=by omega
   refine fnW Tryz.func51 ?_;exact Qxd
  ·rw [zN hv0] at q3
   rw [decide_eq_true hv0];refine fnW Tryz.func51 ?_;exact Qxd
 rw [zN h3] at hD
 by_cases h6:p≤6
 ·rw [zP h6] at hD
  subst hD;clear q3 q5 q6 h5;dsimp only [Mc.C,Mc.D,Dk.C,Nk.C] at *;rw [gJ,hX]
  cases o4 with
  | none =>
   dsimp only [oS,oR] at *;refine fnW Tryz.func51 ?_;(repeat' ((conv=>whnf);first|exact zi3|(refine zj0 ?_;intro hb)|(refine QaD q4 ?_)|refine zse ?_|refine zbb ?_ ?_));all_goals (conv=>whnf)
   all_goals first|(exact QdV)
  | some l =>
   obtain ⟨wQ,HU,wR⟩:=h4 l rfl;dsimp only [oS,oR] at *;refine fnW Tryz.func51 ?_;(repeat' ((conv=>whnf);first|exact zi3|(refine zj0 ?_;intro hb)|(refine QaD q4 ?_)|refine zse ?_|refine zbb ?_ ?_));all_goals (conv=>whnf)
   all_goals first|(exact QjY)
 rw [zN h6] at hD
 by_cases h9:p≤9
 ·rw [zP h9] at hD
  subst hD;clear q3 q4 q6 h4;dsimp only [Mc.C,Mc.D,Dk.C,Nk.C] at *;rw [gJ,hX]
  cases o5 with
  | none =>
   dsimp only [oS,oR] at *;refine fnW Tryz.func51 ?_;(repeat' ((conv=>whnf);first|exact zi3|(refine zj0 ?_;intro hb)|(refine QaD q5 ?_)|refine zse ?_|refine zbb ?_ ?_));all_goals (conv=>whnf)
   all_goals first|(exact QdV)
  | some l =>
   obtain ⟨wQ,HU,wR⟩:=h5 l rfl;dsimp only [oS,oR] at *;refine fnW Tryz.func51 ?_;(repeat' ((conv=>whnf);first|exact zi3|(refine zj0 ?_;intro hb)|(refine QaD q5 ?_)|refine zse ?_|refine zbb ?_ ?_));all_goals (conv=>whnf)
   all_goals first|(exact QjY)
 rw [zN h9] at hD;subst hD;clear q3 q4 q5 h4 h5;dsimp only [Mc.C,Mc.D,Dk.C,Nk.C] at *;rw [hG,UA];dsimp only [oS,oR];refine fnW Tryz.func51 ?_;(repeat' ((conv=>whnf);first|exact zi3|(refine zj0 ?_;intro hb)|(refine Qg3 q6 ?_)|refine zse ?_|refine zbb ?_ ?_))
 all_goals exact QFw
theorem QlN (M:Mc) (p:Int) (v:Nat):Qbz M p v=({ M with m:=(Qbz M p v).1.m,ta:=(Qbz M p v).1.ta,td:=(Qbz M p v).1.td,tf:=(Qbz M p v).1.tf,d:=(Qbz M p v).1.d,n:=(Qbz M p v).1.n,bg:=(Qbz M p v).1.bg },(Qbz M p v).2):=by
 unfold Qbz
 repeat' split
 all_goals rfl
theorem Qxi (M:Mc) (p:Int):inM M p= { M with ks:=(inM M p).ks }:=by
 unfold inM;split<;>rfl
theorem Qim (M:Mc) (hM:M.ok) (w:Nat) (hw:w<4294967296):FN 22 [.s (.ptr 0 0),.s (.u w)] [⟨true,1,M.C 1⟩,⟨true,1,wsv M.m⟩]
  (· =⟨.a (.s (oS 2 (Qbh M w).2)),[(0,some ⟨true,1,(Qbh M w).1.C 1⟩),(1,some ⟨true,1,wsv (Qbh M w).1.m⟩)],oR (Qbh M w).2⟩):=by
 have q0:=QjL M hM;have q1:=QDE M.x (Qdd M) (Qda M) M.m _ hM.x (Qbw M hM) (Qel M hM) (Qd2 M hM) rfl hM.mr (by have:=hM.ml;omega) hM.xr _ rfl;have hS:=QdN M hM;have hQ:=QbY M hM;obtain ⟨K,P,R,V,he,hR,hV⟩:=hQ.ef;have i1:=QAu (QaG M) hS P w;have i2:=QsF (QaG M) hS P V hV;have i3:=Qgw (QaG M).x (QaG M).pc (QaG M).c R (inV (QaG M) P w) hS.x hS.c hR;have gU:=Qaz (QaG M).x R (inV (QaG M) P w);have hO:=Qie (QaG M) P V;have hOl:=Qib (QaG M) P V;have YL:=QlN (QaG M) P V;have hIe:=Qxi (QaG M) P;have FJ:IntKind.u64.wrap ((M.ct:Int)+1)=(((M.ct+1)%18446744073709551616:Nat):Int):=by rw [QnY];omega
 obtain ⟨D,hD⟩:∃ D,Qbh M w=D:=⟨_,rfl⟩;rw [hD];unfold Qbh at hD;rw [he] at hD;change (if K=1 then (Qdb { inM (QaG M) P with x:=QaE (QaG M).x R (inV (QaG M) P w) },none) else if K=2 then (Qdb (Qbz (QaG M) P V).1,(Qbz (QaG M) P V).2) else if K=3 then (Qdb { QaG M with wt:=true },none) else if K=4 then (Qdb { QaG M with ht:=true },none) else (Qdb (QaG M),none))=D at hD;change Fn _ _ _ _ (· =⟨.tup [.agg (Qay (QaJ M).x (QaJ M).pc (QaJ M).c),.agg (QaJ M).e],[(0,some ⟨true,1,wsv (QaJ M).m⟩)],[]⟩) at q1;rw [he] at q1;have h1:=hQ.xl;have h2:=hQ.cl;have h3:=hQ.ml;have h4:=Qbw M hM;have gL:=Qaa M.m;have HZ:=Qaa (QaJ M).m;have UI:(QaG M).m.length=M.m.length:=hQ.ml;rw [YL] at hOl hD i2;rw [hIe] at i1 hD;generalize (inM (QaG M) P).ks=k2,YJ:QaE (QaG M).x R (inV (QaG M) P w)=X2,(Qbz (QaG M) P V).2=O2,(Qbz (QaG M) P V).1.m=m2,(Qbz (QaG M) P V).1.ta=ta2,(Qbz (QaG M) P V).1.td=td2,(Qbz (QaG M) P V).1.tf=tf2,(Qbz (QaG M) P V).1.d=d2,(Qbz (QaG M) P V).1.n=n2,(Qbz (QaG M) P V).1.bg=bg2 at *;have gY:=Qaa m2;clear YL hIe hS;unfold QaG at *;generalize inV _ P w=v1 at i1 i3 YJ;generalize QaJ M=Q at *;obtain ⟨qx,qpc,qc,qm,qe⟩:=Q;dsimp only at *;subst he;clear hQ;have hX3:X2.length=16:=by rw [gU];exact h1
 generalize Qdd M=ip,Qda M=ic at *;clear YJ gU;obtain ⟨_,_,_,_,_,_,_,_,_,_,_,_,_,_,_,_,rfl⟩:=Qav h1;obtain ⟨_,_,_,_,_,_,_,_,rfl⟩:=QaM h2;obtain ⟨_,_,_,_,_,_,_,_,_,_,_,_,_,_,_,_,rfl⟩:=Qav hX3;obtain ⟨_,_,_,_,_,_,_,_,rfl⟩:=QaM h4;cases d2;cases n2;obtain ⟨hx,hc,hY,gA,gH,gB,_,gE,gD,gF⟩:=hM;obtain ⟨x,pc,c,m,ks,ta,td,tf,d,n,_,bg,ct,wt,ht⟩:=M;dsimp only at *;obtain ⟨_,_,_,_,_,_,_,_,_,_,_,_,_,_,_,_,rfl⟩:=Qav hx;obtain ⟨_,_,_,_,_,_,_,_,rfl⟩:=QaM hc;obtain ⟨_,_,d2⟩:=d;obtain ⟨_,_,n2⟩:=n;dsimp only [Mc.C,Mc.D,Dk.C,Nk.C,Dk.ok,Nk.ok] at *;unfold efS at *;generalize m.length=nn,wsv m=XX,hQQ:wsv qm=QQ at *;generalize h22:wsv m2=M2,qZ:(ct+1)%18446744073709551616=ct2 at *;clear hY gA gE gD gB gF gH
 by_cases k1:K=1
 ·rw [zP k1] at hD
  subst k1 hD;clear i2 hO hOl;dsimp only [oS,oR,Qdb,Mc.C,Mc.D,Dk.C,Nk.C] at *;simp only [Qah,List.cons_append,List.nil_append] at *;rw [qZ]
  try rw [h3] at *
  try rw [hQQ]
  refine fnW Tryz.func22 ?_;(repeat' ((conv=>whnf);first|exact zi3|(refine zj0 ?_;intro hb)|(refine QaD q0 ?_)|(refine Qg3 q1 ?_)|refine zq3 ?_|refine Qsz ?_|(refine Qlw i1 ?_)|(refine zpu i3 ?_)|refine zse ?_|refine zbb ?_ ?_))
  all_goals exact QFw
 rw [zN k1] at hD
 by_cases k2':K=2
 ·rw [zP k2'] at hD
  subst k2' hD;clear i1 i3
  cases O2 with
  | none =>
   dsimp only [oS,oR,Qdb,Mc.C,Mc.D,Dk.C,Nk.C] at *;simp only [Qah,List.cons_append,List.nil_append] at *;rw [qZ];rw [hOl.trans h3] at i2 ⊢;rw [h3] at i2
   try rw [h22]
   refine fnW Tryz.func22 ?_;(repeat' ((conv=>whnf);first|exact zi3|(refine zj0 ?_;intro hb)|(refine QaD q0 ?_)|(refine Qg3 q1 ?_)|refine zq3 ?_|refine Qsz ?_|(refine Qlw i2 ?_)|refine zse ?_|refine zbb ?_ ?_));all_goals (conv=>whnf)
   all_goals first|(exact QdV)
  | some l =>
   obtain ⟨wQ,HU,wR⟩:=hO l rfl;dsimp only [oS,oR,Qdb,Mc.C,Mc.D,Dk.C,Nk.C] at *;simp only [Qah,List.cons_append,List.nil_append] at *;rw [qZ];rw [hOl.trans h3] at i2 ⊢;rw [h3] at i2
   try rw [h22]
   refine fnW Tryz.func22 ?_;(repeat' ((conv=>whnf);first|exact zi3|(refine zj0 ?_;intro hb)|(refine QaD q0 ?_)|(refine Qg3 q1 ?_)|refine zq3 ?_|refine Qsz ?_|(refine Qlw i2 ?_)|refine zse ?_|refine zbb ?_ ?_));all_goals (conv=>whnf)
   all_goals first|(exact QjY)
 rw [zN k2'] at hD
 by_cases k3:K=3
 ·rw [zP k3] at hD
  subst k3 hD;clear i1 i2 i3 hO hOl;dsimp only [oS,oR,Qdb,Mc.C,Mc.D,Dk.C,Nk.C] at *;simp only [Qah,List.cons_append,List.nil_append] at *;rw [qZ]
  try rw [h3] at *
  try rw [hQQ]
  refine fnW Tryz.func22 ?_;exact QkL
 rw [zN k3] at hD
 by_cases k4:K=4
 ·rw [zP k4] at hD
  subst k4 hD;clear i1 i2 i3 hO hOl;dsimp only [oS,oR,Qdb,Mc.C,Mc.D,Dk.C,Nk.C] at *;simp only [Qah,List.cons_append,List.nil_append] at *;rw [qZ]
  try rw [h3] at *
  try rw [hQQ]
  refine fnW Tryz.func22 ?_;exact QkL
 rw [zN k4] at hD;subst hD;clear i1 i2 i3 hO hOl;dsimp only [oS,oR,Qdb,Mc.C,Mc.D,Dk.C,Nk.C] at *;simp only [Qah,List.cons_append,List.nil_append] at *;rw [qZ]
 try rw [h3] at *
 try rw [hQQ]
 refine fnW Tryz.func22 ?_;exact QkL
end Go.Proofs.YtflelebfmdggkaaGreat
