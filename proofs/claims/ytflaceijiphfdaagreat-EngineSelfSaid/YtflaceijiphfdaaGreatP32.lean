import Derived.Test.YtflaceijiphfdaaGreatP31
set_option linter.unusedSimpArgs false
set_option linter.unusedVariables false
set_option maxHeartbeats 0
set_option maxRecDepth 100000
namespace Go.Proofs.YtflaceijiphfdaaGreat
open Go Go.RowKit
theorem QmZ (M:Mc) (hM:M.ok) (p:Int) (v:Nat) (hv:ZU v) (hp:¬ (p=10\/p=11)):FN 149 [.agg (M.C 0),.s (.i p),.s (.u v),.s (.w M.ct)] [⟨false,1,wsv M.m⟩]
  (. =⟨.tup [.agg ((Qbz M p v).1.C 0),.s (oS 1 (Qbz M p v).2)],[],oR (Qbz M p v).2⟩):=by
 have q3:=Qwg M.ta M.td M.tf v;have q4:=QmQ M.d hM.dk M.m _ rfl hM.ml hM.mr p v hv M.ct;have q5:=QmU M.n hM.nk M.m _ rfl hM.ml hM.mr p v hv M.ct;have h4:=Qdy M.d M.m M.m.length p v M.ct;have h5:=QdE M.n M.m M.m.length p v M.ct;have gK:=Qaa M.m;obtain ⟨D,hD⟩:∃ D,Qbz M p v=D:=⟨_,rfl⟩
 have wK:¬ (0<=p/\p<=9)->D=(M,none):=by
  intro h;rw [<- hD];unfold Qbz;rw [zN (by omega)]
  by_cases h2:p<=2
  .rw [zP h2]
  .rw [zN h2,zN (by omega),zN (by omega),zN (by omega)]
   have hq:¬ gvQ M.bg M.m.length p v:=fun h=>hp (.inl h.1)
   unfold Qhl QfO;rw [zN hq,zN hq,zN (fun h=>hp (.inr h.1))]
 rw [hD];unfold Qbz at hD;generalize Qa7 M.d M.m M.m.length p v M.ct=Z4,Qbj M.n M.m M.m.length p v M.ct=Z5,Qhl M.bg M.m.length p v=gb,QfO M.m M.bg M.m.length p v=gm at *;obtain ⟨⟨_,_,_,_,_,_,_,_⟩,o4⟩:=Z4;obtain ⟨⟨_,_,_,_,_,_⟩,o5⟩:=Z5;obtain ⟨hx,hc,hY,gA,gI,gB,_,gE,gD,gG⟩:=hM;obtain ⟨_,_,_,m,_,ta,td,tf,d,n,_,bg,ct⟩:=M;dsimp only at *;cases QaO hx;cases zC8 hc;cases d;cases n;dsimp only [Mc.C,Mc.D,Dk.C,Nk.C,Dk.ok,Nk.ok] at *;generalize gJ:m.length=nn,wsv m=XX at *;simp only [Qai,zca,zna] at *;clear hY gA gE gD gB gG gI
 by_cases h09:0<=p/\p<=9
 case neg =>
  obtain rfl:=wK h09;clear hD q3 q4 q5 h4 h5;dsimp only [oS,oR,Mc.C,Mc.D,Dk.C,Nk.C];simp only [Qai,zca,zna];rw [gJ];refine fnW Tryz.func149 ?_;exact QzP
 clear wK
 by_cases h1:p=0
 .rw [zP h1] at hD
  subst h1 hD;clear q3 q4 q5 h4 h5;dsimp only [oS,oR,Mc.C,Mc.D,Dk.C,Nk.C];simp only [Qai,zca,zna];rw [gJ];refine fnW Tryz.func149 ?_;(repeat' ((conv=>whnf);first|exact zi2|refine zj0 fun hb=>?_|refine zq0 ?_|refine QGI ?_|refine zse ?_|refine zbb ?_ ?_))
  all_goals exact Qcv
 rw [zN h1] at hD
 by_cases h2:p<=2
 .rw [zP h2] at hD
  subst hD;clear q3 q4 q5 h4 h5;dsimp only [oS,oR,Mc.C,Mc.D,Dk.C,Nk.C];simp only [Qai,zca,zna];rw [gJ];refine fnW Tryz.func149 ?_;exact QzP
 rw [zN h2] at hD
 by_cases h3:p=3
 .rw [zP h3] at hD
  subst h3 hD;clear q4 q5 h4 h5;dsimp only [oS,oR,Mc.C,Mc.D,Dk.C,Nk.C];simp only [Qai,zca,zna];rw [gJ];unfold QzU at q3
  by_cases hv0:(v:Int)=0
  .rw [zP hv0] at q3
   rw [zdf (not_not_intro hv0)];obtain rfl:v=0:=by omega
   refine fnW Tryz.func149 ?_;exact QzO
  .rw [zN hv0] at q3
   rw [zdt hv0];refine fnW Tryz.func149 ?_;exact QzO
 rw [zN h3] at hD
 by_cases h6:p<=6
 .rw [zP h6] at hD
  subst hD;clear q3 q5 h5;dsimp only [Mc.C,Mc.D,Dk.C,Nk.C] at *;simp only [Qai,zca,zna] at *;rw [gJ];have e:p=4\/p=5\/p=6:=by omega
  rcases e with rfl|rfl|rfl
  all_goals
   cases o4 with
   | none =>
    dsimp only [oS,oR] at *;refine fnW Tryz.func149 ?_;(conv=>whnf);(repeat' ((first|exact zi2|refine zj0 fun hb=>?_|refine zq0 ?_|(refine QaD q4 ?_)|refine zse ?_|refine zbb ?_ ?_)<;>conv=>whnf))
    all_goals first|(exact Qb5)
   | some l =>
    obtain ⟨_,_,_⟩:=h4 l rfl;dsimp only [oS,oR] at *;refine fnW Tryz.func149 ?_;(repeat' ((conv=>whnf);first|exact zi2|refine zj0 fun hb=>?_|refine zq0 ?_|(refine QaD q4 ?_)|refine zse ?_|refine zbb ?_ ?_))
    all_goals exact Qcv
 rw [zN h6] at hD;rw [zP h09.2] at hD;subst hD;clear q3 q4 h4;dsimp only [Mc.C,Mc.D,Dk.C,Nk.C] at *;simp only [Qai,zca,zna] at *;rw [gJ];have e:p=7\/p=8\/p=9:=by omega
 rcases e with rfl|rfl|rfl
 all_goals
  cases o5 with
  | none =>
   dsimp only [oS,oR] at *;refine fnW Tryz.func149 ?_;(conv=>whnf);(repeat' ((first|exact zi2|refine zj0 fun hb=>?_|refine zq0 ?_|(refine QaD q5 ?_)|refine zse ?_|refine zbb ?_ ?_)<;>conv=>whnf))
   all_goals first|(exact Qb5)
  | some l =>
   obtain ⟨_,_,_⟩:=h5 l rfl;dsimp only [oS,oR] at *;refine fnW Tryz.func149 ?_;(repeat' ((conv=>whnf);first|exact zi2|refine zj0 fun hb=>?_|refine zq0 ?_|(refine QaD q5 ?_)|refine zse ?_|refine zbb ?_ ?_))
   all_goals exact Qcv
end Go.Proofs.YtflaceijiphfdaaGreat
