import Derived.Test.YtflelebfmdggkaaGreatP102
import Derived.Test.YtflelebfmdggkaaGreatP105
set_option linter.unusedSimpArgs false
set_option linter.unusedVariables false
set_option maxHeartbeats 100000000
set_option maxRecDepth 100000
namespace Go.Proofs.YtflelebfmdggkaaGreat
open Go Go.RowKit
theorem Qnx (d:Nk) (hd:d.ok) (xs:List Nat) (n:Nat) (hl:xs.length=n) (hn:n≤1000000) (hY:∀ y∈xs,y<4294967296) (p:Int) (v:Nat) (hv:v<4294967296) (c:Nat) :
  FN 226 [.agg d.C,.s (.sl 0 0 n),.s (.i p),.s (.u v),.s (.w c)] [⟨false,1,wsv xs⟩] (· =⟨.tup [.agg (Qbk d xs n p v c).1.C,.s (oS 1 (Qbk d xs n p v c).2)],[],oR (Qbk d xs n p v c).2⟩):=by
 have qS:=Qkv d hd xs n hl hn hY c;have q1:=Qgy xs n hl (by omega) d.fr hd.1;have WX:=QdE d xs n p v c;obtain ⟨D,hD⟩:∃ D,Qbk d xs n p v c=D:=⟨_,rfl⟩;rw [hD] at WX ⊢;have gL:=Qaa xs
 by_cases vX:p=9∧v=1
 ·obtain ⟨rfl,rfl⟩:=vX
  have e:D=(d,QgR d xs n c):=by
   rw [← hD];unfold Qbk QgR;rw [zN (by decide),zN (by decide),zN (by decide),zN (by decide)]
   by_cases h:1≤(d.ln:Int)∧(d.ln:Int)≤128∧QbG n d.fr=true
   ·rw [zP ⟨rfl,h⟩,zP h]
   ·rw [zN (fun k=>h k.2),zN h,zN (by simp)]
  clear hD;subst e;dsimp only at *;generalize QgR d xs n c=O at *;obtain ⟨fr,ln,po,bu,re,go_⟩:=d;dsimp only [Nk.C] at *;generalize wsv xs=XX at *
  cases O with
  | none =>
   dsimp only [oS,oR];refine fnW Tryz.func226 ?_;(repeat' ((conv=>whnf);first|exact zi2|(refine zj0 ?_;intro hb)|(refine QaD qS ?_)|refine zse ?_|refine zbb ?_ ?_));all_goals (conv=>whnf)
   all_goals first|(exact Qb8)
  | some O =>
   obtain ⟨o4,o5,o6⟩:=WX O rfl;dsimp only [oS,oR];refine fnW Tryz.func226 ?_;(repeat' ((conv=>whnf);first|exact zi2|(refine zj0 ?_;intro hb)|(refine QaD qS ?_)|refine zse ?_|refine zbb ?_ ?_))
   all_goals exact QfE
 clear qS;unfold Qbk at hD;generalize pgV xs n d.fr=PG,QbG n d.fr=pb,wsv xs=XX at *;obtain ⟨fr,ln,po,bu,re,go_⟩:=d;dsimp only [Nk.C] at *
 by_cases h4:p=7
 ·rw [zP h4] at hD
  subst hD h4;dsimp only [oS,oR];refine fnW Tryz.func226 ?_;exact QKh
 rw [zN h4] at hD
 by_cases h5:p=8
 ·rw [zP h5] at hD
  subst hD h5;dsimp only [oS,oR];refine fnW Tryz.func226 ?_;exact QKh
 rw [zN h5] at hD
 by_cases h6:¬ p=9
 ·rw [zP h6] at hD
  subst hD;dsimp only [oS,oR];refine fnW Tryz.func226 ?_;exact QKh
 rw [zN h6] at hD;obtain rfl:p=9:=by omega
 have WU:¬ v=1:=fun h=>vX ⟨rfl,h⟩
 clear vX
 by_cases h0:(v:Int)=0
 ·rw [zP h0] at hD
  obtain rfl:v=0:=by omega
  subst hD;dsimp only [oS,oR];refine fnW Tryz.func226 ?_;exact QKh
 rw [zN h0,zN (by omega:¬ ((v:Int)=1∧1≤(ln:Int)∧(ln:Int)≤128∧pb=true))] at hD
 by_cases h2:(v:Int)=2
 ·obtain rfl:v=2:=by omega
  cases pb<;>cases po<;>cases re
  all_goals
   first|rw [zP ⟨rfl,rfl,rfl,rfl⟩] at hD|rw [zN (by simp)] at hD
   subst hD;dsimp only [oS,oR];refine fnW Tryz.func226 ?_;exact QfF
 rw [zN (fun h=>h2 h.1)] at hD;subst hD;dsimp only [oS,oR];refine fnW Tryz.func226 ?_;exact QBP
theorem Qsg (bt bg:Nat) (h2:bg<4294967296) (p:Int):FN 223 [.agg [.u bt,.u bg],.s (.i p)] [] (· =⟨.a (.s (.u (QgO bt bg p:Nat))),[],[]⟩):=by
 have hg:=Qfn bt bg h2;have vF:=Qb6 bg 32;obtain ⟨B,hB⟩:∃ B,QgO bt bg p=B:=⟨_,rfl⟩;rw [hB];unfold QgO at hB;generalize QbL bg 32=P at *
 by_cases h4:p=10
 ·rw [zP h4] at hB
  subst h4 hB;refine fnW Tryz.func223 ?_;exact Qn2
 rw [zN h4] at hB
 by_cases h5:p=11
 ·rw [zP h5] at hB
  subst h5 hB;refine fnW Tryz.func223 ?_;exact Qn2
 rw [zN h5] at hB;subst hB;refine fnW Tryz.func223 ?_;exact QD0
theorem Qne (M:Mc) (hM:M.ok) (p:Int) (v:Nat) (hv:v<4294967296) (hp:¬ (p=10∨p=11)):FN 154 [.agg (M.C 0),.s (.i p),.s (.u v),.s (.w M.ct)] [⟨false,1,wsv M.m⟩]
  (· =⟨.tup [.agg ((Qbz M p v).1.C 0),.s (oS 1 (Qbz M p v).2)],[],oR (Qbz M p v).2⟩):=by
 have q3:=Qyo M.ta M.td M.tf v;have q4:=Qnm M.d hM.dk M.m _ rfl hM.ml hM.mr p v hv M.ct;have q5:=Qnx M.n hM.nk M.m _ rfl hM.ml hM.mr p v hv M.ct;have h4:=QdO M.d M.m M.m.length p v M.ct;have h5:=QdE M.n M.m M.m.length p v M.ct;have gL:=Qaa M.m;obtain ⟨D,hD⟩:∃ D,Qbz M p v=D:=⟨_,rfl⟩
 have wS:¬ (0≤p∧p≤9)→D=(M,none):=by
  intro h;rw [← hD];unfold Qbz;rw [zN (by omega)]
  by_cases h2:p≤2
  ·rw [zP h2]
  ·rw [zN h2,zN (by omega),zN (by omega),zN (by omega)]
   have hq:¬ gvQ M.bg M.m.length p v:=fun h=>hp (.inl h.1)
   unfold Qg0 QfG;rw [zN hq,zN hq,zN (fun h=>hp (.inr h.1))]
 rw [hD];unfold Qbz at hD;generalize Qa6 M.d M.m M.m.length p v M.ct=Z4,Qbk M.n M.m M.m.length p v M.ct=Z5,Qg0 M.bg M.m.length p v=gb,QfG M.m M.bg M.m.length p v=gm at *;obtain ⟨⟨e0,e1,e2,e3,e4,e5,e6,e7⟩,o4⟩:=Z4;obtain ⟨⟨f0,f1,f2,f3,f4,f5⟩,o5⟩:=Z5;obtain ⟨hx,hc,hY,gA,gH,gB,_,gE,gD,gF⟩:=hM;obtain ⟨_,_,_,m,_,ta,td,tf,d,n,_,bg,ct⟩:=M;dsimp only at *;obtain ⟨_,_,_,_,_,_,_,_,_,_,_,_,_,_,_,_,rfl⟩:=Qav hx;obtain ⟨_,_,_,_,_,_,_,_,rfl⟩:=QaM hc;cases d;cases n;dsimp only [Mc.C,Mc.D,Dk.C,Nk.C,Dk.ok,Nk.ok] at *;generalize gJ:m.length=nn,wsv m=XX at *;simp only [Qah,List.cons_append,List.nil_append] at *;clear hY gA gE gD gB gF gH
 by_cases h09:0≤p∧p≤9
 case neg =>
  obtain rfl:=wS h09;clear hD q3 q4 q5 h4 h5;dsimp only [oS,oR,Mc.C,Mc.D,Dk.C,Nk.C];simp only [Qah,List.cons_append,List.nil_append];rw [gJ];refine fnW Tryz.func154 ?_;exact QCG
 clear wS
 by_cases h1:p=0
 ·rw [zP h1] at hD
  subst h1 hD;clear q3 q4 q5 h4 h5;dsimp only [oS,oR,Mc.C,Mc.D,Dk.C,Nk.C];simp only [Qah,List.cons_append,List.nil_append];rw [gJ];refine fnW Tryz.func154 ?_;(repeat' ((conv=>whnf);first|exact zi2|(refine zj0 ?_;intro hb)|refine zq0 ?_|((with_reducible apply Ge.mk (α:=List Int)); · exact rfl)|refine zse ?_|refine zbb ?_ ?_))
  all_goals exact QfE
 rw [zN h1] at hD
 by_cases h2:p≤2
 ·rw [zP h2] at hD
  subst hD;clear q3 q4 q5 h4 h5;dsimp only [oS,oR,Mc.C,Mc.D,Dk.C,Nk.C];simp only [Qah,List.cons_append,List.nil_append];rw [gJ];refine fnW Tryz.func154 ?_;exact QCG
 rw [zN h2] at hD
 by_cases h3:p=3
 ·rw [zP h3] at hD
  subst h3 hD;clear q4 q5 h4 h5;dsimp only [oS,oR,Mc.C,Mc.D,Dk.C,Nk.C];simp only [Qah,List.cons_append,List.nil_append];rw [gJ];unfold QzS at q3
  by_cases hv0:(v:Int)=0
  ·rw [zP hv0] at q3
   rw [decide_eq_false (not_not_intro hv0)];obtain rfl:v=0:=by omega
   refine fnW Tryz.func154 ?_;exact Qp2
  ·rw [zN hv0] at q3
   rw [decide_eq_true hv0];refine fnW Tryz.func154 ?_;exact Qp2
 rw [zN h3] at hD
 by_cases h6:p≤6
 ·rw [zP h6] at hD
  subst hD;clear q3 q5 h5;dsimp only [Mc.C,Mc.D,Dk.C,Nk.C] at *;simp only [Qah,List.cons_append,List.nil_append] at *;rw [gJ];have e:p=4∨p=5∨p=6:=by omega
  rcases e with rfl|rfl|rfl
  all_goals
   cases o4 with
   | none =>
    dsimp only [oS,oR] at *;refine fnW Tryz.func154 ?_;(repeat' ((conv=>whnf);first|exact zi2|(refine zj0 ?_;intro hb)|refine zq0 ?_|(refine QaD q4 ?_)|refine zse ?_|refine zbb ?_ ?_));all_goals (conv=>whnf)
    all_goals first|(exact Qb8)
   | some l =>
    obtain ⟨wQ,HU,wR⟩:=h4 l rfl;dsimp only [oS,oR] at *;refine fnW Tryz.func154 ?_;(repeat' ((conv=>whnf);first|exact zi2|(refine zj0 ?_;intro hb)|refine zq0 ?_|(refine QaD q4 ?_)|refine zse ?_|refine zbb ?_ ?_))
    all_goals exact QfE
 rw [zN h6] at hD;rw [zP h09.2] at hD;subst hD;clear q3 q4 h4;dsimp only [Mc.C,Mc.D,Dk.C,Nk.C] at *;simp only [Qah,List.cons_append,List.nil_append] at *;rw [gJ];have e:p=7∨p=8∨p=9:=by omega
 rcases e with rfl|rfl|rfl
 all_goals
  cases o5 with
  | none =>
   dsimp only [oS,oR] at *;refine fnW Tryz.func154 ?_;(repeat' ((conv=>whnf);first|exact zi2|(refine zj0 ?_;intro hb)|refine zq0 ?_|(refine QaD q5 ?_)|refine zse ?_|refine zbb ?_ ?_));all_goals (conv=>whnf)
   all_goals first|(exact Qb8)
  | some l =>
   obtain ⟨wQ,HU,wR⟩:=h5 l rfl;dsimp only [oS,oR] at *;refine fnW Tryz.func154 ?_;(repeat' ((conv=>whnf);first|exact zi2|(refine zj0 ?_;intro hb)|refine zq0 ?_|(refine QaD q5 ?_)|refine zse ?_|refine zbb ?_ ?_))
   all_goals exact QfE
end Go.Proofs.YtflelebfmdggkaaGreat
