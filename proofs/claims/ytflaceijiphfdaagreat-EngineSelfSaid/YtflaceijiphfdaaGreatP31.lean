import Derived.Test.YtflaceijiphfdaaGreatP20
import Derived.Test.YtflaceijiphfdaaGreatP25
import Derived.Test.YtflaceijiphfdaaGreatP30
set_option linter.unusedSimpArgs false
set_option linter.unusedVariables false
set_option maxHeartbeats 0
set_option maxRecDepth 100000
namespace Go.Proofs.YtflaceijiphfdaaGreat
open Go Go.RowKit
theorem Qko (xs:List Nat) (n:Nat) (hl:xs.length=n) (hn:ZU n) (f:Nat) (hf:ZU f):FN 247 [.s (.sl 0 0 n),.s (.u f)] [⟨false,1,wsv xs⟩] (. =⟨.a (.s (.bool (QbB n f))),[],[]⟩):=by
 have hp:=QbE xs n (by omega);have gK:=Qaa xs;have zQ:=QaT n;unfold QbB;generalize mpg n=P,wsv xs=XX at *;have c1:IntKind.u64.wrap (P:Int)=P:=Qlw;have c2:IntKind.u64.wrap (f:Int)=f:=Qlw;refine fnW Tryz.func247 ?_;exact Qzv
theorem Qgf (xs:List Nat) (n:Nat) (hl:xs.length=n) (hn:ZU n) (f:Nat) (hf:ZU f):FN 242 [.s (.sl 0 0 n),.s (.u f)] [⟨false,1,wsv xs⟩] (. =⟨.a (.s (.bool (QbB n f))),[],[]⟩):=by
 have hp:=QbE xs n (by omega);have gK:=Qaa xs;have zQ:=QaT n;unfold QbB;generalize mpg n=P,wsv xs=XX at *;have c1:IntKind.u64.wrap (P:Int)=P:=Qlw;have c2:IntKind.u64.wrap (f:Int)=f:=Qlw;refine fnW Tryz.func242 ?_;exact Qzv
theorem Qkw (d:Dk) (c:Nat):FN 249 [.agg d.C,.s (.w c)] [] (. =⟨.tup [.agg (Qnk d c),.s (.bool (Qvy d))],[],[]⟩):=by
 obtain ⟨_,hO⟩:∃ B,Qnk d c=B:=⟨_,rfl⟩;obtain ⟨B,hB⟩:∃ B,Qvy d=B:=⟨_,rfl⟩;rw [hO,hB];unfold Qnk at hO;unfold Qvy at hB;obtain ⟨_,_,_,st,cmd⟩:=d;dsimp only [Dk.C] at *
 by_cases h1:st=1
 .rw [zP h1] at hO
  by_cases h2:cmd=1
  .rw [zP h2] at hO
   rw [zdt (by omega)] at hB;subst hO hB h1 h2;refine fnW Tryz.func249 ?_;exact Qj5
  rw [zN h2] at hO
  by_cases h3:cmd=2
  .rw [zP h3] at hO
   rw [zdt (by omega)] at hB;subst hO hB h1 h3;refine fnW Tryz.func249 ?_;exact Qj5
  rw [zN h3] at hO;rw [zdf (by omega)] at hB;subst hO hB h1;refine fnW Tryz.func249 ?_;exact Qj5
 rw [zN h1] at hO;rw [zdf (by omega)] at hB;subst hO hB;refine fnW Tryz.func249 ?_;exact QDo
theorem QoC (d:Dk) (hd:d.ok) (xs:List Nat) (n:Nat) (hl:xs.length=n) (hn:n<=1000000) (hY:ZL xs) (v:Nat) (hv:v=1\/v=2) (c:Nat) :
  FN 240 [.agg d.C,.s (.sl 0 0 n),.s (.i v),.s (.w c)] [⟨false,1,wsv xs⟩] (. =⟨.tup [.agg (Qa7 d xs n 6 v c).1.C,.s (oS 1 (Qa7 d xs n 6 v c).2)],[],oR (Qa7 d xs n 6 v c).2⟩):=by
 obtain ⟨_,_,e3,_,_,_,_,_⟩:=hd;have q1:=Qko xs n hl (by omega) d.fr e3;have q2:=QiZ xs n hl hn hY d.fr;have q3:=Qkw (QoZ d v c (pgV xs n d.fr)) c;have gK:=Qaa xs;obtain ⟨D,hD⟩:∃ D,Qa7 d xs n 6 v c=D:=⟨_,rfl⟩;rw [hD];unfold Qa7 at hD;rw [zN (by decide),zN (by decide),zN (by decide),zN (by omega)] at hD;generalize hO:Qnk (QoZ d v c (pgV xs n d.fr)) c=O at *
 have VP:O.length=4/\Qaq O=true/\Qas O=true:=by
  rw [<- hO];unfold Qnk;split<;>(try split)<;>(try split)<;>exact ⟨rfl,rfl,rfl⟩
 generalize Qvy (QoZ d v c (pgV xs n d.fr))=RB at *;unfold QoZ at *;generalize pgV xs n d.fr=PG,decide (d.fr<mpg n)=PB,QbB n d.fr=pb,wsv xs=XX at *;obtain ⟨bs,bl,fr,st⟩:=d;dsimp only [Dk.C] at *;have cf:IntKind.i64.wrap (fr:Int)=fr:=QfD
 by_cases h8:((v:Int)=1\/(v:Int)=2)/\st=0
 .rw [zP h8] at hD
  obtain ⟨_,rfl⟩:=h8
  by_cases h9:(bs:Int)<=bl
  .rw [zP h9] at hD
   subst hD;dsimp only [oS,oR];refine fnW Tryz.func240 ?_;exact Qc6
  rw [zN h9] at hD;cases pb
  .rw [zP rfl] at hD
   subst hD;dsimp only [oS,oR];refine fnW Tryz.func240 ?_;exact QnV
  rw [zN (by decide)] at hD;rcases hv with rfl|rfl
  .rw [zN (by decide)] at hD q3
   obtain rfl:O= [.i 3,.w c,.u bl,.str ⟨#[]⟩]:=by rw [<- hO];rfl
   clear hO VP;subst hD;dsimp only [oS,oR];refine fnW Tryz.func240 ?_;(repeat' ((conv=>whnf);first|exact zi2|refine zj0 fun hb=>?_|(refine QaD q1 ?_)|(refine zpu q3 ?_)|refine zse ?_|refine zbb ?_ ?_))
   all_goals exact Qcv
  .rw [zP (by decide)] at hD q3
   obtain rfl:O= [.i 4,.w c,.u bl,.str PG]:=by rw [<- hO];rfl
   clear hO VP;subst hD;dsimp only [oS,oR];refine fnW Tryz.func240 ?_;(repeat' ((conv=>whnf);first|exact zi2|refine zj0 fun hb=>?_|(with_reducible refine zv cf ?_)|(refine QaD q1 ?_)|(refine QaD q2 ?_)|(refine zpu q3 ?_)|refine zse ?_|refine zbb ?_ ?_))
   all_goals exact Qcv
 rw [zN h8] at hD;have h8':¬ st=0:=fun h=>h8 ⟨by omega,h⟩
 subst hD;dsimp only [oS,oR];refine fnW Tryz.func240 ?_;exact Qzy
theorem QmQ (d:Dk) (hd:d.ok) (xs:List Nat) (n:Nat) (hl:xs.length=n) (hn:n<=1000000) (hY:ZL xs) (p:Int) (v:Nat) (hv:ZU v) (c:Nat) :
  FN 213 [.agg d.C,.s (.sl 0 0 n),.s (.i p),.s (.u v),.s (.w c)] [⟨false,1,wsv xs⟩] (. =⟨.tup [.agg (Qa7 d xs n p v c).1.C,.s (oS 1 (Qa7 d xs n p v c).2)],[],oR (Qa7 d xs n p v c).2⟩):=by
 have qI:=QoC d hd xs n hl hn hY v;have qP:=Qgc d;have WG:=Qdy d xs n p v c;obtain ⟨D,hD⟩:∃ D,Qa7 d xs n p v c=D:=⟨_,rfl⟩;rw [hD] at WG |-;have gK:=Qaa xs;have cv:IntKind.i64.wrap (v:Int)=v:=QfD
 by_cases vP:p=6/\(v=1\/v=2)
 .obtain ⟨rfl,uU⟩:=vP
  replace qI:=qI uU c;rw [hD] at qI;clear hD qP;obtain ⟨d',O⟩:=D;obtain ⟨_,_,_,st,_,_,_,_⟩:=d;obtain ⟨_,_,_,_,_,_,_,_⟩:=d';dsimp only [Dk.C] at *;generalize wsv xs=XX at *
  cases O with
  | none =>
   dsimp only [oS,oR];refine fnW Tryz.func213 ?_;(conv=>whnf);(repeat' ((first|exact zi2|refine zj0 fun hb=>?_|(with_reducible refine zv cv ?_)|(refine QaD qI ?_)|refine zse ?_|refine zbb ?_ ?_)<;>conv=>whnf))
   all_goals first|(exact Qb5)
  | some O =>
   obtain ⟨_,_,_⟩:=WG O rfl;dsimp only [oS,oR];refine fnW Tryz.func213 ?_;(repeat' ((conv=>whnf);first|exact zi2|refine zj0 fun hb=>?_|(with_reducible refine zv cv ?_)|(refine QaD qI ?_)|refine zse ?_|refine zbb ?_ ?_))
   all_goals exact Qcv
 unfold Qa7 at hD;clear qI;generalize UE:QbO d.st=pd at *;unfold QbO at UE;generalize wsv xs=XX at *;obtain ⟨_,_,_,st,_,_,_,_⟩:=d;dsimp only [Dk.C] at *
 by_cases h4:p=4
 .rw [zP h4] at hD
  subst hD h4;dsimp only [oS,oR];refine fnW Tryz.func213 ?_;exact Qc6
 rw [zN h4] at hD
 by_cases h5:p=5
 .rw [zP h5] at hD
  subst hD h5;dsimp only [oS,oR];refine fnW Tryz.func213 ?_;exact Qc6
 rw [zN h5] at hD
 by_cases h6:¬ p=6
 .rw [zP h6] at hD
  subst hD;dsimp only [oS,oR];refine fnW Tryz.func213 ?_;exact Qc6
 rw [zN h6] at hD;obtain rfl:p=6:=by omega
 have WJ:¬ v=1:=fun h=>vP ⟨rfl,.inl h⟩
 have uU:¬ v=2:=fun h=>vP ⟨rfl,.inr h⟩
 rw [zN (by omega:¬ (((v:Int)=1\/(v:Int)=2)/\st=0))] at hD;clear vP;cases pd
 .have h7:¬ (st=2\/st=3):=of_decide_eq_false UE
  rw [zN (fun h=>h7 h.2)] at hD;subst hD;dsimp only [oS,oR];refine fnW Tryz.func213 ?_;exact QDY
 .have h7:st=2\/st=3:=of_decide_eq_true UE
  by_cases h8:(v:Int)=0
  .rw [zP ⟨h8,h7⟩] at hD
   obtain rfl:v=0:=by omega
   subst hD;dsimp only [oS,oR];refine fnW Tryz.func213 ?_;exact QDY
  .rw [zN (fun h=>h8 h.1)] at hD
   subst hD;dsimp only [oS,oR];refine fnW Tryz.func213 ?_;exact Qc6
def QgA (d:Nk) (xs:List Nat) (n:Nat) (c:Nat):Option (List SV) :=
 if 1<=(d.ln:Int)/\(d.ln:Int)<=128/\QbB n d.fr=true then some [.i 2,.w c,.u 0,.str ((pgV xs n d.fr).extract 0 d.ln)] else none
theorem Qkq (d:Nk) (hd:d.ok) (xs:List Nat) (n:Nat) (hl:xs.length=n) (hn:n<=1000000) (hY:ZL xs) (c:Nat) :
  FN 241 [.agg d.C,.s (.sl 0 0 n),.s (.w c)] [⟨false,1,wsv xs⟩] (. =⟨.a (.s (oS 1 (QgA d xs n c))),[],oR (QgA d xs n c)⟩):=by
 obtain ⟨e1,_,_,_⟩:=hd;have q1:=Qgf xs n hl (by omega) d.fr e1;have q2:=QiZ xs n hl hn hY d.fr;have yI:=@Qif xs n d.fr;have gK:=Qaa xs;obtain ⟨D,hD⟩:∃ D,QgA d xs n c=D:=⟨_,rfl⟩;rw [hD];unfold QgA at hD;generalize pgV xs n d.fr=PG,decide (d.fr<mpg n)=PB,QbB n d.fr=pb,wsv xs=XX at *;obtain ⟨fr,ln⟩:=d;dsimp only [Nk.C] at *;have cf:IntKind.i64.wrap (fr:Int)=fr:=QfD;have cl:IntKind.i64.wrap (ln:Int)=ln:=QfD
 by_cases h7:1<=(ln:Int)/\(ln:Int)<=128/\pb=true
 .rw [zP h7] at hD
  obtain ⟨_,_,rfl⟩:=h7;have hp8:=yI rfl;subst hD;dsimp only [oS,oR];refine fnW Tryz.func241 ?_;exact QDT
 .rw [zN h7] at hD
  subst hD;cases pb
  .skip
   dsimp only [oS,oR];refine fnW Tryz.func241 ?_;exact QnV
  .have h8:¬ (1<=(ln:Int)/\(ln:Int)<=128):=fun h=>h7 ⟨h.1,h.2,rfl⟩
   dsimp only [oS,oR];refine fnW Tryz.func241 ?_;exact Qc6
theorem QmU (d:Nk) (hd:d.ok) (xs:List Nat) (n:Nat) (hl:xs.length=n) (hn:n<=1000000) (hY:ZL xs) (p:Int) (v:Nat) (hv:ZU v) (c:Nat) :
  FN 214 [.agg d.C,.s (.sl 0 0 n),.s (.i p),.s (.u v),.s (.w c)] [⟨false,1,wsv xs⟩] (. =⟨.tup [.agg (Qbj d xs n p v c).1.C,.s (oS 1 (Qbj d xs n p v c).2)],[],oR (Qbj d xs n p v c).2⟩):=by
 have qS:=Qkq d hd xs n hl hn hY c;have q1:=Qgf xs n hl (by omega) d.fr hd.1;have WG:=QdE d xs n p v c;obtain ⟨D,hD⟩:∃ D,Qbj d xs n p v c=D:=⟨_,rfl⟩;rw [hD] at WG |-;have gK:=Qaa xs
 by_cases vP:p=9/\v=1
 .obtain ⟨rfl,rfl⟩:=vP
  have e:D=(d,QgA d xs n c):=by
   rw [<- hD];unfold Qbj QgA;rw [zN (by decide),zN (by decide),zN (by decide),zN (by decide)]
   by_cases h:1<=(d.ln:Int)/\(d.ln:Int)<=128/\QbB n d.fr=true
   .rw [zP ⟨rfl,h⟩,zP h]
   .rw [zN (fun k=>h k.2),zN h,zN (by simp)]
  clear hD;subst e;dsimp only at *;generalize QgA d xs n c=O at *;obtain ⟨fr,ln,po,_,re,_⟩:=d;dsimp only [Nk.C] at *;generalize wsv xs=XX at *
  cases O with
  | none =>
   dsimp only [oS,oR];refine fnW Tryz.func214 ?_;(conv=>whnf);(repeat' ((first|exact zi2|refine zj0 fun hb=>?_|(refine QaD qS ?_)|refine zse ?_|refine zbb ?_ ?_)<;>conv=>whnf))
   all_goals first|(exact Qb5)
  | some O =>
   obtain ⟨_,_,_⟩:=WG O rfl;dsimp only [oS,oR];refine fnW Tryz.func214 ?_;(repeat' ((conv=>whnf);first|exact zi2|refine zj0 fun hb=>?_|(refine QaD qS ?_)|refine zse ?_|refine zbb ?_ ?_))
   all_goals exact Qcv
 clear qS;unfold Qbj at hD;generalize pgV xs n d.fr=PG,QbB n d.fr=pb,wsv xs=XX at *;obtain ⟨fr,ln,po,_,re,_⟩:=d;dsimp only [Nk.C] at *
 by_cases h4:p=7
 .rw [zP h4] at hD
  subst hD h4;dsimp only [oS,oR];refine fnW Tryz.func214 ?_;exact Qc6
 rw [zN h4] at hD
 by_cases h5:p=8
 .rw [zP h5] at hD
  subst hD h5;dsimp only [oS,oR];refine fnW Tryz.func214 ?_;exact Qc6
 rw [zN h5] at hD
 by_cases h6:¬ p=9
 .rw [zP h6] at hD
  subst hD;dsimp only [oS,oR];refine fnW Tryz.func214 ?_;exact Qc6
 rw [zN h6] at hD;obtain rfl:p=9:=by omega
 have WJ:¬ v=1:=fun h=>vP ⟨rfl,h⟩
 clear vP
 by_cases h0:(v:Int)=0
 .rw [zP h0] at hD
  obtain rfl:v=0:=by omega
  subst hD;dsimp only [oS,oR];refine fnW Tryz.func214 ?_;exact Qc6
 rw [zN h0,zN (by omega:¬ ((v:Int)=1/\1<=(ln:Int)/\(ln:Int)<=128/\pb=true))] at hD
 by_cases h2:(v:Int)=2
 .obtain rfl:v=2:=by omega
  cases pb<;>cases po<;>cases re
  all_goals
   first|rw [zP ⟨rfl,rfl,rfl,rfl⟩] at hD|rw [zN (by simp)] at hD
   subst hD;dsimp only [oS,oR];refine fnW Tryz.func214 ?_;exact QnV
 rw [zN (fun h=>h2 h.1)] at hD;subst hD;dsimp only [oS,oR];refine fnW Tryz.func214 ?_;exact Qzy
theorem Qox (bt bg:Nat) (h2:ZU bg) (p:Int):FN 211 [.agg [.u bt,.u bg],.s (.i p)] [] (. =⟨.a (.s (.u (Qf9 bt bg p:Nat))),[],[]⟩):=by
 have hg:=Qfk bt bg h2;have jX:=Qb1 bg 32;obtain ⟨B,hB⟩:∃ B,Qf9 bt bg p=B:=⟨_,rfl⟩;rw [hB];unfold Qf9 at hB;generalize QbH bg 32=P at *
 by_cases h4:p=10
 .rw [zP h4] at hB
  subst h4 hB;refine fnW Tryz.func211 ?_;exact QuN
 rw [zN h4] at hB
 by_cases h5:p=11
 .rw [zP h5] at hB
  subst h5 hB;refine fnW Tryz.func211 ?_;exact QuN
 rw [zN h5] at hB;subst hB;refine fnW Tryz.func211 ?_;exact QDr
end Go.Proofs.YtflaceijiphfdaaGreat
