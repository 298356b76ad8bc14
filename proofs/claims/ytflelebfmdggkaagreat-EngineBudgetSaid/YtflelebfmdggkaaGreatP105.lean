import Derived.Test.YtflelebfmdggkaaGreatP78
import Derived.Test.YtflelebfmdggkaaGreatP100
set_option linter.unusedSimpArgs false
set_option linter.unusedVariables false
set_option maxHeartbeats 100000000
set_option maxRecDepth 100000
namespace Go.Proofs.YtflelebfmdggkaaGreat
open Go Go.RowKit
theorem QgG (xs:List Nat) (n:Nat) (hn:n≤1000000) (p:Nat):FN 258 [.s (.sl 0 0 n),.s (.i p)] [⟨false,1,wsv xs⟩] (· =⟨.a (.s (.bool (decide (p<mpg n)))),[],[]⟩):=by
 have hp:=QbI xs n (by omega);have gL:=Qaa xs;generalize mpg n=P,wsv xs=XX at *;refine fnW Tryz.func258 ?_;(repeat' ((conv=>whnf);first|exact zi2|(refine zj0 ?_;intro hb)|(refine QaD hp ?_)|refine zse ?_|refine zbb ?_ ?_));all_goals (conv=>whnf)
 all_goals first
  | (refine QcP ?_ ?_;(focus (exact Qb8));rw [Bool.eq_iff_iff];simp;done)
  | (refine QcP ?_ ?_;(focus (exact Qb8));rw [Bool.eq_iff_iff];simp;omega)
  | (exfalso;simp at hb;omega)
def Qz4 (o j r:Nat) (X R:List SV):St :=
 ⟨[(3,.a (.s (.sl 1 0 r))),(10,.a (.s (.sl 0 o 32))),(11,.a (.s (.i 32))),(12,.a (.s (.i j)))],[(0,some ⟨false,1,X⟩),(1,some ⟨true,1,R⟩)],[0]⟩
theorem Qs4 (xs:List Nat) (n:Nat) (hl:xs.length=n) (hn:n≤1000000) (hY:∀ y∈xs,y<4294967296) (p:Nat) (hp:p*32+32≤n):FN 266 [.s (.sl 0 (p*32) 32)] [⟨false,1,wsv xs⟩] (· =⟨.a (.s (.str (strOfNums (pgL xs p 32)))),[],[]⟩):=by
 have gL:=Qaa xs;generalize hX:wsv xs=XX at *;obtain ⟨o,ho⟩:∃ o,p*32=o:=⟨_,rfl⟩;rw [ho];have c0:IntKind.i64.wrap (4*((32:Nat):Int))=((128:Nat):Int):=rfl;refine fnW Tryz.func266 ?_;(repeat' ((conv=>whnf);first|exact zi2|(refine zj0 ?_;intro hb)|(with_reducible refine zv c0 ?_)|(refine Zs.mk [] ⟨rfl,fun k s h=>by simp at h⟩ ?_)|refine zse ?_|refine zbb ?_ ?_));all_goals (conv=>whnf)
 all_goals try (exfalso;simp at hb;done)
 refine Lp.inv (fun mm σ=>∃ j:Nat,mm+j=32∧σ=Qz4 o j (4*j) XX (isv .u8 (pgL xs p j))) ?_ ?_
 ·refine ⟨32,Qz4 o 0 0 XX [],?_,0,by omega,rfl⟩
  unfold Qz4
  (exact zwL [(0,some 0),(1,some _)])
 rintro mm σ ⟨j,yP,rfl⟩;unfold Qz4;have wB:=QaO .u8 (pgL xs p (j+1));have VG:=QaO .u8 (pgL xs p j);have gG:(isv .u8 (pgL xs p j)).length=4*j:=by unfold isv;rw [List.length_map,Qgg]
 by_cases hj:j<32
 ·have q2:IntKind.i64.wrap ((j:Int)+1)=((j+1:Nat):Int):=by rw [Qb4 (by omega) (by omega)];omega
  have uU:XX[o+j]?=some (.u (xs.getD (p*32+j) 0:Nat)):=by
   rw [← hX,← ho];unfold wsv;rw [List.getElem?_map,List.getD_eq_getElem?_getD,List.getElem?_eq_getElem (by omega)];rfl
  have hvl:=Qab hY (p*32+j);have jJ:isv .u8 (pgL xs p j)++isv .u8 (QeV (xs.getD (p*32+j) 0) 4)=isv .u8 (pgL xs p (j+1)):=by rw [pgL];unfold isv;rw [List.map_append]
  generalize xs.getD (p*32+j) 0=v at *;have s1:(v:Int) / 2^min (Int.toNat 8) IntKind.u32.bits=((v / 256:Nat):Int):=rfl;have s2:(v:Int) / 2^min (Int.toNat 16) IntKind.u32.bits=((v / 65536:Nat):Int):=rfl;have s3:(v:Int) / 2^min (Int.toNat 24) IntKind.u32.bits=((v / 16777216:Nat):Int):=rfl;have w0:IntKind.u8.wrap (v:Int)=((v%256:Nat):Int):=by rw [Qn5];omega
  have w1:IntKind.u8.wrap ((v / 256:Nat):Int)=((v / 256%256:Nat):Int):=by rw [Qn5];omega
  have w2:IntKind.u8.wrap ((v / 65536:Nat):Int)=((v / 65536%256:Nat):Int):=by rw [Qn5];omega
  have w3:IntKind.u8.wrap ((v / 16777216:Nat):Int)=((v / 16777216%256:Nat):Int):=by rw [Qn5];omega
  have zG:isv .u8 (QeV v 4)= [.int .u8 (v%256:Nat),.int .u8 (v / 256%256:Nat),.int .u8 (v / 65536%256:Nat),.int .u8 (v / 16777216%256:Nat)]:=by simp [QeV,isv]
  rw [zG] at jJ;generalize v%256=v0,v / 256%256=v1,v / 65536%256=v2,v / 16777216%256=v3 at *;generalize v / 256=u1,v / 65536=u2,v / 16777216=u3,isv .u8 (pgL xs p j)=R0,hR1:isv .u8 (pgL xs p (j+1))=R1,hr0:4*j=r0,yZ:4*(j+1)=r1 at *;have vI:r0+4=r1:=by subst hr0 yZ;omega
  (repeat' ((conv=>whnf);first|exact zi2|(refine zj0 ?_;intro hb)|(with_reducible first|refine zv q2 ?_|refine zv s1 ?_|refine zv s2 ?_|refine zv s3 ?_|refine zv w0 ?_|refine zv w1 ?_|refine zv w2 ?_|refine zv w3 ?_)|((with_reducible apply Vl.mk (α:=Nat)); · with_reducible exact vI)|refine Qtj ?_|refine QDr ?_|refine zse ?_|refine zbb ?_ ?_));all_goals (conv=>whnf)
  all_goals first
   | (exfalso;omega)
   | (exfalso;simp at hb;done)
   | (refine ⟨mm-1,Qz4 o (j+1) r1 XX R1,by omega,?_,j+1,by omega,by rw [hR1,yZ];rfl⟩;unfold Qz4;(exact zwL [(0,some 0),(1,some _)]))
 ·clear wB
  obtain rfl:j=32:=by omega
  have ht:=QdG (pgL xs p 32);have sg:(isv .u8 (pgL xs p 32)).length=4*32∧∀ (i:Nat) s,(isv .u8 (pgL xs p 32))[i]?=some s→(isv .u8 (pgL xs p 32))[0+i]?=some s:=⟨gG,fun i s hs=>by rw [Nat.zero_add];exact hs⟩;generalize isv .u8 (pgL xs p 32)=R0 at *;generalize pgL xs p 32=L,4*32=r0 at *;(repeat' ((conv=>whnf);first|exact zi2|(refine zj0 ?_;intro hb)|(apply Sg.mk; · exact sg)|refine QG4 ?_|refine zse ?_|refine zbb ?_ ?_))
  all_goals exact QfL
theorem QiV (xs:List Nat) (n:Nat) (hl:xs.length=n) (hn:n≤1000000) (hY:∀ y∈xs,y<4294967296) (p:Nat):FN 256 [.s (.sl 0 0 n),.s (.i p)] [⟨false,1,wsv xs⟩] (· =⟨.tup [.s (.str (pgV xs n p)),.s (.bool (decide (p<mpg n)))],[],[]⟩):=by
 have hh:=QgG xs n hn p;have gL:=Qaa xs;have FX:=wsv_length xs;have zS:=QaU n;have hmn:mpg n*32≤n:=QcQ;unfold pgV
 by_cases gT:p<mpg n
 ·rw [zP gT,decide_eq_true gT]
  rw [decide_eq_true gT] at hh;have ht:=Qs4 xs n hl hn hY p (by omega);have q1:IntKind.i64.wrap ((p:Int)*32)=((p*32:Nat):Int):=QbP;have q2:IntKind.i64.wrap (((p*32:Nat):Int)+32)=((p*32+32:Nat):Int):=QbP;have vU:p*32+32≤n:=by omega
  generalize strOfNums (pgL xs p 32)=S,wsv xs=XX,p*32=o at *;have e3:(((o+32:Nat):Int)-(o:Int)).toNat=32:=by omega
  refine fnW Tryz.func256 ?_;(repeat' ((conv=>whnf);first|exact zi2|(refine zj0 ?_;intro hb)|refine QEx ?_|((with_reducible apply Vl.mk (α:=Nat)); · with_reducible exact e3)|(refine QaD hh ?_)|(refine Qae ht [⟨0,0⟩] [(_,_)] (by simp [Qc1,QcJ,Qc5,Qn9]) ⟨rfl,trivial⟩ ⟨rfl,Qar (by assumption),trivial⟩ ⟨rfl,Qc8 rfl⟩ ?_)|refine zse ?_|refine zbb ?_ ?_))
  all_goals exact QfL
 ·rw [zN gT,decide_eq_false gT]
  rw [decide_eq_false gT] at hh;generalize wsv xs=XX at *;refine fnW Tryz.func256 ?_;(repeat' ((conv=>whnf);first|exact zi2|(refine zj0 ?_;intro hb)|(refine QaD hh ?_)|refine zse ?_|refine zbb ?_ ?_))
  all_goals exact QfL
theorem Qlc (xs:List Nat) (n:Nat) (hl:xs.length=n) (hn:n<4294967296) (f:Nat) (hf:f<4294967296):FN 255 [.s (.sl 0 0 n),.s (.u f)] [⟨false,1,wsv xs⟩] (· =⟨.a (.s (.bool (QbG n f))),[],[]⟩):=by
 have hp:=QbI xs n (by omega);have gL:=Qaa xs;have zS:=QaU n;unfold QbG;generalize mpg n=P,wsv xs=XX at *;have c1:IntKind.u64.wrap (P:Int)=P:=QjD;have c2:IntKind.u64.wrap (f:Int)=f:=QjD;refine fnW Tryz.func255 ?_;exact Qzk
theorem Qgy (xs:List Nat) (n:Nat) (hl:xs.length=n) (hn:n<4294967296) (f:Nat) (hf:f<4294967296):FN 249 [.s (.sl 0 0 n),.s (.u f)] [⟨false,1,wsv xs⟩] (· =⟨.a (.s (.bool (QbG n f))),[],[]⟩):=by
 have hp:=QbI xs n (by omega);have gL:=Qaa xs;have zS:=QaU n;unfold QbG;generalize mpg n=P,wsv xs=XX at *;have c1:IntKind.u64.wrap (P:Int)=P:=QjD;have c2:IntKind.u64.wrap (f:Int)=f:=QjD;refine fnW Tryz.func249 ?_;exact Qzk
theorem QkZ (d:Dk) (c:Nat):FN 257 [.agg d.C,.s (.w c)] [] (· =⟨.tup [.agg (QnQ d c),.s (.bool (QvF d))],[],[]⟩):=by
 obtain ⟨O,hO⟩:∃ B,QnQ d c=B:=⟨_,rfl⟩;obtain ⟨B,hB⟩:∃ B,QvF d=B:=⟨_,rfl⟩;rw [hO,hB];unfold QnQ at hO;unfold QvF at hB;obtain ⟨_,_,_,st,cmd⟩:=d;dsimp only [Dk.C] at *
 by_cases h1:st=1
 ·rw [zP h1] at hO
  by_cases h2:cmd=1
  ·rw [zP h2] at hO
   rw [decide_eq_true (by omega)] at hB;subst hO hB h1 h2;refine fnW Tryz.func257 ?_;exact QCk
  rw [zN h2] at hO
  by_cases h3:cmd=2
  ·rw [zP h3] at hO
   rw [decide_eq_true (by omega)] at hB;subst hO hB h1 h3;refine fnW Tryz.func257 ?_;exact QCk
  rw [zN h3] at hO;rw [decide_eq_false (by omega)] at hB;subst hO hB h1;refine fnW Tryz.func257 ?_;exact QCk
 rw [zN h1] at hO;rw [decide_eq_false (by omega)] at hB;subst hO hB;refine fnW Tryz.func257 ?_;exact QDw
theorem QqH (d:Dk) (hd:d.ok) (xs:List Nat) (n:Nat) (hl:xs.length=n) (hn:n≤1000000) (hY:∀ y∈xs,y<4294967296) (v:Nat) (hv:v=1∨v=2) (c:Nat) :
  FN 247 [.agg d.C,.s (.sl 0 0 n),.s (.i v),.s (.w c)] [⟨false,1,wsv xs⟩] (· =⟨.tup [.agg (Qa6 d xs n 6 v c).1.C,.s (oS 1 (Qa6 d xs n 6 v c).2)],[],oR (Qa6 d xs n 6 v c).2⟩):=by
 obtain ⟨_,_,e3,_,_,_,_,_⟩:=hd;have q1:=Qlc xs n hl (by omega) d.fr e3;have q2:=QiV xs n hl hn hY d.fr;have q3:=QkZ (Qqi d v c (pgV xs n d.fr)) c;have gL:=Qaa xs;obtain ⟨D,hD⟩:∃ D,Qa6 d xs n 6 v c=D:=⟨_,rfl⟩;rw [hD];unfold Qa6 at hD;rw [zN (by decide),zN (by decide),zN (by decide),zN (by omega)] at hD;generalize hO:QnQ (Qqi d v c (pgV xs n d.fr)) c=O at *
 have YF:O.length=4∧Qau O=true∧Qas O=true:=by
  rw [← hO];unfold QnQ;split<;>(try split)<;>(try split)<;>exact ⟨rfl,rfl,rfl⟩
 generalize QvF (Qqi d v c (pgV xs n d.fr))=RB at *;unfold Qqi at *;generalize pgV xs n d.fr=PG,decide (d.fr<mpg n)=PB,QbG n d.fr=pb,wsv xs=XX at *;obtain ⟨bs,bl,fr,st⟩:=d;dsimp only [Dk.C] at *;have cf:IntKind.i64.wrap (fr:Int)=fr:=Qm3
 by_cases h8:((v:Int)=1∨(v:Int)=2)∧st=0
 ·rw [zP h8] at hD
  obtain ⟨_,rfl⟩:=h8
  by_cases h9:(bs:Int)≤bl
  ·rw [zP h9] at hD
   subst hD;dsimp only [oS,oR];refine fnW Tryz.func247 ?_;exact QKh
  rw [zN h9] at hD;cases pb
  ·rw [zP rfl] at hD
   subst hD;dsimp only [oS,oR];refine fnW Tryz.func247 ?_;exact QfF
  rw [zN (by decide)] at hD;rcases hv with rfl|rfl
  ·rw [zN (by decide)] at hD q3
   obtain rfl:O= [.i 3,.w c,.u bl,.str ⟨#[]⟩]:=by rw [← hO];rfl
   clear hO YF;subst hD;dsimp only [oS,oR];refine fnW Tryz.func247 ?_;(repeat' ((conv=>whnf);first|exact zi2|(refine zj0 ?_;intro hb)|(refine QaD q1 ?_)|(refine zpu q3 ?_)|refine zse ?_|refine zbb ?_ ?_))
   all_goals exact QfE
  ·rw [zP (by decide)] at hD q3
   obtain rfl:O= [.i 4,.w c,.u bl,.str PG]:=by rw [← hO];rfl
   clear hO YF;subst hD;dsimp only [oS,oR];refine fnW Tryz.func247 ?_;(repeat' ((conv=>whnf);first|exact zi2|(refine zj0 ?_;intro hb)|(with_reducible refine zv cf ?_)|(refine QaD q1 ?_)|(refine QaD q2 ?_)|(refine zpu q3 ?_)|refine zse ?_|refine zbb ?_ ?_))
   all_goals exact QfE
 rw [zN h8] at hD;have h8':¬ st=0:=fun h=>h8 ⟨by omega,h⟩
 subst hD;dsimp only [oS,oR];refine fnW Tryz.func247 ?_;exact QBP
theorem Qnm (d:Dk) (hd:d.ok) (xs:List Nat) (n:Nat) (hl:xs.length=n) (hn:n≤1000000) (hY:∀ y∈xs,y<4294967296) (p:Int) (v:Nat) (hv:v<4294967296) (c:Nat) :
  FN 225 [.agg d.C,.s (.sl 0 0 n),.s (.i p),.s (.u v),.s (.w c)] [⟨false,1,wsv xs⟩] (· =⟨.tup [.agg (Qa6 d xs n p v c).1.C,.s (oS 1 (Qa6 d xs n p v c).2)],[],oR (Qa6 d xs n p v c).2⟩):=by
 have qI:=QqH d hd xs n hl hn hY v;have qP:=QgV d;have WX:=QdO d xs n p v c;obtain ⟨D,hD⟩:∃ D,Qa6 d xs n p v c=D:=⟨_,rfl⟩;rw [hD] at WX ⊢;have gL:=Qaa xs;have cv:IntKind.i64.wrap (v:Int)=v:=Qm3
 by_cases vX:p=6∧(v=1∨v=2)
 ·obtain ⟨rfl,uS⟩:=vX
  replace qI:=qI uS c;rw [hD] at qI;clear hD qP;obtain ⟨d',O⟩:=D;obtain ⟨bs,bl,fr,st,cmd,ob,of_,od⟩:=d;obtain ⟨_,_,_,_,_,_,_,_⟩:=d';dsimp only [Dk.C] at *;generalize wsv xs=XX at *
  cases O with
  | none =>
   dsimp only [oS,oR];refine fnW Tryz.func225 ?_;(repeat' ((conv=>whnf);first|exact zi2|(refine zj0 ?_;intro hb)|(with_reducible refine zv cv ?_)|(refine QaD qI ?_)|refine zse ?_|refine zbb ?_ ?_));all_goals (conv=>whnf)
   all_goals first|(exact Qb8)
  | some O =>
   obtain ⟨o4,o5,o6⟩:=WX O rfl;dsimp only [oS,oR];refine fnW Tryz.func225 ?_;(repeat' ((conv=>whnf);first|exact zi2|(refine zj0 ?_;intro hb)|(with_reducible refine zv cv ?_)|(refine QaD qI ?_)|refine zse ?_|refine zbb ?_ ?_))
   all_goals exact QfE
 unfold Qa6 at hD;clear qI;generalize hpd:QbU d.st=pd at *;unfold QbU at hpd;generalize wsv xs=XX at *;obtain ⟨bs,bl,fr,st,cmd,ob,of_,od⟩:=d;dsimp only [Dk.C] at *
 by_cases h4:p=4
 ·rw [zP h4] at hD
  subst hD h4;dsimp only [oS,oR];refine fnW Tryz.func225 ?_;exact QKh
 rw [zN h4] at hD
 by_cases h5:p=5
 ·rw [zP h5] at hD
  subst hD h5;dsimp only [oS,oR];refine fnW Tryz.func225 ?_;exact QKh
 rw [zN h5] at hD
 by_cases h6:¬ p=6
 ·rw [zP h6] at hD
  subst hD;dsimp only [oS,oR];refine fnW Tryz.func225 ?_;exact QKh
 rw [zN h6] at hD;obtain rfl:p=6:=by omega
 have WU:¬ v=1:=fun h=>vX ⟨rfl,.inl h⟩
 have uS:¬ v=2:=fun h=>vX ⟨rfl,.inr h⟩
 rw [zN (by omega:¬ (((v:Int)=1∨(v:Int)=2)∧st=0))] at hD;clear vX;cases pd
 ·have h7:¬ (st=2∨st=3):=of_decide_eq_false hpd
  rw [zN (fun h=>h7 h.2)] at hD;subst hD;dsimp only [oS,oR];refine fnW Tryz.func225 ?_;exact QyS
 ·have h7:st=2∨st=3:=of_decide_eq_true hpd
  by_cases h8:(v:Int)=0
  ·rw [zP ⟨h8,h7⟩] at hD
   obtain rfl:v=0:=by omega
   subst hD;dsimp only [oS,oR];refine fnW Tryz.func225 ?_;exact QyS
  ·rw [zN (fun h=>h8 h.1)] at hD
   subst hD;dsimp only [oS,oR];refine fnW Tryz.func225 ?_;exact QKh
def QgR (d:Nk) (xs:List Nat) (n:Nat) (c:Nat):Option (List SV) :=
 if 1≤(d.ln:Int)∧(d.ln:Int)≤128∧QbG n d.fr=true then some [.i 2,.w c,.u 0,.str ((pgV xs n d.fr).extract 0 d.ln)] else none
theorem Qkv (d:Nk) (hd:d.ok) (xs:List Nat) (n:Nat) (hl:xs.length=n) (hn:n≤1000000) (hY:∀ y∈xs,y<4294967296) (c:Nat) :
  FN 248 [.agg d.C,.s (.sl 0 0 n),.s (.w c)] [⟨false,1,wsv xs⟩] (· =⟨.a (.s (oS 1 (QgR d xs n c))),[],oR (QgR d xs n c)⟩):=by
 obtain ⟨e1,e2,e3,e4⟩:=hd;have q1:=Qgy xs n hl (by omega) d.fr e1;have q2:=QiV xs n hl hn hY d.fr;have wO:=@QhZ xs n d.fr;have gL:=Qaa xs;obtain ⟨D,hD⟩:∃ D,QgR d xs n c=D:=⟨_,rfl⟩;rw [hD];unfold QgR at hD;generalize pgV xs n d.fr=PG,decide (d.fr<mpg n)=PB,QbG n d.fr=pb,wsv xs=XX at *;obtain ⟨fr,ln⟩:=d;dsimp only [Nk.C] at *;have cf:IntKind.i64.wrap (fr:Int)=fr:=Qm3;have cl:IntKind.i64.wrap (ln:Int)=ln:=Qm3
 by_cases h7:1≤(ln:Int)∧(ln:Int)≤128∧pb=true
 ·rw [zP h7] at hD
  obtain ⟨h7a,h7b,rfl⟩:=h7;have hp8:=wO rfl;subst hD;dsimp only [oS,oR];refine fnW Tryz.func248 ?_;exact QCY
 ·rw [zN h7] at hD
  subst hD;cases pb
  ·skip
   dsimp only [oS,oR];refine fnW Tryz.func248 ?_;exact QfF
  ·have h8:¬ (1≤(ln:Int)∧(ln:Int)≤128):=fun h=>h7 ⟨h.1,h.2,rfl⟩
   dsimp only [oS,oR];refine fnW Tryz.func248 ?_;exact QKh
end Go.Proofs.YtflelebfmdggkaaGreat
