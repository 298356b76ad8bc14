import Derived.Test.YtflelebfmdggkaaGreatP5
set_option linter.unusedSimpArgs false
set_option linter.unusedVariables false
set_option maxHeartbeats 100000000
set_option maxRecDepth 1000000
namespace Go.Proofs.YtflelebfmdggkaaGreat
open Go Go.RowKit
def Qu1 (pc:Int):List SV:= [.u 0,.u 0,.u 0,.u 0,.u 0,.u 0,.u 0,.u 0,.u 0,.u 0,.u 0,.u 0,.u 0,.u 0,.u 0,.u 0,.u pc,.u 1,.u 0,.u 0,.u 0,.u 0,.u 0,.u 0,.u 0]
theorem QqN (pc:Int):FN 28 [.s (.u pc)] [] (· =⟨.a (.agg (Qu1 pc)),[],[]⟩):=by
 refine fnW Tryz.func28 ?_;exact QBr
theorem QHk (m:Nat) (hm:m<4294967296):(~~~ (BitVec.ofInt 32 (m:Int))).toNat=4294967295-m:=by
 rw [BitVec.toNat_not,QzV m hm]
theorem QcA (a b:Nat) (ha:a<4294967296) (hb:b<4294967296):bits .andNot .u32 (a:Int) b=((a &&& (4294967295-b):Nat):Int):=by
 have h:a &&& (4294967295-b)≤a:=Nat.and_le_left;show IntKind.u32.wrap (((BitVec.ofInt 32 (a:Int)) &&& ~~~ (BitVec.ofInt 32 (b:Int))).toNat:Int)=_;rw [BitVec.toNat_and,QzV a ha,QHk b hb,Qcf];generalize a &&& (4294967295-b)=z at *;omega
theorem Qhl (h l i:Nat) (hl:l<32):(32*h+l).testBit i=if i<5 then l.testBit i else h.testBit (i-5):=by
 have:=Nat.testBit_two_pow_mul_add h (i:=5) (show l<2^5 by simpa using hl) i;simpa using this
theorem Qv5 {l i:Nat} (hl:l<32) (hi:¬ i<5):l.testBit i=false :=
 Nat.testBit_lt_two_pow (Nat.lt_of_lt_of_le (show l<2^5 by simpa using hl) (Nat.pow_le_pow_right (by omega) (by omega)))
theorem or5 {a b:Nat} (ha:a<32) (hb:b<32):a ||| b<32:=Nat.or_lt_two_pow (n:=5) ha hb
theorem QFL {a b:Nat} (ha:a<32):a &&& b<32:=Nat.lt_of_le_of_lt Nat.and_le_left ha
theorem QEn {c:Prop} [Decidable c] {a b:Nat} (ha:a<32) (hb:b<32):(if c then a else b)<32:=by split<;>assumption
theorem Qgi (h l m:Nat) (hl:l<32) (hm:m<32):(32*h+l) &&& m=l &&& m:=by
 apply Nat.eq_of_testBit_eq;intro i;rw [Nat.testBit_and,Nat.testBit_and,Qhl h l i hl]
 by_cases hi:i<5
 ·rw [zP hi]
 ·rw [zN hi,Qv5 hm hi];simp
theorem Qkw (h l m:Nat) (hl:l<32) (hm:m<32):(32*h+l) ||| m=32*h+(l ||| m):=by
 have WO:l ||| m<32:=Nat.or_lt_two_pow (n:=5) (by simpa using hl) (by simpa using hm);apply Nat.eq_of_testBit_eq;intro i;rw [Nat.testBit_or,Qhl h l i hl,Qhl h _ i WO,Nat.testBit_or]
 by_cases hi:i<5
 ·rw [zP hi,zP hi]
 ·rw [zN hi,zN hi,Qv5 hm hi];simp
theorem QjQ (h l m:Nat) (hl:l<32) (hm:m<32) (hs:32*h+l<4294967296):(32*h+l) &&& (4294967295-m)=32*h+(l &&& (31-m)):=by
 have WO:l &&& (31-m)<32:=Nat.lt_of_le_of_lt Nat.and_le_left hl;have e:4294967295-m=32*134217727+(31-m):=by omega
 apply Nat.eq_of_testBit_eq;intro i;rw [e,Nat.testBit_and,Qhl h l i hl,Qhl _ _ i (by omega),Qhl h _ i WO,Nat.testBit_and]
 by_cases hi:i<5
 ·simp only [zP hi]
 ·simp only [zN hi]
  rw [show (134217727:Nat)=2^27-1 from rfl,Nat.testBit_two_pow_sub_one]
  by_cases h2:i-5<27
  ·simp [h2]
  ·have:h.testBit (i-5)=false:=Nat.testBit_lt_two_pow (Nat.lt_of_lt_of_le (show h<2^27 by simp;omega) (Nat.pow_le_pow_right (by omega) (by omega)))
   rw [this];simp
def mvN (s f t:Nat):Nat:=if s &&& f=0 then s &&& (4294967295-t) else s ||| t
theorem Qr6 (s f t:Nat) (hs:s<4294967296) (ht:t<4294967296):mvN s f t<4294967296:=by
 unfold mvN;split
 ·exact Nat.lt_of_le_of_lt Nat.and_le_left hs
 ·exact Nat.or_lt_two_pow (n:=32) (by simpa using hs) (by simpa using ht)
theorem Qh8 (s f t:Nat) (hs:s<4294967296) (hf:f<4294967296) (ht:t<4294967296):FN 231 [.s (.u s),.s (.u f),.s (.u t)] [] (· =⟨.a (.s (.u (mvN s f t:Nat))),[],[]⟩):=by
 refine fnW Tryz.func231 ?_;(repeat' ((conv=>whnf);first|exact zi0|(refine zj0 ?_;intro hb)|((with_reducible apply Vl.mk (α:=Int)); · first|exact Qii s f hs hf|exact QvM s t hs ht|exact QcA s t hs ht)|refine zs0 ?_|refine zbb ?_ ?_));all_goals (conv=>whnf)
 all_goals
  apply Qam
  (focus rfl)
  simp only [Qbc,mvN]
  first
   | (rw [zP (by omega)];done)
   | (rw [zN (by omega)];done)
def Qfd (s:Nat):Nat:=32*(s / 32)+(1+4*(s / 4%2)+8*(s%2)+16*(s / 2%2))
def QgC (s:Nat):Nat:=32*(s / 32)+(s / 8%2+2*(s / 16%2)+4*(s / 4%2)+8*(s / 8%2)+16*(s / 16%2))
theorem Qta (s:Nat) (hs:s<4294967296):Qfd s<4294967296:=by unfold Qfd;omega
theorem QzM (s:Nat) (hs:s<4294967296):QgC s<4294967296:=by unfold QgC;omega
theorem Qus (h l f t:Nat) (hl:l<32) (hf:f<32) (ht:t<32) (hs:32*h+l<4294967296):mvN (32*h+l) f t=32*h+(if l &&& f=0 then l &&& (31-t) else l ||| t):=by
 unfold mvN;rw [Qgi h l f hl hf,Qkw h l t hl ht,QjQ h l t hl ht hs];split<;>rfl
theorem QqD (l f t:Nat) (hl:l<32) (ht:t<32):(if l &&& f=0 then l &&& (31-t) else l ||| t)<32:=by
 split
 ·exact Nat.lt_of_le_of_lt Nat.and_le_left hl
 ·exact Nat.or_lt_two_pow (n:=5) (by simpa using hl) (by simpa using ht)
theorem Qti:∀ l:Nat,l<32→((if (if l &&& 1=0 then l &&& (31-8) else l ||| 8) &&& 2=0 then (if l &&& 1=0 then l &&& (31-8) else l ||| 8) &&& (31-16) else (if l &&& 1=0 then l &&& (31-8) else l ||| 8) ||| 16) ||| 1) &&& (31-2)=1+4*(l / 4%2)+8*(l%2)+16*(l / 2%2):=by decide
theorem Qwy:∀ l:Nat,l<32→(if (if l &&& 8=0 then l &&& (31-1) else l ||| 1) &&& 16=0 then (if l &&& 8=0 then l &&& (31-1) else l ||| 1) &&& (31-2) else (if l &&& 8=0 then l &&& (31-1) else l ||| 1) ||| 2)=l / 8%2+2*(l / 16%2)+4*(l / 4%2)+8*(l / 8%2)+16*(l / 16%2):=by decide
theorem QqV:∀ l:Nat,l<32→((((l &&& (31-24)) ||| (if l &&& 1=0 then 0 else 8)) ||| (if l &&& 2=0 then 0 else 16)) &&& (31-2)) ||| 1=1+4*(l / 4%2)+8*(l%2)+16*(l / 2%2):=by decide
theorem QsQ:∀ l:Nat,l<32→((l &&& (31-3)) ||| (if l &&& 8=0 then 0 else 1)) ||| (if l &&& 16=0 then 0 else 2)=l / 8%2+2*(l / 16%2)+4*(l / 4%2)+8*(l / 8%2)+16*(l / 16%2):=by decide
theorem Qhk (s:Nat):∃ h l,l<32∧s=32*h+l:=⟨s / 32,s%32,Nat.mod_lt _ (by omega),by omega⟩
theorem QwM (s:Nat) (hs:s<4294967296):(mvN (mvN s 1 8) 2 16 ||| 1) &&& (4294967295-2)=Qfd s:=by
 obtain ⟨h,l,hl,rfl⟩:=Qhk s;have k1:=QqD l 1 8 hl (by omega);have k2:=QqD _ 2 16 k1 (by omega);have k3:=or5 k2 (show 1<32 by omega);rw [Qus h l 1 8 hl (by omega) (by omega) hs,Qus h _ 2 16 k1 (by omega) (by omega) (by omega),Qkw h _ 1 k2 (by omega),QjQ h _ 2 k3 (by omega) (by omega),Qti l hl];unfold Qfd;omega
theorem QDZ (s:Nat) (hs:s<4294967296):mvN (mvN s 8 1) 16 2=QgC s:=by
 obtain ⟨h,l,hl,rfl⟩:=Qhk s;have k1:=QqD l 8 1 hl (by omega);rw [Qus h l 8 1 hl (by omega) (by omega) hs,Qus h _ 16 2 k1 (by omega) (by omega) (by omega),Qwy l hl];unfold QgC;omega
theorem QtL (s:Nat) (hs:s<4294967296):((((s &&& (4294967295-24)) ||| (if s &&& 1=0 then 0 else 8)) ||| (if s &&& 2=0 then 0 else 16)) &&& (4294967295-2)) ||| 1=Qfd s:=by
 obtain ⟨h,l,hl,rfl⟩:=Qhk s;have k0:l &&& (31-24)<32:=QFL hl;have i1:(if l &&& 1=0 then 0 else 8)<32:=QEn (by omega) (by omega);have i2:(if l &&& 2=0 then 0 else 16)<32:=QEn (by omega) (by omega);have k1:=or5 k0 i1;have k2:=or5 k1 i2;rw [Qgi h l 1 hl (by omega),Qgi h l 2 hl (by omega),QjQ h l 24 hl (by omega) hs,Qkw h _ _ k0 i1,Qkw h _ _ k1 i2,QjQ h _ 2 k2 (by omega) (by omega),Qkw h _ 1 (QFL k2) (by omega),QqV l hl];unfold Qfd;omega
theorem QxO (s:Nat) (hs:s<4294967296):((s &&& (4294967295-3)) ||| (if s &&& 8=0 then 0 else 1)) ||| (if s &&& 16=0 then 0 else 2)=QgC s:=by
 obtain ⟨h,l,hl,rfl⟩:=Qhk s;have k0:l &&& (31-3)<32:=QFL hl;have i1:(if l &&& 8=0 then 0 else 1)<32:=QEn (by omega) (by omega);have i2:(if l &&& 16=0 then 0 else 2)<32:=QEn (by omega) (by omega);have k1:=or5 k0 i1;rw [Qgi h l 8 hl (by omega),Qgi h l 16 hl (by omega),QjQ h l 3 hl (by omega) hs,Qkw h _ _ k0 i1,Qkw h _ _ k1 i2,QsQ l hl];unfold QgC;omega
def Qay (x:List Nat) (pc:Nat) (c:List Nat):List SV:=wsv x++(.u pc::wsv c)
theorem Qav {x:List Nat} (h:x.length=16):∃ x0 x1 x2 x3 x4 x5 x6 x7 x8 x9 x10 x11 x12 x13 x14 x15:Nat,x= [x0,x1,x2,x3,x4,x5,x6,x7,x8,x9,x10,x11,x12,x13,x14,x15]:=by
 match x,h with
 | [x0,x1,x2,x3,x4,x5,x6,x7,x8,x9,x10,x11,x12,x13,x14,x15],_=>exact ⟨x0,x1,x2,x3,x4,x5,x6,x7,x8,x9,x10,x11,x12,x13,x14,x15,rfl⟩
theorem QaM {x:List Nat} (h:x.length=8):∃ x0 x1 x2 x3 x4 x5 x6 x7:Nat,x= [x0,x1,x2,x3,x4,x5,x6,x7]:=by
 match x,h with
 | [x0,x1,x2,x3,x4,x5,x6,x7],_=>exact ⟨x0,x1,x2,x3,x4,x5,x6,x7,rfl⟩
def QyB (x:List Nat) (pc:Nat) (c:List Nat) (cause:Int) (bad:Nat):List SV :=
 Qay x (c.getD 1 0) [Qfd (c.getD 0 0),c.getD 1 0,pc,(cause%4294967296).toNat,bad,c.getD 5 0,c.getD 6 0,c.getD 7 0]
def QEo (x:List Nat) (pc:Nat) (c:List Nat):List SV:=Qay x (c.getD 2 0) (c.set 0 (QgC (c.getD 0 0)))
theorem QG0 (z:Int):IntKind.u32.wrap z=((z%4294967296).toNat:Int):=by rw [Qcf];omega
theorem Qeb (x:List Nat) (pc:Nat) (c:List Nat) (cause:Int) (bad:Nat) (hx:x.length=16) (hc:c.length=8) (gK:∀ y∈c,y<4294967296):FN 196 [.agg (Qay x pc c),.s (.i cause),.s (.u bad)] [] (· =⟨.a (.agg (QyB x pc c cause bad)),[],[]⟩):=by
 obtain ⟨x0,x1,x2,x3,x4,x5,x6,x7,x8,x9,x10,x11,x12,x13,x14,x15,rfl⟩:=Qav hx;obtain ⟨c0,c1,_,_,_,c5,c6,c7,rfl⟩:=QaM hc;have h0:c0<4294967296:=gK c0 (by simp);have m1:=Qr6 c0 1 8 h0 (by omega);have m2:=Qr6 _ 2 16 m1 (by omega);have m3:mvN (mvN c0 1 8) 2 16 ||| 1<4294967296:=Nat.or_lt_two_pow (n:=32) m2 (by omega);have e1:bits .or .u32 ((mvN (mvN c0 1 8) 2 16:Nat):Int) 1=((mvN (mvN c0 1 8) 2 16 ||| 1:Nat):Int):=QvM _ 1 m2 (by omega);have e2:bits .andNot .u32 ((mvN (mvN c0 1 8) 2 16 ||| 1:Nat):Int) 2=((Qfd c0:Nat):Int):=by rw [← QwM c0 h0];exact QcA _ 2 m3 (by omega)
 have f1:=Qh8 c0 1 8 h0 (by omega) (by omega);have f2:=Qh8 (mvN c0 1 8) 2 16 m1 (by omega) (by omega);show Fn _ _ [.agg _,_,_] [] (· =⟨.a (.agg (Qay [x0,x1,x2,x3,x4,x5,x6,x7,x8,x9,x10,x11,x12,x13,x14,x15] c1 [Qfd c0,c1,pc,(cause%4294967296).toNat,bad,c5,c6,c7])),[],[]⟩);generalize Qfd c0=tS,mvN (mvN c0 1 8) 2 16=M2 at *;generalize mvN c0 1 8=M1,M2 ||| 1=M3 at *;refine fnW Tryz.func196 ?_;(repeat' ((conv=>whnf);first|exact zi0|(refine zj0 ?_;intro hb)|(refine Qac (f:=231) (f1) rfl ?_)|(refine Qac (f:=231) (f2) rfl ?_)|(with_reducible first|refine zv e1 ?_|refine zv e2 ?_|refine zv (QG0 _) ?_)|refine zs0 ?_|refine zbb ?_ ?_));all_goals (conv=>whnf)
 all_goals exact Qam rfl rfl
theorem QES (k z:Nat) (hk:k<4294967296):IntKind.u32.wrap ((k:Int)*(if ((z:Nat):Int) !=0 then 1 else 0))=((if z=0 then 0 else k:Nat):Int):=by
 by_cases h:z=0
 ·subst h;rfl
 ·have h2:((z:Nat):Int)≠0:=by omega
  rw [zN h,zP (by simpa using h2),Qcf];omega
theorem Qc0 (x:List Nat) (pc:Nat) (c:List Nat) (cause:Int) (bad:Nat) (hx:x.length=16) (hc:c.length=8) (gK:∀ y∈c,y<4294967296):FN 88 [.agg (Qay x pc c),.s (.i cause),.s (.u bad)] [] (· =⟨.a (.agg (QyB x pc c cause bad)),[],[]⟩):=by
 obtain ⟨_,_,_,_,_,_,_,_,_,_,_,_,_,_,_,_,rfl⟩:=Qav hx;obtain ⟨c0,_,_,_,_,_,_,_,rfl⟩:=QaM hc;have h0:c0<4294967296:=gK c0 (by simp);have h1:c0 &&& (4294967295-24)<4294967296:=Nat.lt_of_le_of_lt Nat.and_le_left h0;have i1:(if c0 &&& 1=0 then 0 else 8)<4294967296:=by split<;>omega
 have i2:(if c0 &&& 2=0 then 0 else 16)<4294967296:=by split<;>omega
 have h2:=Nat.or_lt_two_pow (n:=32) h1 i1;have h3:=Nat.or_lt_two_pow (n:=32) h2 i2;have h4:=Nat.lt_of_le_of_lt (Nat.and_le_left (m:=4294967295-2)) h3;have e1:bits .andNot .u32 (c0:Int) 24=((c0 &&& (4294967295-24):Nat):Int):=QcA c0 24 h0 (by omega);have e2:bits .and .u32 (c0:Int) 1=((c0 &&& 1:Nat):Int):=Qii c0 1 h0 (by omega);have e3:bits .and .u32 (c0:Int) 2=((c0 &&& 2:Nat):Int):=Qii c0 2 h0 (by omega);have e4:=QvM _ _ h1 i1;have e5:=QvM _ _ h2 i2;have e6:bits .andNot .u32 _ 2=_:=QcA _ 2 h3 (by omega);have e7:bits .or .u32 _ 1=_:=QvM _ 1 h4 (by omega);rw [QtL c0 h0] at e7;have b1:IntKind.u32.wrap (8*(if ((c0 &&& 1:Nat):Int) !=0 then 1 else 0))=((if c0 &&& 1=0 then 0 else 8:Nat):Int):=QES 8 _ (by omega);have b2:IntKind.u32.wrap (16*(if ((c0 &&& 2:Nat):Int) !=0 then 1 else 0))=((if c0 &&& 2=0 then 0 else 16:Nat):Int):=QES 16 _ (by omega);refine fnW Tryz.func88 ?_;(repeat' ((conv=>whnf);first|exact zi0|(refine zj0 ?_;intro hb)|(refine Qac (f:=155) (Qqg _) rfl ?_)|(with_reducible first|refine zv e1 ?_|refine zv e2 ?_|refine zv e3 ?_|refine zv e4 ?_|refine zv e5 ?_|refine zv e6 ?_|refine zv e7 ?_|refine zv b1 ?_|refine zv b2 ?_|refine zv (QG0 _) ?_)|refine zs0 ?_|refine zbb ?_ ?_));all_goals (conv=>whnf)
 all_goals exact Qam rfl rfl
theorem QCE (x:List Nat) (pc:Nat) (c:List Nat) (hx:x.length=16) (hc:c.length=8) (gK:∀ y∈c,y<4294967296):FN 237 [.agg (Qay x pc c)] [] (· =⟨.a (.agg (QEo x pc c)),[],[]⟩):=by
 obtain ⟨_,_,_,_,_,_,_,_,_,_,_,_,_,_,_,_,rfl⟩:=Qav hx;obtain ⟨c0,_,_,_,_,_,_,_,rfl⟩:=QaM hc;have h0:c0<4294967296:=gK c0 (by simp);have m1:=Qr6 c0 8 1 h0 (by omega);have e1:mvN (mvN c0 8 1) 16 2=QgC c0:=QDZ c0 h0;have f2:=Qh8 (mvN c0 8 1) 16 2 m1 (by omega) (by omega);rw [e1] at f2;refine fnW Tryz.func237 ?_;(repeat' ((conv=>whnf);first|exact zi0|(refine zj0 ?_;intro hb)|(refine Qac (f:=231) (Qh8 c0 8 1 h0 (by omega) (by omega)) rfl ?_)|(refine Qac (f:=231) (f2) rfl ?_)|refine zs0 ?_|refine zbb ?_ ?_));all_goals (conv=>whnf)
 all_goals exact Qam rfl rfl
theorem Qwt (x:List Nat) (pc:Nat) (c:List Nat) (hx:x.length=16) (hc:c.length=8) (gK:∀ y∈c,y<4294967296):FN 161 [.agg (Qay x pc c)] [] (· =⟨.a (.agg (QEo x pc c)),[],[]⟩):=by
 obtain ⟨_,_,_,_,_,_,_,_,_,_,_,_,_,_,_,_,rfl⟩:=Qav hx;obtain ⟨c0,_,_,_,_,_,_,_,rfl⟩:=QaM hc;have h0:c0<4294967296:=gK c0 (by simp);have h1:c0 &&& (4294967295-3)<4294967296:=Nat.lt_of_le_of_lt Nat.and_le_left h0;have i1:(if c0 &&& 8=0 then 0 else 1)<4294967296:=by split<;>omega
 have i2:(if c0 &&& 16=0 then 0 else 2)<4294967296:=by split<;>omega
 have h2:=Nat.or_lt_two_pow (n:=32) h1 i1;have e1:bits .andNot .u32 (c0:Int) 3=((c0 &&& (4294967295-3):Nat):Int):=QcA c0 3 h0 (by omega);have e2:bits .and .u32 (c0:Int) 8=((c0 &&& 8:Nat):Int):=Qii c0 8 h0 (by omega);have e3:bits .and .u32 (c0:Int) 16=((c0 &&& 16:Nat):Int):=Qii c0 16 h0 (by omega);have e4:=QvM _ _ h1 i1;have e5:=QvM _ _ h2 i2;rw [QxO c0 h0] at e5;have b1:IntKind.u32.wrap (1*(if ((c0 &&& 8:Nat):Int) !=0 then 1 else 0))=((if c0 &&& 8=0 then 0 else 1:Nat):Int):=QES 1 _ (by omega);have b2:IntKind.u32.wrap (2*(if ((c0 &&& 16:Nat):Int) !=0 then 1 else 0))=((if c0 &&& 16=0 then 0 else 2:Nat):Int):=QES 2 _ (by omega);refine fnW Tryz.func161 ?_;(repeat' ((conv=>whnf);first|exact zi0|(refine zj0 ?_;intro hb)|(refine Qac (f:=155) (Qqg _) rfl ?_)|(with_reducible first|refine zv e1 ?_|refine zv e2 ?_|refine zv e3 ?_|refine zv e4 ?_|refine zv e5 ?_|refine zv b1 ?_|refine zv b2 ?_)|refine zs0 ?_|refine zbb ?_ ?_));all_goals (conv=>whnf)
 all_goals exact Qam rfl rfl
def wrC (x:List Nat) (pc:Nat) (c:List Nat) (csr:Int) (v:Nat):List SV :=
 if csr=0 then Qay x pc (c.set 0 (v%32)) else if csr=7 then Qay x pc (c.set 7 (v%32)) else if csr=6 then Qay x pc (c.set 6 (v%256))
 else if csr=1 then Qay x pc (c.set 1 (v &&& (4294967295-3))) else if csr=2 then Qay x pc (c.set 2 (v &&& (4294967295-3)))
 else if csr=3 then Qay x pc (c.set 3 v) else if csr=4 then Qay x pc (c.set 4 v) else if csr=5 then Qay x pc (c.set 5 v) else Qay x pc c
theorem Quz (x:List Nat) (pc:Nat) (c:List Nat) (csr:Int) (v:Nat) (hx:x.length=16) (hc:c.length=8) (hv:v<4294967296):FN 238 [.agg (Qay x pc c),.s (.i csr),.s (.u v)] [] (· =⟨.a (.agg (wrC x pc c csr v)),[],[]⟩):=by
 obtain ⟨_,_,_,_,_,_,_,_,_,_,_,_,_,_,_,_,rfl⟩:=Qav hx;obtain ⟨_,_,_,_,_,_,_,_,rfl⟩:=QaM hc;have e1:bits .and .u32 (v:Int) 31=((v%32:Nat):Int):=Qbm v 5 hv (by omega);have e2:bits .and .u32 (v:Int) 255=((v%256:Nat):Int):=Qbm v 8 hv (by omega);have e3:bits .andNot .u32 (v:Int) 3=((v &&& (4294967295-3):Nat):Int):=QcA v 3 hv (by omega);have hcs:(csr=0∨csr=1∨csr=2∨csr=3∨csr=4∨csr=5∨csr=6∨csr=7)∨(csr<0∨7<csr):=by omega
 rcases hcs with (rfl|rfl|rfl|rfl|rfl|rfl|rfl|rfl)|hcs
 rotate_right
 ·have e:∀ x pc c,wrC x pc c csr v=Qay x pc c:=fun x pc c=>by
   unfold wrC;repeat rw [zN (by omega)]
  rw [e];refine fnW Tryz.func238 ?_;(repeat' ((conv=>whnf);first|exact zi0|(refine zj0 ?_;intro hb)|refine zs0 ?_|refine zbb ?_ ?_));all_goals (conv=>whnf)
  all_goals exact Qam rfl rfl
 all_goals
  refine fnW Tryz.func238 ?_;(repeat' ((conv=>whnf);first|exact zi0|(refine zj0 ?_;intro hb)|(with_reducible first|refine zv e1 ?_|refine zv e2 ?_|refine zv e3 ?_)|refine zs0 ?_|refine zbb ?_ ?_));all_goals (conv=>whnf)
  all_goals exact Qam rfl rfl
theorem QrG (x:List Nat) (pc:Nat) (c:List Nat) (csr:Int) (v:Nat) (hx:x.length=16) (hc:c.length=8) (hv:v<4294967296):FN 162 [.agg (Qay x pc c),.s (.i csr),.s (.u v)] [] (· =⟨.a (.agg (wrC x pc c csr v)),[],[]⟩):=by
 obtain ⟨_,_,_,_,_,_,_,_,_,_,_,_,_,_,_,_,rfl⟩:=Qav hx;obtain ⟨_,_,_,_,_,_,_,_,rfl⟩:=QaM hc;have e1:bits .and .u32 (v:Int) 31=((v%32:Nat):Int):=Qbm v 5 hv (by omega);have e2:bits .and .u32 (v:Int) 255=((v%256:Nat):Int):=Qbm v 8 hv (by omega);have e3:bits .andNot .u32 (v:Int) 3=((v &&& (4294967295-3):Nat):Int):=QcA v 3 hv (by omega);have hcs:(csr=0∨csr=1∨csr=2∨csr=3∨csr=4∨csr=5∨csr=6∨csr=7)∨(csr<0∨7<csr):=by omega
 rcases hcs with (rfl|rfl|rfl|rfl|rfl|rfl|rfl|rfl)|hcs
 rotate_right
 ·have e:∀ x pc c,wrC x pc c csr v=Qay x pc c:=fun x pc c=>by
   unfold wrC;repeat rw [zN (by omega)]
  rw [e];refine fnW Tryz.func162 ?_;(repeat' ((conv=>whnf);first|exact zi0|(refine zj0 ?_;intro hb)|refine zs0 ?_|refine zbb ?_ ?_));all_goals (conv=>whnf)
  all_goals exact Qam rfl rfl
 all_goals
  refine fnW Tryz.func162 ?_;(repeat' ((conv=>whnf);first|exact zi0|(refine zj0 ?_;intro hb)|(with_reducible first|refine zv e1 ?_|refine zv e2 ?_|refine zv e3 ?_)|refine zs0 ?_|refine zbb ?_ ?_));all_goals (conv=>whnf)
  all_goals exact Qam rfl rfl
theorem Qal (x:List Nat) (pc:Nat) (c:List Nat):Qau (Qay x pc c)=true:=QaX (Qaa x) (Qaa c)
def QEW:List SK:= [.int,.int,.int,.int,.int,.int,.int,.int,.int,.int,.int,.int,.int,.int,.int,.int,.int,.int,.int,.int,.int,.int,.int,.int,.int]
theorem Qtw (x:List Nat) (pc:Nat) (c:List Nat) (hx:x.length=16) (hc:c.length=8):QaS QEW (Qay x pc c) (Qay x pc c)=some true:=by
 obtain ⟨_,_,_,_,_,_,_,_,_,_,_,_,_,_,_,_,rfl⟩:=Qav hx;obtain ⟨_,_,_,_,_,_,_,_,rfl⟩:=QaM hc;simp [Qay,wsv,QEW,QaS,eqS,kEq]
end Go.Proofs.YtflelebfmdggkaaGreat
