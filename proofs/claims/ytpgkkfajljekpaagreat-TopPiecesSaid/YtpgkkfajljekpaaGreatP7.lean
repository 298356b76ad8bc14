import Derived.Test.YtpgkkfajljekpaaGreatP4
import Derived.Test.YtpgkkfajljekpaaGreatP5
set_option linter.unusedSimpArgs false
set_option linter.unusedVariables false
set_option maxHeartbeats 0
set_option maxRecDepth 1000000
namespace Go.Proofs.YtpgkkfajljekpaaGreat
open Go Go.RowKit
def Qv1 (pc:Int):List SV:= [.u 0,.u 0,.u 0,.u 0,.u 0,.u 0,.u 0,.u 0,.u 0,.u 0,.u 0,.u 0,.u 0,.u 0,.u 0,.u 0,.u pc,.u 1,.u 0,.u 0,.u 0,.u 0,.u 0,.u 0,.u 0]
theorem Qru (pc:Int):FN 43 [.s (.u pc)] [] (. =⟨.a (.agg (Qv1 pc)),[],[]⟩):=by
 refine fnW Tryz.func43 ?_;exact QDP
theorem QGg (m:Nat) (hm:m<4294967296):(~~~ (BitVec.ofInt 32 (m:Int))).toNat=4294967295-m:=by
 rw [BitVec.toNat_not,QAn m hm]
theorem Qcx (a b:Nat) (ha:a<4294967296) (hb:b<4294967296):bits .andNot .u32 (a:Int) b=((a &&& (4294967295-b):Nat):Int):=by
 have h:a &&& (4294967295-b)<=a:=Nat.and_le_left;show IntKind.u32.wrap (((BitVec.ofInt 32 (a:Int)) &&& ~~~ (BitVec.ofInt 32 (b:Int))).toNat:Int)=_;rw [BitVec.toNat_and,QAn a ha,QGg b hb,Qcf];generalize a &&& (4294967295-b)=z at *;omega
theorem QhA (h l i:Nat) (hl:l<32):(32*h+l).testBit i=if i<5 then l.testBit i else h.testBit (i-5):=by
 have:=Nat.testBit_two_pow_mul_add h (i:=5) (show l<2^5 by simpa using hl) i;simpa using this
theorem QvT {l i:Nat} (hl:l<32) (hi:¬ i<5):l.testBit i=false :=
 Nat.testBit_lt_two_pow (Nat.lt_of_lt_of_le (show l<2^5 by simpa using hl) (Nat.pow_le_pow_right (by omega) (by omega)))
theorem or5 {a b:Nat} (ha:a<32) (hb:b<32):a ||| b<32:=Nat.or_lt_two_pow (n:=5) ha hb
theorem QFo {a b:Nat} (ha:a<32):a &&& b<32:=Nat.lt_of_le_of_lt Nat.and_le_left ha
theorem QEP {c:Prop} [Decidable c] {a b:Nat} (ha:a<32) (hb:b<32):(if c then a else b)<32:=by split<;>assumption
theorem QgF (h l m:Nat) (hl:l<32) (hm:m<32):(32*h+l) &&& m=l &&& m:=by
 apply Nat.eq_of_testBit_eq;intro i;rw [Nat.testBit_and,Nat.testBit_and,QhA h l i hl]
 by_cases hi:i<5
 .rw [zP hi]
 .rw [zN hi,QvT hm hi];simp
theorem QkX (h l m:Nat) (hl:l<32) (hm:m<32):(32*h+l) ||| m=32*h+(l ||| m):=by
 have YW:l ||| m<32:=Nat.or_lt_two_pow (n:=5) (by simpa using hl) (by simpa using hm);apply Nat.eq_of_testBit_eq;intro i;rw [Nat.testBit_or,QhA h l i hl,QhA h _ i YW,Nat.testBit_or]
 by_cases hi:i<5
 .rw [zP hi,zP hi]
 .rw [zN hi,zN hi,QvT hm hi];simp
theorem Qju (h l m:Nat) (hl:l<32) (hm:m<32) (hs:32*h+l<4294967296):(32*h+l) &&& (4294967295-m)=32*h+(l &&& (31-m)):=by
 have YW:l &&& (31-m)<32:=Nat.lt_of_le_of_lt Nat.and_le_left hl;have e:4294967295-m=32*134217727+(31-m):=by omega
 apply Nat.eq_of_testBit_eq;intro i;rw [e,Nat.testBit_and,QhA h l i hl,QhA _ _ i (by omega),QhA h _ i YW,Nat.testBit_and]
 by_cases hi:i<5
 .simp only [zP hi]
 .simp only [zN hi]
  rw [show (134217727:Nat)=2^27-1 from rfl,Nat.testBit_two_pow_sub_one]
  by_cases h2:i-5<27
  .simp [h2]
  .have:h.testBit (i-5)=false:=Nat.testBit_lt_two_pow (Nat.lt_of_lt_of_le (show h<2^27 by simp;omega) (Nat.pow_le_pow_right (by omega) (by omega)))
   rw [this];simp
def mvN (s f t:Nat):Nat:=if s &&& f=0 then s &&& (4294967295-t) else s ||| t
theorem QqP (s f t:Nat) (hs:s<4294967296) (ht:t<4294967296):mvN s f t<4294967296:=by
 unfold mvN;split
 .exact Nat.lt_of_le_of_lt Nat.and_le_left hs
 .exact Nat.or_lt_two_pow (n:=32) (by simpa using hs) (by simpa using ht)
theorem Qik (s f t:Nat) (hs:s<4294967296) (hf:f<4294967296) (ht:t<4294967296):FN 113 [.s (.u s),.s (.u f),.s (.u t)] [] (. =⟨.a (.s (.u (mvN s f t:Nat))),[],[]⟩):=by
 refine fnW Tryz.func113 ?_;(repeat' ((conv=>whnf);first|exact zi0|(refine zj0 ?_;intro hb)|((with_reducible apply Vl.mk (α:=Int)); . first|exact QhU s f hs hf|exact QvX s t hs ht|exact Qcx s t hs ht)|refine zs0 ?_|refine zbb ?_ ?_));all_goals (conv=>whnf)
 all_goals
  apply Qan
  (focus rfl)
  simp only [Qbc,mvN]
  first
   | (rw [zP (by omega)];done)
   | (rw [zN (by omega)];done)
def Qfl (s:Nat):Nat:=32*(s / 32)+(1+4*(s / 4%2)+8*(s%2)+16*(s / 2%2))
def QgR (s:Nat):Nat:=32*(s / 32)+(s / 8%2+2*(s / 16%2)+4*(s / 4%2)+8*(s / 8%2)+16*(s / 16%2))
theorem QuO (s:Nat) (hs:s<4294967296):Qfl s<4294967296:=by unfold Qfl;omega
theorem Qyy (s:Nat) (hs:s<4294967296):QgR s<4294967296:=by unfold QgR;omega
theorem Qt0 (h l f t:Nat) (hl:l<32) (hf:f<32) (ht:t<32) (hs:32*h+l<4294967296):mvN (32*h+l) f t=32*h+(if l &&& f=0 then l &&& (31-t) else l ||| t):=by
 unfold mvN;rw [QgF h l f hl hf,QkX h l t hl ht,Qju h l t hl ht hs];split<;>rfl
theorem QqQ (l f t:Nat) (hl:l<32) (ht:t<32):(if l &&& f=0 then l &&& (31-t) else l ||| t)<32:=by
 split
 .exact Nat.lt_of_le_of_lt Nat.and_le_left hl
 .exact Nat.or_lt_two_pow (n:=5) (by simpa using hl) (by simpa using ht)
theorem QuP:∀ l:Nat,l<32->((if (if l &&& 1=0 then l &&& (31-8) else l ||| 8) &&& 2=0 then (if l &&& 1=0 then l &&& (31-8) else l ||| 8) &&& (31-16) else (if l &&& 1=0 then l &&& (31-8) else l ||| 8) ||| 16) ||| 1) &&& (31-2)=1+4*(l / 4%2)+8*(l%2)+16*(l / 2%2):=by decide
theorem Qyz:∀ l:Nat,l<32->(if (if l &&& 8=0 then l &&& (31-1) else l ||| 1) &&& 16=0 then (if l &&& 8=0 then l &&& (31-1) else l ||| 1) &&& (31-2) else (if l &&& 8=0 then l &&& (31-1) else l ||| 1) ||| 2)=l / 8%2+2*(l / 16%2)+4*(l / 4%2)+8*(l / 8%2)+16*(l / 16%2):=by decide
theorem QrA:∀ l:Nat,l<32->((((l &&& (31-24)) ||| (if l &&& 1=0 then 0 else 8)) ||| (if l &&& 2=0 then 0 else 16)) &&& (31-2)) ||| 1=1+4*(l / 4%2)+8*(l%2)+16*(l / 2%2):=by decide
theorem Qup:∀ l:Nat,l<32->((l &&& (31-3)) ||| (if l &&& 8=0 then 0 else 1)) ||| (if l &&& 16=0 then 0 else 2)=l / 8%2+2*(l / 16%2)+4*(l / 4%2)+8*(l / 8%2)+16*(l / 16%2):=by decide
theorem QhL (s:Nat):∃ h l,l<32/\s=32*h+l:=⟨s / 32,s%32,Nat.mod_lt _ (by omega),by omega⟩
theorem QzC (s:Nat) (hs:s<4294967296):(mvN (mvN s 1 8) 2 16 ||| 1) &&& (4294967295-2)=Qfl s:=by
 obtain ⟨h,l,hl,rfl⟩:=QhL s;have k1:=QqQ l 1 8 hl (by omega);have k2:=QqQ _ 2 16 k1 (by omega);have k3:=or5 k2 (show 1<32 by omega);rw [Qt0 h l 1 8 hl (by omega) (by omega) hs,Qt0 h _ 2 16 k1 (by omega) (by omega) (by omega),QkX h _ 1 k2 (by omega),Qju h _ 2 k3 (by omega) (by omega),QuP l hl];unfold Qfl;omega
theorem QCx (s:Nat) (hs:s<4294967296):mvN (mvN s 8 1) 16 2=QgR s:=by
 obtain ⟨h,l,hl,rfl⟩:=QhL s;have k1:=QqQ l 8 1 hl (by omega);rw [Qt0 h l 8 1 hl (by omega) (by omega) hs,Qt0 h _ 16 2 k1 (by omega) (by omega) (by omega),Qyz l hl];unfold QgR;omega
theorem Qut (s:Nat) (hs:s<4294967296):((((s &&& (4294967295-24)) ||| (if s &&& 1=0 then 0 else 8)) ||| (if s &&& 2=0 then 0 else 16)) &&& (4294967295-2)) ||| 1=Qfl s:=by
 obtain ⟨h,l,hl,rfl⟩:=QhL s;have k0:l &&& (31-24)<32:=QFo hl;have i1:(if l &&& 1=0 then 0 else 8)<32:=QEP (by omega) (by omega);have i2:(if l &&& 2=0 then 0 else 16)<32:=QEP (by omega) (by omega);have k1:=or5 k0 i1;have k2:=or5 k1 i2;rw [QgF h l 1 hl (by omega),QgF h l 2 hl (by omega),Qju h l 24 hl (by omega) hs,QkX h _ _ k0 i1,QkX h _ _ k1 i2,Qju h _ 2 k2 (by omega) (by omega),QkX h _ 1 (QFo k2) (by omega),QrA l hl];unfold Qfl;omega
theorem QyO (s:Nat) (hs:s<4294967296):((s &&& (4294967295-3)) ||| (if s &&& 8=0 then 0 else 1)) ||| (if s &&& 16=0 then 0 else 2)=QgR s:=by
 obtain ⟨h,l,hl,rfl⟩:=QhL s;have k0:l &&& (31-3)<32:=QFo hl;have i1:(if l &&& 8=0 then 0 else 1)<32:=QEP (by omega) (by omega);have i2:(if l &&& 16=0 then 0 else 2)<32:=QEP (by omega) (by omega);have k1:=or5 k0 i1;rw [QgF h l 8 hl (by omega),QgF h l 16 hl (by omega),Qju h l 3 hl (by omega) hs,QkX h _ _ k0 i1,QkX h _ _ k1 i2,Qup l hl];unfold QgR;omega
def Qax (x:List Nat) (pc:Nat) (c:List Nat):List SV:=wsv x++(.u pc::wsv c)
theorem QdY {x:List Nat} (h:x.length=16):∃ x0 x1 x2 x3 x4 x5 x6 x7 x8 x9 x10 x11 x12 x13 x14 x15:Nat,x= [x0,x1,x2,x3,x4,x5,x6,x7,x8,x9,x10,x11,x12,x13,x14,x15]:=by
 match x,h with
 | [x0,x1,x2,x3,x4,x5,x6,x7,x8,x9,x10,x11,x12,x13,x14,x15],_=>exact ⟨x0,x1,x2,x3,x4,x5,x6,x7,x8,x9,x10,x11,x12,x13,x14,x15,rfl⟩
theorem Qek {x:List Nat} (h:x.length=8):∃ x0 x1 x2 x3 x4 x5 x6 x7:Nat,x= [x0,x1,x2,x3,x4,x5,x6,x7]:=by
 match x,h with
 | [x0,x1,x2,x3,x4,x5,x6,x7],_=>exact ⟨x0,x1,x2,x3,x4,x5,x6,x7,rfl⟩
inductive L16:List Nat->Prop
 | mk (a b c d e f g h i j k l m n o p:Nat):L16 [a,b,c,d,e,f,g,h,i,j,k,l,m,n,o,p]
inductive L8:List Nat->Prop
 | mk (a b c d e f g h:Nat):L8 [a,b,c,d,e,f,g,h]
theorem QJP {l:List Nat} (h:l.length=16):L16 l:=by
 obtain ⟨a,b,c,d,e,f,g,h,i,j,k,l,m,n,o,p,rfl⟩:=QdY h;exact .mk ..
theorem zC8 {l:List Nat} (h:l.length=8):L8 l:=by
 obtain ⟨a,b,c,d,e,f,g,h,rfl⟩:=Qek h;exact .mk ..
def QzB (x:List Nat) (pc:Nat) (c:List Nat) (cause:Int) (bad:Nat):List SV :=
 Qax x (c.getD 1 0) [Qfl (c.getD 0 0),c.getD 1 0,pc,(cause%4294967296).toNat,bad,c.getD 5 0,c.getD 6 0,c.getD 7 0]
def QEX (x:List Nat) (pc:Nat) (c:List Nat):List SV:=Qax x (c.getD 2 0) (c.set 0 (QgR (c.getD 0 0)))
theorem QG3 (z:Int):IntKind.u32.wrap z=((z%4294967296).toNat:Int):=by rw [Qcf];omega
theorem Qes (x:List Nat) (pc:Nat) (c:List Nat) (cause:Int) (bad:Nat) (hx:x.length=16) (hc:c.length=8) (gK:ZL c):FN 51 [.agg (Qax x pc c),.s (.i cause),.s (.u bad)] [] (. =⟨.a (.agg (QzB x pc c cause bad)),[],[]⟩):=by
 obtain ⟨x0,x1,x2,x3,x4,x5,x6,x7,x8,x9,x10,x11,x12,x13,x14,x15,rfl⟩:=QdY hx;obtain ⟨c0,c1,_,_,_,c5,c6,c7,rfl⟩:=Qek hc;have h0:c0<4294967296:=gK c0 (by simp);have m1:=QqP c0 1 8 h0 (by omega);have m2:=QqP _ 2 16 m1 (by omega);have m3:mvN (mvN c0 1 8) 2 16 ||| 1<4294967296:=Nat.or_lt_two_pow (n:=32) m2 (by omega);have e1:bits .or .u32 ((mvN (mvN c0 1 8) 2 16:Nat):Int) 1=((mvN (mvN c0 1 8) 2 16 ||| 1:Nat):Int):=QvX _ 1 m2 (by omega);have e2:bits .andNot .u32 ((mvN (mvN c0 1 8) 2 16 ||| 1:Nat):Int) 2=((Qfl c0:Nat):Int):=by rw [<- QzC c0 h0];exact Qcx _ 2 m3 (by omega)
 have f1:=Qik c0 1 8 h0 (by omega) (by omega);have f2:=Qik (mvN c0 1 8) 2 16 m1 (by omega) (by omega);show Fn _ _ [.agg _,_,_] [] (. =⟨.a (.agg (Qax [x0,x1,x2,x3,x4,x5,x6,x7,x8,x9,x10,x11,x12,x13,x14,x15] c1 [Qfl c0,c1,pc,(cause%4294967296).toNat,bad,c5,c6,c7])),[],[]⟩);generalize Qfl c0=tS,mvN (mvN c0 1 8) 2 16=M2 at *;generalize mvN c0 1 8=M1,M2 ||| 1=M3 at *;refine fnW Tryz.func51 ?_;(repeat' ((conv=>whnf);first|exact zi0|(refine zj0 ?_;intro hb)|(refine Qac (f:=113) (f1) rfl ?_)|(refine Qac (f:=113) (f2) rfl ?_)|(with_reducible first|refine zv e1 ?_|refine zv e2 ?_|refine zv (QG3 _) ?_)|refine zs0 ?_|refine zbb ?_ ?_));all_goals (conv=>whnf)
 all_goals exact Qan rfl rfl
theorem QEC (k z:Nat) (hk:k<4294967296):IntKind.u32.wrap ((k:Int)*(if ((z:Nat):Int) !=0 then 1 else 0))=((if z=0 then 0 else k:Nat):Int):=by
 by_cases h:z=0
 .subst h;rfl
 .have h2:((z:Nat):Int)≠0:=by omega
  rw [zN h,zP (by simpa using h2),Qcf];omega
theorem Qc0 (x:List Nat) (pc:Nat) (c:List Nat) (cause:Int) (bad:Nat) (hx:x.length=16) (hc:c.length=8) (gK:ZL c):FN 146 [.agg (Qax x pc c),.s (.i cause),.s (.u bad)] [] (. =⟨.a (.agg (QzB x pc c cause bad)),[],[]⟩):=by
 cases QJP hx;obtain ⟨c0,_,_,_,_,_,_,_,rfl⟩:=Qek hc;have h0:c0<4294967296:=gK c0 (by simp);have h1:c0 &&& (4294967295-24)<4294967296:=Nat.lt_of_le_of_lt Nat.and_le_left h0;have i1:(if c0 &&& 1=0 then 0 else 8)<4294967296:=by split<;>omega
 have i2:(if c0 &&& 2=0 then 0 else 16)<4294967296:=by split<;>omega
 have h2:=Nat.or_lt_two_pow (n:=32) h1 i1;have h3:=Nat.or_lt_two_pow (n:=32) h2 i2;have h4:=Nat.lt_of_le_of_lt (Nat.and_le_left (m:=4294967295-2)) h3;have e1:bits .andNot .u32 (c0:Int) 24=((c0 &&& (4294967295-24):Nat):Int):=Qcx c0 24 h0 (by omega);have e2:bits .and .u32 (c0:Int) 1=((c0 &&& 1:Nat):Int):=QhU c0 1 h0 (by omega);have e3:bits .and .u32 (c0:Int) 2=((c0 &&& 2:Nat):Int):=QhU c0 2 h0 (by omega);have e4:=QvX _ _ h1 i1;have e5:=QvX _ _ h2 i2;have e6:bits .andNot .u32 _ 2=_:=Qcx _ 2 h3 (by omega);have e7:bits .or .u32 _ 1=_:=QvX _ 1 h4 (by omega);rw [Qut c0 h0] at e7;have b1:IntKind.u32.wrap (8*(if ((c0 &&& 1:Nat):Int) !=0 then 1 else 0))=((if c0 &&& 1=0 then 0 else 8:Nat):Int):=QEC 8 _ (by omega);have b2:IntKind.u32.wrap (16*(if ((c0 &&& 2:Nat):Int) !=0 then 1 else 0))=((if c0 &&& 2=0 then 0 else 16:Nat):Int):=QEC 16 _ (by omega);refine fnW Tryz.func146 ?_;(repeat' ((conv=>whnf);first|exact zi0|(refine zj0 ?_;intro hb)|(refine Qac (f:=218) (QoD _) rfl ?_)|(with_reducible first|refine zv e1 ?_|refine zv e2 ?_|refine zv e3 ?_|refine zv e4 ?_|refine zv e5 ?_|refine zv e6 ?_|refine zv e7 ?_|refine zv b1 ?_|refine zv b2 ?_|refine zv (QG3 _) ?_)|refine zs0 ?_|refine zbb ?_ ?_));all_goals (conv=>whnf)
 all_goals exact Qan rfl rfl
theorem QCw (x:List Nat) (pc:Nat) (c:List Nat) (hx:x.length=16) (hc:c.length=8) (gK:ZL c):FN 124 [.agg (Qax x pc c)] [] (. =⟨.a (.agg (QEX x pc c)),[],[]⟩):=by
 cases QJP hx;obtain ⟨c0,_,_,_,_,_,_,_,rfl⟩:=Qek hc;have h0:c0<4294967296:=gK c0 (by simp);have m1:=QqP c0 8 1 h0 (by omega);have e1:mvN (mvN c0 8 1) 16 2=QgR c0:=QCx c0 h0;have f2:=Qik (mvN c0 8 1) 16 2 m1 (by omega) (by omega);rw [e1] at f2;refine fnW Tryz.func124 ?_;(repeat' ((conv=>whnf);first|exact zi0|(refine zj0 ?_;intro hb)|(refine Qac (f:=113) (Qik c0 8 1 h0 (by omega) (by omega)) rfl ?_)|(refine Qac (f:=113) (f2) rfl ?_)|refine zs0 ?_|refine zbb ?_ ?_));all_goals (conv=>whnf)
 all_goals exact Qan rfl rfl
theorem QyN (x:List Nat) (pc:Nat) (c:List Nat) (hx:x.length=16) (hc:c.length=8) (gK:ZL c):FN 224 [.agg (Qax x pc c)] [] (. =⟨.a (.agg (QEX x pc c)),[],[]⟩):=by
 cases QJP hx;obtain ⟨c0,_,_,_,_,_,_,_,rfl⟩:=Qek hc;have h0:c0<4294967296:=gK c0 (by simp);have h1:c0 &&& (4294967295-3)<4294967296:=Nat.lt_of_le_of_lt Nat.and_le_left h0;have i1:(if c0 &&& 8=0 then 0 else 1)<4294967296:=by split<;>omega
 have i2:(if c0 &&& 16=0 then 0 else 2)<4294967296:=by split<;>omega
 have h2:=Nat.or_lt_two_pow (n:=32) h1 i1;have e1:bits .andNot .u32 (c0:Int) 3=((c0 &&& (4294967295-3):Nat):Int):=Qcx c0 3 h0 (by omega);have e2:bits .and .u32 (c0:Int) 8=((c0 &&& 8:Nat):Int):=QhU c0 8 h0 (by omega);have e3:bits .and .u32 (c0:Int) 16=((c0 &&& 16:Nat):Int):=QhU c0 16 h0 (by omega);have e4:=QvX _ _ h1 i1;have e5:=QvX _ _ h2 i2;rw [QyO c0 h0] at e5;have b1:IntKind.u32.wrap (1*(if ((c0 &&& 8:Nat):Int) !=0 then 1 else 0))=((if c0 &&& 8=0 then 0 else 1:Nat):Int):=QEC 1 _ (by omega);have b2:IntKind.u32.wrap (2*(if ((c0 &&& 16:Nat):Int) !=0 then 1 else 0))=((if c0 &&& 16=0 then 0 else 2:Nat):Int):=QEC 2 _ (by omega);refine fnW Tryz.func224 ?_;(repeat' ((conv=>whnf);first|exact zi0|(refine zj0 ?_;intro hb)|(refine Qac (f:=218) (QoD _) rfl ?_)|(with_reducible first|refine zv e1 ?_|refine zv e2 ?_|refine zv e3 ?_|refine zv e4 ?_|refine zv e5 ?_|refine zv b1 ?_|refine zv b2 ?_)|refine zs0 ?_|refine zbb ?_ ?_));all_goals (conv=>whnf)
 all_goals exact Qan rfl rfl
def wrC (x:List Nat) (pc:Nat) (c:List Nat) (csr:Int) (v:Nat):List SV :=
 if csr=0 then Qax x pc (c.set 0 (v%32)) else if csr=7 then Qax x pc (c.set 7 (v%32)) else if csr=6 then Qax x pc (c.set 6 (v%256))
 else if csr=1 then Qax x pc (c.set 1 (v &&& (4294967295-3))) else if csr=2 then Qax x pc (c.set 2 (v &&& (4294967295-3)))
 else if csr=3 then Qax x pc (c.set 3 v) else if csr=4 then Qax x pc (c.set 4 v) else if csr=5 then Qax x pc (c.set 5 v) else Qax x pc c
theorem QuV (x:List Nat) (pc:Nat) (c:List Nat) (csr:Int) (v:Nat) (hx:x.length=16) (hc:c.length=8) (hv:v<4294967296):FN 125 [.agg (Qax x pc c),.s (.i csr),.s (.u v)] [] (. =⟨.a (.agg (wrC x pc c csr v)),[],[]⟩):=by
 cases QJP hx;cases zC8 hc;have e1:bits .and .u32 (v:Int) 31=((v%32:Nat):Int):=Qbi v 5 hv (by omega);have e2:bits .and .u32 (v:Int) 255=((v%256:Nat):Int):=Qbi v 8 hv (by omega);have e3:bits .andNot .u32 (v:Int) 3=((v &&& (4294967295-3):Nat):Int):=Qcx v 3 hv (by omega);have hcs:(csr=0\/csr=1\/csr=2\/csr=3\/csr=4\/csr=5\/csr=6\/csr=7)\/(csr<0\/7<csr):=by omega
 rcases hcs with (rfl|rfl|rfl|rfl|rfl|rfl|rfl|rfl)|hcs
 rotate_right
 .have e:∀ x pc c,wrC x pc c csr v=Qax x pc c:=fun x pc c=>by
   unfold wrC;repeat rw [zN (by omega)]
  rw [e];refine fnW Tryz.func125 ?_;(repeat' ((conv=>whnf);first|exact zi0|(refine zj0 ?_;intro hb)|refine zs0 ?_|refine zbb ?_ ?_));all_goals (conv=>whnf)
  all_goals exact Qan rfl rfl
 all_goals
  refine fnW Tryz.func125 ?_;(repeat' ((conv=>whnf);first|exact zi0|(refine zj0 ?_;intro hb)|(with_reducible first|refine zv e1 ?_|refine zv e2 ?_|refine zv e3 ?_)|refine zs0 ?_|refine zbb ?_ ?_));all_goals (conv=>whnf)
  all_goals exact Qan rfl rfl
theorem QrF (x:List Nat) (pc:Nat) (c:List Nat) (csr:Int) (v:Nat) (hx:x.length=16) (hc:c.length=8) (hv:v<4294967296):FN 225 [.agg (Qax x pc c),.s (.i csr),.s (.u v)] [] (. =⟨.a (.agg (wrC x pc c csr v)),[],[]⟩):=by
 cases QJP hx;cases zC8 hc;have e1:bits .and .u32 (v:Int) 31=((v%32:Nat):Int):=Qbi v 5 hv (by omega);have e2:bits .and .u32 (v:Int) 255=((v%256:Nat):Int):=Qbi v 8 hv (by omega);have e3:bits .andNot .u32 (v:Int) 3=((v &&& (4294967295-3):Nat):Int):=Qcx v 3 hv (by omega);have hcs:(csr=0\/csr=1\/csr=2\/csr=3\/csr=4\/csr=5\/csr=6\/csr=7)\/(csr<0\/7<csr):=by omega
 rcases hcs with (rfl|rfl|rfl|rfl|rfl|rfl|rfl|rfl)|hcs
 rotate_right
 .have e:∀ x pc c,wrC x pc c csr v=Qax x pc c:=fun x pc c=>by
   unfold wrC;repeat rw [zN (by omega)]
  rw [e];refine fnW Tryz.func225 ?_;(repeat' ((conv=>whnf);first|exact zi0|(refine zj0 ?_;intro hb)|refine zs0 ?_|refine zbb ?_ ?_));all_goals (conv=>whnf)
  all_goals exact Qan rfl rfl
 all_goals
  refine fnW Tryz.func225 ?_;(repeat' ((conv=>whnf);first|exact zi0|(refine zj0 ?_;intro hb)|(with_reducible first|refine zv e1 ?_|refine zv e2 ?_|refine zv e3 ?_)|refine zs0 ?_|refine zbb ?_ ?_));all_goals (conv=>whnf)
  all_goals exact Qan rfl rfl
theorem Qam (x:List Nat) (pc:Nat) (c:List Nat):Qad (Qax x pc c)=true:=Qa2 (Qaa x) (Qaa c)
def QFX:List SK:= [.int,.int,.int,.int,.int,.int,.int,.int,.int,.int,.int,.int,.int,.int,.int,.int,.int,.int,.int,.int,.int,.int,.int,.int,.int]
theorem Qs7 (x:List Nat) (pc:Nat) (c:List Nat) (hx:x.length=16) (hc:c.length=8):QaO QFX (Qax x pc c) (Qax x pc c)=some true:=by
 cases QJP hx;cases zC8 hc;simp [Qax,wsv,QFX,QaO,eqS,kEq]
theorem QqD (n:Nat) (h2:n<=31):FN 183 [.s (.i n)] [] (. =⟨.a (.s (.u ((2^n-1:Nat):Int))),[],[]⟩):=by
 have h3:2^n<=2^31:=Nat.pow_le_pow_right (by omega) h2;have h4:0<2^n:=Nat.pow_pos (by omega);rw [show (2:Nat)^31=2147483648 from rfl] at h3;rw [show ((2^n-1:Nat):Int)=((2^n:Nat):Int)-1 by omega];refine fnW Tryz.func183 ?_;(repeat' ((conv=>whnf);first|exact zi0|(refine zj0 ?_;intro hb)|((with_reducible apply Vl.mk (α:=Int)); . exact Qzo n h2)|refine zs0 ?_|refine zbb ?_ ?_));all_goals (conv=>whnf)
 all_goals exact Qan rfl rfl
theorem QeJ (x l n:Nat) (hx:x<4294967296) (hl:l<=31) (h2:n<=31):bits BinOp.and IntKind.u32 ((x:Int) / 2^min ((l:Nat):Int).toNat IntKind.u32.bits) ((2^n-1:Nat):Int)=((x / 2^l%2^n:Nat):Int):=by
 have e:min ((l:Nat):Int).toNat IntKind.u32.bits=l:=Qu7;rw [e];have e2:((x:Int) / 2^l)=((x / 2^l:Nat):Int):=by simp
 rw [e2];exact Qbi _ n (Nat.lt_of_le_of_lt (Nat.div_le_self _ _) hx) h2
theorem QdJ (x l n:Nat) (hx:x<4294967296) (hl:l<=31) (h1:1<=n) (h2:n<=31):FN 116 [.s (.u x),.s (.i l),.s (.i n)] [] (. =⟨.a (.s (.u ((x / 2^l%2^n:Nat):Int))),[],[]⟩):=by
 refine fnW Tryz.func116 ?_;(repeat' ((conv=>whnf);first|exact zi0|(refine zj0 ?_;intro hb)|(refine Qac (f:=183) (QqD n h2) rfl ?_)|((with_reducible apply Vl.mk (α:=Int)); . exact QeJ x l n hx hl h2)|refine zs0 ?_|refine zbb ?_ ?_));all_goals (conv=>whnf)
 all_goals exact Qan rfl rfl
theorem QbQ {r:Row} {σ:St} {x v:TV} (hs:Qza v=true) (hr:Qad r.cells=true) (ho:hpG σ.h 0=some r) (e:x=v):Fin [r] (. =⟨v,[],[]⟩) σ x:=by
 subst e;refine Fin.mk ⟨x,[],[]⟩ [(0,some 0)] rfl (QmN hs) ?_ rfl;show HlS _ _ [] ([]++ [(0,some r)]);refine Qar (Qao rfl ho rfl ?_ (Qak hr)) QaK;cases r.own<;>rfl
def mpg (n:Nat):Nat:=if n%32=0/\n<=1024 then n / 32 else 0
theorem QbF (xs:List Nat) (n:Nat) (hn:n<4294967296):FN 36 [.s (.sl 0 0 n)] [⟨false,1,wsv xs⟩] (. =⟨.a (.s (.i (mpg n:Nat))),[],[]⟩):=by
 refine fnW Tryz.func36 ?_;exact QDK
def ld4 (n a:Nat):Bool:=decide (a%4=0)&&decide (a+4<=mpg n*128)
theorem QaS (n:Nat):mpg n<=32:=by unfold mpg;split<;>omega
theorem Qeo {n a:Nat} (h:ld4 n a=true):a / 4<n:=by
 unfold ld4 mpg at h;simp at h;split at h<;>omega
theorem QhP (xs:List Nat) (n a:Nat) (hn:n<4294967296) (ha:a<4294967296):FN 182 [.s (.sl 0 0 n),.s (.u a),.s (.i 4)] [⟨false,1,wsv xs⟩] (. =⟨.a (.s (.bool (ld4 n a))),[],[]⟩):=by
 have hm:=QaS n;refine fnW Tryz.func182 ?_;(repeat' ((conv=>whnf);first|exact zi0|(refine zj0 ?_;intro hb)|(refine Qag (f:=36) (QbF xs n hn) [⟨0,0⟩] [(0,⟨false,1,wsv xs⟩)] (by first|exact rfl|simp [QcZ,QcM,Qc5]) ⟨rfl,trivial⟩ (⟨rfl,Qas (Qaa _),trivial⟩) ⟨rfl,Qbn⟩ ?_)|refine zs0 ?_|refine zbb ?_ ?_));all_goals (conv=>whnf)
 all_goals
  refine QbQ rfl (Qaa _) rfl ?_;simp only [Qbc];congr 3;have hz:(decide (a%4=0))=decide ((a:Int)%4=0):=by congr 1;apply propext;omega
  have hy:decide ((a:Int)+4<=(mpg n:Nat)*128)=decide (a+4<=mpg n*128):=by congr 1;apply propext;omega
  unfold ld4;rw [hz,<- hy];simp only [hb,decide_true,decide_false,Bool.true_and,zbf]
theorem ldi (a:Nat):0+((a:Int) / 4).toNat * ty24.size=a / 4:=by
 show 0+((a:Int) / 4).toNat * 1=_;omega
theorem Qf3 (xs:List Nat) (n a:Nat) (hl:xs.length=n) (hn:n<4294967296) (ha:a<4294967296):FN 115 [.s (.sl 0 0 n),.s (.u a),.s (.i 4)] [⟨false,1,wsv xs⟩] (. =⟨.tup [.s (.u (if ld4 n a then xs.getD (a / 4) 0 else 0:Nat)),.s (.bool (ld4 n a))],[],[]⟩):=by
 refine fnW Tryz.func115 ?_;(repeat' ((conv=>whnf);first|exact zi0|(refine zj0 ?_;intro hb)|(refine Qag (f:=182) (QhP xs n a hn ha) [⟨0,0⟩] [(0,⟨false,1,wsv xs⟩)] (by first|exact rfl|simp [QcZ,QcM,Qc5]) ⟨rfl,trivial⟩ (⟨rfl,Qas (Qaa _),trivial⟩) ⟨rfl,Qbn⟩ ?_)|(apply Sd.mk; . have:=Qeo hb;omega)|refine QsL ?_|((with_reducible apply Ge.mk (α:=SV)); . exact QaY xs (a / 4) (by rw [hl];exact Qeo hb))|refine zs0 ?_|refine zbb ?_ ?_));all_goals (conv=>whnf)
 all_goals
  refine QbQ rfl (Qaa _) rfl ?_;simp only [Qbc, *,if_true,if_false,Bool.false_eq_true]
  first|done|rfl
theorem Qb8 (xs:List Nat) (n a:Nat) (hl:xs.length=n) (hn:n<4294967296) (ha:a<4294967296) (h:ld4 n a=true):FN 115 [.s (.sl 0 0 n),.s (.u a),.s (.i 4)] [⟨false,1,wsv xs⟩] (. =⟨.tup [.s (.u (xs.getD (a / 4) 0:Nat)),.s (.bool true)],[],[]⟩):=by
 have:=Qf3 xs n a hl hn ha;rw [h] at this;exact this
theorem Qwm (n:Nat):(List.replicate n (SV.int .u32 0)).length=n*ty24.size/\∀ (k:Nat) s,(List.replicate n (SV.int .u32 0))[k]?=some s->ty24.zero[k%ty24.size]?=some s:=by
 refine ⟨by rw [List.length_replicate];show n=n*1;omega,fun k s h=>?_⟩;rw [List.getElem?_replicate] at h;split at h
 .injection h with h;subst h
  show [SV.int .u32 0][k%1]?=_;rw [Nat.mod_one];rfl
 .cases h
theorem Qs5 (xs:List Nat) (n:Nat) (hl:xs.length=n) (hn:n<4294967296):FN 81 [.s (.sl 0 0 n)] [⟨false,1,wsv xs⟩] (. =⟨.a (.s (.sl 1 0 n)),[],[⟨true,1,wsv xs⟩]⟩):=by
 have uW:(wsv xs).length=n:=by simp [hl]
 have fM:Qad (wsv xs)=true:=Qaa xs;have wY:Qat (wsv xs)=true:=QbD xs;have hz:=Qwm n;have gZ:QaC (List.replicate n (SV.int .u32 0)) 0 (wsv xs)=wsv xs:=QbH (by rw [uW,List.length_replicate]);have hlz:(List.replicate n (SV.int .u32 0)).length=n:=List.length_replicate;have m1:min n n=n:=Nat.min_self n;generalize List.replicate n (SV.int .u32 0)=Z,wsv xs=M at *;refine fnW Tryz.func81 ?_;(repeat' ((conv=>whnf);first|exact zi0|(refine zj0 ?_;intro hb)|(refine Zs.mk Z hz ?_)|(apply Sk.mk; . exact Qc8 M (by show M.length=min n n*1;omega) wY)|(apply Sd.mk; . exact ⟨rfl,by show 0+M.length<=Z.length;omega⟩)|refine zq7 ?_|refine zst ?_|refine zbb ?_ ?_))
 all_goals exact QbG
structure Dk where
 (bs bl fr:Nat) (st cmd:Int) (ob of_:Nat) (od:ByteArray)
structure Nk where
 (fr ln:Nat) (po:Bool) (bu:Nat) (re:Bool) (go_:Nat)
structure Mc where
 (x:List Nat) (pc:Nat) (c:List Nat) (m:List Nat) (ks:ByteArray) (ta:Bool) (td:Nat) (tf:Bool) (d:Dk) (n:Nk) (bt bg ct:Nat) (wt ht:Bool)
def Dk.C (d:Dk):List SV:= [.u d.bs,.u d.bl,.u d.fr,.i d.st,.i d.cmd,.u d.ob,.u d.of_,.str d.od]
def Nk.C (n:Nk):List SV:= [.u n.fr,.u n.ln,.bool n.po,.u n.bu,.bool n.re,.u n.go_]
def Mc.D (M:Mc):List SV:= .str M.ks:: .bool M.ta:: .u M.td:: .bool M.tf::(M.d.C++(M.n.C++ [.u M.bt,.u M.bg,.w M.ct,.bool M.wt,.bool M.ht]))
def Mc.C (M:Mc) (k:Nat):List SV:=Qax M.x M.pc M.c++(.sl k 0 M.m.length::M.D)
def Dk.ok (d:Dk):Prop:=d.bs<4294967296/\d.bl<4294967296/\d.fr<4294967296/\d.ob<4294967296/\d.of_<4294967296/\d.od.size<=1000000/\(Lit.int .i64 d.st).wf=true/\(Lit.int .i64 d.cmd).wf=true
def Nk.ok (n:Nk):Prop:=n.fr<4294967296/\n.ln<4294967296/\n.bu<4294967296/\n.go_<4294967296
structure Mc.ok (M:Mc):Prop where
 (x:M.x.length=16) (c:M.c.length=8) (xr:ZL M.x) (cr:ZL M.c) (pr:M.pc<4294967296) (mr:ZL M.m) (ml:M.m.length<=1000000) (dk:M.d.ok) (nk:M.n.ok) (dv:M.td<4294967296/\M.bt<4294967296/\M.bg<4294967296/\M.ct<18446744073709551616/\M.ks.size<=1000000)
theorem Qmr (M:Mc) (hM:M.ok):FN 32 [.agg (M.C 0)] [⟨false,1,wsv M.m⟩] (. =⟨.a (.agg (M.C 1)),[],[⟨true,1,wsv M.m⟩]⟩):=by
 have hco:=Qs5 M.m _ rfl (by have:=hM.ml;omega);have gL:=Qaa M.m;obtain ⟨hx,hc⟩:=hM;obtain ⟨_,_,_,m,_,_,_,_,⟨_,d1,d2,d3,d4,d5,d6,d7⟩,⟨_,_,_,_,_,_⟩,_,_,_,_,_⟩:=M;dsimp only at *;cases QJP hx;cases zC8 hc;generalize hn:m.length=n,wsv m=XX at *;dsimp only [Mc.C,Mc.D,Dk.C,Nk.C];rw [hn];refine fnW Tryz.func32 ?_;(repeat' ((conv=>whnf);first|exact zi0|(refine zj0 ?_;intro hb)|(refine Qaz hco ?_)|refine zst ?_|refine zbb ?_ ?_))
 all_goals exact QbG
def Qc2 (k:ByteArray):Bool:=decide ((k.size:Int)<=16)
def Qd5 (a:Bool) (d:Nat) (f:Bool):Bool:=decide (¬ (a=true/\f=true)/\(a=true->d≠0)/\(a=false->f=false->d=0))
def QbP (s:Int):Bool:=decide (s=2\/s=3)
def noD (b:ByteArray):Bool:=b.toList==(⟨#[]⟩:ByteArray).toList
def QbN (d:Dk) (p:Int):Bool:=decide (d.bs<=64/\0<=d.st/\d.st<=3/\(d.st≠1->d.cmd=0/\d.ob=0/\d.of_=0/\noD d.od=true)/\(d.st=1->d.ob<d.bs/\(d.of_:Int)<p/\(d.cmd=1/\noD d.od=true\/d.cmd=2/\d.od.size=128)))
def Qb4 (n:Nk) (p:Int):Bool:=decide ((n.po=true->n.re=false/\(n.bu:Int)<p)/\(n.po=false->n.bu=0)/\(n.re=true->1<=n.go_/\n.go_<=128)/\(n.re=false->n.go_=0))
theorem QcF {H:List Row} {v w:Bool} {σ:St} (h:Fin H (. =⟨.a (.s (.bool v)),[],[]⟩) σ (.a (.s (.bool v)))) (e:w=v):Fin H (. =⟨.a (.s (.bool v)),[],[]⟩) σ (.a (.s (.bool w))):=by subst e;exact h
theorem Qnu (k:ByteArray):FN 100 [.agg [.str k]] [] (. =⟨.a (.s (.bool (Qc2 k))),[],[]⟩):=by
 unfold Qc2;refine fnW Tryz.func100 ?_;exact QDs
theorem QnG (a:Bool) (d:Nat) (f:Bool):FN 101 [.agg [.bool a,.u d,.bool f]] [] (. =⟨.a (.s (.bool (Qd5 a d f))),[],[]⟩):=by
 cases a<;>cases f
 all_goals
  refine fnW Tryz.func101 ?_;exact QEp
theorem Qnw (d:Dk) (hd:d.ok) (p:Int):FN 102 [.agg d.C,.s (.i p)] [] (. =⟨.a (.s (.bool (QbN d p))),[],[]⟩):=by
 cases hd;obtain ⟨bs,bl,fr,st,cmd,ob,of_,od⟩:=d;dsimp only at *;dsimp only [Dk.C];generalize hB:QbN ⟨bs,bl,fr,st,cmd,ob,of_,od⟩ p=B;unfold QbN at hB;dsimp only at hB;have qJ:(od.toList==(⟨#[]⟩:ByteArray).toList)=noD od:=rfl;generalize noD od=nd at *;refine fnW Tryz.func102 ?_;exact QDF
theorem QnE (n:Nk) (hn:n.ok) (p:Int):FN 103 [.agg n.C,.s (.i p)] [] (. =⟨.a (.s (.bool (Qb4 n p))),[],[]⟩):=by
 cases hn;obtain ⟨fr,ln,po,bu,re,go_⟩:=n;dsimp only at *;dsimp only [Nk.C];generalize hB:Qb4 ⟨fr,ln,po,bu,re,go_⟩ p=B;unfold Qb4 at hB;dsimp only at hB;cases po<;>cases re
 all_goals
  refine fnW Tryz.func103 ?_;exact QEq
end Go.Proofs.YtpgkkfajljekpaaGreat
