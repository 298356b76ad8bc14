import Derived.Test.YtflaceijiphfdaaGreatP6
import Derived.Test.YtflaceijiphfdaaGreatP9
import Derived.Test.YtflaceijiphfdaaGreatP12
set_option linter.unusedSimpArgs false
set_option linter.unusedVariables false
set_option maxHeartbeats 0
set_option maxRecDepth 100000
namespace Go.Proofs.YtflaceijiphfdaaGreat
open Go Go.RowKit
theorem QFH (m:Nat) (hm:ZU m):(~~~ (BitVec.ofInt 32 (m:Int))).toNat=4294967295-m:=by
 rw [BitVec.toNat_not,QzY m hm]
theorem Qcw (a b:Nat) (ha:ZU a) (hb:ZU b):bits .andNot .u32 (a:Int) b=((a &&& (4294967295-b):Nat):Int):=by
 have h:a &&& (4294967295-b)<=a:=Nat.and_le_left;show IntKind.u32.wrap (((BitVec.ofInt 32 (a:Int)) &&& ~~~ (BitVec.ofInt 32 (b:Int))).toNat:Int)=_;rw [BitVec.toNat_and,QzY a ha,QFH b hb,Qce];generalize a &&& (4294967295-b)=z at *;omega
theorem Qhn (h l i:Nat) (hl:l<32):(32*h+l).testBit i=if i<5 then l.testBit i else h.testBit (i-5):=by
 have:=Nat.testBit_two_pow_mul_add h (i:=5) (show l<2^5 by simpa using hl) i;simpa using this
theorem Qvr {l i:Nat} (hl:l<32) (hi:¬ i<5):l.testBit i=false :=
 Nat.testBit_lt_two_pow (Nat.lt_of_lt_of_le (show l<2^5 by simpa using hl) (Nat.pow_le_pow_right (by omega) (by omega)))
theorem or5 {a b:Nat} (ha:a<32) (hb:b<32):a ||| b<32:=Nat.or_lt_two_pow (n:=5) ha hb
theorem QE0 {a b:Nat} (ha:a<32):a &&& b<32:=Nat.lt_of_le_of_lt Nat.and_le_left ha
theorem QEs {c:Prop} [Decidable c] {a b:Nat} (ha:a<32) (hb:b<32):(if c then a else b)<32:=by split<;>assumption
theorem Qgu (h l m:Nat) (hl:l<32) (hm:m<32):(32*h+l) &&& m=l &&& m:=by
 apply Nat.eq_of_testBit_eq;intro i;rw [Nat.testBit_and,Nat.testBit_and,Qhn h l i hl]
 by_cases hi:i<5
 .rw [zP hi]
 .rw [zN hi,Qvr hm hi];simp
theorem QkK (h l m:Nat) (hl:l<32) (hm:m<32):(32*h+l) ||| m=32*h+(l ||| m):=by
 have WE:l ||| m<32:=Nat.or_lt_two_pow (n:=5) (by simpa using hl) (by simpa using hm);apply Nat.eq_of_testBit_eq;intro i;rw [Nat.testBit_or,Qhn h l i hl,Qhn h _ i WE,Nat.testBit_or]
 by_cases hi:i<5
 .rw [zP hi,zP hi]
 .rw [zN hi,zN hi,Qvr hm hi];simp
theorem Qjh (h l m:Nat) (hl:l<32) (hm:m<32) (hs:32*h+l<4294967296):(32*h+l) &&& (4294967295-m)=32*h+(l &&& (31-m)):=by
 have WE:l &&& (31-m)<32:=Nat.lt_of_le_of_lt Nat.and_le_left hl;have e:4294967295-m=32*134217727+(31-m):=by omega
 apply Nat.eq_of_testBit_eq;intro i;rw [e,Nat.testBit_and,Qhn h l i hl,Qhn _ _ i (by omega),Qhn h _ i WE,Nat.testBit_and]
 by_cases hi:i<5
 .simp only [zP hi]
 .simp only [zN hi]
  rw [show (134217727:Nat)=2^27-1 from rfl,Nat.testBit_two_pow_sub_one]
  by_cases h2:i-5<27
  .simp [h2]
  .have:h.testBit (i-5)=false:=Nat.testBit_lt_two_pow (Nat.lt_of_lt_of_le (show h<2^27 by simp;omega) (Nat.pow_le_pow_right (by omega) (by omega)))
   rw [this];simp
def mvN (s f t:Nat):Nat:=if s &&& f=0 then s &&& (4294967295-t) else s ||| t
theorem Qqy (s f t:Nat) (hs:ZU s) (ht:ZU t):mvN s f t<4294967296:=by
 unfold mvN;split
 .exact Nat.lt_of_le_of_lt Nat.and_le_left hs
 .exact Nat.or_lt_two_pow (n:=32) (by simpa using hs) (by simpa using ht)
theorem Qh9 (s f t:Nat) (hs:ZU s) (hf:ZU f) (ht:ZU t):FN 224 [.s (.u s),.s (.u f),.s (.u t)] [] (. =⟨.a (.s (.u (mvN s f t:Nat))),[],[]⟩):=by
 refine fnW Tryz.func224 ?_;(conv=>whnf);(repeat' ((first|exact zi0|refine zj0 fun hb=>?_|((with_reducible apply Vl.mk (α:=Int)); . first|exact QhJ s f hs hf|exact Qvv s t hs ht|exact Qcw s t hs ht)|refine zs0 ?_|refine zbb ?_ ?_)<;>conv=>whnf))
 all_goals
  apply Qam
  (focus rfl)
  simp only [Qba,mvN]
  first
   | (rw [zP (by omega)];done)
   | (rw [zN (by omega)];done)
def Qfb (s:Nat):Nat:=32*(s / 32)+(1+4*(s / 4%2)+8*(s%2)+16*(s / 2%2))
def QgG (s:Nat):Nat:=32*(s / 32)+(s / 8%2+2*(s / 16%2)+4*(s / 4%2)+8*(s / 8%2)+16*(s / 16%2))
theorem Quu (s:Nat) (hs:ZU s):Qfb s<4294967296:=by unfold Qfb;omega
theorem Qx5 (s:Nat) (hs:ZU s):QgG s<4294967296:=by unfold QgG;omega
theorem QtC (h l f t:Nat) (hl:l<32) (hf:f<32) (ht:t<32) (hs:32*h+l<4294967296):mvN (32*h+l) f t=32*h+(if l &&& f=0 then l &&& (31-t) else l ||| t):=by
 unfold mvN;rw [Qgu h l f hl hf,QkK h l t hl ht,Qjh h l t hl ht hs];split<;>rfl
theorem Qqz (l f t:Nat) (hl:l<32) (ht:t<32):(if l &&& f=0 then l &&& (31-t) else l ||| t)<32:=by
 split
 .exact Nat.lt_of_le_of_lt Nat.and_le_left hl
 .exact Nat.or_lt_two_pow (n:=5) (by simpa using hl) (by simpa using ht)
theorem Quv:∀ l:Nat,l<32->((if (if l &&& 1=0 then l &&& (31-8) else l ||| 8) &&& 2=0 then (if l &&& 1=0 then l &&& (31-8) else l ||| 8) &&& (31-16) else (if l &&& 1=0 then l &&& (31-8) else l ||| 8) ||| 16) ||| 1) &&& (31-2)=1+4*(l / 4%2)+8*(l%2)+16*(l / 2%2):=by decide
theorem Qx6:∀ l:Nat,l<32->(if (if l &&& 8=0 then l &&& (31-1) else l ||| 1) &&& 16=0 then (if l &&& 8=0 then l &&& (31-1) else l ||| 1) &&& (31-2) else (if l &&& 8=0 then l &&& (31-1) else l ||| 1) ||| 2)=l / 8%2+2*(l / 16%2)+4*(l / 4%2)+8*(l / 8%2)+16*(l / 16%2):=by decide
theorem Qrf:∀ l:Nat,l<32->((((l &&& (31-24)) ||| (if l &&& 1=0 then 0 else 8)) ||| (if l &&& 2=0 then 0 else 16)) &&& (31-2)) ||| 1=1+4*(l / 4%2)+8*(l%2)+16*(l / 2%2):=by decide
theorem Qt4:∀ l:Nat,l<32->((l &&& (31-3)) ||| (if l &&& 8=0 then 0 else 1)) ||| (if l &&& 16=0 then 0 else 2)=l / 8%2+2*(l / 16%2)+4*(l / 4%2)+8*(l / 8%2)+16*(l / 16%2):=by decide
theorem Qhz (s:Nat):∃ h l,l<32/\s=32*h+l:=⟨s / 32,s%32,Nat.mod_lt _ (by omega),by omega⟩
theorem Qzc (s:Nat) (hs:ZU s):(mvN (mvN s 1 8) 2 16 ||| 1) &&& (4294967295-2)=Qfb s:=by
 obtain ⟨h,l,hl,rfl⟩:=Qhz s;have k1:=Qqz l 1 8 hl (by omega);have k2:=Qqz _ 2 16 k1 (by omega);have k3:=or5 k2 (show 1<32 by omega);rw [QtC h l 1 8 hl (by omega) (by omega) hs,QtC h _ 2 16 k1 (by omega) (by omega) (by omega),QkK h _ 1 k2 (by omega),Qjh h _ 2 k3 (by omega) (by omega),Quv l hl];unfold Qfb;omega
theorem QCa (s:Nat) (hs:ZU s):mvN (mvN s 8 1) 16 2=QgG s:=by
 obtain ⟨h,l,hl,rfl⟩:=Qhz s;have k1:=Qqz l 8 1 hl (by omega);rw [QtC h l 8 1 hl (by omega) (by omega) hs,QtC h _ 16 2 k1 (by omega) (by omega) (by omega),Qx6 l hl];unfold QgG;omega
theorem Qt8 (s:Nat) (hs:ZU s):((((s &&& (4294967295-24)) ||| (if s &&& 1=0 then 0 else 8)) ||| (if s &&& 2=0 then 0 else 16)) &&& (4294967295-2)) ||| 1=Qfb s:=by
 obtain ⟨h,l,hl,rfl⟩:=Qhz s;have k0:l &&& (31-24)<32:=QE0 hl;have i1:(if l &&& 1=0 then 0 else 8)<32:=QEs (by omega) (by omega);have i2:(if l &&& 2=0 then 0 else 16)<32:=QEs (by omega) (by omega);have k1:=or5 k0 i1;have k2:=or5 k1 i2;rw [Qgu h l 1 hl (by omega),Qgu h l 2 hl (by omega),Qjh h l 24 hl (by omega) hs,QkK h _ _ k0 i1,QkK h _ _ k1 i2,Qjh h _ 2 k2 (by omega) (by omega),QkK h _ 1 (QE0 k2) (by omega),Qrf l hl];unfold Qfb;omega
theorem Qyl (s:Nat) (hs:ZU s):((s &&& (4294967295-3)) ||| (if s &&& 8=0 then 0 else 1)) ||| (if s &&& 16=0 then 0 else 2)=QgG s:=by
 obtain ⟨h,l,hl,rfl⟩:=Qhz s;have k0:l &&& (31-3)<32:=QE0 hl;have i1:(if l &&& 8=0 then 0 else 1)<32:=QEs (by omega) (by omega);have i2:(if l &&& 16=0 then 0 else 2)<32:=QEs (by omega) (by omega);have k1:=or5 k0 i1;rw [Qgu h l 8 hl (by omega),Qgu h l 16 hl (by omega),Qjh h l 3 hl (by omega) hs,QkK h _ _ k0 i1,QkK h _ _ k1 i2,Qt4 l hl];unfold QgG;omega
def Qax (x:List Nat) (pc:Nat) (c:List Nat):List SV:=wsv x++(.u pc::wsv c)
theorem Qgt {x:List Nat} (h:x.length=16):∃ x0 x1 x2 x3 x4 x5 x6 x7 x8 x9 x10 x11 x12 x13 x14 x15:Nat,x= [x0,x1,x2,x3,x4,x5,x6,x7,x8,x9,x10,x11,x12,x13,x14,x15]:=by
 match x,h with
 | [x0,x1,x2,x3,x4,x5,x6,x7,x8,x9,x10,x11,x12,x13,x14,x15],_=>exact ⟨x0,x1,x2,x3,x4,x5,x6,x7,x8,x9,x10,x11,x12,x13,x14,x15,rfl⟩
theorem Qfo {x:List Nat} (h:x.length=8):∃ x0 x1 x2 x3 x4 x5 x6 x7:Nat,x= [x0,x1,x2,x3,x4,x5,x6,x7]:=by
 match x,h with
 | [x0,x1,x2,x3,x4,x5,x6,x7],_=>exact ⟨x0,x1,x2,x3,x4,x5,x6,x7,rfl⟩
inductive L16:List Nat->Prop
 | mk (a b c d e f g h i j k l m n o p:Nat):L16 [a,b,c,d,e,f,g,h,i,j,k,l,m,n,o,p]
inductive L8:List Nat->Prop
 | mk (a b c d e f g h:Nat):L8 [a,b,c,d,e,f,g,h]
theorem QaO {l:List Nat} (h:l.length=16):L16 l:=by
 obtain ⟨a,b,c,d,e,f,g,h,i,j,k,l,m,n,o,p,rfl⟩:=Qgt h;exact .mk ..
theorem zC8 {l:List Nat} (h:l.length=8):L8 l:=by
 obtain ⟨a,b,c,d,e,f,g,h,rfl⟩:=Qfo h;exact .mk ..
def Qzb (x:List Nat) (pc:Nat) (c:List Nat) (cause:Int) (bad:Nat):List SV :=
 Qax x (c.getD 1 0) [Qfb (c.getD 0 0),c.getD 1 0,pc,(cause%4294967296).toNat,bad,c.getD 5 0,c.getD 6 0,c.getD 7 0]
def QEA (x:List Nat) (pc:Nat) (c:List Nat):List SV:=Qax x (c.getD 2 0) (c.set 0 (QgG (c.getD 0 0)))
theorem QGs (z:Int):IntKind.u32.wrap z=((z%4294967296).toNat:Int):=by rw [Qce];omega
theorem Qef (x:List Nat) (pc:Nat) (c:List Nat) (cause:Int) (bad:Nat) (hx:x.length=16) (hc:c.length=8) (gM:ZL c):FN 184 [.agg (Qax x pc c),.s (.i cause),.s (.u bad)] [] (. =⟨.a (.agg (Qzb x pc c cause bad)),[],[]⟩):=by
 obtain ⟨x0,x1,x2,x3,x4,x5,x6,x7,x8,x9,x10,x11,x12,x13,x14,x15,rfl⟩:=Qgt hx;obtain ⟨c0,c1,_,_,_,c5,c6,c7,rfl⟩:=Qfo hc;have h0:c0<4294967296:=gM c0 (by simp);have m1:=Qqy c0 1 8 h0 (by omega);have m2:=Qqy _ 2 16 m1 (by omega);have m3:mvN (mvN c0 1 8) 2 16 ||| 1<4294967296:=Nat.or_lt_two_pow (n:=32) m2 (by omega);have e1:bits .or .u32 ((mvN (mvN c0 1 8) 2 16:Nat):Int) 1=((mvN (mvN c0 1 8) 2 16 ||| 1:Nat):Int):=Qvv _ 1 m2 (by omega);have e2:bits .andNot .u32 ((mvN (mvN c0 1 8) 2 16 ||| 1:Nat):Int) 2=((Qfb c0:Nat):Int):=by rw [<- Qzc c0 h0];exact Qcw _ 2 m3 (by omega)
 have f1:=Qh9 c0 1 8 h0 (by omega) (by omega);have f2:=Qh9 (mvN c0 1 8) 2 16 m1 (by omega) (by omega);show Fn _ _ [.agg _,_,_] [] (. =⟨.a (.agg (Qax [x0,x1,x2,x3,x4,x5,x6,x7,x8,x9,x10,x11,x12,x13,x14,x15] c1 [Qfb c0,c1,pc,(cause%4294967296).toNat,bad,c5,c6,c7])),[],[]⟩);generalize Qfb c0=tS,mvN (mvN c0 1 8) 2 16=M2 at *;generalize mvN c0 1 8=M1,M2 ||| 1=M3 at *;refine fnW Tryz.func184 ?_;(conv=>whnf);(repeat' ((first|exact zi0|refine zj0 fun hb=>?_|(refine Qac (f:=224) (f1) rfl ?_)|(refine Qac (f:=224) (f2) rfl ?_)|(with_reducible first|refine zv e1 ?_|refine zv e2 ?_|refine zv (QGs _) ?_)|refine zs0 ?_|refine zbb ?_ ?_)<;>conv=>whnf))
 all_goals exact Qam rfl rfl
theorem QEf (k z:Nat) (hk:ZU k):IntKind.u32.wrap ((k:Int)*(if ((z:Nat):Int) !=0 then 1 else 0))=((if z=0 then 0 else k:Nat):Int):=by
 by_cases h:z=0
 .subst h;rfl
 .have h2:((z:Nat):Int)≠0:=by omega
  rw [zN h,zP (by simpa using h2),Qce];omega
theorem QcX (x:List Nat) (pc:Nat) (c:List Nat) (cause:Int) (bad:Nat) (hx:x.length=16) (hc:c.length=8) (gM:ZL c):FN 89 [.agg (Qax x pc c),.s (.i cause),.s (.u bad)] [] (. =⟨.a (.agg (Qzb x pc c cause bad)),[],[]⟩):=by
 cases QaO hx;obtain ⟨c0,_,_,_,_,_,_,_,rfl⟩:=Qfo hc;have h0:c0<4294967296:=gM c0 (by simp);have h1:c0 &&& (4294967295-24)<4294967296:=Nat.lt_of_le_of_lt Nat.and_le_left h0;have i1:(if c0 &&& 1=0 then 0 else 8)<4294967296:=by split<;>omega
 have i2:(if c0 &&& 2=0 then 0 else 16)<4294967296:=by split<;>omega
 have h2:=Nat.or_lt_two_pow (n:=32) h1 i1;have h3:=Nat.or_lt_two_pow (n:=32) h2 i2;have h4:=Nat.lt_of_le_of_lt (Nat.and_le_left (m:=4294967295-2)) h3;have e1:bits .andNot .u32 (c0:Int) 24=((c0 &&& (4294967295-24):Nat):Int):=Qcw c0 24 h0 (by omega);have e2:bits .and .u32 (c0:Int) 1=((c0 &&& 1:Nat):Int):=QhJ c0 1 h0 (by omega);have e3:bits .and .u32 (c0:Int) 2=((c0 &&& 2:Nat):Int):=QhJ c0 2 h0 (by omega);have e4:=Qvv _ _ h1 i1;have e5:=Qvv _ _ h2 i2;have e6:bits .andNot .u32 _ 2=_:=Qcw _ 2 h3 (by omega);have e7:bits .or .u32 _ 1=_:=Qvv _ 1 h4 (by omega);rw [Qt8 c0 h0] at e7;have b1:IntKind.u32.wrap (8*(if ((c0 &&& 1:Nat):Int) !=0 then 1 else 0))=((if c0 &&& 1=0 then 0 else 8:Nat):Int):=QEf 8 _ (by omega);have b2:IntKind.u32.wrap (16*(if ((c0 &&& 2:Nat):Int) !=0 then 1 else 0))=((if c0 &&& 2=0 then 0 else 16:Nat):Int):=QEf 16 _ (by omega);refine fnW Tryz.func89 ?_;(conv=>whnf);(repeat' ((first|exact zi0|refine zj0 fun hb=>?_|(refine Qac (f:=152) (Qoo _) rfl ?_)|(with_reducible first|refine zv e1 ?_|refine zv e2 ?_|refine zv e3 ?_|refine zv e4 ?_|refine zv e5 ?_|refine zv e6 ?_|refine zv e7 ?_|refine zv b1 ?_|refine zv b2 ?_|refine zv (QGs _) ?_)|refine zs0 ?_|refine zbb ?_ ?_)<;>conv=>whnf))
 all_goals exact Qam rfl rfl
theorem QB9 (x:List Nat) (pc:Nat) (c:List Nat) (hx:x.length=16) (hc:c.length=8) (gM:ZL c):FN 230 [.agg (Qax x pc c)] [] (. =⟨.a (.agg (QEA x pc c)),[],[]⟩):=by
 cases QaO hx;obtain ⟨c0,_,_,_,_,_,_,_,rfl⟩:=Qfo hc;have h0:c0<4294967296:=gM c0 (by simp);have m1:=Qqy c0 8 1 h0 (by omega);have e1:mvN (mvN c0 8 1) 16 2=QgG c0:=QCa c0 h0;have f2:=Qh9 (mvN c0 8 1) 16 2 m1 (by omega) (by omega);rw [e1] at f2;refine fnW Tryz.func230 ?_;(conv=>whnf);(repeat' ((first|exact zi0|refine zj0 fun hb=>?_|(refine Qac (f:=224) (Qh9 c0 8 1 h0 (by omega) (by omega)) rfl ?_)|(refine Qac (f:=224) (f2) rfl ?_)|refine zs0 ?_|refine zbb ?_ ?_)<;>conv=>whnf))
 all_goals exact Qam rfl rfl
theorem Qyk (x:List Nat) (pc:Nat) (c:List Nat) (hx:x.length=16) (hc:c.length=8) (gM:ZL c):FN 158 [.agg (Qax x pc c)] [] (. =⟨.a (.agg (QEA x pc c)),[],[]⟩):=by
 cases QaO hx;obtain ⟨c0,_,_,_,_,_,_,_,rfl⟩:=Qfo hc;have h0:c0<4294967296:=gM c0 (by simp);have h1:c0 &&& (4294967295-3)<4294967296:=Nat.lt_of_le_of_lt Nat.and_le_left h0;have i1:(if c0 &&& 8=0 then 0 else 1)<4294967296:=by split<;>omega
 have i2:(if c0 &&& 16=0 then 0 else 2)<4294967296:=by split<;>omega
 have h2:=Nat.or_lt_two_pow (n:=32) h1 i1;have e1:bits .andNot .u32 (c0:Int) 3=((c0 &&& (4294967295-3):Nat):Int):=Qcw c0 3 h0 (by omega);have e2:bits .and .u32 (c0:Int) 8=((c0 &&& 8:Nat):Int):=QhJ c0 8 h0 (by omega);have e3:bits .and .u32 (c0:Int) 16=((c0 &&& 16:Nat):Int):=QhJ c0 16 h0 (by omega);have e4:=Qvv _ _ h1 i1;have e5:=Qvv _ _ h2 i2;rw [Qyl c0 h0] at e5;have b1:IntKind.u32.wrap (1*(if ((c0 &&& 8:Nat):Int) !=0 then 1 else 0))=((if c0 &&& 8=0 then 0 else 1:Nat):Int):=QEf 1 _ (by omega);have b2:IntKind.u32.wrap (2*(if ((c0 &&& 16:Nat):Int) !=0 then 1 else 0))=((if c0 &&& 16=0 then 0 else 2:Nat):Int):=QEf 2 _ (by omega);refine fnW Tryz.func158 ?_;(conv=>whnf);(repeat' ((first|exact zi0|refine zj0 fun hb=>?_|(refine Qac (f:=152) (Qoo _) rfl ?_)|(with_reducible first|refine zv e1 ?_|refine zv e2 ?_|refine zv e3 ?_|refine zv e4 ?_|refine zv e5 ?_|refine zv b1 ?_|refine zv b2 ?_)|refine zs0 ?_|refine zbb ?_ ?_)<;>conv=>whnf))
 all_goals exact Qam rfl rfl
def wrC (x:List Nat) (pc:Nat) (c:List Nat) (csr:Int) (v:Nat):List SV :=
 if csr=0 then Qax x pc (c.set 0 (v%32)) else if csr=7 then Qax x pc (c.set 7 (v%32)) else if csr=6 then Qax x pc (c.set 6 (v%256))
 else if csr=1 then Qax x pc (c.set 1 (v &&& (4294967295-3))) else if csr=2 then Qax x pc (c.set 2 (v &&& (4294967295-3)))
 else if csr=3 then Qax x pc (c.set 3 v) else if csr=4 then Qax x pc (c.set 4 v) else if csr=5 then Qax x pc (c.set 5 v) else Qax x pc c
theorem QuB (x:List Nat) (pc:Nat) (c:List Nat) (csr:Int) (v:Nat) (hx:x.length=16) (hc:c.length=8) (hv:ZU v):FN 231 [.agg (Qax x pc c),.s (.i csr),.s (.u v)] [] (. =⟨.a (.agg (wrC x pc c csr v)),[],[]⟩):=by
 cases QaO hx;cases zC8 hc;have e1:bits .and .u32 (v:Int) 31=((v%32:Nat):Int):=QaS v 5 hv (by omega);have e2:bits .and .u32 (v:Int) 255=((v%256:Nat):Int):=QaS v 8 hv (by omega);have e3:bits .andNot .u32 (v:Int) 3=((v &&& (4294967295-3):Nat):Int):=Qcw v 3 hv (by omega);have HD:(csr=0\/csr=1\/csr=2\/csr=3\/csr=4\/csr=5\/csr=6\/csr=7)\/(csr<0\/7<csr):=by omega
 rcases HD with (rfl|rfl|rfl|rfl|rfl|rfl|rfl|rfl)|HD
 rotate_right
 .have e:∀ x pc c,wrC x pc c csr v=Qax x pc c:=fun x pc c=>by
   unfold wrC;repeat rw [zN (by omega)]
  rw [e];refine fnW Tryz.func231 ?_;(conv=>whnf);(repeat' ((first|exact zi0|refine zj0 fun hb=>?_|refine zs0 ?_|refine zbb ?_ ?_)<;>conv=>whnf))
  all_goals exact Qam rfl rfl
 all_goals
  refine fnW Tryz.func231 ?_;(conv=>whnf);(repeat' ((first|exact zi0|refine zj0 fun hb=>?_|(with_reducible first|refine zv e1 ?_|refine zv e2 ?_|refine zv e3 ?_)|refine zs0 ?_|refine zbb ?_ ?_)<;>conv=>whnf))
  all_goals exact Qam rfl rfl
theorem Qrl (x:List Nat) (pc:Nat) (c:List Nat) (csr:Int) (v:Nat) (hx:x.length=16) (hc:c.length=8) (hv:ZU v):FN 159 [.agg (Qax x pc c),.s (.i csr),.s (.u v)] [] (. =⟨.a (.agg (wrC x pc c csr v)),[],[]⟩):=by
 cases QaO hx;cases zC8 hc;have e1:bits .and .u32 (v:Int) 31=((v%32:Nat):Int):=QaS v 5 hv (by omega);have e2:bits .and .u32 (v:Int) 255=((v%256:Nat):Int):=QaS v 8 hv (by omega);have e3:bits .andNot .u32 (v:Int) 3=((v &&& (4294967295-3):Nat):Int):=Qcw v 3 hv (by omega);have HD:(csr=0\/csr=1\/csr=2\/csr=3\/csr=4\/csr=5\/csr=6\/csr=7)\/(csr<0\/7<csr):=by omega
 rcases HD with (rfl|rfl|rfl|rfl|rfl|rfl|rfl|rfl)|HD
 rotate_right
 .have e:∀ x pc c,wrC x pc c csr v=Qax x pc c:=fun x pc c=>by
   unfold wrC;repeat rw [zN (by omega)]
  rw [e];refine fnW Tryz.func159 ?_;(conv=>whnf);(repeat' ((first|exact zi0|refine zj0 fun hb=>?_|refine zs0 ?_|refine zbb ?_ ?_)<;>conv=>whnf))
  all_goals exact Qam rfl rfl
 all_goals
  refine fnW Tryz.func159 ?_;(conv=>whnf);(repeat' ((first|exact zi0|refine zj0 fun hb=>?_|(with_reducible first|refine zv e1 ?_|refine zv e2 ?_|refine zv e3 ?_)|refine zs0 ?_|refine zbb ?_ ?_)<;>conv=>whnf))
  all_goals exact Qam rfl rfl
theorem Qal (x:List Nat) (pc:Nat) (c:List Nat):Qaq (Qax x pc c)=true:=Qbb (Qaa x) (Qaa c)
def QFx:List SK:= [.int,.int,.int,.int,.int,.int,.int,.int,.int,.int,.int,.int,.int,.int,.int,.int,.int,.int,.int,.int,.int,.int,.int,.int,.int]
theorem QsL (x:List Nat) (pc:Nat) (c:List Nat) (hx:x.length=16) (hc:c.length=8):QaP QFx (Qax x pc c) (Qax x pc c)=some true:=by
 cases QaO hx;cases zC8 hc;simp [Qax,wsv,QFx,QaP,eqS,kEq]
theorem QbP {r:Row} {σ:St} {x v:TV} (hs:QyH v=true) (hr:Qaq r.cells=true) (ho:hpG σ.h 0=some r) (e:x=v):Fin [r] (. =⟨v,[],[]⟩) σ x:=by
 subst e;refine Fin.mk ⟨x,[],[]⟩ [(0,some 0)] rfl (Qmx hs) ?_ rfl;show HlS _ _ [] ([]++ [(0,some r)]);refine Qat (Qan rfl ho rfl ?_ (Qaj hr)) QaL;cases r.own<;>rfl
def mpg (n:Nat):Nat:=if n%32=0/\n<=1024 then n / 32 else 0
theorem QbE (xs:List Nat) (n:Nat) (hn:ZU n):FN 59 [.s (.sl 0 0 n)] [⟨false,1,wsv xs⟩] (. =⟨.a (.s (.i (mpg n:Nat))),[],[]⟩):=by
 refine fnW Tryz.func59 ?_;exact QDn
def ld4 (n a:Nat):Bool:=decide (a%4=0)&&decide (a+4<=mpg n*128)
theorem QaT (n:Nat):mpg n<=32:=by unfold mpg;split<;>omega
theorem Qeb {n a:Nat} (h:ld4 n a=true):a / 4<n:=by
 unfold ld4 mpg at h;simp at h;split at h<;>omega
theorem QhD (xs:List Nat) (n a:Nat) (hn:ZU n) (ha:ZU a):FN 171 [.s (.sl 0 0 n),.s (.u a),.s (.i 4)] [⟨false,1,wsv xs⟩] (. =⟨.a (.s (.bool (ld4 n a))),[],[]⟩):=by
 have hm:=QaT n;refine fnW Tryz.func171 ?_;(conv=>whnf);(repeat' ((first|exact zi0|refine zj0 fun hb=>?_|(refine Qae (f:=59) (QbE xs n hn) [⟨0,0⟩] [(0,⟨false,1,wsv xs⟩)] (by first|exact rfl|simp [Qc0,QcJ,Qc1]) ⟨rfl,trivial⟩ (⟨rfl,Qar (Qaa _),trivial⟩) ⟨rfl,Qbm⟩ ?_)|refine zs0 ?_|refine zbb ?_ ?_)<;>conv=>whnf))
 all_goals
  refine QbP rfl (Qaa _) rfl ?_;simp only [Qba];congr 3;have hz:(decide (a%4=0))=decide ((a:Int)%4=0):=by congr 1;apply propext;omega
  have hy:decide ((a:Int)+4<=(mpg n:Nat)*128)=decide (a+4<=mpg n*128):=by congr 1;apply propext;omega
  unfold ld4;rw [hz,<- hy];simp only [hb,decide_true,decide_false,Bool.true_and,zbf]
theorem ldi (a:Nat):0+((a:Int) / 4).toNat * ty23.size=a / 4:=by
 show 0+((a:Int) / 4).toNat * 1=_;omega
theorem QfT (xs:List Nat) (n a:Nat) (hl:xs.length=n) (hn:ZU n) (ha:ZU a):FN 110 [.s (.sl 0 0 n),.s (.u a),.s (.i 4)] [⟨false,1,wsv xs⟩] (. =⟨.tup [.s (.u (if ld4 n a then xs.getD (a / 4) 0 else 0:Nat)),.s (.bool (ld4 n a))],[],[]⟩):=by
 refine fnW Tryz.func110 ?_;(conv=>whnf);(repeat' ((first|exact zi0|refine zj0 fun hb=>?_|(refine Qae (f:=171) (QhD xs n a hn ha) [⟨0,0⟩] [(0,⟨false,1,wsv xs⟩)] (by first|exact rfl|simp [Qc0,QcJ,Qc1]) ⟨rfl,trivial⟩ (⟨rfl,Qar (Qaa _),trivial⟩) ⟨rfl,Qbm⟩ ?_)|(apply Sd.mk; . have:=Qeb hb;omega)|refine QvU ?_|((with_reducible apply Ge.mk (α:=SV)); . exact QaX xs (a / 4) (by rw [hl];exact Qeb hb))|refine zs0 ?_|refine zbb ?_ ?_)<;>conv=>whnf))
 all_goals
  refine QbP rfl (Qaa _) rfl ?_;simp only [Qba, *,if_true,if_false,Bool.false_eq_true]
  first|done|rfl
theorem Qb7 (xs:List Nat) (n a:Nat) (hl:xs.length=n) (hn:ZU n) (ha:ZU a) (h:ld4 n a=true):FN 110 [.s (.sl 0 0 n),.s (.u a),.s (.i 4)] [⟨false,1,wsv xs⟩] (. =⟨.tup [.s (.u (xs.getD (a / 4) 0:Nat)),.s (.bool true)],[],[]⟩):=by
 have:=QfT xs n a hl hn ha;rw [h] at this;exact this
theorem QvW (n:Nat):(List.replicate n (SV.int .u32 0)).length=n*ty23.size/\∀ (k:Nat) s,(List.replicate n (SV.int .u32 0))[k]?=some s->ty23.zero[k%ty23.size]?=some s:=by
 refine ⟨by rw [List.length_replicate];show n=n*1;omega,fun k s h=>?_⟩;rw [List.getElem?_replicate] at h;split at h
 .injection h with h;subst h
  show [SV.int .u32 0][k%1]?=_;rw [Nat.mod_one];rfl
 .cases h
theorem QsK (xs:List Nat) (n:Nat) (hl:xs.length=n) (hn:ZU n):FN 50 [.s (.sl 0 0 n)] [⟨false,1,wsv xs⟩] (. =⟨.a (.s (.sl 1 0 n)),[],[⟨true,1,wsv xs⟩]⟩):=by
 have FS:(wsv xs).length=n:=by simp [hl]
 have qA:Qaq (wsv xs)=true:=Qaa xs;have wL:Qas (wsv xs)=true:=Qcr xs;have hz:=QvW n;have gY:QaB (List.replicate n (SV.int .u32 0)) 0 (wsv xs)=wsv xs:=QbQ (by rw [FS,List.length_replicate]);have ZW:(List.replicate n (SV.int .u32 0)).length=n:=List.length_replicate;have m1:min n n=n:=Nat.min_self n;generalize List.replicate n (SV.int .u32 0)=Z,wsv xs=M at *;refine fnW Tryz.func50 ?_;(repeat' ((conv=>whnf);first|exact zi0|refine zj0 fun hb=>?_|(refine Zs.mk Z hz ?_)|(apply Sk.mk; . exact QdU M (by show M.length=min n n*1;omega) wL)|(apply Sd.mk; . exact ⟨rfl,by show 0+M.length<=Z.length;omega⟩)|refine zq7 ?_|refine zst ?_|refine zbb ?_ ?_))
 all_goals exact QbL
structure Dk where
 (bs bl fr:Nat) (st cmd:Int) (ob of_:Nat) (od:ByteArray)
structure Nk where
 (fr ln:Nat) (po:Bool) (bu:Nat) (re:Bool) (go_:Nat)
structure Mc where
 (x:List Nat) (pc:Nat) (c:List Nat) (m:List Nat) (ks:ByteArray) (ta:Bool) (td:Nat) (tf:Bool) (d:Dk) (n:Nk) (bt bg ct:Nat) (wt ht:Bool)
def Dk.C (d:Dk):List SV:= [.u d.bs,.u d.bl,.u d.fr,.i d.st,.i d.cmd,.u d.ob,.u d.of_,.str d.od]
def Nk.C (n:Nk):List SV:= [.u n.fr,.u n.ln,.bool n.po,.u n.bu,.bool n.re,.u n.go_]
def Mc.D (M:Mc):List SV:= .str M.ks:: .bool M.ta:: .u M.td:: .bool M.tf::(M.d.C++(M.n.C++ [.u M.bt,.u M.bg,.w M.ct,.bool M.wt,.bool M.ht]))
def Mc.C (M:Mc) (k:Nat):List SV:=Qax M.x M.pc M.c++(.sl k 0 M.m.length::M.D)
def Dk.ok (d:Dk):Prop:=d.bs<4294967296/\d.bl<4294967296/\d.fr<4294967296/\d.ob<4294967296/\d.of_<4294967296/\d.od.size<=1000000/\(Lit.int .i64 d.st).wf=true/\(Lit.int .i64 d.cmd).wf=true
def Nk.ok (n:Nk):Prop:=n.fr<4294967296/\n.ln<4294967296/\n.bu<4294967296/\n.go_<4294967296
structure Mc.ok (M:Mc):Prop where
 (x:M.x.length=16) (c:M.c.length=8) (xr:ZL M.x) (cr:ZL M.c) (pr:M.pc<4294967296) (mr:ZL M.m) (ml:M.m.length<=1000000) (dk:M.d.ok) (nk:M.n.ok) (dv:M.td<4294967296/\M.bt<4294967296/\M.bg<4294967296/\M.ct<18446744073709551616/\M.ks.size<=1000000)
theorem QB0 (M:Mc) (hM:M.ok):FN 29 [.agg (M.C 0)] [⟨false,1,wsv M.m⟩] (. =⟨.a (.agg (M.C 1)),[],[⟨true,1,wsv M.m⟩]⟩):=by
 have hco:=QsK M.m _ rfl (by have:=hM.ml;omega);have gK:=Qaa M.m;obtain ⟨hx,hc⟩:=hM;obtain ⟨_,_,_,m,_,_,_,_,⟨_,d1,d2,d3,d4,d5,d6,d7⟩,⟨_,_,_,_,_,_⟩,_,_,_,_,_⟩:=M;dsimp only at *;cases QaO hx;cases zC8 hc;generalize hn:m.length=n,wsv m=XX at *;dsimp only [Mc.C,Mc.D,Dk.C,Nk.C];rw [hn];refine fnW Tryz.func29 ?_;(repeat' ((conv=>whnf);first|exact zi0|refine zj0 fun hb=>?_|(refine QaD hco ?_)|refine zst ?_|refine zbb ?_ ?_))
 all_goals exact QbL
def QcZ (k:ByteArray):Bool:=decide ((k.size:Int)<=16)
def QdV (a:Bool) (d:Nat) (f:Bool):Bool:=decide (¬ (a=true/\f=true)/\(a=true->d≠0)/\(a=false->f=false->d=0))
def QbO (s:Int):Bool:=decide (s=2\/s=3)
def noD (b:ByteArray):Bool:=b.toList==(⟨#[]⟩:ByteArray).toList
def QbM (d:Dk) (p:Int):Bool:=decide (d.bs<=64/\0<=d.st/\d.st<=3/\(d.st≠1->d.cmd=0/\d.ob=0/\d.of_=0/\noD d.od=true)/\(d.st=1->d.ob<d.bs/\(d.of_:Int)<p/\(d.cmd=1/\noD d.od=true\/d.cmd=2/\d.od.size=128)))
def Qb4 (n:Nk) (p:Int):Bool:=decide ((n.po=true->n.re=false/\(n.bu:Int)<p)/\(n.po=false->n.bu=0)/\(n.re=true->1<=n.go_/\n.go_<=128)/\(n.re=false->n.go_=0))
theorem QcD {H:List Row} {v w:Bool} {σ:St} (h:Fin H (. =⟨.a (.s (.bool v)),[],[]⟩) σ (.a (.s (.bool v)))) (e:w=v):Fin H (. =⟨.a (.s (.bool v)),[],[]⟩) σ (.a (.s (.bool w))):=by subst e;exact h
theorem Qnf (k:ByteArray):FN 81 [.agg [.str k]] [] (. =⟨.a (.s (.bool (QcZ k))),[],[]⟩):=by
 unfold QcZ;refine fnW Tryz.func81 ?_;exact Qlv
theorem Qnr (a:Bool) (d:Nat) (f:Bool):FN 82 [.agg [.bool a,.u d,.bool f]] [] (. =⟨.a (.s (.bool (QdV a d f))),[],[]⟩):=by
 cases a<;>cases f
 all_goals
  refine fnW Tryz.func82 ?_;exact QD1
theorem Qnh (d:Dk) (hd:d.ok) (p:Int):FN 83 [.agg d.C,.s (.i p)] [] (. =⟨.a (.s (.bool (QbM d p))),[],[]⟩):=by
 cases hd;obtain ⟨bs,bl,fr,st,cmd,ob,of_,od⟩:=d;dsimp only at *;dsimp only [Dk.C];generalize hB:QbM ⟨bs,bl,fr,st,cmd,ob,of_,od⟩ p=B;unfold QbM at hB;dsimp only at hB;have qE:(od.toList==(⟨#[]⟩:ByteArray).toList)=noD od:=rfl;generalize noD od=nd at *;refine fnW Tryz.func83 ?_;exact QDg
theorem Qnp (n:Nk) (hn:n.ok) (p:Int):FN 84 [.agg n.C,.s (.i p)] [] (. =⟨.a (.s (.bool (Qb4 n p))),[],[]⟩):=by
 cases hn;obtain ⟨fr,ln,po,bu,re,go_⟩:=n;dsimp only at *;dsimp only [Nk.C];generalize hB:Qb4 ⟨fr,ln,po,bu,re,go_⟩ p=B;unfold Qb4 at hB;dsimp only at hB;cases po<;>cases re
 all_goals
  refine fnW Tryz.func84 ?_;exact QD2
def Qcs (ac:Int):Int:=if ac=1 then 4 else if ac=3 then 6 else 5
def QdC (ac:Int):Bool:=decide (1<=ac/\ac<=3)
theorem QcL (ac:Int):FN 233 [.s (.i ac)] [] (. =⟨.tup [.s (.i (Qcs ac)),.s (.bool (QdC ac))],[],[]⟩):=by
 refine fnW Tryz.func233 ?_;exact QDf
theorem Qcf (xs:List Nat) (n f:Nat) (hn:ZU n) (hf:ZU f):FN 234 [.s (.sl 0 0 n),.s (.u f)] [⟨false,1,wsv xs⟩] (. =⟨.a (.s (.bool (decide (f<mpg n)))),[],[]⟩):=by
 have hm:=QaT n;have hp:=QbE xs n hn;generalize mpg n=P at *;refine fnW Tryz.func234 ?_;(conv=>whnf);(repeat' ((first|exact zi0|refine zj0 fun hb=>?_|(refine Qae (f:=59) (hp) [⟨0,0⟩] [(0,⟨false,1,wsv xs⟩)] (by first|exact rfl|simp [Qc0,QcJ,Qc1]) ⟨rfl,trivial⟩ (⟨rfl,Qar (Qaa _),trivial⟩) ⟨rfl,Qbm⟩ ?_)|refine zs0 ?_|refine zbb ?_ ?_)<;>conv=>whnf))
 all_goals
  refine QbP rfl (Qaa _) rfl ?_;simp only [Qba];congr 3;rw [zbi,zde,zde];omega
def frW (p:Nat):Nat:=p / 2^8%2^8
theorem Qhk (p:Nat):frW p<256:=Nat.mod_lt _ (by decide)
theorem Qi9 (p:Nat) (hp:ZU p):FN 236 [.s (.u p)] [] (. =⟨.a (.s (.u (frW p:Nat))),[],[]⟩):=by
 have h:FN 172 [.s (.u p),.s (.i 8),.s (.i 8)] [] (. =⟨.a (.s (.u ((frW p:Nat):Int))),[],[]⟩):=Qdz p 8 8 hp (by omega) (by omega) (by omega);generalize frW p=F at *;refine fnW Tryz.func236 ?_;(conv=>whnf);(repeat' ((first|exact zi0|refine zj0 fun hb=>?_|(refine Qac (f:=172) (h) rfl ?_)|refine zs0 ?_|refine zbb ?_ ?_)<;>conv=>whnf))
 all_goals exact Qam rfl rfl
def pmW (p:Nat) (ac:Int):Bool:=decide (p &&& 1≠0/\(ac=3->p &&& 2≠0)/\(ac=1->p &&& 4≠0))
theorem Qcz (p k:Nat) (hp:ZU p) (hk:ZU k):bits .and .u32 (p:Int) (k:Int)=((p &&& k:Nat):Int):=u32_and_nat p k hp hk
theorem Qec (p:Nat) (ac:Int) (hp:ZU p):FN 235 [.s (.u p),.s (.i ac)] [] (. =⟨.a (.s (.bool (pmW p ac))),[],[]⟩):=by
 have h1:bits .and .u32 (p:Int) 1=((p &&& 1:Nat):Int):=Qcz p 1 hp (by omega);have h2:bits .and .u32 (p:Int) 2=((p &&& 2:Nat):Int):=Qcz p 2 hp (by omega);have h4:bits .and .u32 (p:Int) 4=((p &&& 4:Nat):Int):=Qcz p 4 hp (by omega);unfold pmW;generalize p &&& 1=a1,p &&& 2=a2,p &&& 4=a4 at *;refine fnW Tryz.func235 ?_;(conv=>whnf);(repeat' ((first|exact zi0|refine zj0 fun hb=>?_|(with_reducible first|refine zv h1 ?_|refine zv h2 ?_|refine zv h4 ?_)|refine zs0 ?_|refine zbb ?_ ?_)<;>conv=>whnf))
 all_goals
  apply Qam
  (focus rfl)
  simp only [Qba];congr 3
  first
   | exact (zdf (by omega)).symm
   | exact (zdt (by omega)).symm
   | (rw [zbi,zde];simp only [bne_iff_ne,ne_eq];omega)
def QaR (xs:List Nat) (r va:Nat):Nat:=xs.getD (r*32+va / 128) 0
def Qa6 (r va:Nat):Nat:=r*128+4*(va / 128)
def Qbl (xs:List Nat) (n r va:Nat) (ac:Int):Bool:=QdC ac&&decide (va<4096)&&decide (r<mpg n)&&pmW (QaR xs r va) ac&&decide (frW (QaR xs r va)<mpg n)
def Qfx (xs:List Nat) (n r va:Nat) (ac:Int):List SV:=if Qbl xs n r va ac=true then [.u (frW (QaR xs r va)*128+va%128:Nat),.u (Qa6 r va:Nat),.i 0] else [.u 0,.u 0,.i (Qcs ac)]
theorem Qdx {xs:List Nat} {n r va:Nat} {ac:Int} (h:¬ (QdC ac=true/\va<4096/\r<mpg n/\pmW (QaR xs r va) ac=true/\frW (QaR xs r va)<mpg n)):Qfx xs n r va ac= [.u 0,.u 0,.i (Qcs ac)]:=by
 unfold Qfx;rw [zN];intro hq;unfold Qbl at hq;simp only [zba,zde] at hq;exact h ⟨hq.1.1.1.1,hq.1.1.1.2,hq.1.1.2,hq.1.2,hq.2⟩
theorem Qlq {xs:List Nat} {n r va:Nat} {ac:Int} (h1:QdC ac=true) (h2:va<4096) (h3:r<mpg n) (h4:pmW (QaR xs r va) ac=true) (h5:frW (QaR xs r va)<mpg n):Qfx xs n r va ac= [.u (frW (QaR xs r va)*128+va%128:Nat),.u (Qa6 r va:Nat),.i 0]:=by
 unfold Qfx Qbl;rw [h1,h4,zdt h2,zdt h3,zdt h5];rfl
theorem Qcg (xs:List Nat) (n:Nat) (hn:ZU n):FN 80 [.s (.sl 0 0 n)] [⟨false,1,wsv xs⟩] (. =⟨.a (.s (.i (mpg n:Nat))),[],[]⟩):=by
 refine fnW Tryz.func80 ?_;exact QDn
theorem Qab {xs:List Nat} (h:ZL xs) (j:Nat):xs.getD j 0<4294967296:=by
 exact Qzw
theorem QqL (xs:List Nat) (n r va:Nat) (ac:Int) (hl:xs.length=n) (hn:ZU n) (hY:ZL xs) (hr:ZU r) (gV:ZU va) (h:QdC ac=false) :
  FN 195 [.s (.sl 0 0 n),.s (.u r),.s (.u va),.s (.i ac)] [⟨false,1,wsv xs⟩] (. =⟨.a (.agg (Qfx xs n r va ac)),[],[]⟩):=by
 have gK:=Qaa xs;have hm:=QaT n;have hmn:mpg n*32<=n:=Qeh;have cc:=QcL ac;rw [Qdx (by rw [h];simp)];rw [h] at cc;exact QDk
theorem QqJ (xs:List Nat) (n r va:Nat) (ac:Int) (hl:xs.length=n) (hn:ZU n) (hY:ZL xs) (hr:ZU r) (gV:ZU va) (h0:QdC ac=true) (h:4096<=va) :
  FN 195 [.s (.sl 0 0 n),.s (.u r),.s (.u va),.s (.i ac)] [⟨false,1,wsv xs⟩] (. =⟨.a (.agg (Qfx xs n r va ac)),[],[]⟩):=by
 have gK:=Qaa xs;have hm:=QaT n;have hmn:mpg n*32<=n:=Qeh;have cc:=QcL ac;rw [Qdx (by omega)];rw [h0] at cc;exact QDk
theorem Qnc (xs:List Nat) (n r va:Nat) (ac:Int) (hl:xs.length=n) (hn:ZU n) (hY:ZL xs) (hr:ZU r) (gV:ZU va) (h0:QdC ac=true) (h1:va<4096) (h:¬ r<mpg n) :
  FN 195 [.s (.sl 0 0 n),.s (.u r),.s (.u va),.s (.i ac)] [⟨false,1,wsv xs⟩] (. =⟨.a (.agg (Qfx xs n r va ac)),[],[]⟩):=by
 have gK:=Qaa xs;have hm:=QaT n;have hmn:mpg n*32<=n:=Qeh;have cc:=QcL ac;rw [Qdx (by omega)];rw [h0] at cc;have ci:=Qcf xs n r hn hr;rw [zdf h] at ci;generalize Qcs ac=C,wsv xs=XX at *;refine fnW Tryz.func195 ?_;(repeat' ((conv=>whnf);first|exact zi0|refine zj0 fun hb=>?_|(refine Qac (f:=233) (cc) rfl ?_)|(refine Qae (f:=234) ci [⟨_,0⟩] [(_,⟨false,1,XX⟩)] rfl ⟨rfl,trivial⟩ ⟨rfl,Qar gK,trivial⟩ ⟨rfl,Qbm⟩ ?_)|refine zs0 ?_|refine zbb ?_ ?_))
 all_goals exact Qg9
theorem Qnb (xs:List Nat) (n r va:Nat) (ac:Int) (hl:xs.length=n) (hn:ZU n) (hY:ZL xs) (hr:ZU r) (gV:ZU va) (h0:QdC ac=true) (h1:va<4096) (h2:r<mpg n) (h:pmW (QaR xs r va) ac=false) :
  FN 195 [.s (.sl 0 0 n),.s (.u r),.s (.u va),.s (.i ac)] [⟨false,1,wsv xs⟩] (. =⟨.a (.agg (Qfx xs n r va ac)),[],[]⟩):=by
 have gK:=Qaa xs;have hm:=QaT n;have hmn:mpg n*32<=n:=Qeh;have cc:=QcL ac;rw [h0] at cc;have ci:=Qcf xs n r hn hr;rw [zdt h2] at ci;rw [Qdx (by rw [h];simp)]
 have he:Qa6 r va<4294967296/\Qa6 r va / 4=r*32+va / 128/\ld4 n (Qa6 r va)=true:=by
  unfold Qa6;refine ⟨by omega,by omega,?_⟩;unfold ld4;rw [zdt (by omega),zdt (by omega)];rfl
 have qF:=Qb7 xs n (Qa6 r va) hl hn he.1 he.2.2
 have HK:(wsv xs)[Qa6 r va / 4]?=some (.u (QaR xs r va:Nat)):=by
  rw [he.2.1];exact QaX xs _ (by omega)
 rw [he.2.1] at qF;change Fn _ _ _ _ (. =⟨.tup [.s (.u (QaR xs r va:Nat)),.s (.bool true)],[],[]⟩) at qF;have hp:=Qab hY (r*32+va / 128);change QaR xs r va<4294967296 at hp;have e1:IntKind.u32.wrap ((va:Int).tdiv 128)=((va / 128:Nat):Int):=QnS;have e1':(va:Int) / 128=((va / 128:Nat):Int):=by omega
 have e2:IntKind.u32.wrap (4*((va / 128:Nat):Int))=((4*(va / 128):Nat):Int):=Qfh;have e0:IntKind.u32.wrap ((r:Int)*128)=((r*128:Nat):Int):=Qfh;have e3:IntKind.u32.wrap (((r*128:Nat):Int)+((4*(va / 128):Nat):Int))=((Qa6 r va:Nat):Int):=QuG;have wU:Qa6 r va / 4<n:=by rw [he.2.1];omega
 have x1:0+(((Qa6 r va:Nat):Int) / 4).toNat * ty23.size=Qa6 r va / 4:=QzE;generalize Qa6 r va=E at *;have zO:=Qhk (QaR xs r va);have cpm:=Qec (QaR xs r va) ac hp;rw [h] at cpm;generalize QaR xs r va=pte,Qcs ac=C,wsv xs=XX at *;refine fnW Tryz.func195 ?_;(repeat' ((conv=>whnf);first|exact zi0|refine zj0 fun hb=>?_|refine QHx ?_|(refine Qac (f:=233) (cc) rfl ?_)|(refine Qae (f:=234) ci [⟨_,0⟩] [(_,⟨false,1,XX⟩)] rfl ⟨rfl,trivial⟩ ⟨rfl,Qar gK,trivial⟩ ⟨rfl,Qbm⟩ ?_)|(refine Qae (f:=110) qF [⟨_,0⟩] [(_,⟨false,1,XX⟩)] rfl ⟨rfl,trivial⟩ ⟨rfl,Qar gK,trivial⟩ ⟨rfl,Qbm⟩ ?_)|(refine Qac (f:=235) (cpm) rfl ?_)|refine zs0 ?_|refine zbb ?_ ?_))
 all_goals exact Qg9
theorem QqK (xs:List Nat) (n r va:Nat) (ac:Int) (hl:xs.length=n) (hn:ZU n) (hY:ZL xs) (hr:ZU r) (gV:ZU va) (h0:QdC ac=true) (h1:va<4096) (h2:r<mpg n) (h3:pmW (QaR xs r va) ac=true) (h:¬ frW (QaR xs r va)<mpg n) :
  FN 195 [.s (.sl 0 0 n),.s (.u r),.s (.u va),.s (.i ac)] [⟨false,1,wsv xs⟩] (. =⟨.a (.agg (Qfx xs n r va ac)),[],[]⟩):=by
 have gK:=Qaa xs;have hm:=QaT n;have hmn:mpg n*32<=n:=Qeh;have cc:=QcL ac;rw [h0] at cc;have ci:=Qcf xs n r hn hr;rw [zdt h2] at ci;rw [Qdx (by omega)]
 have he:Qa6 r va<4294967296/\Qa6 r va / 4=r*32+va / 128/\ld4 n (Qa6 r va)=true:=by
  unfold Qa6;refine ⟨by omega,by omega,?_⟩;unfold ld4;rw [zdt (by omega),zdt (by omega)];rfl
 have qF:=Qb7 xs n (Qa6 r va) hl hn he.1 he.2.2
 have HK:(wsv xs)[Qa6 r va / 4]?=some (.u (QaR xs r va:Nat)):=by
  rw [he.2.1];exact QaX xs _ (by omega)
 rw [he.2.1] at qF;change Fn _ _ _ _ (. =⟨.tup [.s (.u (QaR xs r va:Nat)),.s (.bool true)],[],[]⟩) at qF;have hp:=Qab hY (r*32+va / 128);change QaR xs r va<4294967296 at hp;have e1:IntKind.u32.wrap ((va:Int).tdiv 128)=((va / 128:Nat):Int):=QnS;have e1':(va:Int) / 128=((va / 128:Nat):Int):=by omega
 have e2:IntKind.u32.wrap (4*((va / 128:Nat):Int))=((4*(va / 128):Nat):Int):=Qfh;have e0:IntKind.u32.wrap ((r:Int)*128)=((r*128:Nat):Int):=Qfh;have e3:IntKind.u32.wrap (((r*128:Nat):Int)+((4*(va / 128):Nat):Int))=((Qa6 r va:Nat):Int):=QuG;have wU:Qa6 r va / 4<n:=by rw [he.2.1];omega
 have x1:0+(((Qa6 r va:Nat):Int) / 4).toNat * ty23.size=Qa6 r va / 4:=QzE;generalize Qa6 r va=E at *;have zO:=Qhk (QaR xs r va);have cpm:=Qec (QaR xs r va) ac hp;rw [h3] at cpm;have cfr:=Qi9 (QaR xs r va) hp;have cif:=Qcf xs n (frW (QaR xs r va)) hn (by omega);rw [zdf h] at cif;generalize frW (QaR xs r va)=F at *;generalize QaR xs r va=pte,Qcs ac=C,wsv xs=XX at *;refine fnW Tryz.func195 ?_;(repeat' ((conv=>whnf);first|exact zi0|refine zj0 fun hb=>?_|refine QHx ?_|(refine Qac (f:=233) (cc) rfl ?_)|(refine Qae (f:=234) ci [⟨_,0⟩] [(_,⟨false,1,XX⟩)] rfl ⟨rfl,trivial⟩ ⟨rfl,Qar gK,trivial⟩ ⟨rfl,Qbm⟩ ?_)|(refine Qae (f:=110) qF [⟨_,0⟩] [(_,⟨false,1,XX⟩)] rfl ⟨rfl,trivial⟩ ⟨rfl,Qar gK,trivial⟩ ⟨rfl,Qbm⟩ ?_)|(refine Qac (f:=235) (cpm) rfl ?_)|(refine Qac (f:=236) (cfr) rfl ?_)|(refine Qae (f:=234) cif [⟨_,0⟩] [(_,⟨false,1,XX⟩)] rfl ⟨rfl,trivial⟩ ⟨rfl,Qar gK,trivial⟩ ⟨rfl,Qbm⟩ ?_)|refine zs0 ?_|refine zbb ?_ ?_))
 all_goals exact Qg9
theorem QtI (xs:List Nat) (n r va:Nat) (ac:Int) (hl:xs.length=n) (hn:ZU n) (hY:ZL xs) (hr:ZU r) (gV:ZU va) (h0:QdC ac=true) (h1:va<4096) (h2:r<mpg n) (h3:pmW (QaR xs r va) ac=true) (h:frW (QaR xs r va)<mpg n) :
  FN 195 [.s (.sl 0 0 n),.s (.u r),.s (.u va),.s (.i ac)] [⟨false,1,wsv xs⟩] (. =⟨.a (.agg (Qfx xs n r va ac)),[],[]⟩):=by
 have gK:=Qaa xs;have hm:=QaT n;have hmn:mpg n*32<=n:=Qeh;have cc:=QcL ac;rw [h0] at cc;have ci:=Qcf xs n r hn hr;rw [zdt h2] at ci;rw [Qlq h0 h1 h2 h3 h]
 have he:Qa6 r va<4294967296/\Qa6 r va / 4=r*32+va / 128/\ld4 n (Qa6 r va)=true:=by
  unfold Qa6;refine ⟨by omega,by omega,?_⟩;unfold ld4;rw [zdt (by omega),zdt (by omega)];rfl
 have qF:=Qb7 xs n (Qa6 r va) hl hn he.1 he.2.2
 have HK:(wsv xs)[Qa6 r va / 4]?=some (.u (QaR xs r va:Nat)):=by
  rw [he.2.1];exact QaX xs _ (by omega)
 rw [he.2.1] at qF;change Fn _ _ _ _ (. =⟨.tup [.s (.u (QaR xs r va:Nat)),.s (.bool true)],[],[]⟩) at qF;have hp:=Qab hY (r*32+va / 128);change QaR xs r va<4294967296 at hp;have e1:IntKind.u32.wrap ((va:Int).tdiv 128)=((va / 128:Nat):Int):=QnS;have e1':(va:Int) / 128=((va / 128:Nat):Int):=by omega
 have e2:IntKind.u32.wrap (4*((va / 128:Nat):Int))=((4*(va / 128):Nat):Int):=Qfh;have e0:IntKind.u32.wrap ((r:Int)*128)=((r*128:Nat):Int):=Qfh;have e3:IntKind.u32.wrap (((r*128:Nat):Int)+((4*(va / 128):Nat):Int))=((Qa6 r va:Nat):Int):=QuG;have wU:Qa6 r va / 4<n:=by rw [he.2.1];omega
 have x1:0+(((Qa6 r va:Nat):Int) / 4).toNat * ty23.size=Qa6 r va / 4:=QzE;generalize Qa6 r va=E at *;have zO:=Qhk (QaR xs r va);have cpm:=Qec (QaR xs r va) ac hp;rw [h3] at cpm;have cfr:=Qi9 (QaR xs r va) hp;have cif:=Qcf xs n (frW (QaR xs r va)) hn (by omega);rw [zdt h] at cif;generalize frW (QaR xs r va)=F at *;have e4:IntKind.u32.wrap ((F:Int)*128)=((F*128:Nat):Int):=Qfh;have e5:(va:Int).tmod 128=((va%128:Nat):Int):=by rw [Qf3 (by omega)];omega
 have e6:IntKind.u32.wrap (((F*128:Nat):Int)+((va%128:Nat):Int))=((F*128+va%128:Nat):Int):=Qfh;generalize QaR xs r va=pte,Qcs ac=C,wsv xs=XX at *;refine fnW Tryz.func195 ?_;(repeat' ((conv=>whnf);first|exact zi0|refine zj0 fun hb=>?_|(with_reducible first|refine zv e0 ?_|refine zv e1 ?_|refine zv e2 ?_|refine zv e3 ?_|refine zv e4 ?_|refine zv e5 ?_|refine zv e6 ?_)|(refine Qac (f:=233) (cc) rfl ?_)|(refine Qae (f:=234) ci [⟨_,0⟩] [(_,⟨false,1,XX⟩)] rfl ⟨rfl,trivial⟩ ⟨rfl,Qar gK,trivial⟩ ⟨rfl,Qbm⟩ ?_)|(refine Qae (f:=110) qF [⟨_,0⟩] [(_,⟨false,1,XX⟩)] rfl ⟨rfl,trivial⟩ ⟨rfl,Qar gK,trivial⟩ ⟨rfl,Qbm⟩ ?_)|(refine Qac (f:=235) (cpm) rfl ?_)|(refine Qac (f:=236) (cfr) rfl ?_)|(refine Qae (f:=234) cif [⟨_,0⟩] [(_,⟨false,1,XX⟩)] rfl ⟨rfl,trivial⟩ ⟨rfl,Qar gK,trivial⟩ ⟨rfl,Qbm⟩ ?_)|refine zs0 ?_|refine zbb ?_ ?_))
 all_goals exact Qg9
theorem Qiw (xs:List Nat) (n r va:Nat) (ac:Int) (hl:xs.length=n) (hn:ZU n) (hY:ZL xs) (hr:ZU r) (gV:ZU va) :
  FN 195 [.s (.sl 0 0 n),.s (.u r),.s (.u va),.s (.i ac)] [⟨false,1,wsv xs⟩] (. =⟨.a (.agg (Qfx xs n r va ac)),[],[]⟩):=by
 cases h0:QdC ac with
 | false=>exact QqL xs n r va ac hl hn hY hr gV h0
 | true =>
  by_cases h1:va<4096
  .by_cases h2:r<mpg n
   .cases h3:pmW (QaR xs r va) ac with
    | false=>exact Qnb xs n r va ac hl hn hY hr gV h0 h1 h2 h3
    | true =>
     by_cases h4:frW (QaR xs r va)<mpg n
     .exact QtI xs n r va ac hl hn hY hr gV h0 h1 h2 h3 h4
     .exact QqK xs n r va ac hl hn hY hr gV h0 h1 h2 h3 h4
   .exact Qnc xs n r va ac hl hn hY hr gV h0 h1 h2
  .exact QqJ xs n r va ac hl hn hY hr gV h0 (by omega)
theorem QbC (xs:List Nat) (n:Nat) (hl:xs.length=n) (hn:n<=4294967296):FN 43 [.s (.sl 0 0 n)] [⟨false,1,wsv xs⟩] (. =⟨.a (.s (.sl 1 0 n)),[],[⟨true,1,wsv xs⟩]⟩):=by
 refine fnW Tryz.func43 ?_;(conv=>whnf);(repeat' ((first|exact zi0|refine zj0 fun hb=>?_|(refine Ns.any rfl ?_;intro bn gL)|(apply Sk.mk; . exact QdU (wsv xs) (by show (wsv xs).length=n*1;simp [hl]) (Qcr xs))|(apply Sd.mk; . refine ⟨rfl,rfl,rfl,?_,?_⟩<;>first|omega|(show (0+n)*4<=_;omega))|((with_reducible apply Vl.mk (α:=Nat)); . exact Nat.zero_add n)|((with_reducible apply Vl.mk (α:=List SV)); . exact zna (wsv xs))|refine zs0 ?_|refine zbb ?_ ?_)<;>conv=>whnf))
 .obtain rfl:n=0:=gL hb
  obtain rfl:=List.eq_nil_of_length_eq_zero hl
  (exact QnQ)
 ·(exact QbL)
theorem Qbv (xs:List Nat) (j w:Nat) (hj:j<xs.length):QaB (wsv xs) j [.u w]=wsv (xs.set j w):=by
 apply List.ext_getElem?;intro i;rw [Qbg _ _ _ _ (by simp;omega)];unfold wsv;simp only [zgm,List.length_cons,List.length_nil,Nat.zero_add,List.getElem?_set]
 by_cases hi:i=j
 .subst hi
  rw [zP (by omega),zP rfl,zP hj];simp
 .rw [zN (by omega),zN (by omega)]
theorem QjP (xs:List Nat) (n a v:Nat) (hl:xs.length=n) (hn:ZU n) (ha:ZU a) (qU:ld4 n a=true):FN 228 [.s (.sl 0 0 n),.s (.u a),.s (.i 4),.s (.u v)] [⟨false,1,wsv xs⟩] (. =⟨.tup [.s (.sl 1 0 n),.s (.bool true)],[],[⟨true,1,wsv (xs.set (a / 4) v)⟩]⟩):=by
 have hw:=QhD xs n a hn ha;rw [qU] at hw;have yO:=Qeb qU;have gM:=QbC xs n hl (by omega);have gY:=Qbv xs (a / 4) v (by omega);have FS:(wsv xs).length=n:=by simp [hl]
 have qA:Qaq (wsv xs)=true:=Qaa xs;have JD:Qaq (wsv (xs.set (a / 4) v))=true:=Qaa _;generalize wsv (xs.set (a / 4) v)=X2,wsv xs=X at *;refine fnW Tryz.func228 ?_;(conv=>whnf);(repeat' ((first|exact zi0|refine zj0 fun hb=>?_|(refine Qae (f:=171) hw [⟨0,0⟩] [(0,⟨false,1,X⟩)] rfl ⟨rfl,trivial⟩ ⟨rfl,Qar qA,trivial⟩ ⟨rfl,Qbm⟩ ?_)|(refine Qae (f:=43) gM [⟨0,0⟩] [(0,⟨false,1,X⟩)] rfl ⟨rfl,trivial⟩ ⟨rfl,Qar qA,trivial⟩ ⟨rfl,Qbm⟩ ?_)|refine Qek ?_|(apply Sd.mk; . refine ⟨rfl,rfl,rfl,?_⟩;show _<=X.length;simp;omega)|refine QvU ?_|refine zq7 ?_|refine zs0 ?_|refine zbb ?_ ?_)<;>conv=>whnf))
 all_goals (exact QbL)
theorem QkS (a b:Nat) (ha:ZU a) (hb:ZU b):bits .or .u32 (a:Int) (b:Int)=((a ||| b:Nat):Int)/\a ||| b<4294967296:=by
 have h:a ||| b<2^32:=Nat.or_lt_two_pow (by simpa using ha) (by simpa using hb)
 have e:∀ c:Nat,c<4294967296->(BitVec.ofInt 32 (c:Int)).toNat=c:=fun c hc=>by
  rw [BitVec.toNat_ofInt];simp;omega
 refine ⟨?_,by simpa using h⟩;show IntKind.u32.wrap (((BitVec.ofInt 32 (a:Int)) ||| (BitVec.ofInt 32 (b:Int))).toNat:Int)=_;rw [BitVec.toNat_or,e a ha,e b hb,Qce];simp only [Nat.reducePow] at h;omega
def QbG (p:Nat) (ac:Int):Nat:=if ac=3 then (p ||| 8) ||| 16 else p ||| 8
theorem Qlg (p:Nat) (ac:Int) (hp:ZU p):QbG p ac<4294967296:=by
 have h1:=(QkS p 8 hp (by omega)).2;have h2:=(QkS (p ||| 8) 16 h1 (by omega)).2;unfold QbG;split<;>assumption
theorem QjS (xs:List Nat) (n E:Nat) (ac:Int) (hl:xs.length=n) (hn:ZU n) (hY:ZL xs) (hE:ZU E) (qU:ld4 n E=true) :
  FN 196 [.s (.sl 0 0 n),.s (.u E),.s (.i ac)] [⟨false,1,wsv xs⟩] (. =⟨.a (.s (.sl 1 0 n)),[],[⟨true,1,wsv (xs.set (E / 4) (QbG (xs.getD (E / 4) 0) ac))⟩]⟩):=by
 have qF:=Qb7 xs n E hl hn hE qU;have gN:=QjP xs n E (QbG (xs.getD (E / 4) 0) ac) hl hn hE qU;have hp:=Qab hY (E / 4);have gK:=Qaa xs;have gW:=Qaa (xs.set (E / 4) (QbG (xs.getD (E / 4) 0) ac));generalize wsv (xs.set (E / 4) (QbG (xs.getD (E / 4) 0) ac))=X2 at *;generalize xs.getD (E / 4) 0=p at *;have o1:=QkS p 8 hp (by omega);have o2:=QkS (p ||| 8) 16 o1.2 (by omega);have k1:bits .or .u32 (p:Int) 8=((p ||| 8:Nat):Int):=o1.1;have k2:bits .or .u32 ((p ||| 8:Nat):Int) 16=(((p ||| 8) ||| 16:Nat):Int):=o2.1;have t3:ac=3->QbG p ac=(p ||| 8) ||| 16:=fun h=>zP h
 have t0:ac≠3->QbG p ac=p ||| 8:=fun h=>zN h
 clear o1 o2;generalize (p ||| 8) ||| 16=p2 at *;generalize p ||| 8=p1,wsv xs=XX at *
 by_cases h3:ac=3
 .rw [t3 h3] at gN
  subst h3;refine fnW Tryz.func196 ?_;(repeat' ((conv=>whnf);first|exact zi0|refine zj0 fun hb=>?_|(with_reducible first|refine zv k1 ?_|refine zv k2 ?_)|(refine Qae (f:=110) qF [⟨_,0⟩] [(_,⟨false,1,XX⟩)] rfl ⟨rfl,trivial⟩ ⟨rfl,Qar gK,trivial⟩ ⟨rfl,Qbm⟩ ?_)|(refine Qae (f:=228) gN [⟨_,0⟩] [(_,⟨false,1,XX⟩)] rfl ⟨rfl,trivial⟩ ⟨rfl,Qar gK,trivial⟩ ⟨rfl,Qbm⟩ ?_)|refine zs0 ?_|refine zbb ?_ ?_))
  all_goals exact QbL
 .rw [t0 h3] at gN
  refine fnW Tryz.func196 ?_;(repeat' ((conv=>whnf);first|exact zi0|refine zj0 fun hb=>?_|(with_reducible refine zv k1 ?_)|(refine Qae (f:=110) qF [⟨_,0⟩] [(_,⟨false,1,XX⟩)] rfl ⟨rfl,trivial⟩ ⟨rfl,Qar gK,trivial⟩ ⟨rfl,Qbm⟩ ?_)|(refine Qae (f:=228) gN [⟨_,0⟩] [(_,⟨false,1,XX⟩)] rfl ⟨rfl,trivial⟩ ⟨rfl,Qar gK,trivial⟩ ⟨rfl,Qbm⟩ ?_)|refine zs0 ?_|refine zbb ?_ ?_))
  all_goals exact QbL
def QbH (b:Nat):Nat->Nat
 | 0=>0
 | j+1=>QbH b j+b / 2^j%2
theorem Qb1 (b:Nat):∀ j,QbH b j<=j
 | 0=>Nat.le_refl _
 | j+1=>by have:=Qb1 b j;unfold QbH;omega
theorem QiI (a:Nat) (ha:ZU a):bits .and .u32 (a:Int) 1=((a%2:Nat):Int):=QaS a 1 ha (by omega)
theorem QnB (b j:Nat) (hj:j<32):(b:Int) / 2^min (((j:Nat):Int)).toNat IntKind.u32.bits=((b / 2^j:Nat):Int):=by
 rw [show min (((j:Nat):Int)).toNat IntKind.u32.bits=j by show min j 32=j;omega,Int.natCast_ediv,Int.natCast_pow];rfl
def QEq (p j:Nat) (bt bg:Nat):St :=
 ⟨[(1,.a (.s (.ptr 0 0))),(3,.a (.s (.i p))),(4,.a (.s (.i j)))],[(0,some ⟨true,1,[.u bt,.u bg]⟩)],[0]⟩
theorem Qjz (bt bg:Nat) (h2:ZU bg):FN 165 [.agg [.u bt,.u bg]] [] (. =⟨.a (.s (.i (QbH bg 32:Nat))),[],[]⟩):=by
 refine fnW Tryz.func165 ?_;(conv=>whnf);(repeat' ((first|exact zi0|refine zj0 fun hb=>?_|refine zst ?_|refine zbb ?_ ?_)<;>conv=>whnf))
 refine Lp.inv (fun mm σ=>∃ j:Nat,mm+j=32/\σ=QEq (QbH bg j) j bt bg) ?_ ?_
 .refine ⟨32,QEq 0 0 bt bg,?_,0,by omega,rfl⟩
  (exact zwL [(0,some _)])
 rintro mm σ ⟨j,yG,rfl⟩;unfold QEq
 by_cases hj:j<32
 .have jX:=Qb1 bg j
  have s1:=QnB bg j hj;have s2:=QiI (bg / 2^j) (Nat.lt_of_le_of_lt (Nat.div_le_self _ _) h2)
  have s4:IntKind.i64.wrap (((QbH bg j:Nat):Int)+((bg / 2^j%2:Nat):Int))=((QbH bg (j+1):Nat):Int):=by
   rw [Qb3 (by omega) (by omega),show QbH bg (j+1)=QbH bg j+bg / 2^j%2 from rfl];omega
  have q2:IntKind.i64.wrap ((j:Int)+1)=((j+1:Nat):Int):=QbF;have jU:bg / 2^j%2<2:=Nat.mod_lt _ (by decide);obtain ⟨P1,hP1⟩:∃ P1,QbH bg (j+1)=P1:=⟨_,rfl⟩;rw [hP1] at s4;generalize QbH bg j=P0,bg / 2^j=bj at *;generalize bj%2=bb at *;(conv=>whnf);(repeat' ((first|exact zi2|refine zj0 fun hb=>?_|(with_reducible first|refine zv s1 ?_|refine zv s2 ?_|refine zv s4 ?_|refine zv q2 ?_)|refine zse ?_|refine zbb ?_ ?_)<;>conv=>whnf))
  all_goals first
   | (
     refine ⟨mm-1,QEq P1 (j+1) bt bg,by omega,?_,j+1,by omega,by rw [hP1];rfl⟩
     (exact zwL [(0,some 0)]))
 .obtain rfl:j=32:=by omega
  generalize QbH bg 32=P at *;exact QD3
def QbW (b:Nat) (p:Int):Bool:=decide (∀ i:Nat,i<32->b / 2^i%2=1->(i:Int)<p)
def QEg (j:Nat) (bt bg:Nat) (p:Int):St :=
 ⟨[(1,.a (.s (.i p))),(2,.a (.s (.ptr 0 0))),(5,.a (.s (.i j)))],[(0,some ⟨true,1,[.u bt,.u bg]⟩)],[0]⟩
theorem Qne (bt bg:Nat) (h2:ZU bg) (p:Int):FN 85 [.agg [.u bt,.u bg],.s (.i p)] [] (. =⟨.a (.s (.bool (QbW bg p))),[],[]⟩):=by
 obtain ⟨B,hB⟩:∃ B,QbW bg p=B:=⟨_,rfl⟩;rw [hB];unfold QbW at hB;refine fnW Tryz.func85 ?_;(conv=>whnf);(repeat' ((first|exact zi0|refine zj0 fun hb=>?_|refine zst ?_|refine zbb ?_ ?_)<;>conv=>whnf))
 refine Lp.inv (fun mm σ=>∃ j:Nat,mm+j=32/\(∀ i:Nat,i<j->bg / 2^i%2=1->(i:Int)<p)/\σ=QEg j bt bg p) ?_ ?_
 .refine ⟨32,QEg 0 bt bg p,?_,0,by omega,fun i h=>by omega,rfl⟩
  (exact zwL [(0,some _)])
 rintro mm σ ⟨j,yG,fC,rfl⟩;unfold QEg
 by_cases hj:j<32
 .have s1:=QnB bg j hj
  have s2:=QiI (bg / 2^j) (Nat.lt_of_le_of_lt (Nat.div_le_self _ _) h2);have q2:IntKind.i64.wrap ((j:Int)+1)=((j+1:Nat):Int):=QbF
  by_cases hbad:bg / 2^j%2=1/\p<=(j:Int)
  .obtain rfl:B=false:=by
    rw [<- hB];refine zdf (fun h=>?_);have:=h j hj hbad.1;omega
   rw [hbad.1] at s2;have h3:=hbad.2;clear hB fC hbad;generalize bg / 2^j=bj at *;(repeat' ((conv=>whnf);first|exact zi2|refine zj0 fun hb=>?_|refine QGL ?_|refine zse ?_|refine zbb ?_ ?_))
   all_goals exact zF_
  .have vJ:∀ i:Nat,i<j+1->bg / 2^i%2=1->(i:Int)<p:=fun i hi h=>by
    by_cases e:i=j
    .subst e;exact Int.lt_of_not_ge (fun h2=>hbad ⟨h,h2⟩)
    .exact fC i (by omega) h
   have h3:bg / 2^j%2=1->(j:Int)<p:=vJ j (by omega);have jU:bg / 2^j%2<2:=Nat.mod_lt _ (by decide);clear hB fC hbad;generalize bg / 2^j=bj at *;generalize bj%2=bb at *;have e:bb=0\/bb=1:=by omega
   rcases e with rfl|rfl
   all_goals
    (conv=>whnf);(repeat' ((first|exact zi2|refine zj0 fun hb=>?_|(with_reducible first|refine zv s1 ?_|refine zv s2 ?_|refine zv q2 ?_)|refine zse ?_|refine zbb ?_ ?_)<;>conv=>whnf))
    all_goals first
     | (exfalso;omega)
     | (exfalso;simp at hb;done)
     | (
       refine ⟨mm-1,QEg (j+1) bt bg p,by omega,?_,j+1,by omega,vJ,rfl⟩
       (exact zwL [(0,some 0)]))
 .obtain rfl:j=32:=by omega
  obtain rfl:B=true:=by rw [<- hB];exact zdt fC
  exact QD3
def QcT (bt bg:Nat):Bool:=(((QbH bg 32:Nat):Int) !=((bt:Nat):Int))
theorem QkV (bt bg:Nat) (h1:ZU bt) (h2:ZU bg):FN 221 [.agg [.u bt,.u bg]] [] (. =⟨.a (.s (.bool (QcT bt bg))),[],[]⟩):=by
 have hg:=Qjz bt bg h2;have jX:=Qb1 bg 32;unfold QcT;generalize QbH bg 32=P at *;refine fnW Tryz.func221 ?_;exact Qzx
theorem Qk5 (a:Bool) (d:Nat) (f:Bool):FN 217 [.agg [.bool a,.u d,.bool f]] [] (. =⟨.a (.s (.bool f)),[],[]⟩):=by
 refine fnW Tryz.func217 ?_;exact Qlv
def Qcj (k:ByteArray):Bool:=decide ((0:Int)<(k.size:Int))
theorem QkW (k:ByteArray):FN 218 [.agg [.str k]] [] (. =⟨.a (.s (.bool (Qcj k))),[],[]⟩):=by
 unfold Qcj;refine fnW Tryz.func218 ?_;exact Qlv
theorem QkZ (d:Dk):FN 219 [.agg d.C] [] (. =⟨.a (.s (.bool (QbO d.st))),[],[]⟩):=by
 obtain ⟨_,_,_,st⟩:=d;dsimp only [Dk.C];obtain ⟨B,hB⟩:∃ B,QbO st=B:=⟨_,rfl⟩;rw [hB];unfold QbO at hB;refine fnW Tryz.func219 ?_;exact QDj
theorem Qk3 (n:Nk):FN 220 [.agg n.C] [] (. =⟨.a (.s (.bool n.re)),[],[]⟩):=by
 obtain ⟨_,_,_,_,re⟩:=n;dsimp only [Nk.C];refine fnW Tryz.func220 ?_;exact Qlv
def lnN (b:Bool) (k:Nat):Nat:=if b=true then 2^k else 0
theorem QdS (b:Bool) (k:Nat) (hk:k<32):lnN b k<4294967296:=by
 unfold lnN;split
 .exact Nat.lt_of_lt_of_le (Nat.pow_lt_pow_right (by decide) hk) (by decide)
 .decide
theorem QeI (b:Bool) (k:Nat) (hk:k<5):FN 216 [.s (.bool b),.s (.i k)] [] (. =⟨.a (.s (.u (lnN b k:Nat))),[],[]⟩):=by
 have e:k=0\/k=1\/k=2\/k=3\/k=4:=by omega
 cases b<;>rcases e with rfl|rfl|rfl|rfl|rfl
 all_goals
  refine fnW Tryz.func216 ?_;exact Qj6
def Qfp (M:Mc):Nat:=(((lnN M.tf 0 ||| lnN (Qcj M.ks) 1) ||| lnN (QbO M.d.st) 2) ||| lnN M.n.re 3) ||| lnN (QcT M.bt M.bg) 4
def ld1 (n a:Nat):Bool:=decide (a+1<=mpg n*128)
theorem Qh4 {n a:Nat} (h:ld1 n a=true):a / 4<n:=by
 unfold ld1 mpg at h;simp at h;split at h<;>omega
theorem Qfd (xs:List Nat) (n a:Nat) (hn:ZU n) (ha:ZU a):FN 171 [.s (.sl 0 0 n),.s (.u a),.s (.i 1)] [⟨false,1,wsv xs⟩] (. =⟨.a (.s (.bool (ld1 n a))),[],[]⟩):=by
 have hm:=QaT n;refine fnW Tryz.func171 ?_;(conv=>whnf);(repeat' ((first|exact zi0|refine zj0 fun hb=>?_|(refine Qae (f:=59) (QbE xs n hn) [⟨0,0⟩] [(0,⟨false,1,wsv xs⟩)] (by first|exact rfl|simp [Qc0,QcJ,Qc1]) ⟨rfl,trivial⟩ (⟨rfl,Qar (Qaa _),trivial⟩) ⟨rfl,Qbm⟩ ?_)|refine zs0 ?_|refine zbb ?_ ?_)<;>conv=>whnf))
 all_goals
  refine QbP rfl (Qaa _) rfl ?_;simp only [Qba];congr 3;have hy:decide ((a:Int)+1<=(mpg n:Nat)*128)=decide (a+1<=mpg n*128):=by congr 1;apply propext;omega
  unfold ld1;rw [<- hy]
def byN (w a:Nat):Nat:=w / 2^(a%4*8)%2^8
theorem QE2 (a:Nat):((a:Int).tmod 4)=((a%4:Nat):Int):=by rw [Qf3 (by omega)];omega
theorem QHL (a:Nat):IntKind.i64.wrap ((a%4:Nat):Int)=((a%4:Nat):Int):=Qb3 (by omega) (by omega)
theorem QHM (a:Nat):IntKind.i64.wrap (((a%4:Nat):Int)*8)=((a%4*8:Nat):Int):=by rw [Qb3 (by omega) (by omega)];omega
theorem QCS {xs:List Nat} (h:ZL xs) (j:Nat):xs.getD j 0<4294967296:=by
 exact Qzw
theorem Ql3 (xs:List Nat) (n a:Nat) (hl:xs.length=n) (hx:ZL xs) (hn:ZU n) (ha:ZU a) (qU:ld1 n a=true):FN 110 [.s (.sl 0 0 n),.s (.u a),.s (.i 1)] [⟨false,1,wsv xs⟩] (. =⟨.tup [.s (.u (byN (xs.getD (a / 4) 0) a:Nat)),.s (.bool true)],[],[]⟩):=by
 have hw:=Qfd xs n a hn ha;rw [qU] at hw;have yO:=Qh4 qU;have hf:=Qdz (xs.getD (a / 4) 0) (a%4*8) 8 (QCS hx _) (by omega) (by omega) (by omega);have hg:=QaX xs (a / 4) (by omega);generalize xs.getD (a / 4) 0=W at *;change Fn _ _ _ _ (. =⟨.a (.s (.u ((byN W a:Nat):Int))),_,_⟩) at hf;generalize byN W a=B at *;refine fnW Tryz.func110 ?_;(conv=>whnf);(repeat' ((first|exact zi0|refine zj0 fun hb=>?_|(refine Qae (f:=171) (hw) [⟨0,0⟩] [(0,⟨false,1,wsv xs⟩)] (by first|exact rfl|simp [Qc0,QcJ,Qc1]) ⟨rfl,trivial⟩ (⟨rfl,Qar (Qaa _),trivial⟩) ⟨rfl,Qbm⟩ ?_)|refine Qek ?_|refine QvU ?_|refine QAk ?_|refine QHy ?_|(refine Qac (f:=172) (hf) rfl ?_)|refine zs0 ?_|refine zbb ?_ ?_)<;>conv=>whnf))
 all_goals exact QbP rfl (Qaa _) rfl rfl
def sfI (w l v:Nat):Int:=bits .or .u32 (bits .andNot .u32 (w:Int) (IntKind.u32.wrap (255*2^min ((l:Nat):Int).toNat IntKind.u32.bits))) (IntKind.u32.wrap (bits .and .u32 (v:Int) 255*2^min ((l:Nat):Int).toNat IntKind.u32.bits))
theorem QuT (op:BinOp) (a b:Int):0<=bits op .u32 a b/\bits op .u32 a b<4294967296:=by
 unfold bits;rw [Qce];omega
def sfN (w l v:Nat):Nat:=(sfI w l v).toNat
theorem QCl (w l v:Nat):sfN w l v<4294967296:=by
 have:0<=sfI w l v/\sfI w l v<4294967296:=QuT _ _ _;unfold sfN;omega
theorem Qf1 (w l v:Nat):((sfN w l v:Nat):Int)=sfI w l v:=by
 have:0<=sfI w l v/\sfI w l v<4294967296:=QuT _ _ _;unfold sfN;omega
theorem Qlc (w l v:Nat) (hl:l<=31):FN 246 [.s (.u w),.s (.i l),.s (.i 8),.s (.u v)] [] (. =⟨.a (.s (.u (sfN w l v:Nat))),[],[]⟩):=by
 have hm:FN 223 [.s (.i 8)] [] (. =⟨.a (.s (.u 255)),[],[]⟩):=Qqm 8 (by omega);have e1:IntKind.u32.wrap (255*2^min ((l:Nat):Int).toNat IntKind.u32.bits)=IntKind.u32.wrap (255*2^min ((l:Nat):Int).toNat IntKind.u32.bits):=rfl;have e2:IntKind.u32.wrap (bits .and .u32 (v:Int) 255*2^min ((l:Nat):Int).toNat IntKind.u32.bits)=IntKind.u32.wrap (bits .and .u32 (v:Int) 255*2^min ((l:Nat):Int).toNat IntKind.u32.bits):=rfl;rw [Qf1];refine fnW Tryz.func246 ?_;(conv=>whnf);(repeat' ((first|exact zi0|refine zj0 fun hb=>?_|(refine Qac (f:=223) (hm) rfl ?_)|(with_reducible first|refine zv e1 ?_|refine zv e2 ?_)|refine zs0 ?_|refine zbb ?_ ?_)<;>conv=>whnf))
 all_goals exact Qam rfl rfl
def Qnd (xs:List Nat) (a v:Nat):List Nat:=xs.set (a / 4) (sfN (xs.getD (a / 4) 0) (a%4*8) v)
theorem QrH (xs:List Nat) (n a v:Nat) (hl:xs.length=n) (hn:ZU n) (ha:ZU a) (qU:ld1 n a=true):FN 228 [.s (.sl 0 0 n),.s (.u a),.s (.i 1),.s (.u v)] [⟨false,1,wsv xs⟩] (. =⟨.tup [.s (.sl 1 0 n),.s (.bool true)],[],[⟨true,1,wsv (Qnd xs a v)⟩]⟩):=by
 have hw:=Qfd xs n a hn ha;rw [qU] at hw;have yO:=Qh4 qU;have gM:=QbC xs n hl (by omega);have hg:=QaX xs (a / 4) (by omega);have GI:=Qlc (xs.getD (a / 4) 0) (a%4*8) v (by omega);have gY:=Qbv xs (a / 4) (sfN (xs.getD (a / 4) 0) (a%4*8) v) (by omega);have FS:(wsv xs).length=n:=by simp [hl]
 have qA:Qaq (wsv xs)=true:=Qaa xs;have JD:Qaq (wsv (Qnd xs a v))=true:=Qaa _;change QaB _ _ _=wsv (Qnd xs a v) at gY;generalize sfN (xs.getD (a / 4) 0) (a%4*8) v=V,wsv (Qnd xs a v)=X2 at *;generalize xs.getD (a / 4) 0=W,wsv xs=X at *;refine fnW Tryz.func228 ?_;(conv=>whnf);(repeat' ((first|exact zi0|refine zj0 fun hb=>?_|(refine Qae (f:=171) hw [⟨0,0⟩] [(0,⟨false,1,X⟩)] rfl ⟨rfl,trivial⟩ ⟨rfl,Qar qA,trivial⟩ ⟨rfl,Qbm⟩ ?_)|(refine Qae (f:=43) gM [⟨0,0⟩] [(0,⟨false,1,X⟩)] rfl ⟨rfl,trivial⟩ ⟨rfl,Qar qA,trivial⟩ ⟨rfl,Qbm⟩ ?_)|(refine Qac (f:=246) (GI) rfl ?_)|refine Qek ?_|(apply Sd.mk; . refine ⟨rfl,rfl,rfl,?_⟩;show _<=X.length;simp;omega)|refine QvU ?_|refine QAk ?_|refine QHy ?_|refine zq7 ?_|refine zs0 ?_|refine zbb ?_ ?_)<;>conv=>whnf))
 all_goals (exact QbL)
def acB (s:Int) (n a:Nat):Bool:=if s=4 then ld4 n a else ld1 n a
def Qc5 (s:Nat):Bool:=decide (s%2=0/\s / 4%2=1)
def szB (sz:Int):Bool:=decide (sz=1\/sz=4)
def rsO (xs:List Nat) (n s r va:Nat) (sz ac:Int):Bool:=QdC ac&&szB sz&&decide ((va:Int)%sz=0)&&(if Qc5 s=true then Qbl xs n r va ac else acB sz n va)
def rsA (xs:List Nat) (n s r va:Nat) (sz ac:Int):Nat:=if rsO xs n s r va sz ac=true then (if Qc5 s=true then frW (QaR xs r va)*128+va%128 else va) else 0
def rsM (xs:List Nat) (n s r va:Nat) (sz ac:Int):List Nat:=if rsO xs n s r va sz ac=true/\Qc5 s=true then xs.set (Qa6 r va / 4) (QbG (xs.getD (Qa6 r va / 4) 0) ac) else xs
def rsK (xs:List Nat) (n s r va:Nat) (sz ac:Int):Int:=if rsO xs n s r va sz ac=true then 0 else if QdC ac=false\/szB sz=false then 5 else if (va:Int)%sz=0 then Qcs ac else 3
theorem Qbh (xs:List Nat) (n s r va:Nat) (sz ac:Int):(rsM xs n s r va sz ac).length=xs.length:=by unfold rsM;split<;>simp
theorem Qc2 (xs:List Nat) (n s r va:Nat) (sz ac:Int) (h:ZL xs):∀ y∈rsM xs n s r va sz ac,y<4294967296:=by
 unfold rsM;split
 .intro y hy
  rcases List.mem_or_eq_of_mem_set hy with h1|h1
  .exact h y h1
  .rw [h1];exact Qlg _ _ (Qab h _)
 .exact h
theorem Qoy (ac:Int):FN 245 [.s (.i ac)] [] (. =⟨.tup [.s (.i (Qcs ac)),.s (.bool (QdC ac))],[],[]⟩):=by
 refine fnW Tryz.func245 ?_;exact QDf
theorem Qly (a:Nat) (ha:ZU a):bits .and .u32 (a:Int) 1=((a%2:Nat):Int):=QaS a 1 ha (by omega)
theorem QuQ (a:Nat) (ha:ZU a):bits .and .u32 (a:Int) 4=((a / 4%2*4:Nat):Int):=by
 rw [show ((4:Int))=((4:Nat):Int) from rfl,Qcz a 4 ha (by omega)];congr 1;apply Nat.eq_of_testBit_eq;intro i;rw [Nat.testBit_and,show a / 4%2*4=2^2*(a / 4%2) by omega,Nat.testBit_two_pow_mul]
 by_cases h:i=2
 .subst h
  rw [show Nat.testBit 4 2=true by decide,Bool.and_true];simp only [Nat.testBit,Nat.shiftRight_eq_div_pow,Nat.one_and_eq_mod_two];simp
 .have h4:Nat.testBit 4 i=false:=by
   rw [show (4:Nat)=2^2 by rfl,Nat.testBit_two_pow];exact zdf (fun e=>h e.symm)
  rw [h4,Bool.and_false]
  by_cases h2:2<=i
  .rw [zdt h2,Bool.true_and]
   have:a / 4%2<2^(i-2):=Nat.lt_of_lt_of_le (Nat.mod_lt _ (by decide)) (by
    calc 2=2^1:=rfl
     _<=2^(i-2):=Nat.pow_le_pow_right (by decide) (by omega))
   exact (Nat.testBit_lt_two_pow this).symm
  .rw [zdf h2,zbf]
theorem Qjd (x:List Nat) (pc:Nat) (c:List Nat) (hx:x.length=16) (hc:c.length=8) (h0:c.getD 0 0<4294967296):FN 186 [.agg (Qax x pc c)] [] (. =⟨.a (.s (.bool (((c.getD 0 0%2:Nat):Int) !=0))),[],[]⟩):=by
 cases QaO hx;obtain ⟨c0,_,_,_,_,_,_,_,rfl⟩:=Qfo hc;have e:=Qly c0 h0;refine fnW Tryz.func186 ?_;(conv=>whnf);(repeat' ((first|exact zi0|refine zj0 fun hb=>?_|(with_reducible refine zv e ?_)|refine zs0 ?_|refine zbb ?_ ?_)<;>conv=>whnf))
 all_goals exact Qam rfl rfl
theorem Qtu (xs:List Nat) (n a:Nat) (sz:Int) (fQ:sz=1\/sz=4) (hl:xs.length=n) (hY:ZL xs) (hn:ZU n) (ha:ZU a):∃ V:Nat,
  FN 110 [.s (.sl 0 0 n),.s (.u a),.s (.i sz)] [⟨false,1,wsv xs⟩] (. =⟨.tup [.s (.u V),.s (.bool (acB sz n a))],[],[]⟩):=by
 rcases fQ with rfl|rfl
 .cases h:ld1 n a with
  | true =>
   rw [show acB 1 n a=true from h];exact ⟨_,Ql3 xs n a hl hY hn ha h⟩
  | false =>
   refine ⟨0,?_⟩;rw [show acB 1 n a=false from h];have hw:=Qfd xs n a hn ha;rw [h] at hw;have hs:=Qaa xs;generalize wsv xs=XX at *;refine fnW Tryz.func110 ?_;(repeat' ((conv=>whnf);first|exact zi2|refine zj0 fun hb=>?_|(refine QaD hw ?_)|refine zse ?_|refine zbb ?_ ?_))
   all_goals exact Qb5
 .exact ⟨_,QfT xs n a hl hn ha⟩
theorem Qao (x:List Nat) (pc:Nat) (c:List Nat) (hx:x.length=16) (hc:c.length=8):(Qax x pc c).length=25:=by
 unfold Qax wsv;simp [hx,hc]
theorem QiG {l l':List SV} (h:Qas l=true) (h':Qas l'=true):Qas (l++l')=true:=by
 induction l with
 | nil=>exact h'
 | cons a l ih =>
  cases a<;>first|exact ih h|cases h
theorem Qag (x:List Nat) (pc:Nat) (c:List Nat):Qas (Qax x pc c)=true:=QiG (Qcr x) (Qcr c)
theorem Qav (x:List Nat) (pc:Nat) (c:List Nat) (A:Nat) (hx:x.length=16) (hA:A<16):(Qax x pc c)[A]?=some (.u (x.getD A 0:Nat)):=by
 unfold Qax;rw [zgl (by rw [wsv_length];omega)];exact QaX x A (by omega)
theorem QaA (x:List Nat) (pc:Nat) (c:List Nat) (hx:x.length=16):(Qax x pc c)[16]?=some (.u (pc:Nat)):=by
 unfold Qax;rw [zgr (by rw [wsv_length];omega),wsv_length,hx];rfl
theorem Qdf (x:List Nat) (pc:Nat) (c:List Nat) (m:Nat) (hx:x.length=16) (hc:c.length=8) (hm:m<8):(Qax x pc c)[17+m]?=some (.u (c.getD m 0:Nat)):=by
 unfold Qax;rw [zgr (by rw [wsv_length];omega),wsv_length,hx,show 17+m-16=m+1 by omega,List.getElem?_cons_succ];exact QaX c m (by omega)
theorem Qcb {c l:List SV} (h:c.length=l.length):QaB c 0 l=l:=QjM (by rw [h];exact Nat.beq_refl _)
theorem QhT (x:List Nat) (pc:Nat) (c:List Nat) (A v:Nat) (hx:x.length=16) (hA:A<16):QaB (Qax x pc c) A [.u (v:Nat)]=Qax (x.set A v) pc c:=by
 show (Qax x pc c).set A _=_;unfold Qax;rw [List.set_append_left _ _ (by rw [wsv_length];omega)];congr 1;exact Qbv x A v (by omega)
theorem QaN (x:List Nat) (pc:Nat) (c:List Nat) (v:Nat) (hx:x.length=16):QaB (Qax x pc c) 16 [.u (v:Nat)]=Qax x v c:=by
 show (Qax x pc c).set 16 _=_;unfold Qax;rw [List.set_append_right _ _ (by rw [wsv_length];omega),wsv_length,hx];rfl
theorem QvO {xs:List Nat} {n r va:Nat} {ac:Int} (h:Qbl xs n r va ac=true) (hn:ZU n):ld4 n (Qa6 r va)=true/\Qa6 r va<4294967296/\r<32:=by
 unfold Qbl at h;simp only [zba,zde] at h;have:=QaT n;unfold ld4 Qa6;simp only [zba,zde];omega
theorem Qd0 (x:List Nat) (pc:Nat) (c:List Nat) (xs:List Nat) (n va:Nat) (sz ac:Int) (hx:x.length=16) (hc:c.length=8) (gM:ZL c) (hl:xs.length=n) (hY:ZL xs) (hn:ZU n) (gV:ZU va) :
  FN 225 [.agg (Qax x pc c),.s (.sl 0 0 n),.s (.u va),.s (.i sz),.s (.i ac)] [⟨false,1,wsv xs⟩]
   (. =⟨.tup [.s (.u (rsA xs n (c.getD 0 0) (c.getD 6 0) va sz ac:Nat)),.s (.sl 1 0 n),.s (.i (rsK xs n (c.getD 0 0) (c.getD 6 0) va sz ac))],[],[⟨true,1,wsv (rsM xs n (c.getD 0 0) (c.getD 6 0) va sz ac)⟩]⟩):=by
 have hs:=Qab gM 0;have hr:=Qab gM 6;have hk:=Qjd x pc c hx hc hs;have g0:=Qdf x pc c 0 hx hc (by decide);have g6:=Qdf x pc c 6 hx hc (by decide);have YX:=Qao x pc c hx hc;have hCs:=Qal x pc c;have hCk:=Qag x pc c;have yZ:=Qoy ac;have vF:=QbC xs n hl (by omega);have b4:=QuQ (c.getD 0 0) hs;generalize c.getD 0 0=S,c.getD 6 0=R,Qax x pc c=C at *;have hw:=Qiw xs n R va ac hl hn hY hr gV;have gK:=Qaa xs;clear gM hx hc
 by_cases wL:QdC ac=true/\szB sz=true
 case neg =>
  have e1:rsO xs n S R va sz ac=false:=by
   unfold rsO
   cases h:QdC ac with
   | false=>rfl
   | true =>
    cases h2:szB sz with
    | false=>rfl
    | true=>exact absurd ⟨h,h2⟩ wL
  have e2:QdC ac=false\/szB sz=false:=by
   cases h:QdC ac with
   | false=>exact .inl rfl
   | true =>
    cases h2:szB sz with
    | false=>exact .inr rfl
    | true=>exact absurd ⟨h,h2⟩ wL
  rw [show rsA xs n S R va sz ac=0 by unfold rsA;rw [e1];rfl,show rsM xs n S R va sz ac=xs by unfold rsM;rw [e1];exact zN (fun h=>by cases h.1),show rsK xs n S R va sz ac=5 by unfold rsK;rw [e1,zN (by decide),zP e2]];have hz:szB sz=false->sz≠1/\sz≠4:=fun h=>by unfold szB at h;simpa using h
  generalize QdC ac=kb,wsv xs=XX at *
  cases kb with
  | false =>
   clear hw hz;refine fnW Tryz.func225 ?_;(conv=>whnf);(repeat' ((first|exact zi2|refine zj0 fun hb=>?_|(refine zpu yZ ?_)|(refine QaD vF ?_)|refine zse ?_|refine zbb ?_ ?_)<;>conv=>whnf))
   all_goals first|(exact QbL)
  | true =>
   obtain ⟨_,_⟩:=hz (by rcases e2 with h|h;cases h;exact h);clear hw;refine fnW Tryz.func225 ?_;(repeat' ((conv=>whnf);first|exact zi2|refine zj0 fun hb=>?_|(refine zpu yZ ?_)|(refine QaD vF ?_)|refine zse ?_|refine zbb ?_ ?_))
   all_goals exact Qcv
 obtain ⟨k1,k2⟩:=wL;rw [k1] at yZ;have fQ:sz=1\/sz=4:=by unfold szB at k2;simpa using k2
 by_cases gZ:(va:Int)%sz=0
 case neg =>
  have e1:rsO xs n S R va sz ac=false:=by unfold rsO;rw [zdf gZ,Bool.and_false];rfl
  rw [show rsA xs n S R va sz ac=0 by unfold rsA;rw [e1];rfl,show rsM xs n S R va sz ac=xs by unfold rsM;rw [e1];exact zN (fun h=>by cases h.1),show rsK xs n S R va sz ac=3 by unfold rsK;rw [e1,zN (by decide),zN (by rw [k1,k2];simp),zN gZ]];obtain rfl:sz=4:=by rcases fQ with rfl|rfl;omega;rfl
  have m1:Int.tmod (va:Int) 4=((va%4:Nat):Int):=QuJ;have m2:va%4≠0:=by omega
  generalize va%4=va4,wsv xs=XX at *;clear hw;refine fnW Tryz.func225 ?_;(repeat' ((conv=>whnf);first|exact zi2|refine zj0 fun hb=>?_|(with_reducible refine zv m1 ?_)|(refine zpu yZ ?_)|(refine QaD vF ?_)|refine zse ?_|refine zbb ?_ ?_))
  all_goals exact Qcv
 obtain ⟨_,qF⟩:=Qtu xs n va sz fQ hl hY hn gV;have m0:Int.tmod (va:Int) sz=0:=by rw [Int.tmod_eq_emod_of_nonneg (by omega)];exact gZ
 cases fZ:Qc5 S with
 | true =>
  obtain ⟨p1,p2⟩:S%2=0/\S / 4%2=1:=by unfold Qc5 at fZ;simpa using fZ
  rw [p1] at hk;replace b4:bits .and .u32 (S:Int) 4=4:=b4.trans (by rw [p2];rfl)
  cases hok:Qbl xs n R va ac with
  | false =>
   have e1:rsO xs n S R va sz ac=false:=by unfold rsO;rw [fZ,hok];simp
   rw [show rsA xs n S R va sz ac=0 by unfold rsA;rw [e1];rfl,show rsM xs n S R va sz ac=xs by unfold rsM;rw [e1];exact zN (fun h=>by cases h.1),show rsK xs n S R va sz ac=Qcs ac by unfold rsK;rw [e1,zN (by decide),zN (by rw [k1,k2];simp),zP gZ]];unfold Qfx at hw;rw [hok,zN (by decide)] at hw;have GQ:Qcs ac≠0:=by unfold Qcs;split;omega;split<;>omega
   generalize Qcs ac=cz,wsv xs=XX at *;rcases fQ with rfl|rfl
   all_goals
    refine fnW Tryz.func225 ?_;(conv=>whnf);(repeat' ((first|exact zi2|refine zj0 fun hb=>?_|refine QGM ?_|((with_reducible apply Ge.mk (α:=SV)); . first|exact g0|exact g6)|refine QAm ?_|(refine zpu yZ ?_)|(refine zpu hk ?_)|(refine QaD hw ?_)|(refine QaD vF ?_)|refine zse ?_|refine zbb ?_ ?_)<;>conv=>whnf))
    all_goals first|(exact QbL)
  | true =>
   have e1:rsO xs n S R va sz ac=true:=by unfold rsO;rw [fZ,hok,k1,k2,zdt gZ];rfl
   obtain ⟨l1,l2,_⟩:=QvO hok hn;have UK:=QjS xs n (Qa6 R va) ac hl hn hY l2 l1;rw [show rsA xs n S R va sz ac=frW (QaR xs R va)*128+va%128 by unfold rsA;rw [e1,zP rfl,fZ,zP rfl],show rsM xs n S R va sz ac=xs.set (Qa6 R va / 4) (QbG (xs.getD (Qa6 R va / 4) 0) ac) by unfold rsM;rw [e1,fZ];exact zP ⟨rfl,rfl⟩,show rsK xs n S R va sz ac=0 by unfold rsK;rw [e1,zP rfl]];unfold Qfx at hw;rw [hok,zP rfl] at hw;have gW:=Qaa (xs.set (Qa6 R va / 4) (QbG (xs.getD (Qa6 R va / 4) 0) ac));generalize wsv (xs.set (Qa6 R va / 4) (QbG (xs.getD (Qa6 R va / 4) 0) ac))=X2 at *;generalize Qa6 R va=E,frW (QaR xs R va)*128+va%128=AA,Qcs ac=cz,wsv xs=XX at *;rcases fQ with rfl|rfl
   all_goals
    refine fnW Tryz.func225 ?_;(conv=>whnf);(repeat' ((first|exact zi2|refine zj0 fun hb=>?_|refine QGM ?_|((with_reducible apply Ge.mk (α:=SV)); . first|exact g0|exact g6)|refine QAm ?_|(refine zpu yZ ?_)|(refine zpu hk ?_)|(refine QaD hw ?_)|(refine QaD UK ?_)|refine zse ?_|refine zbb ?_ ?_)<;>conv=>whnf))
    all_goals first|(exact QbL)
 | false =>
  have hnp:S%2=1\/(S%2=0/\S / 4%2=0):=by unfold Qc5 at fZ;simp at fZ;omega
  have eM:rsM xs n S R va sz ac=xs:=by unfold rsM;rw [fZ];exact zN (fun h=>by cases h.2)
  have eO:rsO xs n S R va sz ac=acB sz n va:=by unfold rsO;rw [fZ,k1,k2,zdt gZ];simp
  have eA:rsA xs n S R va sz ac=if acB sz n va=true then va else 0:=by unfold rsA;rw [eO,fZ];simp
  have eK:rsK xs n S R va sz ac=if acB sz n va=true then 0 else Qcs ac:=QDG
  rw [eM,eA,eK];clear eM eO eA eK hw;generalize Qcs ac=cz,acB sz n va=ok,wsv xs=XX at *;cases ok<;>rcases hnp with p1|⟨p1,p2⟩<;>rcases fQ with rfl|rfl
  all_goals
   rw [p1] at hk
   try (replace b4:bits .and .u32 (S:Int) 4=0:=b4.trans (by rw [p2];rfl))
   refine fnW Tryz.func225 ?_;(repeat' ((conv=>whnf);first|exact zi2|refine zj0 fun hb=>?_|refine QGM ?_|refine QmE ?_|refine QAm ?_|(refine zpu yZ ?_)|(refine zpu hk ?_)|(refine QaD qF ?_)|(refine QaD vF ?_)|refine zse ?_|refine zbb ?_ ?_))
   all_goals exact Qcv
theorem QeY (M:Mc):Qfp M<4294967296:=by
 unfold Qfp;exact (QkS _ _ (QkS _ _ (QkS _ _ (QkS _ _ (QdS _ 0 (by decide)) (QdS _ 1 (by decide))).2 (QdS _ 2 (by decide))).2 (QdS _ 3 (by decide))).2 (QdS _ 4 (by decide))).2
theorem Qq6 (M:Mc) (hM:M.ok):FN 150 [.agg (M.C 0)] [⟨false,1,wsv M.m⟩] (. =⟨.a (.s (.u (Qfp M:Nat))),[],[]⟩):=by
 have p1:=Qk5 M.ta M.td M.tf;have p2:=QkW M.ks;have p3:=QkZ M.d;have p4:=Qk3 M.n;have p5:=QkV M.bt M.bg hM.dv.2.1 hM.dv.2.2.1;have k1:=QeI M.tf 0 (by decide);have k2:=QeI (Qcj M.ks) 1 (by decide);have k3:=QeI (QbO M.d.st) 2 (by decide);have k4:=QeI M.n.re 3 (by decide);have k5:=QeI (QcT M.bt M.bg) 4 (by decide);have o1:=QkS _ _ (QdS M.tf 0 (by decide)) (QdS (Qcj M.ks) 1 (by decide));have o2:=QkS _ _ o1.2 (QdS (QbO M.d.st) 2 (by decide));have o3:=QkS _ _ o2.2 (QdS M.n.re 3 (by decide));have o4:=QkS _ _ o3.2 (QdS (QcT M.bt M.bg) 4 (by decide));replace o1:=o1.1;replace o2:=o2.1;replace o3:=o3.1;replace o4:=o4.1;have gK:=Qaa M.m;unfold Qfp;generalize Qcj M.ks=b2,QbO M.d.st=b3,QcT M.bt M.bg=b5 at *;generalize (((lnN M.tf 0 ||| lnN b2 1) ||| lnN b3 2) ||| lnN M.n.re 3) ||| lnN b5 4=L4 at *;generalize ((lnN M.tf 0 ||| lnN b2 1) ||| lnN b3 2) ||| lnN M.n.re 3=L3 at *;generalize (lnN M.tf 0 ||| lnN b2 1) ||| lnN b3 2=L2 at *;generalize lnN M.tf 0 ||| lnN b2 1=L1 at *;generalize lnN M.tf 0=l0,lnN b2 1=l1,lnN b3 2=l2,lnN M.n.re 3=l3,lnN b5 4=l4 at *;obtain ⟨hx,hc,hY,gA,_,gB,_,gE,gD,_⟩:=hM;obtain ⟨_,_,_,m,ks,ta,td,tf,d,n,bt,bg⟩:=M;dsimp only at *;cases QaO hx;cases zC8 hc;cases d;cases n;dsimp only [Mc.C,Mc.D,Dk.C,Nk.C,Dk.ok,Nk.ok] at *;generalize m.length=nn,wsv m=XX at *;clear hY gA gE gD gB;refine fnW Tryz.func150 ?_;(repeat' ((conv=>whnf);first|exact zi0|refine zj0 fun hb=>?_|(with_reducible first|refine zv o1 ?_|refine zv o2 ?_|refine zv o3 ?_|refine zv o4 ?_)|(refine zpu p1 ?_)|(refine zpu p2 ?_)|(refine zpu p3 ?_)|(refine zpu p4 ?_)|(refine zpu p5 ?_)|(refine zpu k1 ?_)|(refine zpu k2 ?_)|(refine zpu k3 ?_)|(refine zpu k4 ?_)|(refine zpu k5 ?_)|refine zst ?_|refine zbb ?_ ?_))
 all_goals exact Qb5
def QiA (M:Mc):Nat:=Qfp M &&& M.c.getD 7 0
theorem QgF (M:Mc) (hM:M.ok):FN 86 [.agg (M.C 0)] [⟨false,1,wsv M.m⟩] (. =⟨.a (.s (.u (QiA M:Nat))),[],[]⟩):=by
 have hl:=Qq6 M hM;have ha:=Qcz (Qfp M) (M.c.getD 7 0) (QeY M) (Qab hM.cr 7);have gK:=Qaa M.m;unfold QiA;obtain ⟨E,hE⟩:∃ E,Qfp M &&& M.c.getD 7 0=E:=⟨_,rfl⟩;rw [hE] at ha |-;clear hE;generalize Qfp M=L at *;obtain ⟨hx,hc,hY,gA,_,gB,_,gE,gD,_⟩:=hM;obtain ⟨_,_,c,m,_,_,_,_,d,n⟩:=M;dsimp only at *;cases QaO hx;obtain ⟨_,_,_,_,_,_,_,c7,rfl⟩:=Qfo hc;cases d;cases n;dsimp only [Mc.C,Mc.D,Dk.C,Nk.C,Dk.ok,Nk.ok] at *;generalize m.length=nn,wsv m=XX at *;change bits .and .u32 (L:Int) (c7:Int)=(E:Int) at ha;clear hY gA gE gD gB;refine fnW Tryz.func86 ?_;exact QDp
def Qm5 (M:Mc):Bool:=M.wt&&decide (QiA M=0)
theorem QtX (M:Mc) (hM:M.ok):FN 52 [.agg (M.C 0)] [⟨false,1,wsv M.m⟩] (. =⟨.a (.s (.bool (Qm5 M))),[],[]⟩):=by
 have hl:=QgF M hM;have gK:=Qaa M.m;unfold Qm5;generalize QiA M=E at *;obtain ⟨B,hB⟩:∃ B,(M.wt&&decide (E=0))=B:=⟨_,rfl⟩;rw [hB];obtain ⟨hx,hc,hY,gA,_,gB,_,gE,gD,_⟩:=hM;obtain ⟨_,_,_,m,_,_,_,_,d,n,_,_,_,wt⟩:=M;dsimp only at *;cases QaO hx;cases zC8 hc;cases d;cases n;dsimp only [Mc.C,Mc.D,Dk.C,Nk.C,Dk.ok,Nk.ok] at *;generalize m.length=nn,wsv m=XX at *;clear hY gA gE gD gB;cases wt
 all_goals
  refine fnW Tryz.func52 ?_;(conv=>whnf);(repeat' ((first|exact zi2|refine zj0 fun hb=>?_|(refine QaD hl ?_)|refine zse ?_|refine zbb ?_ ?_)<;>conv=>whnf))
  all_goals first
   | (refine QcD ?_ ?_;(focus (exact Qb5));rw [<- hB,zbi];simp;done)
   | (refine QcD ?_ ?_;(focus (exact Qb5));rw [<- hB,zbi];simp;omega)
   | (exfalso;simp at hb;done)
def w32 (z:Int):Nat:=(z%4294967296).toNat
theorem Qau (z:Int):IntKind.u32.wrap z=((w32 z:Nat):Int):=QGs z
theorem QaE (z:Int):w32 z<4294967296:=by unfold w32;omega
def QaC (x:List Nat) (r v:Nat):List Nat:=if r=0 then x else x.set r v
theorem Qay (x:List Nat) (r v:Nat):(QaC x r v).length=x.length:=by unfold QaC;split<;>simp
theorem QgO {xs:List Nat} (h:ZL xs) (j w:Nat) (hw:ZU w):∀ y∈xs.set j w,y<4294967296:=fun y hy=>by
 rcases List.mem_or_eq_of_mem_set hy with h1|h1
 .grind
 .omega
theorem Qds {x:List Nat} (h:ZL x) (r v:Nat) (hv:ZU v):∀ y∈QaC x r v,y<4294967296:=by grind [QaC,QgO]
def wrL (c:List Nat) (csr:Int) (v:Nat):List Nat :=
 if csr=0 then c.set 0 (v%32) else if csr=7 then c.set 7 (v%32) else if csr=6 then c.set 6 (v%256)
 else if csr=1 then c.set 1 (v &&& (4294967295-3)) else if csr=2 then c.set 2 (v &&& (4294967295-3))
 else if csr=3 then c.set 3 v else if csr=4 then c.set 4 v else if csr=5 then c.set 5 v else c
theorem QvP (x:List Nat) (pc:Nat) (c:List Nat) (csr:Int) (v:Nat):wrC x pc c csr v=Qax x pc (wrL c csr v):=by
 unfold wrC wrL
 repeat' split
 all_goals rfl
theorem QgV (c:List Nat) (csr:Int) (v:Nat):(wrL c csr v).length=c.length:=by
 unfold wrL
 repeat' split
 all_goals simp
theorem QCN {c:List Nat} (h:ZL c) (csr:Int) (v:Nat) (hv:ZU v):∀ y∈wrL c csr v,y<4294967296:=by
 have:=Nat.and_le_left (n:=v) (m:=4294967295-3);unfold wrL
 repeat' split
 all_goals first|exact h|exact QgO h _ _ (by omega)
def trL (pc:Nat) (c:List Nat) (cause:Int) (bad:Nat):List Nat:= [Qfb (c.getD 0 0),c.getD 1 0,pc,w32 cause,bad,c.getD 5 0,c.getD 6 0,c.getD 7 0]
theorem Qbk (x:List Nat) (pc:Nat) (c:List Nat) (cause:Int) (bad:Nat):Qzb x pc c cause bad=Qax x (c.getD 1 0) (trL pc c cause bad):=rfl
theorem QgQ {c:List Nat} (h:ZL c) (pc:Nat) (gQ:ZU pc) (cause:Int) (bad:Nat) (hb:ZU bad):∀ y∈trL pc c cause bad,y<4294967296:=fun y hy=>by
 have g:=Qab h;have:=Quu _ (g 0);have:=QaE cause;have:=g 1;have:=g 5;have:=g 6;have:=g 7;simp only [trL,List.mem_cons,List.not_mem_nil,or_false] at hy;omega
def Qc7 (o:Int) (a b:Nat):Bool :=
 if o=40 then decide (a=b) else if o=41 then decide (a≠b) else if o=42 then decide (sgn a<sgn b) else if o=43 then decide (sgn b<=sgn a) else if o=44 then decide (a<b) else decide (b<=a)
def exX (x:List Nat) (pc:Nat) (c:List Nat) (o:Int) (A B C:Nat) (m:Int):List Nat :=
 if 1<=o/\o<=13 then QaC x A (Qbr o (x.getD B 0) (x.getD C 0))
 else if 16<=o/\o<=23 then QaC x A (Qbr o (x.getD B 0) (w32 m))
 else if o=24 then QaC x A (w32 ((w32 m:Nat)*65536))
 else if o=48\/o=49 then QaC x A (w32 ((pc:Int)+4))
 else if o=58 then QaC x A (c.getD m.toNat 0)
 else x
def exP (x:List Nat) (pc:Nat) (c:List Nat) (o:Int) (A B:Nat) (m:Int):Nat :=
 if 40<=o/\o<=45 then (if Qc7 o (x.getD A 0) (x.getD B 0)=true then w32 ((pc:Int)+w32 (4*(w32 m:Nat))) else w32 ((pc:Int)+4))
 else if o=48 then w32 ((pc:Int)+w32 (4*(w32 m:Nat)))
 else if o=49 then w32 ((x.getD B 0:Nat)+(w32 m:Nat))
 else if o=56 then c.getD 1 0 else if o=57 then c.getD 2 0 else w32 ((pc:Int)+4)
def exC (x:List Nat) (pc:Nat) (c:List Nat) (o:Int) (A:Nat) (m:Int):List Nat :=
 if o=56 then trL pc c 7 0 else if o=57 then c.set 0 (QgG (c.getD 0 0)) else if o=59 then wrL c m (x.getD A 0) else c
def exE (x:List Nat) (o:Int) (A:Nat) (m:Int):List SV :=
 if o=60 then [.i 1,.i m,.i (A:Nat),.u (0:Nat)]
 else if o=61 then [.i 2,.i m,.i 0,.u (x.getD A 0:Nat)]
 else if o=62 then [.i 3,.i 0,.i 0,.u (0:Nat)]
 else if o=63 then [.i 5,.i 0,.i 0,.u (0:Nat)]
 else if o=64 then [.i 4,.i 0,.i 0,.u (0:Nat)]
 else [.i 0,.i 0,.i 0,.u (0:Nat)]
theorem QCO (A:Nat):0+0+((A:Nat):Int).toNat * ty23.size=A:=by show 0+0+((A:Nat):Int).toNat * 1=A;omega
end Go.Proofs.YtflaceijiphfdaaGreat
