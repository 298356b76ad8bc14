import Derived.Test.YtpgkkfajljekpabGreatQ11
set_option linter.unusedSimpArgs false
set_option linter.unusedVariables false
set_option maxHeartbeats 0
set_option maxRecDepth 1000000
namespace Go.Proofs.YtpgkkfajljekpabGreat
open Go Go.RowKit
def Qwa (pc:Int):List SV:= [.u 0,.u 0,.u 0,.u 0,.u 0,.u 0,.u 0,.u 0,.u 0,.u 0,.u 0,.u 0,.u 0,.u 0,.u 0,.u 0,.u pc,.u 1,.u 0,.u 0,.u 0,.u 0,.u 0,.u 0,.u 0]
theorem QrH (pc:Int):FN 35 [.s (.u pc)] [] (. =⟨.a (.agg (Qwa pc)),[],[]⟩):=by
 refine fnW Tryz.func35 ?_;exact QDY
theorem QGo (m:Nat) (hm:ZU m):(~~~ (BitVec.ofInt 32 (m:Int))).toNat=4294967295-m:=by
 rw [BitVec.toNat_not,QAs m hm]
theorem Qcz (a b:Nat) (ha:ZU a) (hb:ZU b):bits .andNot .u32 (a:Int) b=((a &&& (4294967295-b):Nat):Int):=by
 have h:a &&& (4294967295-b)<=a:=Nat.and_le_left;show IntKind.u32.wrap (((BitVec.ofInt 32 (a:Int)) &&& ~~~ (BitVec.ofInt 32 (b:Int))).toNat:Int)=_;rw [BitVec.toNat_and,QAs a ha,QGo b hb,Qch];generalize a &&& (4294967295-b)=z at *;omega
theorem QhH (h l i:Nat) (hl:l<32):(32*h+l).testBit i=if i<5 then l.testBit i else h.testBit (i-5):=by
 have:=Nat.testBit_two_pow_mul_add h (i:=5) (show l<2^5 by simpa using hl) i;simpa using this
theorem Qv2 {l i:Nat} (hl:l<32) (hi:¬ i<5):l.testBit i=false :=
 Nat.testBit_lt_two_pow (Nat.lt_of_lt_of_le (show l<2^5 by simpa using hl) (Nat.pow_le_pow_right (by omega) (by omega)))
theorem or5 {a b:Nat} (ha:a<32) (hb:b<32):a ||| b<32:=Nat.or_lt_two_pow (n:=5) ha hb
theorem QFw {a b:Nat} (ha:a<32):a &&& b<32:=Nat.lt_of_le_of_lt Nat.and_le_left ha
theorem QEW {c:Prop} [Decidable c] {a b:Nat} (ha:a<32) (hb:b<32):(if c then a else b)<32:=by split<;>assumption
theorem QgM (h l m:Nat) (hl:l<32) (hm:m<32):(32*h+l) &&& m=l &&& m:=by
 apply Nat.eq_of_testBit_eq;intro i;rw [Nat.testBit_and,Nat.testBit_and,QhH h l i hl]
 by_cases hi:i<5
 .rw [zP hi]
 .rw [zN hi,Qv2 hm hi];simp
theorem Qld (h l m:Nat) (hl:l<32) (hm:m<32):(32*h+l) ||| m=32*h+(l ||| m):=by
 have YQ:l ||| m<32:=Nat.or_lt_two_pow (n:=5) (by simpa using hl) (by simpa using hm);apply Nat.eq_of_testBit_eq;intro i;rw [Nat.testBit_or,QhH h l i hl,QhH h _ i YQ,Nat.testBit_or]
 by_cases hi:i<5
 .rw [zP hi,zP hi]
 .rw [zN hi,zN hi,Qv2 hm hi];simp
theorem QjE (h l m:Nat) (hl:l<32) (hm:m<32) (hs:32*h+l<4294967296):(32*h+l) &&& (4294967295-m)=32*h+(l &&& (31-m)):=by
 have YQ:l &&& (31-m)<32:=Nat.lt_of_le_of_lt Nat.and_le_left hl;have e:4294967295-m=32*134217727+(31-m):=by omega
 apply Nat.eq_of_testBit_eq;intro i;rw [e,Nat.testBit_and,QhH h l i hl,QhH _ _ i (by omega),QhH h _ i YQ,Nat.testBit_and]
 by_cases hi:i<5
 .simp only [zP hi]
 .simp only [zN hi]
  rw [show (134217727:Nat)=2^27-1 from rfl,Nat.testBit_two_pow_sub_one]
  by_cases h2:i-5<27
  .simp [h2]
  .have:h.testBit (i-5)=false:=Nat.testBit_lt_two_pow (Nat.lt_of_lt_of_le (show h<2^27 by simp;omega) (Nat.pow_le_pow_right (by omega) (by omega)))
   rw [this];simp
def mvN (s f t:Nat):Nat:=if s &&& f=0 then s &&& (4294967295-t) else s ||| t
theorem Qq2 (s f t:Nat) (hs:ZU s) (ht:ZU t):mvN s f t<4294967296:=by
 unfold mvN;split
 .exact Nat.lt_of_le_of_lt Nat.and_le_left hs
 .exact Nat.or_lt_two_pow (n:=32) (by simpa using hs) (by simpa using ht)
theorem Qit (s f t:Nat) (hs:ZU s) (hf:ZU f) (ht:ZU t):FN 248 [.s (.u s),.s (.u f),.s (.u t)] [] (. =⟨.a (.s (.u (mvN s f t:Nat))),[],[]⟩):=by
 refine fnW Tryz.func248 ?_;(conv=>whnf);(repeat' ((first|exact zi0|refine zj0 fun hb=>?_|((with_reducible apply Vl.mk (α:=Int)); . first|exact Qh2 s f hs hf|exact Qv6 s t hs ht|exact Qcz s t hs ht)|refine zs0 ?_|refine zbb ?_ ?_)<;>conv=>whnf))
 all_goals
  apply Qam
  (focus rfl)
  simp only [Qbc,mvN]
  first
   | (rw [zP (by omega)];done)
   | (rw [zN (by omega)];done)
def Qfq (s:Nat):Nat:=32*(s / 32)+(1+4*(s / 4%2)+8*(s%2)+16*(s / 2%2))
def QgZ (s:Nat):Nat:=32*(s / 32)+(s / 8%2+2*(s / 16%2)+4*(s / 4%2)+8*(s / 8%2)+16*(s / 16%2))
theorem QuZ (s:Nat) (hs:ZU s):Qfq s<4294967296:=by unfold Qfq;omega
theorem QyC (s:Nat) (hs:ZU s):QgZ s<4294967296:=by unfold QgZ;omega
theorem Qt9 (h l f t:Nat) (hl:l<32) (hf:f<32) (ht:t<32) (hs:32*h+l<4294967296):mvN (32*h+l) f t=32*h+(if l &&& f=0 then l &&& (31-t) else l ||| t):=by
 unfold mvN;rw [QgM h l f hl hf,Qld h l t hl ht,QjE h l t hl ht hs];split<;>rfl
theorem Qq3 (l f t:Nat) (hl:l<32) (ht:t<32):(if l &&& f=0 then l &&& (31-t) else l ||| t)<32:=by
 split
 .exact Nat.lt_of_le_of_lt Nat.and_le_left hl
 .exact Nat.or_lt_two_pow (n:=5) (by simpa using hl) (by simpa using ht)
theorem Qu0:∀ l:Nat,l<32->((if (if l &&& 1=0 then l &&& (31-8) else l ||| 8) &&& 2=0 then (if l &&& 1=0 then l &&& (31-8) else l ||| 8) &&& (31-16) else (if l &&& 1=0 then l &&& (31-8) else l ||| 8) ||| 16) ||| 1) &&& (31-2)=1+4*(l / 4%2)+8*(l%2)+16*(l / 2%2):=by decide
theorem QyD:∀ l:Nat,l<32->(if (if l &&& 8=0 then l &&& (31-1) else l ||| 1) &&& 16=0 then (if l &&& 8=0 then l &&& (31-1) else l ||| 1) &&& (31-2) else (if l &&& 8=0 then l &&& (31-1) else l ||| 1) ||| 2)=l / 8%2+2*(l / 16%2)+4*(l / 4%2)+8*(l / 8%2)+16*(l / 16%2):=by decide
theorem QrK:∀ l:Nat,l<32->((((l &&& (31-24)) ||| (if l &&& 1=0 then 0 else 8)) ||| (if l &&& 2=0 then 0 else 16)) &&& (31-2)) ||| 1=1+4*(l / 4%2)+8*(l%2)+16*(l / 2%2):=by decide
theorem Quz:∀ l:Nat,l<32->((l &&& (31-3)) ||| (if l &&& 8=0 then 0 else 1)) ||| (if l &&& 16=0 then 0 else 2)=l / 8%2+2*(l / 16%2)+4*(l / 4%2)+8*(l / 8%2)+16*(l / 16%2):=by decide
theorem QhR (s:Nat):∃ h l,l<32/\s=32*h+l:=⟨s / 32,s%32,Nat.mod_lt _ (by omega),by omega⟩
theorem QzG (s:Nat) (hs:ZU s):(mvN (mvN s 1 8) 2 16 ||| 1) &&& (4294967295-2)=Qfq s:=by
 obtain ⟨h,l,hl,rfl⟩:=QhR s;have k1:=Qq3 l 1 8 hl (by omega);have k2:=Qq3 _ 2 16 k1 (by omega);have k3:=or5 k2 (show 1<32 by omega);rw [Qt9 h l 1 8 hl (by omega) (by omega) hs,Qt9 h _ 2 16 k1 (by omega) (by omega) (by omega),Qld h _ 1 k2 (by omega),QjE h _ 2 k3 (by omega) (by omega),Qu0 l hl];unfold Qfq;omega
theorem QCI (s:Nat) (hs:ZU s):mvN (mvN s 8 1) 16 2=QgZ s:=by
 obtain ⟨h,l,hl,rfl⟩:=QhR s;have k1:=Qq3 l 8 1 hl (by omega);rw [Qt9 h l 8 1 hl (by omega) (by omega) hs,Qt9 h _ 16 2 k1 (by omega) (by omega) (by omega),QyD l hl];unfold QgZ;omega
theorem QuD (s:Nat) (hs:ZU s):((((s &&& (4294967295-24)) ||| (if s &&& 1=0 then 0 else 8)) ||| (if s &&& 2=0 then 0 else 16)) &&& (4294967295-2)) ||| 1=Qfq s:=by
 obtain ⟨h,l,hl,rfl⟩:=QhR s;have k0:l &&& (31-24)<32:=QFw hl;have i1:(if l &&& 1=0 then 0 else 8)<32:=QEW (by omega) (by omega);have i2:(if l &&& 2=0 then 0 else 16)<32:=QEW (by omega) (by omega);have k1:=or5 k0 i1;have k2:=or5 k1 i2;rw [QgM h l 1 hl (by omega),QgM h l 2 hl (by omega),QjE h l 24 hl (by omega) hs,Qld h _ _ k0 i1,Qld h _ _ k1 i2,QjE h _ 2 k2 (by omega) (by omega),Qld h _ 1 (QFw k2) (by omega),QrK l hl];unfold Qfq;omega
theorem QyS (s:Nat) (hs:ZU s):((s &&& (4294967295-3)) ||| (if s &&& 8=0 then 0 else 1)) ||| (if s &&& 16=0 then 0 else 2)=QgZ s:=by
 obtain ⟨h,l,hl,rfl⟩:=QhR s;have k0:l &&& (31-3)<32:=QFw hl;have i1:(if l &&& 8=0 then 0 else 1)<32:=QEW (by omega) (by omega);have i2:(if l &&& 16=0 then 0 else 2)<32:=QEW (by omega) (by omega);have k1:=or5 k0 i1;rw [QgM h l 8 hl (by omega),QgM h l 16 hl (by omega),QjE h l 3 hl (by omega) hs,Qld h _ _ k0 i1,Qld h _ _ k1 i2,Quz l hl];unfold QgZ;omega
def Qay (x:List Nat) (pc:Nat) (c:List Nat):List SV:=wsv x++(.u pc::wsv c)
theorem Qem {x:List Nat} (h:x.length=16):∃ x0 x1 x2 x3 x4 x5 x6 x7 x8 x9 x10 x11 x12 x13 x14 x15:Nat,x= [x0,x1,x2,x3,x4,x5,x6,x7,x8,x9,x10,x11,x12,x13,x14,x15]:=by
 match x,h with
 | [x0,x1,x2,x3,x4,x5,x6,x7,x8,x9,x10,x11,x12,x13,x14,x15],_=>exact ⟨x0,x1,x2,x3,x4,x5,x6,x7,x8,x9,x10,x11,x12,x13,x14,x15,rfl⟩
theorem QfC {x:List Nat} (h:x.length=8):∃ x0 x1 x2 x3 x4 x5 x6 x7:Nat,x= [x0,x1,x2,x3,x4,x5,x6,x7]:=by
 match x,h with
 | [x0,x1,x2,x3,x4,x5,x6,x7],_=>exact ⟨x0,x1,x2,x3,x4,x5,x6,x7,rfl⟩
inductive L16:List Nat->Prop
 | mk (a b c d e f g h i j k l m n o p:Nat):L16 [a,b,c,d,e,f,g,h,i,j,k,l,m,n,o,p]
inductive L8:List Nat->Prop
 | mk (a b c d e f g h:Nat):L8 [a,b,c,d,e,f,g,h]
theorem QaJ {l:List Nat} (h:l.length=16):L16 l:=by
 obtain ⟨a,b,c,d,e,f,g,h,i,j,k,l,m,n,o,p,rfl⟩:=Qem h;exact .mk ..
theorem zC8 {l:List Nat} (h:l.length=8):L8 l:=by
 obtain ⟨a,b,c,d,e,f,g,h,rfl⟩:=QfC h;exact .mk ..
def QzF (x:List Nat) (pc:Nat) (c:List Nat) (cause:Int) (bad:Nat):List SV :=
 Qay x (c.getD 1 0) [Qfq (c.getD 0 0),c.getD 1 0,pc,(cause%4294967296).toNat,bad,c.getD 5 0,c.getD 6 0,c.getD 7 0]
def QE4 (x:List Nat) (pc:Nat) (c:List Nat):List SV:=Qay x (c.getD 2 0) (c.set 0 (QgZ (c.getD 0 0)))
theorem QG5 (z:Int):IntKind.u32.wrap z=((z%4294967296).toNat:Int):=by rw [Qch];omega
theorem Qes (x:List Nat) (pc:Nat) (c:List Nat) (cause:Int) (bad:Nat) (hx:x.length=16) (hc:c.length=8) (gK:ZL c):FN 203 [.agg (Qay x pc c),.s (.i cause),.s (.u bad)] [] (. =⟨.a (.agg (QzF x pc c cause bad)),[],[]⟩):=by
 obtain ⟨x0,x1,x2,x3,x4,x5,x6,x7,x8,x9,x10,x11,x12,x13,x14,x15,rfl⟩:=Qem hx;obtain ⟨c0,c1,_,_,_,c5,c6,c7,rfl⟩:=QfC hc;have h0:c0<4294967296:=gK c0 (by simp);have m1:=Qq2 c0 1 8 h0 (by omega);have m2:=Qq2 _ 2 16 m1 (by omega);have m3:mvN (mvN c0 1 8) 2 16 ||| 1<4294967296:=Nat.or_lt_two_pow (n:=32) m2 (by omega);have e1:bits .or .u32 ((mvN (mvN c0 1 8) 2 16:Nat):Int) 1=((mvN (mvN c0 1 8) 2 16 ||| 1:Nat):Int):=Qv6 _ 1 m2 (by omega);have e2:bits .andNot .u32 ((mvN (mvN c0 1 8) 2 16 ||| 1:Nat):Int) 2=((Qfq c0:Nat):Int):=by rw [<- QzG c0 h0];exact Qcz _ 2 m3 (by omega)
 have f1:=Qit c0 1 8 h0 (by omega) (by omega);have f2:=Qit (mvN c0 1 8) 2 16 m1 (by omega) (by omega);show Fn _ _ [.agg _,_,_] [] (. =⟨.a (.agg (Qay [x0,x1,x2,x3,x4,x5,x6,x7,x8,x9,x10,x11,x12,x13,x14,x15] c1 [Qfq c0,c1,pc,(cause%4294967296).toNat,bad,c5,c6,c7])),[],[]⟩);generalize Qfq c0=tS,mvN (mvN c0 1 8) 2 16=M2 at *;generalize mvN c0 1 8=M1,M2 ||| 1=M3 at *;refine fnW Tryz.func203 ?_;(conv=>whnf);(repeat' ((first|exact zi0|refine zj0 fun hb=>?_|(refine Qad (f:=248) (f1) rfl ?_)|(refine Qad (f:=248) (f2) rfl ?_)|(with_reducible first|refine zv e1 ?_|refine zv e2 ?_|refine zv (QG5 _) ?_)|refine zs0 ?_|refine zbb ?_ ?_)<;>conv=>whnf))
 all_goals exact Qam rfl rfl
theorem QEK (k z:Nat) (hk:ZU k):IntKind.u32.wrap ((k:Int)*(if ((z:Nat):Int) !=0 then 1 else 0))=((if z=0 then 0 else k:Nat):Int):=by
 by_cases h:z=0
 .subst h;rfl
 .have h2:((z:Nat):Int)≠0:=by omega
  rw [zN h,zP (by simpa using h2),Qch];omega
theorem Qc5 (x:List Nat) (pc:Nat) (c:List Nat) (cause:Int) (bad:Nat) (hx:x.length=16) (hc:c.length=8) (gK:ZL c):FN 96 [.agg (Qay x pc c),.s (.i cause),.s (.u bad)] [] (. =⟨.a (.agg (QzF x pc c cause bad)),[],[]⟩):=by
 cases QaJ hx;obtain ⟨c0,_,_,_,_,_,_,_,rfl⟩:=QfC hc;have h0:c0<4294967296:=gK c0 (by simp);have h1:c0 &&& (4294967295-24)<4294967296:=Nat.lt_of_le_of_lt Nat.and_le_left h0;have i1:(if c0 &&& 1=0 then 0 else 8)<4294967296:=by split<;>omega
 have i2:(if c0 &&& 2=0 then 0 else 16)<4294967296:=by split<;>omega
 have h2:=Nat.or_lt_two_pow (n:=32) h1 i1;have h3:=Nat.or_lt_two_pow (n:=32) h2 i2;have h4:=Nat.lt_of_le_of_lt (Nat.and_le_left (m:=4294967295-2)) h3;have e1:bits .andNot .u32 (c0:Int) 24=((c0 &&& (4294967295-24):Nat):Int):=Qcz c0 24 h0 (by omega);have e2:bits .and .u32 (c0:Int) 1=((c0 &&& 1:Nat):Int):=Qh2 c0 1 h0 (by omega);have e3:bits .and .u32 (c0:Int) 2=((c0 &&& 2:Nat):Int):=Qh2 c0 2 h0 (by omega);have e4:=Qv6 _ _ h1 i1;have e5:=Qv6 _ _ h2 i2;have e6:bits .andNot .u32 _ 2=_:=Qcz _ 2 h3 (by omega);have e7:bits .or .u32 _ 1=_:=Qv6 _ 1 h4 (by omega);rw [QuD c0 h0] at e7;have b1:IntKind.u32.wrap (8*(if ((c0 &&& 1:Nat):Int) !=0 then 1 else 0))=((if c0 &&& 1=0 then 0 else 8:Nat):Int):=QEK 8 _ (by omega);have b2:IntKind.u32.wrap (16*(if ((c0 &&& 2:Nat):Int) !=0 then 1 else 0))=((if c0 &&& 2=0 then 0 else 16:Nat):Int):=QEK 16 _ (by omega);refine fnW Tryz.func96 ?_;(conv=>whnf);(repeat' ((first|exact zi0|refine zj0 fun hb=>?_|(refine Qad (f:=164) (QoO _) rfl ?_)|(with_reducible first|refine zv e1 ?_|refine zv e2 ?_|refine zv e3 ?_|refine zv e4 ?_|refine zv e5 ?_|refine zv e6 ?_|refine zv e7 ?_|refine zv b1 ?_|refine zv b2 ?_|refine zv (QG5 _) ?_)|refine zs0 ?_|refine zbb ?_ ?_)<;>conv=>whnf))
 all_goals exact Qam rfl rfl
theorem QCH (x:List Nat) (pc:Nat) (c:List Nat) (hx:x.length=16) (hc:c.length=8) (gK:ZL c):FN 254 [.agg (Qay x pc c)] [] (. =⟨.a (.agg (QE4 x pc c)),[],[]⟩):=by
 cases QaJ hx;obtain ⟨c0,_,_,_,_,_,_,_,rfl⟩:=QfC hc;have h0:c0<4294967296:=gK c0 (by simp);have m1:=Qq2 c0 8 1 h0 (by omega);have e1:mvN (mvN c0 8 1) 16 2=QgZ c0:=QCI c0 h0;have f2:=Qit (mvN c0 8 1) 16 2 m1 (by omega) (by omega);rw [e1] at f2;refine fnW Tryz.func254 ?_;(conv=>whnf);(repeat' ((first|exact zi0|refine zj0 fun hb=>?_|(refine Qad (f:=248) (Qit c0 8 1 h0 (by omega) (by omega)) rfl ?_)|(refine Qad (f:=248) (f2) rfl ?_)|refine zs0 ?_|refine zbb ?_ ?_)<;>conv=>whnf))
 all_goals exact Qam rfl rfl
theorem QyR (x:List Nat) (pc:Nat) (c:List Nat) (hx:x.length=16) (hc:c.length=8) (gK:ZL c):FN 170 [.agg (Qay x pc c)] [] (. =⟨.a (.agg (QE4 x pc c)),[],[]⟩):=by
 cases QaJ hx;obtain ⟨c0,_,_,_,_,_,_,_,rfl⟩:=QfC hc;have h0:c0<4294967296:=gK c0 (by simp);have h1:c0 &&& (4294967295-3)<4294967296:=Nat.lt_of_le_of_lt Nat.and_le_left h0;have i1:(if c0 &&& 8=0 then 0 else 1)<4294967296:=by split<;>omega
 have i2:(if c0 &&& 16=0 then 0 else 2)<4294967296:=by split<;>omega
 have h2:=Nat.or_lt_two_pow (n:=32) h1 i1;have e1:bits .andNot .u32 (c0:Int) 3=((c0 &&& (4294967295-3):Nat):Int):=Qcz c0 3 h0 (by omega);have e2:bits .and .u32 (c0:Int) 8=((c0 &&& 8:Nat):Int):=Qh2 c0 8 h0 (by omega);have e3:bits .and .u32 (c0:Int) 16=((c0 &&& 16:Nat):Int):=Qh2 c0 16 h0 (by omega);have e4:=Qv6 _ _ h1 i1;have e5:=Qv6 _ _ h2 i2;rw [QyS c0 h0] at e5;have b1:IntKind.u32.wrap (1*(if ((c0 &&& 8:Nat):Int) !=0 then 1 else 0))=((if c0 &&& 8=0 then 0 else 1:Nat):Int):=QEK 1 _ (by omega);have b2:IntKind.u32.wrap (2*(if ((c0 &&& 16:Nat):Int) !=0 then 1 else 0))=((if c0 &&& 16=0 then 0 else 2:Nat):Int):=QEK 2 _ (by omega);refine fnW Tryz.func170 ?_;(conv=>whnf);(repeat' ((first|exact zi0|refine zj0 fun hb=>?_|(refine Qad (f:=164) (QoO _) rfl ?_)|(with_reducible first|refine zv e1 ?_|refine zv e2 ?_|refine zv e3 ?_|refine zv e4 ?_|refine zv e5 ?_|refine zv b1 ?_|refine zv b2 ?_)|refine zs0 ?_|refine zbb ?_ ?_)<;>conv=>whnf))
 all_goals exact Qam rfl rfl
def wrC (x:List Nat) (pc:Nat) (c:List Nat) (csr:Int) (v:Nat):List SV :=
 if csr=0 then Qay x pc (c.set 0 (v%32)) else if csr=7 then Qay x pc (c.set 7 (v%32)) else if csr=6 then Qay x pc (c.set 6 (v%256))
 else if csr=1 then Qay x pc (c.set 1 (v &&& (4294967295-3))) else if csr=2 then Qay x pc (c.set 2 (v &&& (4294967295-3)))
 else if csr=3 then Qay x pc (c.set 3 v) else if csr=4 then Qay x pc (c.set 4 v) else if csr=5 then Qay x pc (c.set 5 v) else Qay x pc c
theorem Qu7 (x:List Nat) (pc:Nat) (c:List Nat) (csr:Int) (v:Nat) (hx:x.length=16) (hc:c.length=8) (hv:ZU v):FN 255 [.agg (Qay x pc c),.s (.i csr),.s (.u v)] [] (. =⟨.a (.agg (wrC x pc c csr v)),[],[]⟩):=by
 cases QaJ hx;cases zC8 hc;have e1:bits .and .u32 (v:Int) 31=((v%32:Nat):Int):=Qbm v 5 hv (by omega);have e2:bits .and .u32 (v:Int) 255=((v%256:Nat):Int):=Qbm v 8 hv (by omega);have e3:bits .andNot .u32 (v:Int) 3=((v &&& (4294967295-3):Nat):Int):=Qcz v 3 hv (by omega);have hcs:(csr=0\/csr=1\/csr=2\/csr=3\/csr=4\/csr=5\/csr=6\/csr=7)\/(csr<0\/7<csr):=by omega
 rcases hcs with (rfl|rfl|rfl|rfl|rfl|rfl|rfl|rfl)|hcs
 rotate_right
 .have e:∀ x pc c,wrC x pc c csr v=Qay x pc c:=fun x pc c=>by
   unfold wrC;repeat rw [zN (by omega)]
  rw [e];refine fnW Tryz.func255 ?_;(conv=>whnf);(repeat' ((first|exact zi0|refine zj0 fun hb=>?_|refine zs0 ?_|refine zbb ?_ ?_)<;>conv=>whnf))
  all_goals exact Qam rfl rfl
 all_goals
  refine fnW Tryz.func255 ?_;(conv=>whnf);(repeat' ((first|exact zi0|refine zj0 fun hb=>?_|refine QAN ?_|refine zs0 ?_|refine zbb ?_ ?_)<;>conv=>whnf))
  all_goals exact Qam rfl rfl
theorem QrP (x:List Nat) (pc:Nat) (c:List Nat) (csr:Int) (v:Nat) (hx:x.length=16) (hc:c.length=8) (hv:ZU v):FN 171 [.agg (Qay x pc c),.s (.i csr),.s (.u v)] [] (. =⟨.a (.agg (wrC x pc c csr v)),[],[]⟩):=by
 cases QaJ hx;cases zC8 hc;have e1:bits .and .u32 (v:Int) 31=((v%32:Nat):Int):=Qbm v 5 hv (by omega);have e2:bits .and .u32 (v:Int) 255=((v%256:Nat):Int):=Qbm v 8 hv (by omega);have e3:bits .andNot .u32 (v:Int) 3=((v &&& (4294967295-3):Nat):Int):=Qcz v 3 hv (by omega);have hcs:(csr=0\/csr=1\/csr=2\/csr=3\/csr=4\/csr=5\/csr=6\/csr=7)\/(csr<0\/7<csr):=by omega
 rcases hcs with (rfl|rfl|rfl|rfl|rfl|rfl|rfl|rfl)|hcs
 rotate_right
 .have e:∀ x pc c,wrC x pc c csr v=Qay x pc c:=fun x pc c=>by
   unfold wrC;repeat rw [zN (by omega)]
  rw [e];refine fnW Tryz.func171 ?_;(conv=>whnf);(repeat' ((first|exact zi0|refine zj0 fun hb=>?_|refine zs0 ?_|refine zbb ?_ ?_)<;>conv=>whnf))
  all_goals exact Qam rfl rfl
 all_goals
  refine fnW Tryz.func171 ?_;(conv=>whnf);(repeat' ((first|exact zi0|refine zj0 fun hb=>?_|refine QAN ?_|refine zs0 ?_|refine zbb ?_ ?_)<;>conv=>whnf))
  all_goals exact Qam rfl rfl
theorem Qal (x:List Nat) (pc:Nat) (c:List Nat):Qao (Qay x pc c)=true:=Qa2 (Qaa x) (Qaa c)
def QF5:List SK:= [.int,.int,.int,.int,.int,.int,.int,.int,.int,.int,.int,.int,.int,.int,.int,.int,.int,.int,.int,.int,.int,.int,.int,.int,.int]
theorem Qtf (x:List Nat) (pc:Nat) (c:List Nat) (hx:x.length=16) (hc:c.length=8):QaQ QF5 (Qay x pc c) (Qay x pc c)=some true:=by
 cases QaJ hx;cases zC8 hc;simp [Qay,wsv,QF5,QaQ,eqS,kEq]
structure Dk where
 (bs bl fr:Nat) (st cmd:Int) (ob of_:Nat) (od:ByteArray)
structure Nk where
 (fr ln:Nat) (po:Bool) (bu:Nat) (re:Bool) (go_:Nat)
structure Mc where
 (x:List Nat) (pc:Nat) (c:List Nat) (m:List Nat) (ks:ByteArray) (ta:Bool) (td:Nat) (tf:Bool) (d:Dk) (n:Nk) (bt bg ct:Nat) (wt ht:Bool)
def Dk.C (d:Dk):List SV:= [.u d.bs,.u d.bl,.u d.fr,.i d.st,.i d.cmd,.u d.ob,.u d.of_,.str d.od]
def Nk.C (n:Nk):List SV:= [.u n.fr,.u n.ln,.bool n.po,.u n.bu,.bool n.re,.u n.go_]
def Mc.D (M:Mc):List SV:= .str M.ks:: .bool M.ta:: .u M.td:: .bool M.tf::(M.d.C++(M.n.C++ [.u M.bt,.u M.bg,.w M.ct,.bool M.wt,.bool M.ht]))
def Mc.C (M:Mc) (k:Nat):List SV:=Qay M.x M.pc M.c++(.sl k 0 M.m.length::M.D)
def Dk.ok (d:Dk):Prop:=d.bs<4294967296/\d.bl<4294967296/\d.fr<4294967296/\d.ob<4294967296/\d.of_<4294967296/\d.od.size<=1000000/\(Lit.int .i64 d.st).wf=true/\(Lit.int .i64 d.cmd).wf=true
def Nk.ok (n:Nk):Prop:=n.fr<4294967296/\n.ln<4294967296/\n.bu<4294967296/\n.go_<4294967296
structure Mc.ok (M:Mc):Prop where
 (x:M.x.length=16) (c:M.c.length=8) (xr:ZL M.x) (cr:ZL M.c) (pr:M.pc<4294967296) (mr:ZL M.m) (ml:M.m.length<=1000000) (dk:M.d.ok) (nk:M.n.ok) (dv:M.td<4294967296/\M.bt<4294967296/\M.bg<4294967296/\M.ct<18446744073709551616/\M.ks.size<=1000000)
theorem Qri (M:Mc) (hM:M.ok):FN 23 [.agg (M.C 0)] [⟨false,1,wsv M.m⟩] (. =⟨.a (.agg (M.C 1)),[],[⟨true,1,wsv M.m⟩]⟩):=by
 have hco:=Qtd M.m _ rfl (by have:=hM.ml;omega);have gL:=Qaa M.m;obtain ⟨hx,hc⟩:=hM;obtain ⟨_,_,_,m,_,_,_,_,⟨_,d1,d2,d3,d4,d5,d6,d7⟩,⟨_,_,_,_,_,_⟩,_,_,_,_,_⟩:=M;dsimp only at *;cases QaJ hx;cases zC8 hc;generalize hn:m.length=n,wsv m=XX at *;dsimp only [Mc.C,Mc.D,Dk.C,Nk.C];rw [hn];refine fnW Tryz.func23 ?_;(repeat' ((conv=>whnf);first|exact zi0|refine zj0 fun hb=>?_|(refine QaA hco ?_)|refine zst ?_|refine zbb ?_ ?_))
 all_goals exact QbJ
def Qb7 (k:ByteArray):Bool:=decide ((k.size:Int)<=16)
def Qd7 (a:Bool) (d:Nat) (f:Bool):Bool:=decide (¬ (a=true/\f=true)/\(a=true->d≠0)/\(a=false->f=false->d=0))
def QbS (s:Int):Bool:=decide (s=2\/s=3)
def noD (b:ByteArray):Bool:=b.toList==(⟨#[]⟩:ByteArray).toList
def QbP (d:Dk) (p:Int):Bool:=decide (d.bs<=64/\0<=d.st/\d.st<=3/\(d.st≠1->d.cmd=0/\d.ob=0/\d.of_=0/\noD d.od=true)/\(d.st=1->d.ob<d.bs/\(d.of_:Int)<p/\(d.cmd=1/\noD d.od=true\/d.cmd=2/\d.od.size=128)))
def Qb8 (n:Nk) (p:Int):Bool:=decide ((n.po=true->n.re=false/\(n.bu:Int)<p)/\(n.po=false->n.bu=0)/\(n.re=true->1<=n.go_/\n.go_<=128)/\(n.re=false->n.go_=0))
theorem QcJ {H:List Row} {v w:Bool} {σ:St} (h:Fin H (. =⟨.a (.s (.bool v)),[],[]⟩) σ (.a (.s (.bool v)))) (e:w=v):Fin H (. =⟨.a (.s (.bool v)),[],[]⟩) σ (.a (.s (.bool w))):=by subst e;exact h
theorem QnF (k:ByteArray):FN 71 [.agg [.str k]] [] (. =⟨.a (.s (.bool (Qb7 k))),[],[]⟩):=by
 unfold Qb7;refine fnW Tryz.func71 ?_;exact QlZ
theorem QnS (a:Bool) (d:Nat) (f:Bool):FN 72 [.agg [.bool a,.u d,.bool f]] [] (. =⟨.a (.s (.bool (Qd7 a d f))),[],[]⟩):=by
 cases a<;>cases f
 all_goals
  refine fnW Tryz.func72 ?_;exact QEy
theorem QnH (d:Dk) (hd:d.ok) (p:Int):FN 73 [.agg d.C,.s (.i p)] [] (. =⟨.a (.s (.bool (QbP d p))),[],[]⟩):=by
 cases hd;obtain ⟨bs,bl,fr,st,cmd,ob,of_,od⟩:=d;dsimp only at *;dsimp only [Dk.C];generalize hB:QbP ⟨bs,bl,fr,st,cmd,ob,of_,od⟩ p=B;unfold QbP at hB;dsimp only at hB;have qH:(od.toList==(⟨#[]⟩:ByteArray).toList)=noD od:=rfl;generalize noD od=nd at *;refine fnW Tryz.func73 ?_;exact QDN
theorem QnQ (n:Nk) (hn:n.ok) (p:Int):FN 74 [.agg n.C,.s (.i p)] [] (. =⟨.a (.s (.bool (Qb8 n p))),[],[]⟩):=by
 cases hn;obtain ⟨fr,ln,po,bu,re,go_⟩:=n;dsimp only at *;dsimp only [Nk.C];generalize hB:Qb8 ⟨fr,ln,po,bu,re,go_⟩ p=B;unfold Qb8 at hB;dsimp only at hB;cases po<;>cases re
 all_goals
  refine fnW Tryz.func74 ?_;exact QEz
def QbL (b:Nat):Nat->Nat
 | 0=>0
 | j+1=>QbL b j+b / 2^j%2
theorem Qb5 (b:Nat):∀ j,QbL b j<=j
 | 0=>Nat.le_refl _
 | j+1=>by have:=Qb5 b j;unfold QbL;omega
theorem Qi3 (a:Nat) (ha:ZU a):bits .and .u32 (a:Int) 1=((a%2:Nat):Int):=Qbm a 1 ha (by omega)
theorem Qn3 (b j:Nat) (hj:j<32):(b:Int) / 2^min (((j:Nat):Int)).toNat IntKind.u32.bits=((b / 2^j:Nat):Int):=by
 rw [show min (((j:Nat):Int)).toNat IntKind.u32.bits=j by show min j 32=j;omega,Int.natCast_ediv,Int.natCast_pow];rfl
def QEU (p j:Nat) (bt bg:Nat):St :=
 ⟨[(1,.a (.s (.ptr 0 0))),(3,.a (.s (.i p))),(4,.a (.s (.i j)))],[(0,some ⟨true,1,[.u bt,.u bg]⟩)],[0]⟩
theorem QjY (bt bg:Nat) (h2:ZU bg):FN 177 [.agg [.u bt,.u bg]] [] (. =⟨.a (.s (.i (QbL bg 32:Nat))),[],[]⟩):=by
 refine fnW Tryz.func177 ?_;(conv=>whnf);(repeat' ((first|exact zi0|refine zj0 fun hb=>?_|refine zst ?_|refine zbb ?_ ?_)<;>conv=>whnf))
 refine Lp.inv (fun mm σ=>∃ j:Nat,mm+j=32/\σ=QEU (QbL bg j) j bt bg) ?_ ?_
 .refine ⟨32,QEU 0 0 bt bg,?_,0,by omega,rfl⟩
  (exact zwL [(0,some _)])
 rintro mm σ ⟨j,yT,rfl⟩;unfold QEU
 by_cases hj:j<32
 .have jZ:=Qb5 bg j
  have s1:=Qn3 bg j hj;have s2:=Qi3 (bg / 2^j) (Nat.lt_of_le_of_lt (Nat.div_le_self _ _) h2)
  have s4:IntKind.i64.wrap (((QbL bg j:Nat):Int)+((bg / 2^j%2:Nat):Int))=((QbL bg (j+1):Nat):Int):=by
   rw [Qb4 (by omega) (by omega),show QbL bg (j+1)=QbL bg j+bg / 2^j%2 from rfl];omega
  have q2:IntKind.i64.wrap ((j:Int)+1)=((j+1:Nat):Int):=QaS;have hb2:bg / 2^j%2<2:=Nat.mod_lt _ (by decide);obtain ⟨P1,hP1⟩:∃ P1,QbL bg (j+1)=P1:=⟨_,rfl⟩;rw [hP1] at s4;generalize QbL bg j=P0,bg / 2^j=bj at *;generalize bj%2=bb at *;(conv=>whnf);(repeat' ((first|exact zi2|refine zj0 fun hb=>?_|(with_reducible first|refine zv s1 ?_|refine zv s2 ?_|refine zv s4 ?_|refine zv q2 ?_)|refine zse ?_|refine zbb ?_ ?_)<;>conv=>whnf))
  all_goals first
   | (
     refine ⟨mm-1,QEU P1 (j+1) bt bg,by omega,?_,j+1,by omega,by rw [hP1];rfl⟩
     (exact zwL [(0,some 0)]))
 .obtain rfl:j=32:=by omega
  generalize QbL bg 32=P at *;exact QEA
def QbZ (b:Nat) (p:Int):Bool:=decide (∀ i:Nat,i<32->b / 2^i%2=1->(i:Int)<p)
def QEL (j:Nat) (bt bg:Nat) (p:Int):St :=
 ⟨[(1,.a (.s (.i p))),(2,.a (.s (.ptr 0 0))),(5,.a (.s (.i j)))],[(0,some ⟨true,1,[.u bt,.u bg]⟩)],[0]⟩
theorem QnE (bt bg:Nat) (h2:ZU bg) (p:Int):FN 75 [.agg [.u bt,.u bg],.s (.i p)] [] (. =⟨.a (.s (.bool (QbZ bg p))),[],[]⟩):=by
 obtain ⟨B,hB⟩:∃ B,QbZ bg p=B:=⟨_,rfl⟩;rw [hB];unfold QbZ at hB;refine fnW Tryz.func75 ?_;(conv=>whnf);(repeat' ((first|exact zi0|refine zj0 fun hb=>?_|refine zst ?_|refine zbb ?_ ?_)<;>conv=>whnf))
 refine Lp.inv (fun mm σ=>∃ j:Nat,mm+j=32/\(∀ i:Nat,i<j->bg / 2^i%2=1->(i:Int)<p)/\σ=QEL j bt bg p) ?_ ?_
 .refine ⟨32,QEL 0 bt bg p,?_,0,by omega,fun i h=>by omega,rfl⟩
  (exact zwL [(0,some _)])
 rintro mm σ ⟨j,yT,fG,rfl⟩;unfold QEL
 by_cases hj:j<32
 .have s1:=Qn3 bg j hj
  have s2:=Qi3 (bg / 2^j) (Nat.lt_of_le_of_lt (Nat.div_le_self _ _) h2);have q2:IntKind.i64.wrap ((j:Int)+1)=((j+1:Nat):Int):=QaS
  by_cases hbad:bg / 2^j%2=1/\p<=(j:Int)
  .obtain rfl:B=false:=by
    rw [<- hB];refine zdf (fun h=>?_);have:=h j hj hbad.1;omega
   rw [hbad.1] at s2;have h3:=hbad.2;clear hB fG hbad;generalize bg / 2^j=bj at *;(repeat' ((conv=>whnf);first|exact zi2|refine zj0 fun hb=>?_|refine QHq ?_|refine zse ?_|refine zbb ?_ ?_))
   all_goals exact zF_
  .have vM:∀ i:Nat,i<j+1->bg / 2^i%2=1->(i:Int)<p:=fun i hi h=>by
    by_cases e:i=j
    .subst e;exact Int.lt_of_not_ge (fun h2=>hbad ⟨h,h2⟩)
    .exact fG i (by omega) h
   have h3:bg / 2^j%2=1->(j:Int)<p:=vM j (by omega);have hb2:bg / 2^j%2<2:=Nat.mod_lt _ (by decide);clear hB fG hbad;generalize bg / 2^j=bj at *;generalize bj%2=bb at *;have e:bb=0\/bb=1:=by omega
   rcases e with rfl|rfl
   all_goals
    (conv=>whnf);(repeat' ((first|exact zi2|refine zj0 fun hb=>?_|(with_reducible first|refine zv s1 ?_|refine zv s2 ?_|refine zv q2 ?_)|refine zse ?_|refine zbb ?_ ?_)<;>conv=>whnf))
    all_goals first
     | (exfalso;omega)
     | (exfalso;simp at hb;done)
     | (
       refine ⟨mm-1,QEL (j+1) bt bg p,by omega,?_,j+1,by omega,vM,rfl⟩
       (exact zwL [(0,some 0)]))
 .obtain rfl:j=32:=by omega
  obtain rfl:B=true:=by rw [<- hB];exact zdt fG
  exact QEA
def Qc2 (bt bg:Nat):Bool:=(((QbL bg 32:Nat):Int) !=((bt:Nat):Int))
theorem Qlp (bt bg:Nat) (h1:ZU bt) (h2:ZU bg):FN 214 [.agg [.u bt,.u bg]] [] (. =⟨.a (.s (.bool (Qc2 bt bg))),[],[]⟩):=by
 have hg:=QjY bt bg h2;have jZ:=Qb5 bg 32;unfold Qc2;generalize QbL bg 32=P at *;refine fnW Tryz.func214 ?_;exact Qz1
theorem QlA (a:Bool) (d:Nat) (f:Bool):FN 210 [.agg [.bool a,.u d,.bool f]] [] (. =⟨.a (.s (.bool f)),[],[]⟩):=by
 refine fnW Tryz.func210 ?_;exact QlZ
def Qcm (k:ByteArray):Bool:=decide ((0:Int)<(k.size:Int))
theorem Qlq (k:ByteArray):FN 211 [.agg [.str k]] [] (. =⟨.a (.s (.bool (Qcm k))),[],[]⟩):=by
 unfold Qcm;refine fnW Tryz.func211 ?_;exact QlZ
theorem Qlt (d:Dk):FN 212 [.agg d.C] [] (. =⟨.a (.s (.bool (QbS d.st))),[],[]⟩):=by
 obtain ⟨_,_,_,st⟩:=d;dsimp only [Dk.C];obtain ⟨B,hB⟩:∃ B,QbS st=B:=⟨_,rfl⟩;rw [hB];unfold QbS at hB;refine fnW Tryz.func212 ?_;exact QDQ
theorem Qly (n:Nk):FN 213 [.agg n.C] [] (. =⟨.a (.s (.bool n.re)),[],[]⟩):=by
 obtain ⟨_,_,_,_,re⟩:=n;dsimp only [Nk.C];refine fnW Tryz.func213 ?_;exact QlZ
def lnN (b:Bool) (k:Nat):Nat:=if b=true then 2^k else 0
theorem Qd3 (b:Bool) (k:Nat) (hk:k<32):lnN b k<4294967296:=by
 unfold lnN;split
 .exact Nat.lt_of_lt_of_le (Nat.pow_lt_pow_right (by decide) hk) (by decide)
 .decide
theorem QeV (b:Bool) (k:Nat) (hk:k<5):FN 209 [.s (.bool b),.s (.i k)] [] (. =⟨.a (.s (.u (lnN b k:Nat))),[],[]⟩):=by
 have e:k=0\/k=1\/k=2\/k=3\/k=4:=by omega
 cases b<;>rcases e with rfl|rfl|rfl|rfl|rfl
 all_goals
  refine fnW Tryz.func209 ?_;exact QiW
def QfD (M:Mc):Nat:=(((lnN M.tf 0 ||| lnN (Qcm M.ks) 1) ||| lnN (QbS M.d.st) 2) ||| lnN M.n.re 3) ||| lnN (Qc2 M.bt M.bg) 4
def ld1 (n a:Nat):Bool:=decide (a+1<=mpg n*128)
theorem Qin {n a:Nat} (h:ld1 n a=true):a / 4<n:=by
 unfold ld1 mpg at h;simp at h;split at h<;>omega
theorem Qfs (xs:List Nat) (n a:Nat) (hn:ZU n) (ha:ZU a):FN 182 [.s (.sl 0 0 n),.s (.u a),.s (.i 1)] [⟨false,1,wsv xs⟩] (. =⟨.a (.s (.bool (ld1 n a))),[],[]⟩):=by
 have hm:=QaT n;refine fnW Tryz.func182 ?_;(conv=>whnf);(repeat' ((first|exact zi0|refine zj0 fun hb=>?_|(refine Qag (f:=58) (QbI xs n hn) [⟨0,0⟩] [(0,⟨false,1,wsv xs⟩)] (by first|exact rfl|simp [QcZ,QcQ,Qc7]) ⟨rfl,trivial⟩ (⟨rfl,Qap (Qaa _),trivial⟩) ⟨rfl,Qbp⟩ ?_)|refine zs0 ?_|refine zbb ?_ ?_)<;>conv=>whnf))
 all_goals
  refine QbT rfl (Qaa _) rfl ?_;simp only [Qbc];congr 3;have hy:decide ((a:Int)+1<=(mpg n:Nat)*128)=decide (a+1<=mpg n*128):=by congr 1;apply propext;omega
  unfold ld1;rw [<- hy]
def byN (w a:Nat):Nat:=w / 2^(a%4*8)%2^8
theorem QFy (a:Nat):((a:Int).tmod 4)=((a%4:Nat):Int):=by rw [Qgk (by omega)];omega
theorem QIx (a:Nat):IntKind.i64.wrap ((a%4:Nat):Int)=((a%4:Nat):Int):=Qb4 (by omega) (by omega)
theorem QIy (a:Nat):IntKind.i64.wrap (((a%4:Nat):Int)*8)=((a%4*8:Nat):Int):=by rw [Qb4 (by omega) (by omega)];omega
theorem QDn {xs:List Nat} (h:ZL xs) (j:Nat):xs.getD j 0<4294967296:=by
 exact Qz0
theorem Qmx (xs:List Nat) (n a:Nat) (hl:xs.length=n) (hx:ZL xs) (hn:ZU n) (ha:ZU a) (qU:ld1 n a=true):FN 117 [.s (.sl 0 0 n),.s (.u a),.s (.i 1)] [⟨false,1,wsv xs⟩] (. =⟨.tup [.s (.u (byN (xs.getD (a / 4) 0) a:Nat)),.s (.bool true)],[],[]⟩):=by
 have hw:=Qfs xs n a hn ha;rw [qU] at hw;have yZ:=Qin qU;have hf:=QdM (xs.getD (a / 4) 0) (a%4*8) 8 (QDn hx _) (by omega) (by omega) (by omega);have hg:=QaZ xs (a / 4) (by omega);generalize xs.getD (a / 4) 0=W at *;change Fn _ _ _ _ (. =⟨.a (.s (.u ((byN W a:Nat):Int))),_,_⟩) at hf;generalize byN W a=B at *;refine fnW Tryz.func117 ?_;(conv=>whnf);(repeat' ((first|exact zi0|refine zj0 fun hb=>?_|(refine Qag (f:=182) (hw) [⟨0,0⟩] [(0,⟨false,1,wsv xs⟩)] (by first|exact rfl|simp [QcZ,QcQ,Qc7]) ⟨rfl,trivial⟩ (⟨rfl,Qap (Qaa _),trivial⟩) ⟨rfl,Qbp⟩ ?_)|refine Qew ?_|refine Qww ?_|refine QAP ?_|refine QIl ?_|(refine Qad (f:=183) (hf) rfl ?_)|refine zs0 ?_|refine zbb ?_ ?_)<;>conv=>whnf))
 all_goals exact QbT rfl (Qaa _) rfl rfl
def sfI (w l v:Nat):Int:=bits .or .u32 (bits .andNot .u32 (w:Int) (IntKind.u32.wrap (255*2^min ((l:Nat):Int).toNat IntKind.u32.bits))) (IntKind.u32.wrap (bits .and .u32 (v:Int) 255*2^min ((l:Nat):Int).toNat IntKind.u32.bits))
theorem Qvr (op:BinOp) (a b:Int):0<=bits op .u32 a b/\bits op .u32 a b<4294967296:=by
 unfold bits;rw [Qch];omega
def sfN (w l v:Nat):Nat:=(sfI w l v).toNat
theorem QCU (w l v:Nat):sfN w l v<4294967296:=by
 have:0<=sfI w l v/\sfI w l v<4294967296:=Qvr _ _ _;unfold sfN;omega
theorem Qgh (w l v:Nat):((sfN w l v:Nat):Int)=sfI w l v:=by
 have:0<=sfI w l v/\sfI w l v<4294967296:=Qvr _ _ _;unfold sfN;omega
theorem QlH (w l v:Nat) (hl:l<=31):FN 271 [.s (.u w),.s (.i l),.s (.i 8),.s (.u v)] [] (. =⟨.a (.s (.u (sfN w l v:Nat))),[],[]⟩):=by
 have hm:FN 242 [.s (.i 8)] [] (. =⟨.a (.s (.u 255)),[],[]⟩):=QqQ 8 (by omega);have e1:IntKind.u32.wrap (255*2^min ((l:Nat):Int).toNat IntKind.u32.bits)=IntKind.u32.wrap (255*2^min ((l:Nat):Int).toNat IntKind.u32.bits):=rfl;have e2:IntKind.u32.wrap (bits .and .u32 (v:Int) 255*2^min ((l:Nat):Int).toNat IntKind.u32.bits)=IntKind.u32.wrap (bits .and .u32 (v:Int) 255*2^min ((l:Nat):Int).toNat IntKind.u32.bits):=rfl;rw [Qgh];refine fnW Tryz.func271 ?_;(conv=>whnf);(repeat' ((first|exact zi0|refine zj0 fun hb=>?_|(refine Qad (f:=242) (hm) rfl ?_)|(with_reducible first|refine zv e1 ?_|refine zv e2 ?_)|refine zs0 ?_|refine zbb ?_ ?_)<;>conv=>whnf))
 all_goals exact Qam rfl rfl
def QnD (xs:List Nat) (a v:Nat):List Nat:=xs.set (a / 4) (sfN (xs.getD (a / 4) 0) (a%4*8) v)
theorem Qr9 (xs:List Nat) (n a v:Nat) (hl:xs.length=n) (hn:ZU n) (ha:ZU a) (qU:ld1 n a=true):FN 252 [.s (.sl 0 0 n),.s (.u a),.s (.i 1),.s (.u v)] [⟨false,1,wsv xs⟩] (. =⟨.tup [.s (.sl 1 0 n),.s (.bool true)],[],[⟨true,1,wsv (QnD xs a v)⟩]⟩):=by
 have hw:=Qfs xs n a hn ha;rw [qU] at hw;have yZ:=Qin qU;have gK:=QbG xs n hl (by omega);have hg:=QaZ xs (a / 4) (by omega);have GZ:=QlH (xs.getD (a / 4) 0) (a%4*8) v (by omega);have fE:=QbA xs (a / 4) (sfN (xs.getD (a / 4) 0) (a%4*8) v) (by omega);have uP:(wsv xs).length=n:=by simp [hl]
 have fK:Qao (wsv xs)=true:=Qaa xs;have VJ:Qao (wsv (QnD xs a v))=true:=Qaa _;change QaC _ _ _=wsv (QnD xs a v) at fE;generalize sfN (xs.getD (a / 4) 0) (a%4*8) v=V,wsv (QnD xs a v)=X2 at *;generalize xs.getD (a / 4) 0=W,wsv xs=X at *;refine fnW Tryz.func252 ?_;(conv=>whnf);(repeat' ((first|exact zi0|refine zj0 fun hb=>?_|(refine Qag (f:=182) hw [⟨0,0⟩] [(0,⟨false,1,X⟩)] rfl ⟨rfl,trivial⟩ ⟨rfl,Qap fK,trivial⟩ ⟨rfl,Qbp⟩ ?_)|(refine Qag (f:=45) gK [⟨0,0⟩] [(0,⟨false,1,X⟩)] rfl ⟨rfl,trivial⟩ ⟨rfl,Qap fK,trivial⟩ ⟨rfl,Qbp⟩ ?_)|(refine Qad (f:=271) (GZ) rfl ?_)|refine Qew ?_|(apply Sd.mk; . refine ⟨rfl,rfl,rfl,?_⟩;show _<=X.length;simp;omega)|refine Qww ?_|refine QAP ?_|refine QIl ?_|refine zq7 ?_|refine zs0 ?_|refine zbb ?_ ?_)<;>conv=>whnf))
 all_goals (exact QbJ)
def acB (s:Int) (n a:Nat):Bool:=if s=4 then ld4 n a else ld1 n a
def Qdf (s:Nat):Bool:=decide (s%2=0/\s / 4%2=1)
def szB (sz:Int):Bool:=decide (sz=1\/sz=4)
def rsO (xs:List Nat) (n s r va:Nat) (sz ac:Int):Bool:=QdP ac&&szB sz&&decide ((va:Int)%sz=0)&&(if Qdf s=true then Qbo xs n r va ac else acB sz n va)
def rsA (xs:List Nat) (n s r va:Nat) (sz ac:Int):Nat:=if rsO xs n s r va sz ac=true then (if Qdf s=true then frW (QaR xs r va)*128+va%128 else va) else 0
def rsM (xs:List Nat) (n s r va:Nat) (sz ac:Int):List Nat:=if rsO xs n s r va sz ac=true/\Qdf s=true then xs.set (Qa9 r va / 4) (QbK (xs.getD (Qa9 r va / 4) 0) ac) else xs
def rsK (xs:List Nat) (n s r va:Nat) (sz ac:Int):Int:=if rsO xs n s r va sz ac=true then 0 else if QdP ac=false\/szB sz=false then 5 else if (va:Int)%sz=0 then Qcv ac else 3
theorem Qbl (xs:List Nat) (n s r va:Nat) (sz ac:Int):(rsM xs n s r va sz ac).length=xs.length:=by unfold rsM;split<;>simp
theorem Qc8 (xs:List Nat) (n s r va:Nat) (sz ac:Int) (h:ZL xs):∀ y∈rsM xs n s r va sz ac,y<4294967296:=by
 unfold rsM;split
 .intro y hy
  rcases List.mem_or_eq_of_mem_set hy with h1|h1
  .exact h y h1
  .rw [h1];exact QlJ _ _ (Qab h _)
 .exact h
theorem QoZ (ac:Int):FN 270 [.s (.i ac)] [] (. =⟨.tup [.s (.i (Qcv ac)),.s (.bool (QdP ac))],[],[]⟩):=by
 refine fnW Tryz.func270 ?_;exact QDM
theorem Ql2 (a:Nat) (ha:ZU a):bits .and .u32 (a:Int) 1=((a%2:Nat):Int):=Qbm a 1 ha (by omega)
theorem Qvo (a:Nat) (ha:ZU a):bits .and .u32 (a:Int) 4=((a / 4%2*4:Nat):Int):=by
 rw [show ((4:Int))=((4:Nat):Int) from rfl,QcF a 4 ha (by omega)];congr 1;apply Nat.eq_of_testBit_eq;intro i;rw [Nat.testBit_and,show a / 4%2*4=2^2*(a / 4%2) by omega,Nat.testBit_two_pow_mul]
 by_cases h:i=2
 .subst h
  rw [show Nat.testBit 4 2=true by decide,Bool.and_true];simp only [Nat.testBit,Nat.shiftRight_eq_div_pow,Nat.one_and_eq_mod_two];simp
 .have h4:Nat.testBit 4 i=false:=by
   rw [show (4:Nat)=2^2 by rfl,Nat.testBit_two_pow];exact zdf (fun e=>h e.symm)
  rw [h4,Bool.and_false]
  by_cases h2:2<=i
  .rw [zdt h2,Bool.true_and]
   have:a / 4%2<2^(i-2):=Nat.lt_of_lt_of_le (Nat.mod_lt _ (by decide)) (by
    calc 2=2^1:=rfl
     _<=2^(i-2):=Nat.pow_le_pow_right (by decide) (by omega))
   exact (Nat.testBit_lt_two_pow this).symm
  .rw [zdf h2,zbf]
theorem QjA (x:List Nat) (pc:Nat) (c:List Nat) (hx:x.length=16) (hc:c.length=8) (h0:c.getD 0 0<4294967296):FN 205 [.agg (Qay x pc c)] [] (. =⟨.a (.s (.bool (((c.getD 0 0%2:Nat):Int) !=0))),[],[]⟩):=by
 cases QaJ hx;obtain ⟨c0,_,_,_,_,_,_,_,rfl⟩:=QfC hc;have e:=Ql2 c0 h0;refine fnW Tryz.func205 ?_;(conv=>whnf);(repeat' ((first|exact zi0|refine zj0 fun hb=>?_|(with_reducible refine zv e ?_)|refine zs0 ?_|refine zbb ?_ ?_)<;>conv=>whnf))
 all_goals exact Qam rfl rfl
theorem Qt0 (xs:List Nat) (n a:Nat) (sz:Int) (qA:sz=1\/sz=4) (hl:xs.length=n) (hY:ZL xs) (hn:ZU n) (ha:ZU a):∃ V:Nat,
  FN 117 [.s (.sl 0 0 n),.s (.u a),.s (.i sz)] [⟨false,1,wsv xs⟩] (. =⟨.tup [.s (.u V),.s (.bool (acB sz n a))],[],[]⟩):=by
 rcases qA with rfl|rfl
 .cases h:ld1 n a with
  | true =>
   rw [show acB 1 n a=true from h];exact ⟨_,Qmx xs n a hl hY hn ha h⟩
  | false =>
   refine ⟨0,?_⟩;rw [show acB 1 n a=false from h];have hw:=Qfs xs n a hn ha;rw [h] at hw;have hs:=Qaa xs;generalize wsv xs=XX at *;refine fnW Tryz.func117 ?_;(repeat' ((conv=>whnf);first|exact zi2|refine zj0 fun hb=>?_|(refine QaA hw ?_)|refine zse ?_|refine zbb ?_ ?_))
   all_goals exact Qb9
 .exact ⟨_,Qf8 xs n a hl hn ha⟩
theorem Qar (x:List Nat) (pc:Nat) (c:List Nat) (hx:x.length=16) (hc:c.length=8):(Qay x pc c).length=25:=by
 unfold Qay wsv;simp [hx,hc]
theorem Qi1 {l l':List SV} (h:Qat l=true) (h':Qat l'=true):Qat (l++l')=true:=by
 induction l with
 | nil=>exact h'
 | cons a l ih =>
  cases a<;>first|exact ih h|cases h
theorem Qah (x:List Nat) (pc:Nat) (c:List Nat):Qat (Qay x pc c)=true:=Qi1 (QbF x) (QbF c)
theorem Qav (x:List Nat) (pc:Nat) (c:List Nat) (A:Nat) (hx:x.length=16) (hA:A<16):(Qay x pc c)[A]?=some (.u (x.getD A 0:Nat)):=by
 unfold Qay;rw [zgl (by rw [wsv_length];omega)];exact QaZ x A (by omega)
theorem QaB (x:List Nat) (pc:Nat) (c:List Nat) (hx:x.length=16):(Qay x pc c)[16]?=some (.u (pc:Nat)):=by
 unfold Qay;rw [zgr (by rw [wsv_length];omega),wsv_length,hx];rfl
theorem Qdu (x:List Nat) (pc:Nat) (c:List Nat) (m:Nat) (hx:x.length=16) (hc:c.length=8) (hm:m<8):(Qay x pc c)[17+m]?=some (.u (c.getD m 0:Nat)):=by
 unfold Qay;rw [zgr (by rw [wsv_length];omega),wsv_length,hx,show 17+m-16=m+1 by omega,List.getElem?_cons_succ];exact QaZ c m (by omega)
theorem Qce {c l:List SV} (h:c.length=l.length):QaC c 0 l=l:=Qkd (by rw [h];exact Nat.beq_refl _)
theorem Qia (x:List Nat) (pc:Nat) (c:List Nat) (A v:Nat) (hx:x.length=16) (hA:A<16):QaC (Qay x pc c) A [.u (v:Nat)]=Qay (x.set A v) pc c:=by
 show (Qay x pc c).set A _=_;unfold Qay;rw [List.set_append_left _ _ (by rw [wsv_length];omega)];congr 1;exact QbA x A v (by omega)
theorem QaP (x:List Nat) (pc:Nat) (c:List Nat) (v:Nat) (hx:x.length=16):QaC (Qay x pc c) 16 [.u (v:Nat)]=Qay x v c:=by
 show (Qay x pc c).set 16 _=_;unfold Qay;rw [List.set_append_right _ _ (by rw [wsv_length];omega),wsv_length,hx];rfl
theorem Qwp {xs:List Nat} {n r va:Nat} {ac:Int} (h:Qbo xs n r va ac=true) (hn:ZU n):ld4 n (Qa9 r va)=true/\Qa9 r va<4294967296/\r<32:=by
 unfold Qbo at h;simp only [zba,zde] at h;have:=QaT n;unfold ld4 Qa9;simp only [zba,zde];omega
theorem Qec (x:List Nat) (pc:Nat) (c:List Nat) (xs:List Nat) (n va:Nat) (sz ac:Int) (hx:x.length=16) (hc:c.length=8) (gK:ZL c) (hl:xs.length=n) (hY:ZL xs) (hn:ZU n) (gX:ZU va) :
  FN 249 [.agg (Qay x pc c),.s (.sl 0 0 n),.s (.u va),.s (.i sz),.s (.i ac)] [⟨false,1,wsv xs⟩]
   (. =⟨.tup [.s (.u (rsA xs n (c.getD 0 0) (c.getD 6 0) va sz ac:Nat)),.s (.sl 1 0 n),.s (.i (rsK xs n (c.getD 0 0) (c.getD 6 0) va sz ac))],[],[⟨true,1,wsv (rsM xs n (c.getD 0 0) (c.getD 6 0) va sz ac)⟩]⟩):=by
 have hs:=Qab gK 0;have hr:=Qab gK 6;have hk:=QjA x pc c hx hc hs;have g0:=Qdu x pc c 0 hx hc (by decide);have g6:=Qdu x pc c 6 hx hc (by decide);have UN:=Qar x pc c hx hc;have hCs:=Qal x pc c;have hCk:=Qah x pc c;have zJ:=QoZ ac;have vJ:=QbG xs n hl (by omega);have b4:=Qvo (c.getD 0 0) hs;generalize c.getD 0 0=S,c.getD 6 0=R,Qay x pc c=C at *;have hw:=QiR xs n R va ac hl hn hY hr gX;have gL:=Qaa xs;clear gK hx hc
 by_cases wD:QdP ac=true/\szB sz=true
 case neg =>
  have e1:rsO xs n S R va sz ac=false:=by
   unfold rsO
   cases h:QdP ac with
   | false=>rfl
   | true =>
    cases h2:szB sz with
    | false=>rfl
    | true=>exact absurd ⟨h,h2⟩ wD
  have e2:QdP ac=false\/szB sz=false:=by
   cases h:QdP ac with
   | false=>exact .inl rfl
   | true =>
    cases h2:szB sz with
    | false=>exact .inr rfl
    | true=>exact absurd ⟨h,h2⟩ wD
  rw [show rsA xs n S R va sz ac=0 by unfold rsA;rw [e1];rfl,show rsM xs n S R va sz ac=xs by unfold rsM;rw [e1];exact zN (fun h=>by cases h.1),show rsK xs n S R va sz ac=5 by unfold rsK;rw [e1,zN (by decide),zP e2]];have hz:szB sz=false->sz≠1/\sz≠4:=fun h=>by unfold szB at h;simpa using h
  generalize QdP ac=kb,wsv xs=XX at *
  cases kb with
  | false =>
   clear hw hz;refine fnW Tryz.func249 ?_;(conv=>whnf);(repeat' ((first|exact zi2|refine zj0 fun hb=>?_|(refine zpu zJ ?_)|(refine QaA vJ ?_)|refine zse ?_|refine zbb ?_ ?_)<;>conv=>whnf))
   all_goals first|(exact QbJ)
  | true =>
   obtain ⟨_,_⟩:=hz (by rcases e2 with h|h;cases h;exact h);clear hw;refine fnW Tryz.func249 ?_;(repeat' ((conv=>whnf);first|exact zi2|refine zj0 fun hb=>?_|(refine zpu zJ ?_)|(refine QaA vJ ?_)|refine zse ?_|refine zbb ?_ ?_))
   all_goals exact Qcy
 obtain ⟨k1,k2⟩:=wD;rw [k1] at zJ;have qA:sz=1\/sz=4:=by unfold szB at k2;simpa using k2
 by_cases gY:(va:Int)%sz=0
 case neg =>
  have e1:rsO xs n S R va sz ac=false:=by unfold rsO;rw [zdf gY,Bool.and_false];rfl
  rw [show rsA xs n S R va sz ac=0 by unfold rsA;rw [e1];rfl,show rsM xs n S R va sz ac=xs by unfold rsM;rw [e1];exact zN (fun h=>by cases h.1),show rsK xs n S R va sz ac=3 by unfold rsK;rw [e1,zN (by decide),zN (by rw [k1,k2];simp),zN gY]];obtain rfl:sz=4:=by rcases qA with rfl|rfl;omega;rfl
  have m1:Int.tmod (va:Int) 4=((va%4:Nat):Int):=Qvg;have m2:va%4≠0:=by omega
  generalize va%4=va4,wsv xs=XX at *;clear hw;refine fnW Tryz.func249 ?_;(repeat' ((conv=>whnf);first|exact zi2|refine zj0 fun hb=>?_|(with_reducible refine zv m1 ?_)|(refine zpu zJ ?_)|(refine QaA vJ ?_)|refine zse ?_|refine zbb ?_ ?_))
  all_goals exact Qcy
 obtain ⟨_,qJ⟩:=Qt0 xs n va sz qA hl hY hn gX;have m0:Int.tmod (va:Int) sz=0:=by rw [Int.tmod_eq_emod_of_nonneg (by omega)];exact gY
 cases qE:Qdf S with
 | true =>
  obtain ⟨p1,p2⟩:S%2=0/\S / 4%2=1:=by unfold Qdf at qE;simpa using qE
  rw [p1] at hk;replace b4:bits .and .u32 (S:Int) 4=4:=b4.trans (by rw [p2];rfl)
  cases hok:Qbo xs n R va ac with
  | false =>
   have e1:rsO xs n S R va sz ac=false:=by unfold rsO;rw [qE,hok];simp
   rw [show rsA xs n S R va sz ac=0 by unfold rsA;rw [e1];rfl,show rsM xs n S R va sz ac=xs by unfold rsM;rw [e1];exact zN (fun h=>by cases h.1),show rsK xs n S R va sz ac=Qcv ac by unfold rsK;rw [e1,zN (by decide),zN (by rw [k1,k2];simp),zP gY]];unfold QfK at hw;rw [hok,zN (by decide)] at hw;have FR:Qcv ac≠0:=by unfold Qcv;split;omega;split<;>omega
   generalize Qcv ac=cz,wsv xs=XX at *;rcases qA with rfl|rfl
   all_goals
    refine fnW Tryz.func249 ?_;(conv=>whnf);(repeat' ((first|exact zi2|refine zj0 fun hb=>?_|refine QHr ?_|((with_reducible apply Ge.mk (α:=SV)); . first|exact g0|exact g6)|refine QAR ?_|(refine zpu zJ ?_)|(refine zpu hk ?_)|(refine QaA hw ?_)|(refine QaA vJ ?_)|refine zse ?_|refine zbb ?_ ?_)<;>conv=>whnf))
    all_goals first|(exact QbJ)
  | true =>
   have e1:rsO xs n S R va sz ac=true:=by unfold rsO;rw [qE,hok,k1,k2,zdt gY];rfl
   obtain ⟨l1,l2,_⟩:=Qwp hok hn;have htc:=Qkk xs n (Qa9 R va) ac hl hn hY l2 l1;rw [show rsA xs n S R va sz ac=frW (QaR xs R va)*128+va%128 by unfold rsA;rw [e1,zP rfl,qE,zP rfl],show rsM xs n S R va sz ac=xs.set (Qa9 R va / 4) (QbK (xs.getD (Qa9 R va / 4) 0) ac) by unfold rsM;rw [e1,qE];exact zP ⟨rfl,rfl⟩,show rsK xs n S R va sz ac=0 by unfold rsK;rw [e1,zP rfl]];unfold QfK at hw;rw [hok,zP rfl] at hw;have gO:=Qaa (xs.set (Qa9 R va / 4) (QbK (xs.getD (Qa9 R va / 4) 0) ac));generalize wsv (xs.set (Qa9 R va / 4) (QbK (xs.getD (Qa9 R va / 4) 0) ac))=X2 at *;generalize Qa9 R va=E,frW (QaR xs R va)*128+va%128=AA,Qcv ac=cz,wsv xs=XX at *;rcases qA with rfl|rfl
   all_goals
    refine fnW Tryz.func249 ?_;(conv=>whnf);(repeat' ((first|exact zi2|refine zj0 fun hb=>?_|refine QHr ?_|((with_reducible apply Ge.mk (α:=SV)); . first|exact g0|exact g6)|refine QAR ?_|(refine zpu zJ ?_)|(refine zpu hk ?_)|(refine QaA hw ?_)|(refine QaA htc ?_)|refine zse ?_|refine zbb ?_ ?_)<;>conv=>whnf))
    all_goals first|(exact QbJ)
 | false =>
  have hnp:S%2=1\/(S%2=0/\S / 4%2=0):=by unfold Qdf at qE;simp at qE;omega
  have eM:rsM xs n S R va sz ac=xs:=by unfold rsM;rw [qE];exact zN (fun h=>by cases h.2)
  have eO:rsO xs n S R va sz ac=acB sz n va:=by unfold rsO;rw [qE,k1,k2,zdt gY];simp
  have eA:rsA xs n S R va sz ac=if acB sz n va=true then va else 0:=by unfold rsA;rw [eO,qE];simp
  have eK:rsK xs n S R va sz ac=if acB sz n va=true then 0 else Qcv ac:=QEc
  rw [eM,eA,eK];clear eM eO eA eK hw;generalize Qcv ac=cz,acB sz n va=ok,wsv xs=XX at *;cases ok<;>rcases hnp with p1|⟨p1,p2⟩<;>rcases qA with rfl|rfl
  all_goals
   rw [p1] at hk
   try (replace b4:bits .and .u32 (S:Int) 4=0:=b4.trans (by rw [p2];rfl))
   refine fnW Tryz.func249 ?_;(repeat' ((conv=>whnf);first|exact zi2|refine zj0 fun hb=>?_|refine QHr ?_|refine Qm7 ?_|refine QAR ?_|(refine zpu zJ ?_)|(refine zpu hk ?_)|(refine QaA qJ ?_)|(refine QaA vJ ?_)|refine zse ?_|refine zbb ?_ ?_))
   all_goals exact Qcy
theorem Qfd (M:Mc):QfD M<4294967296:=by
 unfold QfD;exact (Qlm _ _ (Qlm _ _ (Qlm _ _ (Qlm _ _ (Qd3 _ 0 (by decide)) (Qd3 _ 1 (by decide))).2 (Qd3 _ 2 (by decide))).2 (Qd3 _ 3 (by decide))).2 (Qd3 _ 4 (by decide))).2
theorem QrC (M:Mc) (hM:M.ok):FN 143 [.agg (M.C 0)] [⟨false,1,wsv M.m⟩] (. =⟨.a (.s (.u (QfD M:Nat))),[],[]⟩):=by
 have p1:=QlA M.ta M.td M.tf;have p2:=Qlq M.ks;have p3:=Qlt M.d;have p4:=Qly M.n;have p5:=Qlp M.bt M.bg hM.dv.2.1 hM.dv.2.2.1;have k1:=QeV M.tf 0 (by decide);have k2:=QeV (Qcm M.ks) 1 (by decide);have k3:=QeV (QbS M.d.st) 2 (by decide);have k4:=QeV M.n.re 3 (by decide);have k5:=QeV (Qc2 M.bt M.bg) 4 (by decide);have o1:=Qlm _ _ (Qd3 M.tf 0 (by decide)) (Qd3 (Qcm M.ks) 1 (by decide));have o2:=Qlm _ _ o1.2 (Qd3 (QbS M.d.st) 2 (by decide));have o3:=Qlm _ _ o2.2 (Qd3 M.n.re 3 (by decide));have o4:=Qlm _ _ o3.2 (Qd3 (Qc2 M.bt M.bg) 4 (by decide));replace o1:=o1.1;replace o2:=o2.1;replace o3:=o3.1;replace o4:=o4.1;have gL:=Qaa M.m;unfold QfD;generalize Qcm M.ks=b2,QbS M.d.st=b3,Qc2 M.bt M.bg=b5 at *;generalize (((lnN M.tf 0 ||| lnN b2 1) ||| lnN b3 2) ||| lnN M.n.re 3) ||| lnN b5 4=L4 at *;generalize ((lnN M.tf 0 ||| lnN b2 1) ||| lnN b3 2) ||| lnN M.n.re 3=L3 at *;generalize (lnN M.tf 0 ||| lnN b2 1) ||| lnN b3 2=L2 at *;generalize lnN M.tf 0 ||| lnN b2 1=L1 at *;generalize lnN M.tf 0=l0,lnN b2 1=l1,lnN b3 2=l2,lnN M.n.re 3=l3,lnN b5 4=l4 at *;obtain ⟨hx,hc,hY,gA,_,gB,_,gE,gD,_⟩:=hM;obtain ⟨_,_,_,m,ks,ta,td,tf,d,n,bt,bg⟩:=M;dsimp only at *;cases QaJ hx;cases zC8 hc;cases d;cases n;dsimp only [Mc.C,Mc.D,Dk.C,Nk.C,Dk.ok,Nk.ok] at *;generalize m.length=nn,wsv m=XX at *;clear hY gA gE gD gB;refine fnW Tryz.func143 ?_;(repeat' ((conv=>whnf);first|exact zi0|refine zj0 fun hb=>?_|(with_reducible first|refine zv o1 ?_|refine zv o2 ?_|refine zv o3 ?_|refine zv o4 ?_)|(refine zpu p1 ?_)|(refine zpu p2 ?_)|(refine zpu p3 ?_)|(refine zpu p4 ?_)|(refine zpu p5 ?_)|(refine zpu k1 ?_)|(refine zpu k2 ?_)|(refine zpu k3 ?_)|(refine zpu k4 ?_)|(refine zpu k5 ?_)|refine zst ?_|refine zbb ?_ ?_))
 all_goals exact Qb9
def QiX (M:Mc):Nat:=QfD M &&& M.c.getD 7 0
theorem QgX (M:Mc) (hM:M.ok):FN 86 [.agg (M.C 0)] [⟨false,1,wsv M.m⟩] (. =⟨.a (.s (.u (QiX M:Nat))),[],[]⟩):=by
 have hl:=QrC M hM;have ha:=QcF (QfD M) (M.c.getD 7 0) (Qfd M) (Qab hM.cr 7);have gL:=Qaa M.m;unfold QiX;obtain ⟨E,hE⟩:∃ E,QfD M &&& M.c.getD 7 0=E:=⟨_,rfl⟩;rw [hE] at ha |-;clear hE;generalize QfD M=L at *;obtain ⟨hx,hc,hY,gA,_,gB,_,gE,gD,_⟩:=hM;obtain ⟨_,_,c,m,_,_,_,_,d,n⟩:=M;dsimp only at *;cases QaJ hx;obtain ⟨_,_,_,_,_,_,_,c7,rfl⟩:=QfC hc;cases d;cases n;dsimp only [Mc.C,Mc.D,Dk.C,Nk.C,Dk.ok,Nk.ok] at *;generalize m.length=nn,wsv m=XX at *;change bits .and .u32 (L:Int) (c7:Int)=(E:Int) at ha;clear hY gA gE gD gB;refine fnW Tryz.func86 ?_;exact QDV
def Qhk (M:Mc):Bool:=M.wt&&decide (QiX M=0)
theorem QmL (M:Mc) (hM:M.ok):FN 43 [.agg (M.C 0)] [⟨false,1,wsv M.m⟩] (. =⟨.a (.s (.bool (Qhk M))),[],[]⟩):=by
 have hl:=QgX M hM;have gL:=Qaa M.m;unfold Qhk;generalize QiX M=E at *;obtain ⟨B,hB⟩:∃ B,(M.wt&&decide (E=0))=B:=⟨_,rfl⟩;rw [hB];obtain ⟨hx,hc,hY,gA,_,gB,_,gE,gD,_⟩:=hM;obtain ⟨_,_,_,m,_,_,_,_,d,n,_,_,_,wt⟩:=M;dsimp only at *;cases QaJ hx;cases zC8 hc;cases d;cases n;dsimp only [Mc.C,Mc.D,Dk.C,Nk.C,Dk.ok,Nk.ok] at *;generalize m.length=nn,wsv m=XX at *;clear hY gA gE gD gB;cases wt
 all_goals
  refine fnW Tryz.func43 ?_;(conv=>whnf);(repeat' ((first|exact zi2|refine zj0 fun hb=>?_|(refine QaA hl ?_)|refine zse ?_|refine zbb ?_ ?_)<;>conv=>whnf))
  all_goals first
   | (refine QcJ ?_ ?_;(focus (exact Qb9));rw [<- hB,zbi];simp;done)
   | (refine QcJ ?_ ?_;(focus (exact Qb9));rw [<- hB,zbi];simp;omega)
   | (exfalso;simp at hb;done)
def w32 (z:Int):Nat:=(z%4294967296).toNat
theorem Qau (z:Int):IntKind.u32.wrap z=((w32 z:Nat):Int):=QG5 z
theorem QaG (z:Int):w32 z<4294967296:=by unfold w32;omega
def QaD (x:List Nat) (r v:Nat):List Nat:=if r=0 then x else x.set r v
theorem Qaz (x:List Nat) (r v:Nat):(QaD x r v).length=x.length:=by unfold QaD;split<;>simp
theorem Qg6 {xs:List Nat} (h:ZL xs) (j w:Nat) (hw:ZU w):∀ y∈xs.set j w,y<4294967296:=fun y hy=>by
 rcases List.mem_or_eq_of_mem_set hy with h1|h1
 .grind
 .omega
theorem QdE {x:List Nat} (h:ZL x) (r v:Nat) (hv:ZU v):∀ y∈QaD x r v,y<4294967296:=by grind [QaD,Qg6]
def wrL (c:List Nat) (csr:Int) (v:Nat):List Nat :=
 if csr=0 then c.set 0 (v%32) else if csr=7 then c.set 7 (v%32) else if csr=6 then c.set 6 (v%256)
 else if csr=1 then c.set 1 (v &&& (4294967295-3)) else if csr=2 then c.set 2 (v &&& (4294967295-3))
 else if csr=3 then c.set 3 v else if csr=4 then c.set 4 v else if csr=5 then c.set 5 v else c
theorem Qwq (x:List Nat) (pc:Nat) (c:List Nat) (csr:Int) (v:Nat):wrC x pc c csr v=Qay x pc (wrL c csr v):=by
 unfold wrC wrL
 repeat' split
 all_goals rfl
theorem Qhd (c:List Nat) (csr:Int) (v:Nat):(wrL c csr v).length=c.length:=by
 unfold wrL
 repeat' split
 all_goals simp
theorem QDj {c:List Nat} (h:ZL c) (csr:Int) (v:Nat) (hv:ZU v):∀ y∈wrL c csr v,y<4294967296:=by
 have:=Nat.and_le_left (n:=v) (m:=4294967295-3);unfold wrL
 repeat' split
 all_goals first|exact h|exact Qg6 h _ _ (by omega)
def trL (pc:Nat) (c:List Nat) (cause:Int) (bad:Nat):List Nat:= [Qfq (c.getD 0 0),c.getD 1 0,pc,w32 cause,bad,c.getD 5 0,c.getD 6 0,c.getD 7 0]
theorem Qbn (x:List Nat) (pc:Nat) (c:List Nat) (cause:Int) (bad:Nat):QzF x pc c cause bad=Qay x (c.getD 1 0) (trL pc c cause bad):=rfl
theorem Qg8 {c:List Nat} (h:ZL c) (pc:Nat) (gR:ZU pc) (cause:Int) (bad:Nat) (hb:ZU bad):∀ y∈trL pc c cause bad,y<4294967296:=fun y hy=>by
 have g:=Qab h;have:=QuZ _ (g 0);have:=QaG cause;have:=g 1;have:=g 5;have:=g 6;have:=g 7;simp only [trL,List.mem_cons,List.not_mem_nil,or_false] at hy;omega
def Qdk (o:Int) (a b:Nat):Bool :=
 if o=40 then decide (a=b) else if o=41 then decide (a≠b) else if o=42 then decide (sgn a<sgn b) else if o=43 then decide (sgn b<=sgn a) else if o=44 then decide (a<b) else decide (b<=a)
def exX (x:List Nat) (pc:Nat) (c:List Nat) (o:Int) (A B C:Nat) (m:Int):List Nat :=
 if 1<=o/\o<=13 then QaD x A (Qbu o (x.getD B 0) (x.getD C 0))
 else if 16<=o/\o<=23 then QaD x A (Qbu o (x.getD B 0) (w32 m))
 else if o=24 then QaD x A (w32 ((w32 m:Nat)*65536))
 else if o=48\/o=49 then QaD x A (w32 ((pc:Int)+4))
 else if o=58 then QaD x A (c.getD m.toNat 0)
 else x
def exP (x:List Nat) (pc:Nat) (c:List Nat) (o:Int) (A B:Nat) (m:Int):Nat :=
 if 40<=o/\o<=45 then (if Qdk o (x.getD A 0) (x.getD B 0)=true then w32 ((pc:Int)+w32 (4*(w32 m:Nat))) else w32 ((pc:Int)+4))
 else if o=48 then w32 ((pc:Int)+w32 (4*(w32 m:Nat)))
 else if o=49 then w32 ((x.getD B 0:Nat)+(w32 m:Nat))
 else if o=56 then c.getD 1 0 else if o=57 then c.getD 2 0 else w32 ((pc:Int)+4)
def exC (x:List Nat) (pc:Nat) (c:List Nat) (o:Int) (A:Nat) (m:Int):List Nat :=
 if o=56 then trL pc c 7 0 else if o=57 then c.set 0 (QgZ (c.getD 0 0)) else if o=59 then wrL c m (x.getD A 0) else c
def exE (x:List Nat) (o:Int) (A:Nat) (m:Int):List SV :=
 if o=60 then [.i 1,.i m,.i (A:Nat),.u (0:Nat)]
 else if o=61 then [.i 2,.i m,.i 0,.u (x.getD A 0:Nat)]
 else if o=62 then [.i 3,.i 0,.i 0,.u (0:Nat)]
 else if o=63 then [.i 5,.i 0,.i 0,.u (0:Nat)]
 else if o=64 then [.i 4,.i 0,.i 0,.u (0:Nat)]
 else [.i 0,.i 0,.i 0,.u (0:Nat)]
theorem QDk (A:Nat):0+0+((A:Nat):Int).toNat * ty26.size=A:=by show 0+0+((A:Nat):Int).toNat * 1=A;omega
end Go.Proofs.YtpgkkfajljekpabGreat
