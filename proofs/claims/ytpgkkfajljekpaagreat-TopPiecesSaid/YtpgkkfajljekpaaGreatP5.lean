import Derived.Test.YtpgkkfajljekpaaGreatP3
set_option linter.unusedSimpArgs false
set_option linter.unusedVariables false
set_option maxHeartbeats 0
set_option maxRecDepth 100000
namespace Go.Proofs.YtpgkkfajljekpaaGreat
open Go Go.RowKit
theorem Qbi (x n:Nat) (hx:x<4294967296) (hn:n<=31):bits BinOp.and IntKind.u32 (x:Int) ((2^n-1:Nat):Int)=((x%2^n:Nat):Int):=by
 have h2:2^n<=2^31:=Nat.pow_le_pow_right (by omega) hn;have h3:0<2^n:=Nat.pow_pos (by omega);rw [u32_and_nat x (2^n-1) hx (by simp at h2 |-;omega),Nat.and_two_pow_sub_one_eq_mod]
theorem Qzo (n:Nat) (h2:n<=31):IntKind.u32.wrap (1*2^min ((n:Nat):Int).toNat IntKind.u32.bits)=((2^n:Nat):Int):=by
 have h3:2^n<=2^31:=Nat.pow_le_pow_right (by omega) h2;have e:min ((n:Nat):Int).toNat IntKind.u32.bits=n:=Qu7;rw [e,Int.one_mul];have:((2:Int)^n)=((2^n:Nat):Int):=by simp
 rw [this];generalize 2^n=P at *;exact Qe4 (by omega) (by simp at h3;omega)
def sgn (a:Nat):Int:=if a<2147483648 then (a:Int) else (a:Int)-4294967296
theorem QbV (a:Nat) (ha:a<4294967296):IntKind.i32.wrap (a:Int)=sgn a:=by
 unfold IntKind.wrap sgn;simp only [IntKind.signed,IntKind.bits,Bool.true_and,zde]
 by_cases h:a<2147483648
 .rw [zP h,zN (by simp;omega)];omega
 .rw [zN h,zP (by simp;omega)];omega
theorem QrS (a:Nat) (ha:a<4294967296): -2147483648<=sgn a/\sgn a<2147483648:=by unfold sgn;split<;>omega
theorem Qv7 {b:Nat} (hb:b<4294967296) (h:((b:Nat):Int)≠0):sgn b≠0:=by unfold sgn;split<;>omega
theorem Qwd (z:Int):IntKind.u32.wrap (IntKind.i32.wrap z)=z%4294967296:=by
 rw [Qcf]
 have e:IntKind.i32.wrap z=if z%4294967296>=2147483648 then z%4294967296-4294967296 else z%4294967296:=by
  unfold IntKind.wrap;simp [IntKind.signed,IntKind.bits]
 rw [e];split<;>omega
theorem QCS (z:Int):IntKind.u32.wrap (IntKind.i64.wrap z)=z%4294967296:=by
 rw [Qcf,IntKind.wrap_i64];omega
def dvQ (a b:Nat):Int:=if b=0 then 4294967295 else (sgn a).tdiv (sgn b)%4294967296
def dvR (a b:Nat):Int:=if b=0 then (a:Int) else (sgn a).tmod (sgn b)%4294967296
theorem Qpd (a b:Nat) (ha:a<4294967296) (fV:b<4294967296):FN 186 [.s (.u a),.s (.u b)] [] (. =⟨.tup [.s (.u (dvQ a b)),.s (.u (dvR a b))],[],[]⟩):=by
 refine fnW Tryz.func186 ?_;(repeat' ((conv=>whnf);first|exact zi0|(refine zj0 ?_;intro hb)|((with_reducible apply Vl.mk (α:=Int)); . first|exact Qwd _|exact QbV _ ha|exact QbV _ fV)|(apply Sd.mk; . exact Qv7 fV (by omega))|refine zs0 ?_|refine zbb ?_ ?_));all_goals (conv=>whnf)
 all_goals
  refine Qan rfl ?_;simp only [Qbc]
  first
   | (rw [dvQ,dvR,zP (by omega),zP (by omega)];done)
   | (rw [dvQ,dvR,zN (by omega),zN (by omega)];done)
   | (
     obtain rfl:a=2147483648:=by omega
     obtain rfl:b=4294967295:=by omega
     rfl)
theorem Qnv (a b:Nat) (ha:a<4294967296) (fV:b<4294967296):FN 230 [.s (.u a),.s (.u b)] [] (. =⟨.tup [.s (.u (dvQ a b)),.s (.u (dvR a b))],[],[]⟩):=by
 have ra:=QrS a ha;have rb:=QrS b fV;refine fnW Tryz.func230 ?_;(repeat' ((conv=>whnf);first|exact zi0|(refine zj0 ?_;intro hb)|((with_reducible apply Vl.mk (α:=Int)); . first|exact QCS _|exact QbV _ ha|exact QbV _ fV)|(apply Sd.mk; . exact Qv7 fV (by omega))|refine zs0 ?_|refine zbb ?_ ?_));all_goals (conv=>whnf)
 all_goals
  refine Qan rfl ?_;simp only [Qbc]
  first
   | (rw [dvQ,dvR,zP (by omega),zP (by omega)];done)
   | (rw [dvQ,dvR,zN (by omega),zN (by omega)];done)
   | (
     obtain rfl:a=2147483648:=by omega
     obtain rfl:b=4294967295:=by omega
     rfl)
theorem QuQ (b:Bool):FN 187 [.s (.bool b)] [] (. =⟨.a (.s (.u (if b then 1 else 0))),[],[]⟩):=by
 refine fnW Tryz.func187 ?_;exact QDN
theorem QoD (b:Bool):FN 218 [.s (.bool b)] [] (. =⟨.a (.s (.u (if b then 1 else 0))),[],[]⟩):=by
 refine fnW Tryz.func218 ?_;exact QDN
def Qhp (op:Int) (a b:Nat):Int :=
 if op=1\/op=16 then ((a:Int)+b)%4294967296 else if op=2 then ((a:Int)-b)%4294967296
 else if op=3\/op=17 then bits .and .u32 a b else if op=4\/op=18 then bits .or .u32 a b else if op=5\/op=19 then bits .xor .u32 a b
 else if op=6\/op=20 then ((a*2^(b%32)%4294967296:Nat):Int) else if op=7\/op=21 then ((a / 2^(b%32):Nat):Int)
 else if op=8\/op=22 then sgn a / 2^(b%32)%4294967296 else if op=9 then (a:Int)*b%4294967296
 else if op=10 then dvQ a b else if op=11 then dvR a b else if op=12\/op=23 then (if decide (sgn a<sgn b) then 1 else 0)
 else if op=13 then (if decide ((a:Int)<b) then 1 else 0) else 0
def QbT (op:Int):Bool:=decide (1<=op/\op<=13\/16<=op/\op<=23)
theorem QFn (b:Nat) (hb:b<4294967296):bits .and .u32 (b:Int) 31=((b%32:Nat):Int):=Qbi b 5 hb (by omega)
theorem QB5 (b:Nat):min (((b%32:Nat):Int)).toNat IntKind.u32.bits=b%32:=by simp only [Int.toNat_natCast,IntKind.bits];omega
theorem QGt (a b:Nat):IntKind.u32.wrap ((a:Int)*2^min (((b%32:Nat):Int)).toNat IntKind.u32.bits)=((a*2^(b%32)%4294967296:Nat):Int):=by
 rw [QB5,Qcf];simp
theorem QGv (a b:Nat):(a:Int) / 2^min (((b%32:Nat):Int)).toNat IntKind.u32.bits=((a / 2^(b%32):Nat):Int):=by
 rw [QB5];simp
theorem QGp (a:Int) (b:Nat):a / 2^min (((b%32:Nat):Int)).toNat IntKind.i32.bits=a / 2^(b%32):=by
 have:min (((b%32:Nat):Int)).toNat IntKind.i32.bits=b%32:=Qu7;rw [this]
theorem Qdh (op:Int) (a b:Nat) (ha:a<4294967296) (fV:b<4294967296):FN 126 [.s (.i op),.s (.u a),.s (.u b)] [] (. =⟨.tup [.s (.u (Qhp op a b)),.s (.bool (QbT op))],[],[]⟩):=by
 refine fnW Tryz.func126 ?_;(repeat' ((conv=>whnf);first|exact zi0|(refine zj0 ?_;intro hb)|(refine Qac (f:=186) (Qpd a b ha fV) rfl ?_)|(refine Qac (f:=187) (QuQ _) rfl ?_)|refine QH7 ?_|refine zs0 ?_|refine zbb ?_ ?_));all_goals (conv=>whnf)
 all_goals
  apply Qan
  (focus rfl)
  simp only [Qbc]
  first
   | (subst hb;rfl)
   | (
     subst hb;have e:Qhp 2 a b=((a:Int)-b)%4294967296:=rfl;rw [e,show (((a:Int)+(0-(b:Int))%4294967296)%4294967296)=((a:Int)-b)%4294967296 by omega]
     rfl)
   | (
     have e1:Qhp op a b=0:=by
      unfold Qhp
      repeat rw [zN (by omega)]
     have e2:QbT op=false:=by
      unfold QbT;rw [decide_eq_false_iff_not];omega
     rw [e1,e2])
set_option linter.unusedSectionVars false
theorem QhX (op:BinOp) (a b:Int):0<=bits op .u32 a b/\bits op .u32 a b<4294967296:=by
 unfold bits;rw [Qcf];omega
theorem Qw9 (a b:Nat):0<=dvQ a b/\dvQ a b<4294967296:=by unfold dvQ;split<;>omega
theorem Qxa (a b:Nat) (ha:a<4294967296):0<=dvR a b/\dvR a b<4294967296:=by unfold dvR;split<;>omega
def R32 (v:Int):Prop:=0<=v/\v<4294967296
theorem Qyr {c:Prop} [Decidable c] {x y:Int} (hx:R32 x) (hy:R32 y):R32 (if c then x else y):=by split<;>assumption
theorem QhT (op:Int) (a b:Nat) (ha:a<4294967296) (hb:b<4294967296):0<=Qhp op a b/\Qhp op a b<4294967296:=by
 have h1:=Qw9 a b;have h2:=Qxa a b ha;have h3:a / 2^(b%32)<4294967296:=Nat.lt_of_le_of_lt (Nat.div_le_self _ _) ha;have b1:=QhX .and (a:Int) b;have b2:=QhX .or (a:Int) b;have b3:=QhX .xor (a:Int) b;have b4:R32 ((a / 2^(b%32):Nat):Int):=⟨Int.natCast_nonneg _,by generalize a / 2^(b%32)=q at h3 |-;omega⟩;show R32 (Qhp op a b);unfold Qhp
 repeat' first
  | exact b1
  | exact b2
  | exact b3
  | exact b4
  | exact h1
  | exact h2
  | apply Qyr
  | exact ⟨by omega,by omega⟩
def Qbs (op:Int) (a b:Nat):Nat:=(Qhp op a b).toNat
theorem Qbf (op:Int) (a b:Nat) (ha:a<4294967296) (hb:b<4294967296):((Qbs op a b:Nat):Int)=Qhp op a b:=by
 have:=QhT op a b ha hb;unfold Qbs;omega
theorem QcU (op:Int) (a b:Nat) (ha:a<4294967296) (hb:b<4294967296):Qbs op a b<4294967296:=by
 have:=QhT op a b ha hb;unfold Qbs;omega
theorem QAn (a:Nat) (ha:a<4294967296):(BitVec.ofInt 32 (a:Int)).toNat=a:=by
 rw [BitVec.toNat_ofInt];simp;omega
theorem QhU (a b:Nat) (ha:a<4294967296) (hb:b<4294967296):bits .and .u32 (a:Int) b=((a &&& b:Nat):Int):=u32_and_nat a b ha hb
theorem QvX (a b:Nat) (ha:a<4294967296) (hb:b<4294967296):bits .or .u32 (a:Int) b=((a ||| b:Nat):Int):=by
 have h:a ||| b<2^32:=Nat.or_lt_two_pow (by simpa using ha) (by simpa using hb);show IntKind.u32.wrap (((BitVec.ofInt 32 (a:Int)) ||| (BitVec.ofInt 32 (b:Int))).toNat:Int)=_;rw [BitVec.toNat_or,QAn a ha,QAn b hb,Qcf];simp only [Nat.reducePow] at h;omega
theorem QG7 (a b:Nat) (ha:a<4294967296) (hb:b<4294967296):bits .xor .u32 (a:Int) b=((a ^^^ b:Nat):Int):=by
 have h:a ^^^ b<2^32:=Nat.xor_lt_two_pow (by simpa using ha) (by simpa using hb);show IntKind.u32.wrap (((BitVec.ofInt 32 (a:Int)) ^^^ (BitVec.ofInt 32 (b:Int))).toNat:Int)=_;rw [BitVec.toNat_xor,QAn a ha,QAn b hb,Qcf];simp only [Nat.reducePow] at h;omega
section
variable (a b:Nat) (ha:a<4294967296) (hb:b<4294967296)
include ha hb
theorem QqR:Qbs 1 a b=(a+b)%4294967296:=by
 have:Qhp 1 a b=((a:Int)+b)%4294967296:=rfl;unfold Qbs;rw [this];omega
theorem QGd:Qbs 2 a b=(a+(4294967296-b))%4294967296:=by
 have:Qhp 2 a b=((a:Int)-b)%4294967296:=rfl;unfold Qbs;rw [this];omega
theorem QB8:Qbs 5 a b=a ^^^ b:=by
 have:Qhp 5 a b=bits .xor .u32 (a:Int) b:=rfl;unfold Qbs;rw [this,QG7 a b ha hb];rfl
theorem Qx7:Qbs 9 a b=a*b%4294967296:=by
 have:Qhp 9 a b=(a:Int)*b%4294967296:=rfl;unfold Qbs;rw [this];have e:(a:Int)*b=((a*b:Nat):Int):=by simp
 rw [e];omega
theorem l1:Qbs 2 (Qbs 1 a b) b=a:=by
 have:=QcU 1 a b ha hb;rw [QGd _ b this hb,QqR a b ha hb];omega
theorem l2:Qbs 1 a b=Qbs 1 b a:=by rw [QqR a b ha hb,QqR b a hb ha,Nat.add_comm]
theorem l4:Qbs 5 (Qbs 5 a b) b=a:=by
 rw [QB8 _ b (QcU 5 a b ha hb) hb,QB8 a b ha hb,Nat.xor_assoc,Nat.xor_self,Nat.xor_zero]
end
theorem l3 (a b c:Nat) (ha:a<4294967296) (hb:b<4294967296) (hc:c<4294967296):Qbs 9 a (Qbs 1 b c)=Qbs 1 (Qbs 9 a b) (Qbs 9 a c):=by
 rw [Qx7 a _ ha (QcU 1 b c hb hc),QqR b c hb hc,QqR _ _ (QcU 9 a b ha hb) (QcU 9 a c ha hc),Qx7 a b ha hb,Qx7 a c ha hc];rw [Nat.mul_mod,Nat.mod_mod,<- Nat.mul_mod,Nat.mul_add,<- Nat.add_mod]
theorem Qcr (n k:Int) (h3:1<=k) (h4:k<=4611686018427387904):FN 6 [.s (.i n),.s (.i k)] [] (. =⟨.a (.s (.i (n%k))),[],[]⟩):=by
 have hz:(k==0)=false:=by simp;omega
 have hb:=Int.tmod_lt_of_pos n (show 0<k by omega);have ZO:=Int.lt_tmod_of_pos n (show 0<k by omega)
 have he:n%k=if n.tmod k<0 then n.tmod k+k else n.tmod k:=by
  rw [Int.tmod_eq_emod];have:=Int.emod_nonneg n (show k≠0 by omega);have:=Int.emod_lt_of_pos n (show 0<k by omega);split
  .rw [zN (by omega)];omega
  .rename_i h
   rw [Int.natAbs_of_nonneg (by omega),zP (by omega)];omega
 refine fnW Tryz.func6 ?_;(repeat' ((conv=>whnf);first|exact zi0|(refine zj0 ?_;intro hb)|refine zs0 ?_|refine zbb ?_ ?_));all_goals (conv=>whnf)
 .exact Qan rfl (by simp only [Qbc];rw [he,zP hb])
 .exact Qan rfl (by simp only [Qbc];rw [he,zN (by omega)])
def nxA (x:Int):Int:=IntKind.u64.wrap (x+11400714819323198485)
def nxB (x:Int):Int:=IntKind.u64.wrap (bits BinOp.xor IntKind.u64 (nxA x) (nxA x / 1073741824)*13787848793156543929)
def nxC (x:Int):Int:=IntKind.u64.wrap (bits BinOp.xor IntKind.u64 (nxB x) (nxB x / 134217728)*10723151780598845931)
def nxZ (x:Int):Int:=bits BinOp.xor IntKind.u64 (nxC x) (nxC x / 2147483648)
theorem Qsd (n:Int):0<=IntKind.u64.wrap n/\IntKind.u64.wrap n<18446744073709551616:=by rw [IntKind.wrap_u64];omega
theorem QqX (x:Int):0<=nxZ x/\nxZ x<18446744073709551616:=Qsd _
theorem Qyb (x:Int):FN 170 [.s (.w x)] [] (. =⟨.tup [.s (.w (nxZ x)),.s (.w (nxA x))],[],[]⟩):=by
 refine fnW Tryz.func170 ?_;(repeat' ((conv=>whnf);first|exact zi0|(refine zj0 ?_;intro hb)|((with_reducible apply Vl.mk (α:=Int)); . rfl)|refine zs0 ?_|refine zbb ?_ ?_));all_goals (conv=>whnf)
 all_goals exact Qan rfl rfl
def mix (n k:Int):Int:=nxZ (bits BinOp.xor IntKind.u64 (IntKind.u64.wrap n) (IntKind.u64.wrap (IntKind.u64.wrap k*11400714819323198485))) / 2
theorem QjB (n k:Int):0<=mix n k/\mix n k<=9223372036854775807:=by
 have:=QqX (bits BinOp.xor IntKind.u64 (IntKind.u64.wrap n) (IntKind.u64.wrap (IntKind.u64.wrap k*11400714819323198485)));unfold mix;omega
theorem QtZ (n k:Int):IntKind.i64.wrap (nxZ (bits BinOp.xor IntKind.u64 (IntKind.u64.wrap n) (IntKind.u64.wrap (IntKind.u64.wrap k*11400714819323198485))) / 2^min (Int.toNat 1) IntKind.u64.bits)=mix n k:=by
 rw [show (2:Int)^min (Int.toNat 1) IntKind.u64.bits=2 from rfl];have:=QjB n k;exact Qb1 (by unfold mix at this;omega) (by unfold mix at this;omega)
theorem QB7 (n k:Int):FN 98 [.s (.i n),.s (.i k)] [] (. =⟨.a (.s (.i (mix n k))),[],[]⟩):=by
 refine fnW Tryz.func98 ?_;(repeat' ((conv=>whnf);first|exact zi0|(refine zj0 ?_;intro hb)|(refine Qac (f:=170) (Qyb _) rfl ?_)|((with_reducible apply Vl.mk (α:=Int)); . first|exact QtZ n k|rfl)|refine zs0 ?_|refine zbb ?_ ?_));all_goals (conv=>whnf)
 all_goals exact Qan rfl rfl
theorem Qie (k:IntKind) (ls:List Int) (i:Nat) (h:i<ls.length):(isv k ls)[i]?=some (.int k (ls.getD i 0)):=by
 unfold isv;rw [zgm,zgg h];simp [List.getD,h]
theorem QaP (k:IntKind) (ls:List Int):Qad (isv k ls)=true:=by
 induction ls with
 | nil=>rfl
 | cons x xs ih=>exact ih
def QjH (op:Int):Int:=if op=16 then 1 else if op=17 then 3 else if op=18 then 4 else if op=19 then 5 else if op=20 then 6 else if op=21 then 7 else if op=22 then 8 else if op=23 then 12 else op
theorem Qb9 (op:Int):FN 229 [.s (.i op)] [] (. =⟨.a (.s (.i (QjH op))),[],[]⟩):=by
 refine fnW Tryz.func229 ?_;(repeat' ((conv=>whnf);first|exact zi0|(refine zj0 ?_;intro hb)|refine zs0 ?_|refine zbb ?_ ?_));all_goals (conv=>whnf)
 all_goals
  apply Qan
  (focus rfl)
  first
   | (subst hb;rfl)
   | (
     simp only [Qbc];have e:QjH op=op:=by (unfold QjH;repeat rw [zN (by omega)])
     rw [e])
theorem Qt5 (op:Int) (h:op<16\/23<op):FN 229 [.s (.i op)] [] (. =⟨.a (.s (.i op)),[],[]⟩):=by
 have:=Qb9 op
 have e:QjH op=op:=by
  unfold QjH;repeat rw [zN (by omega)]
 rw [e] at this;exact this
theorem Qrc (op:Int) (a b:Nat) (ha:a<4294967296) (fV:b<4294967296):FN 152 [.s (.i op),.s (.u a),.s (.u b)] [] (. =⟨.tup [.s (.u (Qhp op a b)),.s (.bool (QbT op))],[],[]⟩):=by
 have hc:(op=16\/op=17\/op=18\/op=19\/op=20\/op=21\/op=22\/op=23)\/(op<16\/23<op):=by omega
 rcases hc with (rfl|rfl|rfl|rfl|rfl|rfl|rfl|rfl)|hc
 all_goals refine fnW Tryz.func152 ?_
 all_goals (repeat' ((conv=>whnf);first|exact zi0|(refine zj0 ?_;intro hb)|(refine Qac (f:=229) (Qt5 _ hc) rfl ?_)|(refine Qac (f:=229) ((Qb9 _:Fn _ _ [.s (.i 16)] [] (. =⟨.a (.s (.i 1)),[],[]⟩))) rfl ?_)|(refine Qac (f:=229) ((Qb9 _:Fn _ _ [.s (.i 17)] [] (. =⟨.a (.s (.i 3)),[],[]⟩))) rfl ?_)|(refine Qac (f:=229) ((Qb9 _:Fn _ _ [.s (.i 18)] [] (. =⟨.a (.s (.i 4)),[],[]⟩))) rfl ?_)|(refine Qac (f:=229) ((Qb9 _:Fn _ _ [.s (.i 19)] [] (. =⟨.a (.s (.i 5)),[],[]⟩))) rfl ?_)|(refine Qac (f:=229) ((Qb9 _:Fn _ _ [.s (.i 20)] [] (. =⟨.a (.s (.i 6)),[],[]⟩))) rfl ?_)|(refine Qac (f:=229) ((Qb9 _:Fn _ _ [.s (.i 21)] [] (. =⟨.a (.s (.i 7)),[],[]⟩))) rfl ?_)|(refine Qac (f:=229) ((Qb9 _:Fn _ _ [.s (.i 22)] [] (. =⟨.a (.s (.i 8)),[],[]⟩))) rfl ?_)|(refine Qac (f:=229) ((Qb9 _:Fn _ _ [.s (.i 23)] [] (. =⟨.a (.s (.i 12)),[],[]⟩))) rfl ?_)|(refine Qac (f:=230) (Qnv a b ha fV) rfl ?_)|(refine Qac (f:=218) (QoD _) rfl ?_)|refine QH7 ?_|refine zs0 ?_|refine zbb ?_ ?_));all_goals (conv=>whnf)
 all_goals
  apply Qan
  (focus rfl)
  simp only [Qbc]
  first
   | rfl
   | (subst hb;rfl)
   | (
     have e1:Qhp op a b=0:=by
      unfold Qhp
      repeat rw [zN (by omega)]
     have e2:QbT op=false:=by
      unfold QbT;rw [decide_eq_false_iff_not];omega
     rw [e1,e2])
end Go.Proofs.YtpgkkfajljekpaaGreat
