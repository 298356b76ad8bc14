import Derived.Test.YtflaceijiphfdaaGreatP8
set_option linter.unusedSimpArgs false
set_option linter.unusedVariables false
set_option maxHeartbeats 0
set_option maxRecDepth 100000
namespace Go.Proofs.YtflaceijiphfdaaGreat
open Go Go.RowKit
def sgn (a:Nat):Int:=if a<2147483648 then (a:Int) else (a:Int)-4294967296
theorem QbU (a:Nat) (ha:ZU a):IntKind.i32.wrap (a:Int)=sgn a:=by
 unfold IntKind.wrap sgn;simp only [IntKind.signed,IntKind.bits,Bool.true_and,zde]
 by_cases h:a<2147483648
 .rw [zP h,zN (by simp;omega)];omega
 .rw [zN h,zP (by simp;omega)];omega
theorem Qry (a:Nat) (ha:ZU a): -2147483648<=sgn a/\sgn a<2147483648:=by unfold sgn;split<;>omega
theorem QvG {b:Nat} (hb:ZU b) (h:((b:Nat):Int)≠0):sgn b≠0:=by unfold sgn;split<;>omega
theorem QvN (z:Int):IntKind.u32.wrap (IntKind.i32.wrap z)=z%4294967296:=by
 rw [Qce]
 have e:IntKind.i32.wrap z=if z%4294967296>=2147483648 then z%4294967296-4294967296 else z%4294967296:=by
  unfold IntKind.wrap;simp [IntKind.signed,IntKind.bits]
 rw [e];split<;>omega
theorem QCy (z:Int):IntKind.u32.wrap (IntKind.i64.wrap z)=z%4294967296:=by
 rw [Qce,IntKind.wrap_i64];omega
def dvQ (a b:Nat):Int:=if b=0 then 4294967295 else (sgn a).tdiv (sgn b)%4294967296
def dvR (a b:Nat):Int:=if b=0 then (a:Int) else (sgn a).tmod (sgn b)%4294967296
theorem QoV (a b:Nat) (ha:ZU a) (fM:ZU b):FN 205 [.s (.u a),.s (.u b)] [] (. =⟨.tup [.s (.u (dvQ a b)),.s (.u (dvR a b))],[],[]⟩):=by
 refine fnW Tryz.func205 ?_;(conv=>whnf);(repeat' ((first|exact zi0|refine zj0 fun hb=>?_|((with_reducible apply Vl.mk (α:=Int)); . first|exact QvN _|exact QbU _ ha|exact QbU _ fM)|(apply Sd.mk; . exact QvG fM (by omega))|refine zs0 ?_|refine zbb ?_ ?_)<;>conv=>whnf))
 all_goals
  refine Qam rfl ?_;simp only [Qba]
  first
   | (rw [dvQ,dvR,zP (by omega),zP (by omega)];done)
   | (rw [dvQ,dvR,zN (by omega),zN (by omega)];done)
   | (
     obtain rfl:a=2147483648:=by omega
     obtain rfl:b=4294967295:=by omega
     rfl)
theorem Qng (a b:Nat) (ha:ZU a) (fM:ZU b):FN 164 [.s (.u a),.s (.u b)] [] (. =⟨.tup [.s (.u (dvQ a b)),.s (.u (dvR a b))],[],[]⟩):=by
 have ra:=Qry a ha;have rb:=Qry b fM;refine fnW Tryz.func164 ?_;(conv=>whnf);(repeat' ((first|exact zi0|refine zj0 fun hb=>?_|((with_reducible apply Vl.mk (α:=Int)); . first|exact QCy _|exact QbU _ ha|exact QbU _ fM)|(apply Sd.mk; . exact QvG fM (by omega))|refine zs0 ?_|refine zbb ?_ ?_)<;>conv=>whnf))
 all_goals
  refine Qam rfl ?_;simp only [Qba]
  first
   | (rw [dvQ,dvR,zP (by omega),zP (by omega)];done)
   | (rw [dvQ,dvR,zN (by omega),zN (by omega)];done)
   | (
     obtain rfl:a=2147483648:=by omega
     obtain rfl:b=4294967295:=by omega
     rfl)
theorem Quw (b:Bool):FN 206 [.s (.bool b)] [] (. =⟨.a (.s (.u (if b then 1 else 0))),[],[]⟩):=by
 refine fnW Tryz.func206 ?_;exact QDq
theorem Qoo (b:Bool):FN 152 [.s (.bool b)] [] (. =⟨.a (.s (.u (if b then 1 else 0))),[],[]⟩):=by
 refine fnW Tryz.func152 ?_;exact QDq
def Qhd (op:Int) (a b:Nat):Int :=
 if op=1\/op=16 then ((a:Int)+b)%4294967296 else if op=2 then ((a:Int)-b)%4294967296
 else if op=3\/op=17 then bits .and .u32 a b else if op=4\/op=18 then bits .or .u32 a b else if op=5\/op=19 then bits .xor .u32 a b
 else if op=6\/op=20 then ((a*2^(b%32)%4294967296:Nat):Int) else if op=7\/op=21 then ((a / 2^(b%32):Nat):Int)
 else if op=8\/op=22 then sgn a / 2^(b%32)%4294967296 else if op=9 then (a:Int)*b%4294967296
 else if op=10 then dvQ a b else if op=11 then dvR a b else if op=12\/op=23 then (if decide (sgn a<sgn b) then 1 else 0)
 else if op=13 then (if decide ((a:Int)<b) then 1 else 0) else 0
def QbS (op:Int):Bool:=decide (1<=op/\op<=13\/16<=op/\op<=23)
theorem QEZ (b:Nat) (hb:ZU b):bits .and .u32 (b:Int) 31=((b%32:Nat):Int):=QaS b 5 hb (by omega)
theorem QBG (b:Nat):min (((b%32:Nat):Int)).toNat IntKind.u32.bits=b%32:=by simp only [Int.toNat_natCast,IntKind.bits];omega
theorem QFZ (a b:Nat):IntKind.u32.wrap ((a:Int)*2^min (((b%32:Nat):Int)).toNat IntKind.u32.bits)=((a*2^(b%32)%4294967296:Nat):Int):=by
 rw [QBG,Qce];simp
theorem QF1 (a b:Nat):(a:Int) / 2^min (((b%32:Nat):Int)).toNat IntKind.u32.bits=((a / 2^(b%32):Nat):Int):=by
 rw [QBG];simp
theorem QFV (a:Int) (b:Nat):a / 2^min (((b%32:Nat):Int)).toNat IntKind.i32.bits=a / 2^(b%32):=by
 have:min (((b%32:Nat):Int)).toNat IntKind.i32.bits=b%32:=QuI;rw [this]
theorem Qc9 (op:Int) (a b:Nat) (ha:ZU a) (fM:ZU b):FN 147 [.s (.i op),.s (.u a),.s (.u b)] [] (. =⟨.tup [.s (.u (Qhd op a b)),.s (.bool (QbS op))],[],[]⟩):=by
 refine fnW Tryz.func147 ?_;(conv=>whnf);(repeat' ((first|exact zi0|refine zj0 fun hb=>?_|(refine Qac (f:=205) (QoV a b ha fM) rfl ?_)|(refine Qac (f:=206) (Quw _) rfl ?_)|refine QHi ?_|refine zs0 ?_|refine zbb ?_ ?_)<;>conv=>whnf))
 all_goals
  apply Qam
  (focus rfl)
  simp only [Qba]
  first
   | (subst hb;rfl)
   | (
     subst hb;have e:Qhd 2 a b=((a:Int)-b)%4294967296:=rfl;rw [e,show (((a:Int)+(0-(b:Int))%4294967296)%4294967296)=((a:Int)-b)%4294967296 by omega]
     rfl)
   | (
     have e1:Qhd op a b=0:=by
      unfold Qhd
      repeat rw [zN (by omega)]
     have e2:QbS op=false:=by
      unfold QbS;rw [decide_eq_false_iff_not];omega
     rw [e1,e2])
set_option linter.unusedSectionVars false
theorem QhM (op:BinOp) (a b:Int):0<=bits op .u32 a b/\bits op .u32 a b<4294967296:=by
 unfold bits;rw [Qce];omega
theorem QwI (a b:Nat):0<=dvQ a b/\dvQ a b<4294967296:=by unfold dvQ;split<;>omega
theorem QwJ (a b:Nat) (ha:ZU a):0<=dvR a b/\dvR a b<4294967296:=by unfold dvR;split<;>omega
def R32 (v:Int):Prop:=0<=v/\v<4294967296
theorem QxY {c:Prop} [Decidable c] {x y:Int} (hx:R32 x) (hy:R32 y):R32 (if c then x else y):=by split<;>assumption
theorem QhI (op:Int) (a b:Nat) (ha:ZU a) (hb:ZU b):0<=Qhd op a b/\Qhd op a b<4294967296:=by
 have h1:=QwI a b;have h2:=QwJ a b ha;have h3:a / 2^(b%32)<4294967296:=Nat.lt_of_le_of_lt (Nat.div_le_self _ _) ha;have b1:=QhM .and (a:Int) b;have b2:=QhM .or (a:Int) b;have b3:=QhM .xor (a:Int) b;have b4:R32 ((a / 2^(b%32):Nat):Int):=⟨Int.natCast_nonneg _,by generalize a / 2^(b%32)=q at h3 |-;omega⟩;show R32 (Qhd op a b);unfold Qhd
 repeat' first
  | exact b1
  | exact b2
  | exact b3
  | exact b4
  | exact h1
  | exact h2
  | apply QxY
  | exact ⟨by omega,by omega⟩
def Qbr (op:Int) (a b:Nat):Nat:=(Qhd op a b).toNat
theorem Qbf (op:Int) (a b:Nat) (ha:ZU a) (hb:ZU b):((Qbr op a b:Nat):Int)=Qhd op a b:=by
 have:=QhI op a b ha hb;unfold Qbr;omega
theorem QcS (op:Int) (a b:Nat) (ha:ZU a) (hb:ZU b):Qbr op a b<4294967296:=by
 have:=QhI op a b ha hb;unfold Qbr;omega
theorem QzY (a:Nat) (ha:ZU a):(BitVec.ofInt 32 (a:Int)).toNat=a:=by
 rw [BitVec.toNat_ofInt];simp;omega
theorem QhJ (a b:Nat) (ha:ZU a) (hb:ZU b):bits .and .u32 (a:Int) b=((a &&& b:Nat):Int):=u32_and_nat a b ha hb
theorem Qvv (a b:Nat) (ha:ZU a) (hb:ZU b):bits .or .u32 (a:Int) b=((a ||| b:Nat):Int):=by
 have h:a ||| b<2^32:=Nat.or_lt_two_pow (by simpa using ha) (by simpa using hb);show IntKind.u32.wrap (((BitVec.ofInt 32 (a:Int)) ||| (BitVec.ofInt 32 (b:Int))).toNat:Int)=_;rw [BitVec.toNat_or,QzY a ha,QzY b hb,Qce];simp only [Nat.reducePow] at h;omega
theorem QGw (a b:Nat) (ha:ZU a) (hb:ZU b):bits .xor .u32 (a:Int) b=((a ^^^ b:Nat):Int):=by
 have h:a ^^^ b<2^32:=Nat.xor_lt_two_pow (by simpa using ha) (by simpa using hb);show IntKind.u32.wrap (((BitVec.ofInt 32 (a:Int)) ^^^ (BitVec.ofInt 32 (b:Int))).toNat:Int)=_;rw [BitVec.toNat_xor,QzY a ha,QzY b hb,Qce];simp only [Nat.reducePow] at h;omega
section
variable (a b:Nat) (ha:a<4294967296) (hb:b<4294967296)
include ha hb
theorem QqA:Qbr 1 a b=(a+b)%4294967296:=by
 have:Qhd 1 a b=((a:Int)+b)%4294967296:=rfl;unfold Qbr;rw [this];omega
theorem QFE:Qbr 2 a b=(a+(4294967296-b))%4294967296:=by
 have:Qhd 2 a b=((a:Int)-b)%4294967296:=rfl;unfold Qbr;rw [this];omega
theorem QBJ:Qbr 5 a b=a ^^^ b:=by
 have:Qhd 5 a b=bits .xor .u32 (a:Int) b:=rfl;unfold Qbr;rw [this,QGw a b ha hb];rfl
theorem QxE:Qbr 9 a b=a*b%4294967296:=by
 have:Qhd 9 a b=(a:Int)*b%4294967296:=rfl;unfold Qbr;rw [this];have e:(a:Int)*b=((a*b:Nat):Int):=by simp
 rw [e];omega
theorem l1:Qbr 2 (Qbr 1 a b) b=a:=by
 have:=QcS 1 a b ha hb;rw [QFE _ b this hb,QqA a b ha hb];omega
theorem l2:Qbr 1 a b=Qbr 1 b a:=by rw [QqA a b ha hb,QqA b a hb ha,Nat.add_comm]
theorem l4:Qbr 5 (Qbr 5 a b) b=a:=by
 rw [QBJ _ b (QcS 5 a b ha hb) hb,QBJ a b ha hb,Nat.xor_assoc,Nat.xor_self,Nat.xor_zero]
end
theorem l3 (a b c:Nat) (ha:ZU a) (hb:ZU b) (hc:ZU c):Qbr 9 a (Qbr 1 b c)=Qbr 1 (Qbr 9 a b) (Qbr 9 a c):=by
 rw [QxE a _ ha (QcS 1 b c hb hc),QqA b c hb hc,QqA _ _ (QcS 9 a b ha hb) (QcS 9 a c ha hc),QxE a b ha hb,QxE a c ha hc];rw [Nat.mul_mod,Nat.mod_mod,<- Nat.mul_mod,Nat.mul_add,<- Nat.add_mod]
end Go.Proofs.YtflaceijiphfdaaGreat
