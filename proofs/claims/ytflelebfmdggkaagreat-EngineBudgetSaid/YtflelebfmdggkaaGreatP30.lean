import Derived.Test.YtflelebfmdggkaaGreatP3
set_option linter.unusedSimpArgs false
set_option linter.unusedVariables false
set_option maxHeartbeats 100000000
set_option maxRecDepth 100000
namespace Go.Proofs.YtflelebfmdggkaaGreat
open Go Go.RowKit
theorem Qbm (x n:Nat) (hx:x<4294967296) (hn:n≤31):bits BinOp.and IntKind.u32 (x:Int) ((2^n-1:Nat):Int)=((x%2^n:Nat):Int):=by
 have h2:2^n≤2^31:=Nat.pow_le_pow_right (by omega) hn;have h3:0<2^n:=Nat.pow_pos (by omega);rw [u32_and_nat x (2^n-1) hx (by simp at h2 ⊢;omega),Nat.and_two_pow_sub_one_eq_mod]
theorem Qyy (n:Nat) (h2:n≤31):IntKind.u32.wrap (1*2^min ((n:Nat):Int).toNat IntKind.u32.bits)=((2^n:Nat):Int):=by
 have h3:2^n≤2^31:=Nat.pow_le_pow_right (by omega) h2;have e:min ((n:Nat):Int).toNat IntKind.u32.bits=n:=QFt;rw [e,Int.one_mul];have:((2:Int)^n)=((2^n:Nat):Int):=by simp
 rw [this];generalize 2^n=P at *;exact QeS (by omega) (by simp at h3;omega)
def sgn (a:Nat):Int:=if a<2147483648 then (a:Int) else (a:Int)-4294967296
theorem QbW (a:Nat) (ha:a<4294967296):IntKind.i32.wrap (a:Int)=sgn a:=by
 unfold IntKind.wrap sgn;simp only [IntKind.signed,IntKind.bits,Bool.true_and,decide_eq_true_eq]
 by_cases h:a<2147483648
 ·rw [zP h,zN (by simp;omega)];omega
 ·rw [zN h,zP (by simp;omega)];omega
theorem QrU (a:Nat) (ha:a<4294967296): -2147483648≤sgn a∧sgn a<2147483648:=by unfold sgn;split<;>omega
theorem QvQ {b:Nat} (hb:b<4294967296) (h:((b:Nat):Int)≠0):sgn b≠0:=by unfold sgn;split<;>omega
theorem QvX (z:Int):IntKind.u32.wrap (IntKind.i32.wrap z)=z%4294967296:=by
 rw [Qcf]
 have e:IntKind.i32.wrap z=if z%4294967296≥2147483648 then z%4294967296-4294967296 else z%4294967296:=by
  unfold IntKind.wrap;simp [IntKind.signed,IntKind.bits]
 rw [e];split<;>omega
theorem QBm (z:Int):IntKind.u32.wrap (IntKind.i64.wrap z)=z%4294967296:=by
 rw [Qcf,IntKind.wrap_i64];omega
def dvQ (a b:Nat):Int:=if b=0 then 4294967295 else (sgn a).tdiv (sgn b)%4294967296
def dvR (a b:Nat):Int:=if b=0 then (a:Int) else (sgn a).tmod (sgn b)%4294967296
theorem Qro (a b:Nat) (ha:a<4294967296) (fY:b<4294967296):FN 217 [.s (.u a),.s (.u b)] [] (· =⟨.tup [.s (.u (dvQ a b)),.s (.u (dvR a b))],[],[]⟩):=by
 refine fnW Tryz.func217 ?_;(repeat' ((conv=>whnf);first|exact zi0|(refine zj0 ?_;intro hb)|((with_reducible apply Vl.mk (α:=Int)); · first|exact QvX _|exact QbW _ ha|exact QbW _ fY)|(apply Sd.mk; · exact QvQ fY (by omega))|refine zs0 ?_|refine zbb ?_ ?_));all_goals (conv=>whnf)
 all_goals
  refine Qam rfl ?_;simp only [Qbc]
  first
   | (rw [dvQ,dvR,zP (by omega),zP (by omega)];done)
   | (rw [dvQ,dvR,zN (by omega),zN (by omega)];done)
   | (
     obtain rfl:a=2147483648:=by omega
     obtain rfl:b=4294967295:=by omega
     rfl)
theorem Qm4 (a b:Nat) (ha:a<4294967296) (fY:b<4294967296):FN 167 [.s (.u a),.s (.u b)] [] (· =⟨.tup [.s (.u (dvQ a b)),.s (.u (dvR a b))],[],[]⟩):=by
 have ra:=QrU a ha;have rb:=QrU b fY;refine fnW Tryz.func167 ?_;(repeat' ((conv=>whnf);first|exact zi0|(refine zj0 ?_;intro hb)|((with_reducible apply Vl.mk (α:=Int)); · first|exact QBm _|exact QbW _ ha|exact QbW _ fY)|(apply Sd.mk; · exact QvQ fY (by omega))|refine zs0 ?_|refine zbb ?_ ?_));all_goals (conv=>whnf)
 all_goals
  refine Qam rfl ?_;simp only [Qbc]
  first
   | (rw [dvQ,dvR,zP (by omega),zP (by omega)];done)
   | (rw [dvQ,dvR,zN (by omega),zN (by omega)];done)
   | (
     obtain rfl:a=2147483648:=by omega
     obtain rfl:b=4294967295:=by omega
     rfl)
theorem QtD (b:Bool):FN 218 [.s (.bool b)] [] (· =⟨.a (.s (.u (if b then 1 else 0))),[],[]⟩):=by
 refine fnW Tryz.func218 ?_;exact QBY
theorem Qqg (b:Bool):FN 155 [.s (.bool b)] [] (· =⟨.a (.s (.u (if b then 1 else 0))),[],[]⟩):=by
 refine fnW Tryz.func155 ?_;exact QBY
def Qhp (op:Int) (a b:Nat):Int :=
 if op=1∨op=16 then ((a:Int)+b)%4294967296 else if op=2 then ((a:Int)-b)%4294967296
 else if op=3∨op=17 then bits .and .u32 a b else if op=4∨op=18 then bits .or .u32 a b else if op=5∨op=19 then bits .xor .u32 a b
 else if op=6∨op=20 then ((a*2^(b%32)%4294967296:Nat):Int) else if op=7∨op=21 then ((a / 2^(b%32):Nat):Int)
 else if op=8∨op=22 then sgn a / 2^(b%32)%4294967296 else if op=9 then (a:Int)*b%4294967296
 else if op=10 then dvQ a b else if op=11 then dvR a b else if op=12∨op=23 then (if decide (sgn a<sgn b) then 1 else 0)
 else if op=13 then (if decide ((a:Int)<b) then 1 else 0) else 0
def QbX (op:Int):Bool:=decide (1≤op∧op≤13∨16≤op∧op≤23)
theorem QG7 (b:Nat) (hb:b<4294967296):bits .and .u32 (b:Int) 31=((b%32:Nat):Int):=Qbm b 5 hb (by omega)
theorem QDu (b:Nat):min (((b%32:Nat):Int)).toNat IntKind.u32.bits=b%32:=by simp only [Int.toNat_natCast,IntKind.bits];omega
theorem QGJ (a b:Nat):IntKind.u32.wrap ((a:Int)*2^min (((b%32:Nat):Int)).toNat IntKind.u32.bits)=((a*2^(b%32)%4294967296:Nat):Int):=by
 rw [QDu,Qcf];simp
theorem QG8 (a b:Nat):(a:Int) / 2^min (((b%32:Nat):Int)).toNat IntKind.u32.bits=((a / 2^(b%32):Nat):Int):=by
 rw [QDu];simp
theorem QFz (a:Int) (b:Nat):a / 2^min (((b%32:Nat):Int)).toNat IntKind.i32.bits=a / 2^(b%32):=by
 have:min (((b%32:Nat):Int)).toNat IntKind.i32.bits=b%32:=QFt;rw [this]
theorem Qdk (op:Int) (a b:Nat) (ha:a<4294967296) (fY:b<4294967296):FN 152 [.s (.i op),.s (.u a),.s (.u b)] [] (· =⟨.tup [.s (.u (Qhp op a b)),.s (.bool (QbX op))],[],[]⟩):=by
 refine fnW Tryz.func152 ?_;(repeat' ((conv=>whnf);first|exact zi0|(refine zj0 ?_;intro hb)|(refine Qac (f:=217) (Qro a b ha fY) rfl ?_)|(refine Qac (f:=218) (QtD _) rfl ?_)|refine QIl ?_|refine zs0 ?_|refine zbb ?_ ?_));all_goals (conv=>whnf)
 all_goals
  apply Qam
  (focus rfl)
  simp only [Qbc]
  first
   | (subst hb;rfl)
   | (
     subst hb;have e:Qhp 2 a b=((a:Int)-b)%4294967296:=rfl;rw [e,show (((a:Int)+(0-(b:Int))%4294967296)%4294967296)=((a:Int)-b)%4294967296 by omega]
     rfl)
   | (
     have e1:Qhp op a b=0:=by
      unfold Qhp
      repeat rw [zN (by omega)]
     have e2:QbX op=false:=by
      unfold QbX;rw [decide_eq_false_iff_not];omega
     rw [e1,e2])
set_option linter.unusedSectionVars false
theorem Qij (op:BinOp) (a b:Int):0≤bits op .u32 a b∧bits op .u32 a b<4294967296:=by
 unfold bits;rw [Qcf];omega
theorem Qx5 (a b:Nat):0≤dvQ a b∧dvQ a b<4294967296:=by unfold dvQ;split<;>omega
theorem Qzc (a b:Nat) (ha:a<4294967296):0≤dvR a b∧dvR a b<4294967296:=by unfold dvR;split<;>omega
def R32 (v:Int):Prop:=0≤v∧v<4294967296
theorem Qzp {c:Prop} [Decidable c] {x y:Int} (hx:R32 x) (hy:R32 y):R32 (if c then x else y):=by split<;>assumption
theorem QhN (op:Int) (a b:Nat) (ha:a<4294967296) (hb:b<4294967296):0≤Qhp op a b∧Qhp op a b<4294967296:=by
 have h1:=Qx5 a b;have h2:=Qzc a b ha;have h3:a / 2^(b%32)<4294967296:=Nat.lt_of_le_of_lt (Nat.div_le_self _ _) ha;have b1:=Qij .and (a:Int) b;have b2:=Qij .or (a:Int) b;have b3:=Qij .xor (a:Int) b;have b4:R32 ((a / 2^(b%32):Nat):Int):=⟨Int.natCast_nonneg _,by generalize a / 2^(b%32)=q at h3 ⊢;omega⟩;show R32 (Qhp op a b);unfold Qhp
 repeat' first
  | exact b1
  | exact b2
  | exact b3
  | exact b4
  | exact h1
  | exact h2
  | apply Qzp
  | exact ⟨by omega,by omega⟩
def Qbv (op:Int) (a b:Nat):Nat:=(Qhp op a b).toNat
theorem Qbj (op:Int) (a b:Nat) (ha:a<4294967296) (hb:b<4294967296):((Qbv op a b:Nat):Int)=Qhp op a b:=by
 have:=QhN op a b ha hb;unfold Qbv;omega
theorem Qc2 (op:Int) (a b:Nat) (ha:a<4294967296) (hb:b<4294967296):Qbv op a b<4294967296:=by
 have:=QhN op a b ha hb;unfold Qbv;omega
theorem QzV (a:Nat) (ha:a<4294967296):(BitVec.ofInt 32 (a:Int)).toNat=a:=by
 rw [BitVec.toNat_ofInt];simp;omega
theorem Qii (a b:Nat) (ha:a<4294967296) (hb:b<4294967296):bits .and .u32 (a:Int) b=((a &&& b:Nat):Int):=u32_and_nat a b ha hb
theorem QvM (a b:Nat) (ha:a<4294967296) (hb:b<4294967296):bits .or .u32 (a:Int) b=((a ||| b:Nat):Int):=by
 have h:a ||| b<2^32:=Nat.or_lt_two_pow (by simpa using ha) (by simpa using hb);show IntKind.u32.wrap (((BitVec.ofInt 32 (a:Int)) ||| (BitVec.ofInt 32 (b:Int))).toNat:Int)=_;rw [BitVec.toNat_or,QzV a ha,QzV b hb,Qcf];simp only [Nat.reducePow] at h;omega
theorem QHp (a b:Nat) (ha:a<4294967296) (hb:b<4294967296):bits .xor .u32 (a:Int) b=((a ^^^ b:Nat):Int):=by
 have h:a ^^^ b<2^32:=Nat.xor_lt_two_pow (by simpa using ha) (by simpa using hb);show IntKind.u32.wrap (((BitVec.ofInt 32 (a:Int)) ^^^ (BitVec.ofInt 32 (b:Int))).toNat:Int)=_;rw [BitVec.toNat_xor,QzV a ha,QzV b hb,Qcf];simp only [Nat.reducePow] at h;omega
section
variable (a b:Nat) (ha:a<4294967296) (hb:b<4294967296)
include ha hb
theorem QrT:Qbv 1 a b=(a+b)%4294967296:=by
 have:Qhp 1 a b=((a:Int)+b)%4294967296:=rfl;unfold Qbv;rw [this];omega
theorem QGT:Qbv 2 a b=(a+(4294967296-b))%4294967296:=by
 have:Qhp 2 a b=((a:Int)-b)%4294967296:=rfl;unfold Qbv;rw [this];omega
theorem QC7:Qbv 5 a b=a ^^^ b:=by
 have:Qhp 5 a b=bits .xor .u32 (a:Int) b:=rfl;unfold Qbv;rw [this,QHp a b ha hb];rfl
theorem QwX:Qbv 9 a b=a*b%4294967296:=by
 have:Qhp 9 a b=(a:Int)*b%4294967296:=rfl;unfold Qbv;rw [this];have e:(a:Int)*b=((a*b:Nat):Int):=by simp
 rw [e];omega
theorem l1:Qbv 2 (Qbv 1 a b) b=a:=by
 have:=Qc2 1 a b ha hb;rw [QGT _ b this hb,QrT a b ha hb];omega
theorem l2:Qbv 1 a b=Qbv 1 b a:=by rw [QrT a b ha hb,QrT b a hb ha,Nat.add_comm]
theorem l4:Qbv 5 (Qbv 5 a b) b=a:=by
 rw [QC7 _ b (Qc2 5 a b ha hb) hb,QC7 a b ha hb,Nat.xor_assoc,Nat.xor_self,Nat.xor_zero]
end
theorem l3 (a b c:Nat) (ha:a<4294967296) (hb:b<4294967296) (hc:c<4294967296):Qbv 9 a (Qbv 1 b c)=Qbv 1 (Qbv 9 a b) (Qbv 9 a c):=by
 rw [QwX a _ ha (Qc2 1 b c hb hc),QrT b c hb hc,QrT _ _ (Qc2 9 a b ha hb) (Qc2 9 a c ha hc),QwX a b ha hb,QwX a c ha hc];rw [Nat.mul_mod,Nat.mod_mod,← Nat.mul_mod,Nat.mul_add,← Nat.add_mod]
end Go.Proofs.YtflelebfmdggkaaGreat
