import Derived.Test.YtpgkkfajljekpabGreatQ4
set_option linter.unusedSimpArgs false
set_option linter.unusedVariables false
set_option maxHeartbeats 0
set_option maxRecDepth 100000
namespace Go.Proofs.YtpgkkfajljekpabGreat
open Go Go.RowKit
theorem Qbm (x n:Nat) (hx:ZU x) (hn:n<=31):bits BinOp.and IntKind.u32 (x:Int) ((2^n-1:Nat):Int)=((x%2^n:Nat):Int):=by
 have h2:2^n<=2^31:=Nat.pow_le_pow_right (by omega) hn;have h3:0<2^n:=Nat.pow_pos (by omega);rw [u32_and_nat x (2^n-1) hx (by simp at h2 |-;omega),Nat.and_two_pow_sub_one_eq_mod]
theorem Qzt (n:Nat) (h2:n<=31):IntKind.u32.wrap (1*2^min ((n:Nat):Int).toNat IntKind.u32.bits)=((2^n:Nat):Int):=by
 have h3:2^n<=2^31:=Nat.pow_le_pow_right (by omega) h2;have e:min ((n:Nat):Int).toNat IntKind.u32.bits=n:=Qvf;rw [e,Int.one_mul];have:((2:Int)^n)=((2^n:Nat):Int):=by simp
 rw [this];generalize 2^n=P at *;exact Qe7 (by omega) (by simp at h3;omega)
def sgn (a:Nat):Int:=if a<2147483648 then (a:Int) else (a:Int)-4294967296
theorem QbX (a:Nat) (ha:ZU a):IntKind.i32.wrap (a:Int)=sgn a:=by
 unfold IntKind.wrap sgn;simp only [IntKind.signed,IntKind.bits,Bool.true_and,zde]
 by_cases h:a<2147483648
 .rw [zP h,zN (by simp;omega)];omega
 .rw [zN h,zP (by simp;omega)];omega
theorem Qr1 (a:Nat) (ha:ZU a): -2147483648<=sgn a/\sgn a<2147483648:=by unfold sgn;split<;>omega
theorem Qwh {b:Nat} (hb:ZU b) (h:((b:Nat):Int)≠0):sgn b≠0:=by unfold sgn;split<;>omega
theorem Qwo (z:Int):IntKind.u32.wrap (IntKind.i32.wrap z)=z%4294967296:=by
 rw [Qch]
 have e:IntKind.i32.wrap z=if z%4294967296>=2147483648 then z%4294967296-4294967296 else z%4294967296:=by
  unfold IntKind.wrap;simp [IntKind.signed,IntKind.bits]
 rw [e];split<;>omega
theorem QC3 (z:Int):IntKind.u32.wrap (IntKind.i64.wrap z)=z%4294967296:=by
 rw [Qch,IntKind.wrap_i64];omega
def dvQ (a b:Nat):Int:=if b=0 then 4294967295 else (sgn a).tdiv (sgn b)%4294967296
def dvR (a b:Nat):Int:=if b=0 then (a:Int) else (sgn a).tmod (sgn b)%4294967296
theorem Qpo (a b:Nat) (ha:ZU a) (fX:ZU b):FN 230 [.s (.u a),.s (.u b)] [] (. =⟨.tup [.s (.u (dvQ a b)),.s (.u (dvR a b))],[],[]⟩):=by
 refine fnW Tryz.func230 ?_;(conv=>whnf);(repeat' ((first|exact zi0|refine zj0 fun hb=>?_|((with_reducible apply Vl.mk (α:=Int)); . first|exact Qwo _|exact QbX _ ha|exact QbX _ fX)|(apply Sd.mk; . exact Qwh fX (by omega))|refine zs0 ?_|refine zbb ?_ ?_)<;>conv=>whnf))
 all_goals
  refine Qam rfl ?_;simp only [Qbc]
  first
   | (rw [dvQ,dvR,zP (by omega),zP (by omega)];done)
   | (rw [dvQ,dvR,zN (by omega),zN (by omega)];done)
   | (
     obtain rfl:a=2147483648:=by omega
     obtain rfl:b=4294967295:=by omega
     rfl)
theorem QnG (a b:Nat) (ha:ZU a) (fX:ZU b):FN 176 [.s (.u a),.s (.u b)] [] (. =⟨.tup [.s (.u (dvQ a b)),.s (.u (dvR a b))],[],[]⟩):=by
 have ra:=Qr1 a ha;have rb:=Qr1 b fX;refine fnW Tryz.func176 ?_;(conv=>whnf);(repeat' ((first|exact zi0|refine zj0 fun hb=>?_|((with_reducible apply Vl.mk (α:=Int)); . first|exact QC3 _|exact QbX _ ha|exact QbX _ fX)|(apply Sd.mk; . exact Qwh fX (by omega))|refine zs0 ?_|refine zbb ?_ ?_)<;>conv=>whnf))
 all_goals
  refine Qam rfl ?_;simp only [Qbc]
  first
   | (rw [dvQ,dvR,zP (by omega),zP (by omega)];done)
   | (rw [dvQ,dvR,zN (by omega),zN (by omega)];done)
   | (
     obtain rfl:a=2147483648:=by omega
     obtain rfl:b=4294967295:=by omega
     rfl)
theorem Qu1 (b:Bool):FN 231 [.s (.bool b)] [] (. =⟨.a (.s (.u (if b then 1 else 0))),[],[]⟩):=by
 refine fnW Tryz.func231 ?_;exact QDW
theorem QoO (b:Bool):FN 164 [.s (.bool b)] [] (. =⟨.a (.s (.u (if b then 1 else 0))),[],[]⟩):=by
 refine fnW Tryz.func164 ?_;exact QDW
def Qhu (op:Int) (a b:Nat):Int :=
 if op=1\/op=16 then ((a:Int)+b)%4294967296 else if op=2 then ((a:Int)-b)%4294967296
 else if op=3\/op=17 then bits .and .u32 a b else if op=4\/op=18 then bits .or .u32 a b else if op=5\/op=19 then bits .xor .u32 a b
 else if op=6\/op=20 then ((a*2^(b%32)%4294967296:Nat):Int) else if op=7\/op=21 then ((a / 2^(b%32):Nat):Int)
 else if op=8\/op=22 then sgn a / 2^(b%32)%4294967296 else if op=9 then (a:Int)*b%4294967296
 else if op=10 then dvQ a b else if op=11 then dvR a b else if op=12\/op=23 then (if decide (sgn a<sgn b) then 1 else 0)
 else if op=13 then (if decide ((a:Int)<b) then 1 else 0) else 0
def QbV (op:Int):Bool:=decide (1<=op/\op<=13\/16<=op/\op<=23)
theorem QFv (b:Nat) (hb:ZU b):bits .and .u32 (b:Int) 31=((b%32:Nat):Int):=Qbm b 5 hb (by omega)
theorem QCd (b:Nat):min (((b%32:Nat):Int)).toNat IntKind.u32.bits=b%32:=by simp only [Int.toNat_natCast,IntKind.bits];omega
theorem QGB (a b:Nat):IntKind.u32.wrap ((a:Int)*2^min (((b%32:Nat):Int)).toNat IntKind.u32.bits)=((a*2^(b%32)%4294967296:Nat):Int):=by
 rw [QCd,Qch];simp
theorem QGD (a b:Nat):(a:Int) / 2^min (((b%32:Nat):Int)).toNat IntKind.u32.bits=((a / 2^(b%32):Nat):Int):=by
 rw [QCd];simp
theorem QGx (a:Int) (b:Nat):a / 2^min (((b%32:Nat):Int)).toNat IntKind.i32.bits=a / 2^(b%32):=by
 have:min (((b%32:Nat):Int)).toNat IntKind.i32.bits=b%32:=Qvf;rw [this]
theorem Qdn (op:Int) (a b:Nat) (ha:ZU a) (fX:ZU b):FN 161 [.s (.i op),.s (.u a),.s (.u b)] [] (. =⟨.tup [.s (.u (Qhu op a b)),.s (.bool (QbV op))],[],[]⟩):=by
 refine fnW Tryz.func161 ?_;(conv=>whnf);(repeat' ((first|exact zi0|refine zj0 fun hb=>?_|(refine Qad (f:=230) (Qpo a b ha fX) rfl ?_)|(refine Qad (f:=231) (Qu1 _) rfl ?_)|refine QH3 ?_|refine zs0 ?_|refine zbb ?_ ?_)<;>conv=>whnf))
 all_goals
  apply Qam
  (focus rfl)
  simp only [Qbc]
  first
   | (subst hb;rfl)
   | (
     subst hb;have e:Qhu 2 a b=((a:Int)-b)%4294967296:=rfl;rw [e,show (((a:Int)+(0-(b:Int))%4294967296)%4294967296)=((a:Int)-b)%4294967296 by omega]
     rfl)
   | (
     have e1:Qhu op a b=0:=by
      unfold Qhu
      repeat rw [zN (by omega)]
     have e2:QbV op=false:=by
      unfold QbV;rw [decide_eq_false_iff_not];omega
     rw [e1,e2])
set_option linter.unusedSectionVars false
theorem Qh5 (op:BinOp) (a b:Int):0<=bits op .u32 a b/\bits op .u32 a b<4294967296:=by
 unfold bits;rw [Qch];omega
theorem Qxi (a b:Nat):0<=dvQ a b/\dvQ a b<4294967296:=by unfold dvQ;split<;>omega
theorem Qxj (a b:Nat) (ha:ZU a):0<=dvR a b/\dvR a b<4294967296:=by unfold dvR;split<;>omega
def R32 (v:Int):Prop:=0<=v/\v<4294967296
theorem Qyw {c:Prop} [Decidable c] {x y:Int} (hx:R32 x) (hy:R32 y):R32 (if c then x else y):=by split<;>assumption
theorem Qh1 (op:Int) (a b:Nat) (ha:ZU a) (hb:ZU b):0<=Qhu op a b/\Qhu op a b<4294967296:=by
 have h1:=Qxi a b;have h2:=Qxj a b ha;have h3:a / 2^(b%32)<4294967296:=Nat.lt_of_le_of_lt (Nat.div_le_self _ _) ha;have b1:=Qh5 .and (a:Int) b;have b2:=Qh5 .or (a:Int) b;have b3:=Qh5 .xor (a:Int) b;have b4:R32 ((a / 2^(b%32):Nat):Int):=⟨Int.natCast_nonneg _,by generalize a / 2^(b%32)=q at h3 |-;omega⟩;show R32 (Qhu op a b);unfold Qhu
 repeat' first
  | exact b1
  | exact b2
  | exact b3
  | exact b4
  | exact h1
  | exact h2
  | apply Qyw
  | exact ⟨by omega,by omega⟩
def Qbu (op:Int) (a b:Nat):Nat:=(Qhu op a b).toNat
theorem Qbi (op:Int) (a b:Nat) (ha:ZU a) (hb:ZU b):((Qbu op a b:Nat):Int)=Qhu op a b:=by
 have:=Qh1 op a b ha hb;unfold Qbu;omega
theorem Qc1 (op:Int) (a b:Nat) (ha:ZU a) (hb:ZU b):Qbu op a b<4294967296:=by
 have:=Qh1 op a b ha hb;unfold Qbu;omega
theorem QAs (a:Nat) (ha:ZU a):(BitVec.ofInt 32 (a:Int)).toNat=a:=by
 rw [BitVec.toNat_ofInt];simp;omega
theorem Qh2 (a b:Nat) (ha:ZU a) (hb:ZU b):bits .and .u32 (a:Int) b=((a &&& b:Nat):Int):=u32_and_nat a b ha hb
theorem Qv6 (a b:Nat) (ha:ZU a) (hb:ZU b):bits .or .u32 (a:Int) b=((a ||| b:Nat):Int):=by
 have h:a ||| b<2^32:=Nat.or_lt_two_pow (by simpa using ha) (by simpa using hb);show IntKind.u32.wrap (((BitVec.ofInt 32 (a:Int)) ||| (BitVec.ofInt 32 (b:Int))).toNat:Int)=_;rw [BitVec.toNat_or,QAs a ha,QAs b hb,Qch];simp only [Nat.reducePow] at h;omega
theorem QG9 (a b:Nat) (ha:ZU a) (hb:ZU b):bits .xor .u32 (a:Int) b=((a ^^^ b:Nat):Int):=by
 have h:a ^^^ b<2^32:=Nat.xor_lt_two_pow (by simpa using ha) (by simpa using hb);show IntKind.u32.wrap (((BitVec.ofInt 32 (a:Int)) ^^^ (BitVec.ofInt 32 (b:Int))).toNat:Int)=_;rw [BitVec.toNat_xor,QAs a ha,QAs b hb,Qch];simp only [Nat.reducePow] at h;omega
section
variable (a b:Nat) (ha:a<4294967296) (hb:b<4294967296)
include ha hb
theorem Qq4:Qbu 1 a b=(a+b)%4294967296:=by
 have:Qhu 1 a b=((a:Int)+b)%4294967296:=rfl;unfold Qbu;rw [this];omega
theorem QGl:Qbu 2 a b=(a+(4294967296-b))%4294967296:=by
 have:Qhu 2 a b=((a:Int)-b)%4294967296:=rfl;unfold Qbu;rw [this];omega
theorem QCg:Qbu 5 a b=a ^^^ b:=by
 have:Qhu 5 a b=bits .xor .u32 (a:Int) b:=rfl;unfold Qbu;rw [this,QG9 a b ha hb];rfl
theorem Qyd:Qbu 9 a b=a*b%4294967296:=by
 have:Qhu 9 a b=(a:Int)*b%4294967296:=rfl;unfold Qbu;rw [this];have e:(a:Int)*b=((a*b:Nat):Int):=by simp
 rw [e];omega
theorem l1:Qbu 2 (Qbu 1 a b) b=a:=by
 have:=Qc1 1 a b ha hb;rw [QGl _ b this hb,Qq4 a b ha hb];omega
theorem l2:Qbu 1 a b=Qbu 1 b a:=by rw [Qq4 a b ha hb,Qq4 b a hb ha,Nat.add_comm]
theorem l4:Qbu 5 (Qbu 5 a b) b=a:=by
 rw [QCg _ b (Qc1 5 a b ha hb) hb,QCg a b ha hb,Nat.xor_assoc,Nat.xor_self,Nat.xor_zero]
end
theorem l3 (a b c:Nat) (ha:ZU a) (hb:ZU b) (hc:ZU c):Qbu 9 a (Qbu 1 b c)=Qbu 1 (Qbu 9 a b) (Qbu 9 a c):=by
 rw [Qyd a _ ha (Qc1 1 b c hb hc),Qq4 b c hb hc,Qq4 _ _ (Qc1 9 a b ha hb) (Qc1 9 a c ha hc),Qyd a b ha hb,Qyd a c ha hc];rw [Nat.mul_mod,Nat.mod_mod,<- Nat.mul_mod,Nat.mul_add,<- Nat.add_mod]
def QjR (op:Int):Int:=if op=16 then 1 else if op=17 then 3 else if op=18 then 4 else if op=19 then 5 else if op=20 then 6 else if op=21 then 7 else if op=22 then 8 else if op=23 then 12 else op
theorem Qcc (op:Int):FN 175 [.s (.i op)] [] (. =⟨.a (.s (.i (QjR op))),[],[]⟩):=by
 refine fnW Tryz.func175 ?_;(conv=>whnf);(repeat' ((first|exact zi0|refine zj0 fun hb=>?_|refine zs0 ?_|refine zbb ?_ ?_)<;>conv=>whnf))
 all_goals
  apply Qam
  (focus rfl)
  first
   | (subst hb;rfl)
   | (
     simp only [Qbc];have e:QjR op=op:=by (unfold QjR;repeat rw [zN (by omega)])
     rw [e])
theorem Quf (op:Int) (h:op<16\/23<op):FN 175 [.s (.i op)] [] (. =⟨.a (.s (.i op)),[],[]⟩):=by
 have:=Qcc op
 have e:QjR op=op:=by
  unfold QjR;repeat rw [zN (by omega)]
 rw [e] at this;exact this
theorem Qrr (op:Int) (a b:Nat) (ha:ZU a) (fX:ZU b):FN 102 [.s (.i op),.s (.u a),.s (.u b)] [] (. =⟨.tup [.s (.u (Qhu op a b)),.s (.bool (QbV op))],[],[]⟩):=by
 have hc:(op=16\/op=17\/op=18\/op=19\/op=20\/op=21\/op=22\/op=23)\/(op<16\/23<op):=by omega
 rcases hc with (rfl|rfl|rfl|rfl|rfl|rfl|rfl|rfl)|hc
 all_goals refine fnW Tryz.func102 ?_
 all_goals (conv=>whnf);(repeat' ((first|exact zi0|refine zj0 fun hb=>?_|(refine Qad (f:=175) (Quf _ hc) rfl ?_)|(refine Qad (f:=175) ((Qcc _:Fn _ _ [.s (.i 16)] [] (. =⟨.a (.s (.i 1)),[],[]⟩))) rfl ?_)|(refine Qad (f:=175) ((Qcc _:Fn _ _ [.s (.i 17)] [] (. =⟨.a (.s (.i 3)),[],[]⟩))) rfl ?_)|(refine Qad (f:=175) ((Qcc _:Fn _ _ [.s (.i 18)] [] (. =⟨.a (.s (.i 4)),[],[]⟩))) rfl ?_)|(refine Qad (f:=175) ((Qcc _:Fn _ _ [.s (.i 19)] [] (. =⟨.a (.s (.i 5)),[],[]⟩))) rfl ?_)|(refine Qad (f:=175) ((Qcc _:Fn _ _ [.s (.i 20)] [] (. =⟨.a (.s (.i 6)),[],[]⟩))) rfl ?_)|(refine Qad (f:=175) ((Qcc _:Fn _ _ [.s (.i 21)] [] (. =⟨.a (.s (.i 7)),[],[]⟩))) rfl ?_)|(refine Qad (f:=175) ((Qcc _:Fn _ _ [.s (.i 22)] [] (. =⟨.a (.s (.i 8)),[],[]⟩))) rfl ?_)|(refine Qad (f:=175) ((Qcc _:Fn _ _ [.s (.i 23)] [] (. =⟨.a (.s (.i 12)),[],[]⟩))) rfl ?_)|(refine Qad (f:=176) (QnG a b ha fX) rfl ?_)|(refine Qad (f:=164) (QoO _) rfl ?_)|refine QH3 ?_|refine zs0 ?_|refine zbb ?_ ?_)<;>conv=>whnf))
 all_goals
  apply Qam
  (focus rfl)
  simp only [Qbc]
  first
   | rfl
   | (subst hb;rfl)
   | (
     have e1:Qhu op a b=0:=by
      unfold Qhu
      repeat rw [zN (by omega)]
     have e2:QbV op=false:=by
      unfold QbV;rw [decide_eq_false_iff_not];omega
     rw [e1,e2])
end Go.Proofs.YtpgkkfajljekpabGreat
