import Derived.Test.YtflaceijiphfdaaGreatP1
import Derived.Test.YtflaceijiphfdaaGreatP4
set_option linter.unusedSimpArgs false
set_option linter.unusedVariables false
set_option maxHeartbeats 0
set_option maxRecDepth 100000
namespace Go.Proofs.YtflaceijiphfdaaGreat
open Go Go.RowKit
theorem QaS (x n:Nat) (hx:ZU x) (hn:n<=31):bits BinOp.and IntKind.u32 (x:Int) ((2^n-1:Nat):Int)=((x%2^n:Nat):Int):=by
 have h2:2^n<=2^31:=Nat.pow_le_pow_right (by omega) hn;have h3:0<2^n:=Nat.pow_pos (by omega);rw [u32_and_nat x (2^n-1) hx (by simp at h2 |-;omega),Nat.and_two_pow_sub_one_eq_mod]
theorem QyV (n:Nat) (h2:n<=31):IntKind.u32.wrap (1*2^min ((n:Nat):Int).toNat IntKind.u32.bits)=((2^n:Nat):Int):=by
 have h3:2^n<=2^31:=Nat.pow_le_pow_right (by omega) h2;have e:min ((n:Nat):Int).toNat IntKind.u32.bits=n:=QuI;rw [e,Int.one_mul];have:((2:Int)^n)=((2^n:Nat):Int):=by simp
 rw [this];generalize 2^n=P at *;exact QeO (by omega) (by simp at h3;omega)
end Go.Proofs.YtflaceijiphfdaaGreat
