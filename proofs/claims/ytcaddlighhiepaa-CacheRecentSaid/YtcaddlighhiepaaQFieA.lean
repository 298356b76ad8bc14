import Derived.Test.YtcaddlighhiepaaQIsa0
import Derived.Test.YtcaddlighhiepaaQWord
namespace Go.Proofs.Ytcaddlighhiepaa
open Go Go.RowKit
set_option linter.unusedSimpArgs false
set_option linter.unusedVariables false
theorem field_and (x l n : Nat) (hx : x < 4294967296) (hl : l ≤ 31) (h2 : n ≤ 31) : bits BinOp.and IntKind.u32 ((x : Int) / 2 ^ min ((l : Nat) : Int).toNat IntKind.u32.bits) ((2 ^ n - 1 : Nat) : Int) = ((x / 2 ^ l % 2 ^ n : Nat) : Int) := by
  have e : min ((l : Nat) : Int).toNat IntKind.u32.bits = l := by simp only [Int.toNat_natCast, IntKind.bits]; omega
  rw [e]
  have e2 : ((x : Int) / 2 ^ l) = ((x / 2 ^ l : Nat) : Int) := by simp
  rw [e2]
  exact and_mask _ n (Nat.lt_of_le_of_lt (Nat.div_le_self _ _) hx) h2
end Go.Proofs.Ytcaddlighhiepaa
