import Derived.Test.YtcaddlighhiepaaQAbsS
import Derived.Test.YtcaddlighhiepaaQWord
namespace Go.Proofs.Ytcaddlighhiepaa
open Go Go.RowKit
set_option linter.unusedSimpArgs false
set_option linter.unusedVariables false
theorem and_mask (x n : Nat) (hx : x < 4294967296) (hn : n ≤ 31) : bits BinOp.and IntKind.u32 (x : Int) ((2 ^ n - 1 : Nat) : Int) = ((x % 2 ^ n : Nat) : Int) := by
  have h2 : 2 ^ n ≤ 2 ^ 31 := Nat.pow_le_pow_right (by omega) hn
  have h3 : 0 < 2 ^ n := Nat.pow_pos (by omega)
  rw [u32_and_nat x (2 ^ n - 1) hx (by simp at h2 ⊢; omega), Nat.and_two_pow_sub_one_eq_mod]
end Go.Proofs.Ytcaddlighhiepaa
