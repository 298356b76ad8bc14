/- The functions that make inputs from numbers: Round, Next, Mix. -/
import Derived.Test.YtmefbkfapeijgaaRows
import Derived.Test.YtmefbkfapeijgaaWord
namespace Go.Proofs.Ytmefbkfapeijgaa
open Go.RowKit

set_option maxHeartbeats 400000 in
theorem round_any (n k : Int) (w : World) (_h1 : -9223372036854775808 ≤ n) (_h2 : n ≤ 9223372036854775807) (h3 : 1 ≤ k) (h4 : k ≤ 4611686018427387904) :
    Calls Try.prog 26 #[.int .i64 n, .int .i64 k] w fun e w' => e = .returned (.int .i64 (n % k)) ∧ w = w' := by
  have hz : (k == 0) = false := by simp; omega
  have hb := Int.tmod_lt_of_pos n (show 0 < k by omega)
  have hb' := Int.lt_tmod_of_pos n (show 0 < k by omega)
  have he : n % k = if n.tmod k < 0 then n.tmod k + k else n.tmod k := by
    rw [Int.tmod_eq_emod]
    have := Int.emod_nonneg n (show k ≠ 0 by omega)
    have := Int.emod_lt_of_pos n (show 0 < k by omega)
    split
    · rw [if_neg (by omega)]; omega
    · rename_i h
      rw [Int.natAbs_of_nonneg (by omega), if_pos (by omega)]; omega
  have He := Lib.hid he
  clear he
  go_enter Try.func26, Try.ntmps26
  go_wp2
  · go_ret
    exact ⟨ret_int (by rw [He.out, if_pos ‹_›]), rfl⟩
  · go_ret
    exact ⟨ret_int (by rw [He.out, if_neg (by omega)]), rfl⟩

/-- The generator's step, as the walk spells it. -/
def nxA (x : Int) : Int := IntKind.u64.wrap (x + 11400714819323198485)
def nxB (x : Int) : Int := IntKind.u64.wrap (bits BinOp.xor IntKind.u64 (nxA x) (nxA x / 1073741824) * 13787848793156543929)
def nxC (x : Int) : Int := IntKind.u64.wrap (bits BinOp.xor IntKind.u64 (nxB x) (nxB x / 134217728) * 10723151780598845931)
def nxZ (x : Int) : Int := bits BinOp.xor IntKind.u64 (nxC x) (nxC x / 2147483648)
theorem u64_range (n : Int) : 0 ≤ IntKind.u64.wrap n ∧ IntKind.u64.wrap n < 18446744073709551616 := by rw [IntKind.wrap_u64]; omega
theorem nxZ_range (x : Int) : 0 ≤ nxZ x ∧ nxZ x < 18446744073709551616 := u64_range _

set_option maxHeartbeats 400000 in
theorem next_any (x : Int) (w : World) :
    Calls Try.prog 96 #[.int .u64 x] w fun e w' => e = .returned (.tuple #[.int .u64 (nxZ x), .int .u64 (nxA x)]) ∧ w = w' := by
  go_enter Try.func96, Try.ntmps96
  go_wp2
  go_ret2
  exact ⟨rfl, rfl⟩

/-- What Mix hands back. -/
def mix (n k : Int) : Int := nxZ (bits BinOp.xor IntKind.u64 (IntKind.u64.wrap n) (IntKind.u64.wrap (IntKind.u64.wrap k * 11400714819323198485))) / 2
theorem mix_range (n k : Int) : 0 ≤ mix n k ∧ mix n k ≤ 9223372036854775807 := by
  have := nxZ_range (bits BinOp.xor IntKind.u64 (IntKind.u64.wrap n) (IntKind.u64.wrap (IntKind.u64.wrap k * 11400714819323198485)))
  unfold mix; omega

set_option maxHeartbeats 400000 in
theorem mix_any (n k : Int) (w : World) :
    Calls Try.prog 37 #[.int .i64 n, .int .i64 k] w fun e w' => e = .returned (.int .i64 (mix n k)) ∧ w = w' := by
  obtain ⟨hr0, hr1⟩ := nxZ_range (bits BinOp.xor IntKind.u64 (IntKind.u64.wrap n) (IntKind.u64.wrap (IntKind.u64.wrap k * 11400714819323198485)))
  go_enter Try.func37, Try.ntmps37
  go_wp2_with (go_at_call 96; refine (next_any _ _).mono ?_; rintro e w' ⟨rfl, rfl⟩)
  go_ret
  exact ⟨rfl, rfl⟩
end Go.Proofs.Ytmefbkfapeijgaa
