/- A processor and a memory made from numbers: placed (UNDER WAY). -/
import Derived.Test.YtckdamhnmcmbbaaClnA
import Derived.Test.YtckdamhnmcmbbaaCpuA
import Derived.Test.YtckdamhnmcmbbaaCpuD
namespace Go.Proofs.Ytckdamhnmcmbbaa
open Go Go.RowKit
set_option linter.unusedSimpArgs false
set_option linter.unusedVariables false

theorem andM_i64 (x : Int) (h0 : 0 ≤ x) (h1 : x ≤ 9223372036854775807) : bits .and .i64 x 4294967295 = x % 4294967296 := by
  obtain ⟨n, rfl⟩ := Int.eq_ofNat_of_zero_le h0
  have e : ((BitVec.ofInt 64 (n : Int)) &&& (BitVec.ofInt 64 4294967295)).toNat = n % 4294967296 := by
    rw [BitVec.toNat_and, show (BitVec.ofInt 64 4294967295).toNat = 2 ^ 32 - 1 from rfl, Nat.and_two_pow_sub_one_eq_mod]
    have : (BitVec.ofInt 64 (n : Int)).toNat = n := by
      rw [BitVec.toNat_ofInt]; simp; omega
    rw [this]
  show IntKind.i64.wrap (((BitVec.ofInt 64 (n : Int)) &&& (BitVec.ofInt 64 4294967295)).toNat : Int) = _
  rw [e, wi64 (by omega) (by omega)]; omega
/-- The word made of a list's element and a number. -/
def wdN (ls : List Int) (i k : Int) : Nat := (mix (atV ls i) k % 4294967296).toNat
theorem wdN_lt (ls : List Int) (i k : Int) : wdN ls i k < 4294967296 := by unfold wdN; omega
theorem wd_and (ls : List Int) (i k : Int) : bits .and .i64 (mix (atV ls i) k) 4294967295 = ((wdN ls i k : Nat) : Int) := by
  have := mix_range (atV ls i) k
  rw [andM_i64 _ (by omega) (by omega)]; unfold wdN; omega
theorem wd_wrap (ls : List Int) (i k : Int) : IntKind.u32.wrap ((wdN ls i k : Nat) : Int) = ((wdN ls i k : Nat) : Int) := by
  have := wdN_lt ls i k; exact wu32 (by omega) (by omega)
theorem wd_600 (ls : List Int) (i k : Int) : ((wdN ls i k : Nat) : Int).tmod 600 = ((wdN ls i k % 600 : Nat) : Int) := by rw [tmod_pos (by omega)]; omega
def regsV (ls : List Int) : List Nat := [0, wdN ls 1 1, wdN ls 2 2 % 600, wdN ls 3 3, wdN ls 4 4 % 600, wdN ls 5 5, wdN ls 6 6 % 600, wdN ls 7 7, wdN ls 8 8 % 600, wdN ls 9 9, wdN ls 10 10 % 600, wdN ls 11 11, wdN ls 12 12 % 600, wdN ls 13 13, wdN ls 14 14 % 600, wdN ls 15 15]
def memL (ls : List Int) (j : Nat) : List Nat := (List.range 128).map fun i => if i < j then wdN ls i (20 + i) else 0
theorem memL_len (ls : List Int) (j : Nat) : (memL ls j).length = 128 := by simp [memL]
theorem memL_set (ls : List Int) (j : Nat) (hj : j < 128) : setAll (wsv (memL ls j)) j [.int .u32 (wdN ls j (20 + j) : Nat)] = wsv (memL ls (j + 1)) := by
  apply List.ext_getElem?
  intro i
  rw [setAll_get _ _ _ _ (by simp [memL_len]; omega)]
  unfold wsv memL
  simp only [List.getElem?_map, List.length_cons, List.length_nil, Nat.zero_add]
  by_cases hi : i < 128
  · rw [List.getElem?_range hi]
    simp only [Option.map_some]
    by_cases e : i = j
    · subst e
      rw [if_pos (by omega), if_pos (by omega)]
      simp
    · rw [if_neg (by omega)]
      by_cases h2 : i < j
      · rw [if_pos h2, if_pos (by omega)]
      · rw [if_neg h2, if_neg (by omega)]
  · rw [if_neg (by omega)]
    simp [List.getElem?_eq_none, show 128 ≤ i by omega]
end Go.Proofs.Ytckdamhnmcmbbaa
