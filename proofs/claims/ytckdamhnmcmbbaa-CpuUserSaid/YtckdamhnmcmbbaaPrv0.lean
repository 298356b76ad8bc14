/- The registers made from numbers; where a law puts its instruction. -/
import Derived.Test.YtckdamhnmcmbbaaPlcB
import Derived.Test.YtckdamhnmcmbbaaEncB
import Derived.Test.YtckdamhnmcmbbaaSamA
namespace Go.Proofs.Ytckdamhnmcmbbaa
open Go Go.RowKit
set_option linter.unusedSimpArgs false
set_option linter.unusedVariables false

theorem regsV_len (ls : List Int) : (regsV ls).length = 16 := rfl
theorem regsV_lt (ls : List Int) : ∀ y ∈ regsV ls, y < 4294967296 := by
  have h := fun i k => wdN_lt ls i k
  have h2 : ∀ i k, wdN ls i k % 600 < 4294967296 := fun i k => Nat.lt_of_lt_of_le (Nat.mod_lt _ (by omega)) (by omega)
  intro y hy
  unfold regsV at hy
  simp only [List.mem_cons, List.not_mem_nil, or_false] at hy
  rcases hy with h' | h' | h' | h' | h' | h' | h' | h' | h' | h' | h' | h' | h' | h' | h' | h' <;> subst h' <;> first | omega | exact h _ _ | exact h2 _ _
theorem set_get (xs : List Nat) (j w : Nat) (hj : j < xs.length) : (xs.set j w).getD j 0 = w := by
  rw [List.getD_eq_getElem?_getD, List.getElem?_set_self hj]; rfl
theorem ld128 (pc : Nat) (h : pc < 512) (h4 : pc % 4 = 0) : ld4 128 pc = true := by
  unfold ld4 mpg; simp; omega
/-- Where the law puts its instruction. -/
def pcA (p : Nat) : Nat := p % 512 / 4 * 4
theorem pcA_1 (p : Nat) : (p : Int).tmod 512 = ((p % 512 : Nat) : Int) := by rw [tmod_pos (by omega)]; omega
theorem pcA_2 (p : Nat) : IntKind.u32.wrap (((p % 512 : Nat) : Int).tdiv 4) = ((p % 512 / 4 : Nat) : Int) := by rw [tdiv_pos (by omega), wu32 (by omega) (by omega)]; omega
theorem pcA_3 (p : Nat) : IntKind.u32.wrap (((p % 512 / 4 : Nat) : Int) * 4) = ((pcA p : Nat) : Int) := by rw [wu32 (by omega) (by omega)]; unfold pcA; omega
theorem pcA_lt (p : Nat) : pcA p < 512 ∧ pcA p % 4 = 0 := by unfold pcA; omega
end Go.Proofs.Ytckdamhnmcmbbaa
