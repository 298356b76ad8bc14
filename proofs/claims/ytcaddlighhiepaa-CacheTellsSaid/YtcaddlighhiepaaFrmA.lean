/- Forms of the reference. -/
import Derived.Test.YtcaddlighhiepaaAbsS
import Derived.Test.YtcaddlighhiepaaWord
namespace Go.Proofs.Ytcaddlighhiepaa
open Go Go.RowKit
set_option linter.unusedSimpArgs false
set_option linter.unusedVariables false

def formV (o : Int) : Int :=
  if 1 ≤ o ∧ o ≤ 13 then 2 else if o = 16 ∨ o = 23 ∨ 32 ≤ o ∧ o ≤ 36 ∨ 40 ≤ o ∧ o ≤ 45 ∨ o = 49 then 3
  else if 17 ≤ o ∧ o ≤ 19 then 4 else if 20 ≤ o ∧ o ≤ 22 then 5 else if o = 24 then 6 else if o = 48 then 7
  else if o = 58 ∨ o = 59 then 8 else if o = 60 ∨ o = 61 then 9 else if o = 56 ∨ o = 57 ∨ 62 ≤ o ∧ o ≤ 64 then 1 else 0
theorem int_ite {c : Prop} [Decidable c] {x y z : Int} (h1 : c → x = z) (h2 : ¬ c → y = z) : (if c then x else y) = z := by
  by_cases h : c
  · rw [if_pos h]; exact h1 h
  · rw [if_neg h]; exact h2 h
set_option maxHeartbeats 4000000 in
set_option maxRecDepth 100000 in
theorem form_fn (o : Int) : Fn Try.prog 53 [.s (.int .i64 o)] [] (· = ⟨.a (.s (.int .i64 (formV o))), [], []⟩) := by
  refine fn_of_vc mixed tys_ok _ _ Try.func53 (by kernel_rfl) rfl Try.ntmps53 (by rw [Try.results53]) rfl ?_; dsimp only [argTm, argHl, Nat.zero_add, Nat.reduceAdd, List.length_nil, List.length_cons]
  (repeat' ((conv => whnf); first | (with_reducible apply sd_draw; · kernel_rfl) | (apply Sd.mk; · exact aSd) | ((with_reducible apply Vl.mk (α := Int)); · exact aAr) | ((with_reducible first | apply Vl.mk (α := Bool) | apply Vl.mk (α := Nat) | apply Vl.mk (α := ByteArray) | apply Ge.mk (α := Row) | apply Ge.mk (α := SV) | apply Ge.mk (α := AV)); · exact rfl) | (refine And.intro rfl ?_) | ((with_reducible first | apply Vl.mk (α := List SV) | apply Vl.mk (α := Ef) | apply Vl.mk (α := TV) | apply Ge.mk (α := List SV) | apply Sg.mk | apply Sk.mk); · exact aCl) | ((first | apply Br.mk | apply Gd.mk) <;> (intro hb; first | exact aKl hb | (simp only [d1, d2, beq_iff_eq, bne_iff_ne, d3, d4, d5, d6, Int.not_lt, Int.not_le, ge_iff_le, gt_iff_lt, ne_eq, d7] at hb; first | (exfalso; omega) | skip) | skip)))); (all_goals (try (conv => whnf)))
  all_goals
    apply fin_pure
    (focus rfl)
    simp only [mkRes]
    congr 3
    refine Eq.symm ?_
    unfold formV
    repeat' first
      | rfl
      | (apply int_ite <;> intro _)
      | (exfalso; omega)
end Go.Proofs.Ytcaddlighhiepaa
