/- The reference's arith. -/
import Derived.Test.YtcaddlighhiepaaFldJ
namespace Go.Proofs.Ytcaddlighhiepaa
open Go Go.RowKit
set_option linter.unusedSimpArgs false
set_option linter.unusedVariables false

def immB (o : Int) : Bool := decide (16 ≤ o ∧ o ≤ 23)
set_option maxHeartbeats 1000000 in
set_option maxRecDepth 100000 in
theorem rarith_fn (o : Int) : Fn Try.prog 49 [.s (.int .i64 o)] [] (· = ⟨.tup [.s (.bool (aluB o)), .s (.bool (immB o))], [], []⟩) := by
  unfold aluB immB
  refine fn_of_vc mixed tys_ok _ _ Try.func49 (by kernel_rfl) rfl Try.ntmps49 (by rw [Try.results49]) rfl ?_; dsimp only [argTm, argHl, Nat.zero_add, Nat.reduceAdd, List.length_nil, List.length_cons]
  (repeat' ((conv => whnf); first | (with_reducible apply sd_draw; · kernel_rfl) | (apply Sd.mk; · exact aSd) | ((with_reducible apply Vl.mk (α := Int)); · exact aAr) | ((with_reducible first | apply Vl.mk (α := Bool) | apply Vl.mk (α := Nat) | apply Vl.mk (α := ByteArray) | apply Ge.mk (α := Row) | apply Ge.mk (α := SV) | apply Ge.mk (α := AV)); · exact rfl) | (refine And.intro rfl ?_) | ((with_reducible first | apply Vl.mk (α := List SV) | apply Vl.mk (α := Ef) | apply Vl.mk (α := TV) | apply Ge.mk (α := List SV) | apply Sg.mk | apply Sk.mk); · exact aCl) | ((first | apply Br.mk | apply Gd.mk) <;> (intro hb; first | exact aKl hb | (simp only [d1, d2, beq_iff_eq, bne_iff_ne, d3, d4, d5, d6, Int.not_lt, Int.not_le, ge_iff_le, gt_iff_lt, ne_eq, d7] at hb; first | (exfalso; omega) | skip) | skip)))); (all_goals (try (conv => whnf)))
  all_goals
    refine fin_pure rfl ?_
    simp only [mkRes]
    congr 3
    all_goals first
      | rfl
      | (rw [Bool.eq_iff_iff]; simp only [decide_eq_true_eq, Bool.true_eq, Bool.false_eq_true, true_iff, false_iff, iff_true, iff_false]; omega)
      | ((first | refine congrArg (fun b => AV.s (SV.bool b)) ?_ | refine congrArg SV.bool ?_); first | (exact (decide_eq_false (by omega)).symm) | (exact (decide_eq_true (by omega)).symm) | (rw [Bool.eq_iff_iff, decide_eq_true_eq, decide_eq_true_eq]; omega))
      | trace_state
theorem immV_rng (o : Int) (h : immV o ≠ 0) : 16 ≤ immV o ∧ immV o ≤ 23 := by
  unfold immV at h ⊢
  repeat' split
  all_goals first | omega | skip
  all_goals (exfalso; apply h; repeat' (first | (rw [if_neg (by assumption)]) | rfl))
end Go.Proofs.Ytcaddlighhiepaa
