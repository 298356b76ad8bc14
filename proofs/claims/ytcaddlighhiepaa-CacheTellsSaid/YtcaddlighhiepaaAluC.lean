/- Alu of the reference. -/
import Derived.Test.YtcaddlighhiepaaAluB
import Derived.Test.YtcaddlighhiepaaMkA
namespace Go.Proofs.Ytcaddlighhiepaa
open Go Go.RowKit
set_option linter.unusedSimpArgs false
set_option linter.unusedVariables false

def plainV (op : Int) : Int := if op = 16 then 1 else if op = 17 then 3 else if op = 18 then 4 else if op = 19 then 5 else if op = 20 then 6 else if op = 21 then 7 else if op = 22 then 8 else if op = 23 then 12 else op
set_option maxRecDepth 100000 in
theorem plain_fn (op : Int) : Fn Try.prog 88 [.s (.int .i64 op)] [] (· = ⟨.a (.s (.int .i64 (plainV op))), [], []⟩) := by
  refine fn_of_vc mixed tys_ok _ _ Try.func88 (by kernel_rfl) rfl Try.ntmps88 (by rw [Try.results88]) rfl ?_; dsimp only [argTm, argHl, Nat.zero_add, Nat.reduceAdd, List.length_nil, List.length_cons]
  (repeat' ((conv => whnf); first | (with_reducible apply sd_draw; · kernel_rfl) | (apply Sd.mk; · exact aSd) | ((with_reducible apply Vl.mk (α := Int)); · exact aAr) | ((with_reducible first | apply Vl.mk (α := Bool) | apply Vl.mk (α := Nat) | apply Vl.mk (α := ByteArray) | apply Ge.mk (α := Row) | apply Ge.mk (α := SV) | apply Ge.mk (α := AV)); · exact rfl) | (refine And.intro rfl ?_) | ((with_reducible first | apply Vl.mk (α := List SV) | apply Vl.mk (α := Ef) | apply Vl.mk (α := TV) | apply Ge.mk (α := List SV) | apply Sg.mk | apply Sk.mk); · exact aCl) | ((first | apply Br.mk | apply Gd.mk) <;> (intro hb; first | exact aKl hb | (simp only [d1, d2, beq_iff_eq, bne_iff_ne, d3, d4, d5, d6, Int.not_lt, Int.not_le, ge_iff_le, gt_iff_lt, ne_eq, d7] at hb; first | (exfalso; omega) | skip) | skip)))); (all_goals (try (conv => whnf)))
  all_goals
    apply fin_pure
    (focus rfl)
    first
      | (subst hb; rfl)
      | (simp only [mkRes]; have e : plainV op = op := by (unfold plainV; repeat rw [if_neg (by omega)])
         rw [e])
theorem plain_at (op : Int) (h : op < 16 ∨ 23 < op) : Fn Try.prog 88 [.s (.int .i64 op)] [] (· = ⟨.a (.s (.int .i64 op)), [], []⟩) := by
  have := plain_fn op
  have e : plainV op = op := by
    unfold plainV; repeat rw [if_neg (by omega)]
  rw [e] at this; exact this
set_option maxHeartbeats 4000000 in
set_option maxRecDepth 100000 in
theorem ralu_fn (op : Int) (a b : Nat) (ha : a < 4294967296) (hb0 : b < 4294967296) : Fn Try.prog 70 [.s (.int .i64 op), .s (.int .u32 a), .s (.int .u32 b)] [] (· = ⟨.tup [.s (.int .u32 (aluV op a b)), .s (.bool (aluB op))], [], []⟩) := by
  have hc : (op = 16 ∨ op = 17 ∨ op = 18 ∨ op = 19 ∨ op = 20 ∨ op = 21 ∨ op = 22 ∨ op = 23) ∨ (op < 16 ∨ 23 < op) := by omega
  rcases hc with (rfl | rfl | rfl | rfl | rfl | rfl | rfl | rfl) | hc
  all_goals refine fn_of_vc mixed tys_ok _ _ Try.func70 (by kernel_rfl) rfl Try.ntmps70 (by rw [Try.results70]) rfl ?_; dsimp only [argTm, argHl, Nat.zero_add, Nat.reduceAdd, List.length_nil, List.length_cons]
  all_goals (repeat' ((conv => whnf); first | (refine vcall_pure (f := 88) (plain_at _ hc) rfl ?_)  |  (refine vcall_pure (f := 88) ((plain_fn _ : Fn _ _ [.s (.int .i64 16)] [] (· = ⟨.a (.s (.int .i64 1)), [], []⟩))) rfl ?_)  |  (refine vcall_pure (f := 88) ((plain_fn _ : Fn _ _ [.s (.int .i64 17)] [] (· = ⟨.a (.s (.int .i64 3)), [], []⟩))) rfl ?_)  |  (refine vcall_pure (f := 88) ((plain_fn _ : Fn _ _ [.s (.int .i64 18)] [] (· = ⟨.a (.s (.int .i64 4)), [], []⟩))) rfl ?_)  |  (refine vcall_pure (f := 88) ((plain_fn _ : Fn _ _ [.s (.int .i64 19)] [] (· = ⟨.a (.s (.int .i64 5)), [], []⟩))) rfl ?_)  |  (refine vcall_pure (f := 88) ((plain_fn _ : Fn _ _ [.s (.int .i64 20)] [] (· = ⟨.a (.s (.int .i64 6)), [], []⟩))) rfl ?_)  |  (refine vcall_pure (f := 88) ((plain_fn _ : Fn _ _ [.s (.int .i64 21)] [] (· = ⟨.a (.s (.int .i64 7)), [], []⟩))) rfl ?_)  |  (refine vcall_pure (f := 88) ((plain_fn _ : Fn _ _ [.s (.int .i64 22)] [] (· = ⟨.a (.s (.int .i64 8)), [], []⟩))) rfl ?_)  |  (refine vcall_pure (f := 88) ((plain_fn _ : Fn _ _ [.s (.int .i64 23)] [] (· = ⟨.a (.s (.int .i64 12)), [], []⟩))) rfl ?_)  |  (refine vcall_pure (f := 89) (rdivide_fn a b ha hb0) rfl ?_)  |  (refine vcall_pure (f := 90) (bit_fn _) rfl ?_)  |  ((with_reducible apply Vl.mk (α := Int)); · first | exact and31 _ hb0 | exact shl_v _ _ | exact shr_v _ _ | exact sar_v _ _ | exact sgn_wrap _ ha | exact sgn_wrap _ hb0) | (with_reducible apply sd_draw; · kernel_rfl) | (apply Sd.mk; · exact aSd) | ((with_reducible apply Vl.mk (α := Int)); · exact aAr) | ((with_reducible first | apply Vl.mk (α := Bool) | apply Vl.mk (α := Nat) | apply Vl.mk (α := ByteArray) | apply Ge.mk (α := Row) | apply Ge.mk (α := SV) | apply Ge.mk (α := AV)); · exact rfl) | (refine And.intro rfl ?_) | ((with_reducible first | apply Vl.mk (α := List SV) | apply Vl.mk (α := Ef) | apply Vl.mk (α := TV) | apply Ge.mk (α := List SV) | apply Sg.mk | apply Sk.mk); · exact aCl) | ((first | apply Br.mk | apply Gd.mk) <;> (intro hb; first | exact aKl hb | (simp only [d1, d2, beq_iff_eq, bne_iff_ne, d3, d4, d5, d6, Int.not_lt, Int.not_le, ge_iff_le, gt_iff_lt, ne_eq, d7] at hb; first | (exfalso; omega) | skip) | skip)))); (all_goals (try (conv => whnf)))
  all_goals
    apply fin_pure
    (focus rfl)
    simp only [mkRes]
    first
      | rfl
      | (subst hb; rfl)
      | (have e1 : aluV op a b = 0 := by
           unfold aluV
           repeat rw [if_neg (by omega)]
         have e2 : aluB op = false := by
           unfold aluB; rw [decide_eq_false_iff_not]; omega
         rw [e1, e2])
end Go.Proofs.Ytcaddlighhiepaa
