/- Validity of instructions. -/
import Derived.Test.YtcaddlighhiepaaIsaB
namespace Go.Proofs.Ytcaddlighhiepaa
open Go Go.RowKit
set_option linter.unusedSimpArgs false
set_option linter.unusedVariables false

def regB (r : Int) (u : Bool) : Bool := match u with
  | true => decide (0 ≤ r) && decide (r ≤ 15)
  | false => r == 0
set_option maxRecDepth 100000 in
theorem reg_fn (r : Int) (u : Bool) : Fn Try.prog 76 [.s (.int .i64 r), .s (.bool u)] [] (· = ⟨.a (.s (.bool (regB r u))), [], []⟩) := by
  refine fn_of_vc mixed tys_ok _ _ Try.func76 (by kernel_rfl) rfl Try.ntmps76 (by rw [Try.results76]) rfl ?_; dsimp only [argTm, argHl, Nat.zero_add, Nat.reduceAdd, List.length_nil, List.length_cons]
  (repeat' ((conv => whnf); first | (with_reducible apply sd_draw; · kernel_rfl) | (apply Sd.mk; · exact aSd) | ((with_reducible apply Vl.mk (α := Int)); · exact aAr) | ((with_reducible first | apply Vl.mk (α := Bool) | apply Vl.mk (α := Nat) | apply Vl.mk (α := ByteArray) | apply Ge.mk (α := Row) | apply Ge.mk (α := SV) | apply Ge.mk (α := AV)); · exact rfl) | (refine And.intro rfl ?_) | ((with_reducible first | apply Vl.mk (α := List SV) | apply Vl.mk (α := Ef) | apply Vl.mk (α := TV) | apply Ge.mk (α := List SV) | apply Sg.mk | apply Sk.mk); · exact aCl) | ((first | apply Br.mk | apply Gd.mk) <;> (intro hb; first | exact aKl hb | (simp only [d1, d2, beq_iff_eq, bne_iff_ne, d3, d4, d5, d6, Int.not_lt, Int.not_le, ge_iff_le, gt_iff_lt, ne_eq, d7] at hb; first | (exfalso; omega) | skip) | skip)))); (all_goals (try (conv => whnf)))
  all_goals (refine fin_pure rfl ?_; simp only [mkRes]; congr 3; (try subst hb); simp_all [regB]; try omega)
/-- An instruction as the code holds it. -/
def iv (o a b c m : Int) : List SV := [.int .i64 o, .int .i64 a, .int .i64 b, .int .i64 c, .int .i32 m]
def validB (o a b c m : Int) : Bool := useOk o && regB a (useA o) && regB b (useB o) && regB c (useC o) && decide (m ≥ useLo o) && decide (m ≤ useHi o)
set_option maxRecDepth 100000 in
theorem valid_fn (o a b c m : Int) : Fn Try.prog 57 [.agg (iv o a b c m)] [] (· = ⟨.a (.s (.bool (validB o a b c m))), [], []⟩) := by
  refine fn_of_vc mixed tys_ok _ _ Try.func57 (by kernel_rfl) rfl Try.ntmps57 (by rw [Try.results57]) rfl ?_; dsimp only [argTm, argHl, Nat.zero_add, Nat.reduceAdd, List.length_nil, List.length_cons]
  unfold iv
  (repeat' ((conv => whnf); first | (refine vcall_pure (f := 75) (use_fn _) rfl ?_)  |  (refine vcall_pure (f := 76) (reg_fn _ _) rfl ?_) | (with_reducible apply sd_draw; · kernel_rfl) | (apply Sd.mk; · exact aSd) | ((with_reducible apply Vl.mk (α := Int)); · exact aAr) | ((with_reducible first | apply Vl.mk (α := Bool) | apply Vl.mk (α := Nat) | apply Vl.mk (α := ByteArray) | apply Ge.mk (α := Row) | apply Ge.mk (α := SV) | apply Ge.mk (α := AV)); · exact rfl) | (refine And.intro rfl ?_) | ((with_reducible first | apply Vl.mk (α := List SV) | apply Vl.mk (α := Ef) | apply Vl.mk (α := TV) | apply Ge.mk (α := List SV) | apply Sg.mk | apply Sk.mk); · exact aCl) | ((first | apply Br.mk | apply Gd.mk) <;> (intro hb; first | exact aKl hb | (simp only [d1, d2, beq_iff_eq, bne_iff_ne, d3, d4, d5, d6, Int.not_lt, Int.not_le, ge_iff_le, gt_iff_lt, ne_eq, d7] at hb; first | (exfalso; omega) | skip) | skip)))); (all_goals (try (conv => whnf)))
  all_goals (refine fin_pure rfl ?_; simp only [mkRes]; congr 3; try grind [validB])
end Go.Proofs.Ytcaddlighhiepaa
