/- Decoding. -/
import Derived.Test.YtcaddlighhiepaaIsaA
import Derived.Test.YtcaddlighhiepaaIsaV
namespace Go.Proofs.Ytcaddlighhiepaa
open Go Go.RowKit
set_option linter.unusedSimpArgs false
set_option linter.unusedVariables false

def kz (b : Bool) (x : Int) : Int := if b then x else 0
/-- What a word says. -/
def dOp (w : Nat) : Int := (w / 2 ^ 24 % 2 ^ 8 : Nat)
def dA (w : Nat) : Int := (w / 2 ^ 20 % 2 ^ 4 : Nat)
def dB (w : Nat) : Int := (w / 2 ^ 16 % 2 ^ 4 : Nat)
def dI (w : Nat) : Nat := w / 2 ^ 0 % 2 ^ 16
def dC (w : Nat) : Int := if useC (dOp w) then dI w else 0
def sx (x : Nat) : Int := if x < 32768 then x else x - 65536
def dM (w : Nat) : Int := if useC (dOp w) then 0 else if useLo (dOp w) < 0 then sx (dI w) else dI w
def dOk (w : Nat) : Bool := useOk (dOp w) && validB (dOp w) (dA w) (dB w) (dC w) (dM w)
theorem sx_i32 (x : Nat) (hx : x < 65536) : IntKind.i32.wrap ((sx16 x : Nat) : Int) = sx x := by
  unfold IntKind.wrap sx16 sx
  simp only [IntKind.signed, IntKind.bits, Bool.true_and, decide_eq_true_eq]
  by_cases h : x < 32768
  · rw [if_pos h, if_pos h, if_neg (by simp; omega)]; omega
  · rw [if_neg h, if_neg h, if_pos (by simp; omega)]; omega
set_option maxRecDepth 100000 in
theorem decode_fn (w : Nat) (hw : w < 4294967296) : Fn Try.prog 66 [.s (.int .u32 w)] [] (· = ⟨.tup [.agg (iv (kz (dOk w) (dOp w)) (kz (dOk w) (dA w)) (kz (dOk w) (dB w)) (kz (dOk w) (dC w)) (kz (dOk w) (dM w))), .s (.bool (dOk w))], [], []⟩) := by
  refine fn_of_vc mixed tys_ok _ _ Try.func66 (by kernel_rfl) rfl Try.ntmps66 (by rw [Try.results66]) rfl ?_; dsimp only [argTm, argHl, Nat.zero_add, Nat.reduceAdd, List.length_nil, List.length_cons]
  (repeat' ((conv => whnf); first | (refine vcall_pure (f := 86) (field_fn w 24 8 hw (by omega) (by omega) (by omega)) rfl ?_)  |  (refine vcall_pure (f := 86) (field_fn w 20 4 hw (by omega) (by omega) (by omega)) rfl ?_)  |  (refine vcall_pure (f := 86) (field_fn w 16 4 hw (by omega) (by omega) (by omega)) rfl ?_)  |  (refine vcall_pure (f := 86) (field_fn w 0 16 hw (by omega) (by omega) (by omega)) rfl ?_)  |  (refine vcall_pure (f := 75) (use_fn _) rfl ?_)  |  (refine vcall_pure (f := 57) (valid_fn _ _ _ _ _) rfl ?_)  |  (refine vcall_pure (f := 87) (sx16_fn _ (by omega)) rfl ?_)  |  ((with_reducible apply Vl.mk (α := Int)); · exact sx_i32 _ (by omega)) | (with_reducible apply sd_draw; · kernel_rfl) | (apply Sd.mk; · exact aSd) | ((with_reducible apply Vl.mk (α := Int)); · exact aAr) | ((with_reducible first | apply Vl.mk (α := Bool) | apply Vl.mk (α := Nat) | apply Vl.mk (α := ByteArray) | apply Ge.mk (α := Row) | apply Ge.mk (α := SV) | apply Ge.mk (α := AV)); · exact rfl) | (refine And.intro rfl ?_) | ((with_reducible first | apply Vl.mk (α := List SV) | apply Vl.mk (α := Ef) | apply Vl.mk (α := TV) | apply Ge.mk (α := List SV) | apply Sg.mk | apply Sk.mk); · exact aCl) | ((first | apply Br.mk | apply Gd.mk) <;> (intro hb; first | exact aKl hb | (simp only [d1, d2, beq_iff_eq, bne_iff_ne, d3, d4, d5, d6, Int.not_lt, Int.not_le, ge_iff_le, gt_iff_lt, ne_eq, d7] at hb; first | (exfalso; omega) | skip) | skip)))); (all_goals (try (conv => whnf)))
  all_goals
    refine fin_pure rfl ?_
    try have hn : ¬ useLo ((w / 2 ^ 24 % 2 ^ 8 : Nat) : Int) < 0 := by omega
    simp only [mkRes, iv, kz, dOk, dOp, dA, dB, dC, dM, dI, Bool.true_and, Bool.false_and, if_true, if_false, Bool.false_eq_true, *]
    first
      | done
      | rfl
end Go.Proofs.Ytcaddlighhiepaa
