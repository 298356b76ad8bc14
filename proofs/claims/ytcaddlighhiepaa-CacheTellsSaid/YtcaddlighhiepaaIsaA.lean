/- Instruction encoding: small functions. -/
import Derived.Test.YtcaddlighhiepaaFieA
import Derived.Test.YtcaddlighhiepaaWord
namespace Go.Proofs.Ytcaddlighhiepaa
open Go Go.RowKit
set_option linter.unusedSimpArgs false
set_option linter.unusedVariables false

def sx16 (x : Nat) : Nat := if x < 32768 then x else x + 4294901760
theorem sx_a (x : Nat) (hx : x < 65536) : IntKind.u32.wrap ((x : Int) * 2 ^ min ((32 : Int) - 16).toNat IntKind.u32.bits) = (x : Int) * 65536 := by
  rw [show (2 : Int) ^ min ((32 : Int) - 16).toNat IntKind.u32.bits = 65536 from rfl]
  exact wu32 (by omega) (by omega)
theorem sx_b (x : Nat) (hx : x < 65536) : IntKind.i32.wrap ((x : Int) * 65536) = (if x < 32768 then (x : Int) else x - 65536) * 65536 := by
  unfold IntKind.wrap
  simp only [IntKind.signed, IntKind.bits, Bool.true_and, decide_eq_true_eq]
  by_cases h : x < 32768
  · rw [if_pos h, if_neg (by simp; omega)]; omega
  · rw [if_neg h, if_pos (by simp; omega)]; omega
theorem sx_c (x : Int) : x * 65536 / 2 ^ min ((32 : Int) - 16).toNat IntKind.i32.bits = x := by
  rw [show (2 : Int) ^ min ((32 : Int) - 16).toNat IntKind.i32.bits = 65536 from rfl]
  omega
theorem sx_d (x : Nat) (hx : x < 65536) : IntKind.u32.wrap (if x < 32768 then (x : Int) else x - 65536) = (sx16 x : Nat) := by
  unfold sx16
  rw [wu32']
  by_cases h : x < 32768
  · rw [if_pos h, if_pos h]; omega
  · rw [if_neg h, if_neg h]; omega
set_option maxRecDepth 100000 in
theorem sx16_fn (x : Nat) (hx : x < 65536) : Fn Try.prog 87 [.s (.int .u32 x), .s (.int .i64 16)] [] (· = ⟨.a (.s (.int .u32 (sx16 x : Nat))), [], []⟩) := by
  refine fn_of_vc mixed tys_ok _ _ Try.func87 (by kernel_rfl) rfl Try.ntmps87 (by rw [Try.results87]) rfl ?_; dsimp only [argTm, argHl, Nat.zero_add, Nat.reduceAdd, List.length_nil, List.length_cons]
  (repeat' ((conv => whnf); first | ((with_reducible apply Vl.mk (α := Int)); · first | exact sx_a x hx | exact sx_b x hx | exact sx_c _ | exact sx_d x hx) | (with_reducible apply sd_draw; · kernel_rfl) | (apply Sd.mk; · exact aSd) | ((with_reducible apply Vl.mk (α := Int)); · exact aAr) | ((with_reducible first | apply Vl.mk (α := Bool) | apply Vl.mk (α := Nat) | apply Vl.mk (α := ByteArray) | apply Ge.mk (α := Row) | apply Ge.mk (α := SV) | apply Ge.mk (α := AV)); · exact rfl) | (refine And.intro rfl ?_) | ((with_reducible first | apply Vl.mk (α := List SV) | apply Vl.mk (α := Ef) | apply Vl.mk (α := TV) | apply Ge.mk (α := List SV) | apply Sg.mk | apply Sk.mk); · exact aCl) | ((first | apply Br.mk | apply Gd.mk) <;> (intro hb; first | exact aKl hb | (simp only [d1, d2, beq_iff_eq, bne_iff_ne, d3, d4, d5, d6, Int.not_lt, Int.not_le, ge_iff_le, gt_iff_lt, ne_eq, d7] at hb; first | (exfalso; omega) | skip) | skip)))); (all_goals (try (conv => whnf)))
  all_goals exact fin_pure rfl rfl
end Go.Proofs.Ytcaddlighhiepaa
