/- Fields of words. -/
import Derived.Test.YtcaddlighhiepaaIsa0
import Derived.Test.YtcaddlighhiepaaWord
namespace Go.Proofs.Ytcaddlighhiepaa
open Go Go.RowKit
set_option linter.unusedSimpArgs false
set_option linter.unusedVariables false

set_option maxRecDepth 100000 in
theorem mask_fn (n : Nat) (h2 : n ≤ 31) : Fn Try.prog 94 [.s (.int .i64 n)] [] (· = ⟨.a (.s (.int .u32 ((2 ^ n - 1 : Nat) : Int))), [], []⟩) := by
  have h3 : 2 ^ n ≤ 2 ^ 31 := Nat.pow_le_pow_right (by omega) h2
  have h4 : 0 < 2 ^ n := Nat.pow_pos (by omega)
  rw [show (2 : Nat) ^ 31 = 2147483648 from rfl] at h3
  rw [show ((2 ^ n - 1 : Nat) : Int) = ((2 ^ n : Nat) : Int) - 1 by omega]
  refine fn_of_vc mixed tys_ok _ _ Try.func94 (by kernel_rfl) rfl Try.ntmps94 (by rw [Try.results94]) rfl ?_; dsimp only [argTm, argHl, Nat.zero_add, Nat.reduceAdd, List.length_nil, List.length_cons]
  (repeat' ((conv => whnf); first | ((with_reducible apply Vl.mk (α := Int)); · exact shl_one n h2) | (with_reducible apply sd_draw; · kernel_rfl) | (apply Sd.mk; · exact aSd) | ((with_reducible apply Vl.mk (α := Int)); · exact aAr) | ((with_reducible first | apply Vl.mk (α := Bool) | apply Vl.mk (α := Nat) | apply Vl.mk (α := ByteArray) | apply Ge.mk (α := Row) | apply Ge.mk (α := SV) | apply Ge.mk (α := AV)); · exact rfl) | (refine And.intro rfl ?_) | ((with_reducible first | apply Vl.mk (α := List SV) | apply Vl.mk (α := Ef) | apply Vl.mk (α := TV) | apply Ge.mk (α := List SV) | apply Sg.mk | apply Sk.mk); · exact aCl) | ((first | apply Br.mk | apply Gd.mk) <;> (intro hb; first | exact aKl hb | (simp only [d1, d2, beq_iff_eq, bne_iff_ne, d3, d4, d5, d6, Int.not_lt, Int.not_le, ge_iff_le, gt_iff_lt, ne_eq, d7] at hb; first | (exfalso; omega) | skip) | skip)))); (all_goals (try (conv => whnf)))
  all_goals exact fin_pure rfl rfl
set_option maxRecDepth 100000 in
theorem mask32_fn : Fn Try.prog 94 [.s (.int .i64 32)] [] (· = ⟨.a (.s (.int .u32 4294967295)), [], []⟩) := by
  refine fn_of_vc mixed tys_ok _ _ Try.func94 (by kernel_rfl) rfl Try.ntmps94 (by rw [Try.results94]) rfl ?_; dsimp only [argTm, argHl, Nat.zero_add, Nat.reduceAdd, List.length_nil, List.length_cons]
  (repeat' ((conv => whnf); first | (with_reducible apply sd_draw; · kernel_rfl) | (apply Sd.mk; · exact aSd) | ((with_reducible apply Vl.mk (α := Int)); · exact aAr) | ((with_reducible first | apply Vl.mk (α := Bool) | apply Vl.mk (α := Nat) | apply Vl.mk (α := ByteArray) | apply Ge.mk (α := Row) | apply Ge.mk (α := SV) | apply Ge.mk (α := AV)); · exact rfl) | (refine And.intro rfl ?_) | ((with_reducible first | apply Vl.mk (α := List SV) | apply Vl.mk (α := Ef) | apply Vl.mk (α := TV) | apply Ge.mk (α := List SV) | apply Sg.mk | apply Sk.mk); · exact aCl) | ((first | apply Br.mk | apply Gd.mk) <;> (intro hb; first | exact aKl hb | (simp only [d1, d2, beq_iff_eq, bne_iff_ne, d3, d4, d5, d6, Int.not_lt, Int.not_le, ge_iff_le, gt_iff_lt, ne_eq, d7] at hb; first | (exfalso; omega) | skip) | skip)))); (all_goals (try (conv => whnf)))
  all_goals exact fin_pure rfl rfl
theorem field_and (x l n : Nat) (hx : x < 4294967296) (hl : l ≤ 31) (h2 : n ≤ 31) : bits BinOp.and IntKind.u32 ((x : Int) / 2 ^ min ((l : Nat) : Int).toNat IntKind.u32.bits) ((2 ^ n - 1 : Nat) : Int) = ((x / 2 ^ l % 2 ^ n : Nat) : Int) := by
  have e : min ((l : Nat) : Int).toNat IntKind.u32.bits = l := by simp only [Int.toNat_natCast, IntKind.bits]; omega
  rw [e]
  have e2 : ((x : Int) / 2 ^ l) = ((x / 2 ^ l : Nat) : Int) := by simp
  rw [e2]
  exact and_mask _ n (Nat.lt_of_le_of_lt (Nat.div_le_self _ _) hx) h2
set_option maxRecDepth 100000 in
theorem field_fn (x l n : Nat) (hx : x < 4294967296) (hl : l ≤ 31) (h1 : 1 ≤ n) (h2 : n ≤ 31) : Fn Try.prog 86 [.s (.int .u32 x), .s (.int .i64 l), .s (.int .i64 n)] [] (· = ⟨.a (.s (.int .u32 ((x / 2 ^ l % 2 ^ n : Nat) : Int))), [], []⟩) := by
  refine fn_of_vc mixed tys_ok _ _ Try.func86 (by kernel_rfl) rfl Try.ntmps86 (by rw [Try.results86]) rfl ?_; dsimp only [argTm, argHl, Nat.zero_add, Nat.reduceAdd, List.length_nil, List.length_cons]
  (repeat' ((conv => whnf); first | (refine vcall_pure (f := 94) (mask_fn n h2) rfl ?_)  |  ((with_reducible apply Vl.mk (α := Int)); · exact field_and x l n hx hl h2) | (with_reducible apply sd_draw; · kernel_rfl) | (apply Sd.mk; · exact aSd) | ((with_reducible apply Vl.mk (α := Int)); · exact aAr) | ((with_reducible first | apply Vl.mk (α := Bool) | apply Vl.mk (α := Nat) | apply Vl.mk (α := ByteArray) | apply Ge.mk (α := Row) | apply Ge.mk (α := SV) | apply Ge.mk (α := AV)); · exact rfl) | (refine And.intro rfl ?_) | ((with_reducible first | apply Vl.mk (α := List SV) | apply Vl.mk (α := Ef) | apply Vl.mk (α := TV) | apply Ge.mk (α := List SV) | apply Sg.mk | apply Sk.mk); · exact aCl) | ((first | apply Br.mk | apply Gd.mk) <;> (intro hb; first | exact aKl hb | (simp only [d1, d2, beq_iff_eq, bne_iff_ne, d3, d4, d5, d6, Int.not_lt, Int.not_le, ge_iff_le, gt_iff_lt, ne_eq, d7] at hb; first | (exfalso; omega) | skip) | skip)))); (all_goals (try (conv => whnf)))
  all_goals exact fin_pure rfl rfl
end Go.Proofs.Ytcaddlighhiepaa
