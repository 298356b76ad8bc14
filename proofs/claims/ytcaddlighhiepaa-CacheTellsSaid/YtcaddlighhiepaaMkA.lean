/- The functions that make inputs from numbers: Round, Next, Mix, At. -/
import Derived.Test.YtcaddlighhiepaaAbsS
import Derived.Test.YtcaddlighhiepaaWord
import Derived.Test.YtcaddlighhiepaaShut
namespace Go.Proofs.Ytcaddlighhiepaa
open Go Go.RowKit
set_option linter.unusedSimpArgs false
set_option linter.unusedVariables false

set_option maxRecDepth 100000 in
theorem rnd_fn (n k : Int) (h3 : 1 ≤ k) (h4 : k ≤ 4611686018427387904) : Fn Try.prog 11 [.s (.int .i64 n), .s (.int .i64 k)] [] (· = ⟨.a (.s (.int .i64 (n % k))), [], []⟩) := by
  have hz : (k == 0) = false := by simp; omega
  have hb := Int.tmod_lt_of_pos n (show 0 < k by omega)
  have hb' := Int.lt_tmod_of_pos n (show 0 < k by omega)
  have he : n % k = if n.tmod k < 0 then n.tmod k + k else n.tmod k := by
    rw [Int.tmod_eq_emod]
    have := Int.emod_nonneg n (show k ≠ 0 by omega)
    have := Int.emod_lt_of_pos n (show 0 < k by omega)
    split
    · rw [if_neg (by omega)]; omega
    · rename_i h
      rw [Int.natAbs_of_nonneg (by omega), if_pos (by omega)]; omega
  refine fn_of_vc mixed tys_ok _ _ Try.func11 (by kernel_rfl) rfl Try.ntmps11 (by rw [Try.results11]) rfl ?_; dsimp only [argTm, argHl, Nat.zero_add, Nat.reduceAdd, List.length_nil, List.length_cons]
  (repeat' ((conv => whnf); first | (with_reducible apply sd_draw; · kernel_rfl) | (apply Sd.mk; · exact aSd) | ((with_reducible apply Vl.mk (α := Int)); · exact aAr) | ((with_reducible first | apply Vl.mk (α := Bool) | apply Vl.mk (α := Nat) | apply Vl.mk (α := ByteArray) | apply Ge.mk (α := Row) | apply Ge.mk (α := SV) | apply Ge.mk (α := AV)); · exact rfl) | (refine And.intro rfl ?_) | ((with_reducible first | apply Vl.mk (α := List SV) | apply Vl.mk (α := Ef) | apply Vl.mk (α := TV) | apply Ge.mk (α := List SV) | apply Sg.mk | apply Sk.mk); · exact aCl) | ((first | apply Br.mk | apply Gd.mk) <;> (intro hb; first | exact aKl hb | (simp only [d1, d2, beq_iff_eq, bne_iff_ne, d3, d4, d5, d6, Int.not_lt, Int.not_le, ge_iff_le, gt_iff_lt, ne_eq, d7] at hb; first | (exfalso; omega) | skip) | skip)))); (all_goals (try (conv => whnf)))
  · exact fin_pure rfl (by simp only [mkRes]; rw [he, if_pos hb])
  · exact fin_pure rfl (by simp only [mkRes]; rw [he, if_neg (by omega)])
def nxA (x : Int) : Int := IntKind.u64.wrap (x + 11400714819323198485)
def nxB (x : Int) : Int := IntKind.u64.wrap (bits BinOp.xor IntKind.u64 (nxA x) (nxA x / 1073741824) * 13787848793156543929)
def nxC (x : Int) : Int := IntKind.u64.wrap (bits BinOp.xor IntKind.u64 (nxB x) (nxB x / 134217728) * 10723151780598845931)
def nxZ (x : Int) : Int := bits BinOp.xor IntKind.u64 (nxC x) (nxC x / 2147483648)
theorem u64_range (n : Int) : 0 ≤ IntKind.u64.wrap n ∧ IntKind.u64.wrap n < 18446744073709551616 := by rw [IntKind.wrap_u64]; omega
theorem nxZ_range (x : Int) : 0 ≤ nxZ x ∧ nxZ x < 18446744073709551616 := u64_range _
set_option maxRecDepth 100000 in
theorem next_fn (x : Int) : Fn Try.prog 46 [.s (.int .u64 x)] [] (· = ⟨.tup [.s (.int .u64 (nxZ x)), .s (.int .u64 (nxA x))], [], []⟩) := by
  refine fn_of_vc mixed tys_ok _ _ Try.func46 (by kernel_rfl) rfl Try.ntmps46 (by rw [Try.results46]) rfl ?_; dsimp only [argTm, argHl, Nat.zero_add, Nat.reduceAdd, List.length_nil, List.length_cons]
  (repeat' ((conv => whnf); first | ((with_reducible apply Vl.mk (α := Int)); · rfl) | (with_reducible apply sd_draw; · kernel_rfl) | (apply Sd.mk; · exact aSd) | ((with_reducible apply Vl.mk (α := Int)); · exact aAr) | ((with_reducible first | apply Vl.mk (α := Bool) | apply Vl.mk (α := Nat) | apply Vl.mk (α := ByteArray) | apply Ge.mk (α := Row) | apply Ge.mk (α := SV) | apply Ge.mk (α := AV)); · exact rfl) | (refine And.intro rfl ?_) | ((with_reducible first | apply Vl.mk (α := List SV) | apply Vl.mk (α := Ef) | apply Vl.mk (α := TV) | apply Ge.mk (α := List SV) | apply Sg.mk | apply Sk.mk); · exact aCl) | ((first | apply Br.mk | apply Gd.mk) <;> (intro hb; first | exact aKl hb | (simp only [d1, d2, beq_iff_eq, bne_iff_ne, d3, d4, d5, d6, Int.not_lt, Int.not_le, ge_iff_le, gt_iff_lt, ne_eq, d7] at hb; first | (exfalso; omega) | skip) | skip)))); (all_goals (try (conv => whnf)))
  all_goals exact fin_pure rfl rfl
def mix (n k : Int) : Int := nxZ (bits BinOp.xor IntKind.u64 (IntKind.u64.wrap n) (IntKind.u64.wrap (IntKind.u64.wrap k * 11400714819323198485))) / 2
theorem mix_range (n k : Int) : 0 ≤ mix n k ∧ mix n k ≤ 9223372036854775807 := by
  have := nxZ_range (bits BinOp.xor IntKind.u64 (IntKind.u64.wrap n) (IntKind.u64.wrap (IntKind.u64.wrap k * 11400714819323198485)))
  unfold mix; omega
theorem mix_last (n k : Int) : IntKind.i64.wrap (nxZ (bits BinOp.xor IntKind.u64 (IntKind.u64.wrap n) (IntKind.u64.wrap (IntKind.u64.wrap k * 11400714819323198485))) / 2 ^ min (Int.toNat 1) IntKind.u64.bits) = mix n k := by
  rw [show (2 : Int) ^ min (Int.toNat 1) IntKind.u64.bits = 2 from rfl]
  have := mix_range n k
  exact wi64 (by unfold mix at this; omega) (by unfold mix at this; omega)
set_option maxRecDepth 100000 in
theorem mix_fn (n k : Int) : Fn Try.prog 22 [.s (.int .i64 n), .s (.int .i64 k)] [] (· = ⟨.a (.s (.int .i64 (mix n k))), [], []⟩) := by
  refine fn_of_vc mixed tys_ok _ _ Try.func22 (by kernel_rfl) rfl Try.ntmps22 (by rw [Try.results22]) rfl ?_; dsimp only [argTm, argHl, Nat.zero_add, Nat.reduceAdd, List.length_nil, List.length_cons]
  (repeat' ((conv => whnf); first | (refine vcall_pure (f := 46) (next_fn _) rfl ?_)  |  ((with_reducible apply Vl.mk (α := Int)); · first | exact mix_last n k | rfl) | (with_reducible apply sd_draw; · kernel_rfl) | (apply Sd.mk; · exact aSd) | ((with_reducible apply Vl.mk (α := Int)); · exact aAr) | ((with_reducible first | apply Vl.mk (α := Bool) | apply Vl.mk (α := Nat) | apply Vl.mk (α := ByteArray) | apply Ge.mk (α := Row) | apply Ge.mk (α := SV) | apply Ge.mk (α := AV)); · exact rfl) | (refine And.intro rfl ?_) | ((with_reducible first | apply Vl.mk (α := List SV) | apply Vl.mk (α := Ef) | apply Vl.mk (α := TV) | apply Ge.mk (α := List SV) | apply Sg.mk | apply Sk.mk); · exact aCl) | ((first | apply Br.mk | apply Gd.mk) <;> (intro hb; first | exact aKl hb | (simp only [d1, d2, beq_iff_eq, bne_iff_ne, d3, d4, d5, d6, Int.not_lt, Int.not_le, ge_iff_le, gt_iff_lt, ne_eq, d7] at hb; first | (exfalso; omega) | skip) | skip)))); (all_goals (try (conv => whnf)))
  all_goals exact fin_pure rfl rfl
theorem isv_get (k : IntKind) (ls : List Int) (i : Nat) (h : i < ls.length) : (isv k ls)[i]? = some (.int k (ls.getD i 0)) := by
  unfold isv; rw [List.getElem?_map, List.getElem?_eq_getElem h]; simp [List.getD, h]
theorem isv_scal (k : IntKind) (ls : List Int) : allScal (isv k ls) = true := by
  induction ls with
  | nil => rfl
  | cons x xs ih => exact ih
/-- A number out of a list, in turn. -/
def atL (ls : List Int) (i : Int) : Int := match ls.length with
  | 0 => 0
  | n => ls.getD (i % (n : Nat)).toNat 0
end Go.Proofs.Ytcaddlighhiepaa
