/- At: an element of a list, in turn. -/
import Derived.Test.YtcaddlighhiepaaLdA
import Derived.Test.YtcaddlighhiepaaMkA
namespace Go.Proofs.Ytcaddlighhiepaa
open Go Go.RowKit
set_option linter.unusedSimpArgs false
set_option linter.unusedVariables false

set_option maxRecDepth 100000 in
theorem rndB_fn (n k : Int) (h3 : 1 ≤ k) (h4 : k ≤ 9223372036854775807) : Fn Try.prog 11 [.s (.int .i64 n), .s (.int .i64 k)] [] (· = ⟨.a (.s (.int .i64 (n % k))), [], []⟩) := by
  have hz : (k == 0) = false := by simp; omega
  have hb := Int.tmod_lt_of_pos n (show 0 < k by omega)
  have hb' := Int.lt_tmod_of_pos n (show 0 < k by omega)
  have he : n % k = if n.tmod k < 0 then n.tmod k + k else n.tmod k := by
    rw [Int.tmod_eq_emod]
    have := Int.emod_nonneg n (show k ≠ 0 by omega)
    have := Int.emod_lt_of_pos n (show 0 < k by omega)
    split
    · rw [if_neg (by omega)]; omega
    · rename_i h
      rw [Int.natAbs_of_nonneg (by omega), if_pos (by omega)]; omega
  refine fn_of_vc mixed tys_ok _ _ Try.func11 (by kernel_rfl) rfl Try.ntmps11 (by rw [Try.results11]) rfl ?_; dsimp only [argTm, argHl, Nat.zero_add, Nat.reduceAdd, List.length_nil, List.length_cons]
  (repeat' ((conv => whnf); first | (with_reducible apply sd_draw; · kernel_rfl) | (apply Sd.mk; · exact aSd) | ((with_reducible apply Vl.mk (α := Int)); · exact aAr) | ((with_reducible first | apply Vl.mk (α := Bool) | apply Vl.mk (α := Nat) | apply Vl.mk (α := ByteArray) | apply Ge.mk (α := Row) | apply Ge.mk (α := SV) | apply Ge.mk (α := AV)); · exact rfl) | (refine And.intro rfl ?_) | ((with_reducible first | apply Vl.mk (α := List SV) | apply Vl.mk (α := Ef) | apply Vl.mk (α := TV) | apply Ge.mk (α := List SV) | apply Sg.mk | apply Sk.mk); · exact aCl) | ((first | apply Br.mk | apply Gd.mk) <;> (intro hb; first | exact aKl hb | (simp only [d1, d2, beq_iff_eq, bne_iff_ne, d3, d4, d5, d6, Int.not_lt, Int.not_le, ge_iff_le, gt_iff_lt, ne_eq, d7] at hb; first | (exfalso; omega) | skip) | skip)))); (all_goals (try (conv => whnf)))
  · exact fin_pure rfl (by simp only [mkRes]; rw [he, if_pos hb])
  · exact fin_pure rfl (by simp only [mkRes]; rw [he, if_neg (by omega)])
def atV (ls : List Int) (i : Int) : Int := if ls.length = 0 then 0 else ls.getD (i % (ls.length : Int)).toNat 0
set_option maxRecDepth 100000 in
theorem at_fn (ls : List Int) (n : Nat) (i : Int) (hl : ls.length = n) (hn : n ≤ 9223372036854775807) : Fn Try.prog 27 [.s (.sl 0 0 n), .s (.int .i64 i)] [⟨false, 1, isv .i64 ls⟩] (· = ⟨.a (.s (.int .i64 (atV ls i))), [], []⟩) := by
  have h0 : 0 < n → 0 ≤ i % (n : Int) ∧ i % (n : Int) < n := fun h => ⟨Int.emod_nonneg _ (by omega), Int.emod_lt_of_pos _ (by omega)⟩
  have g : 0 < n → (isv .i64 ls)[0 + (i % (n : Int)).toNat * 1]? = some (.int .i64 (ls.getD (i % (n : Int)).toNat 0)) := fun h => by
    rw [Nat.zero_add, Nat.mul_one]
    exact isv_get .i64 ls _ (by have := h0 h; omega)
  refine fn_of_vc mixed tys_ok _ _ Try.func27 (by kernel_rfl) rfl Try.ntmps27 (by rw [Try.results27]) rfl ?_; dsimp only [argTm, argHl, Nat.zero_add, Nat.reduceAdd, List.length_nil, List.length_cons]
  (repeat' ((conv => whnf); first | (refine vcall_pure (f := 11) (rndB_fn i n (by omega) (by omega)) rfl ?_)  |  (apply Sd.mk; · exact h0 (by omega))  |  ((with_reducible apply Ge.mk (α := SV)); · exact g (by omega)) | (with_reducible apply sd_draw; · kernel_rfl) | (apply Sd.mk; · exact aSd) | ((with_reducible apply Vl.mk (α := Int)); · exact aAr) | ((with_reducible first | apply Vl.mk (α := Bool) | apply Vl.mk (α := Nat) | apply Vl.mk (α := ByteArray) | apply Ge.mk (α := Row) | apply Ge.mk (α := SV) | apply Ge.mk (α := AV)); · exact rfl) | (refine And.intro rfl ?_) | ((with_reducible first | apply Vl.mk (α := List SV) | apply Vl.mk (α := Ef) | apply Vl.mk (α := TV) | apply Ge.mk (α := List SV) | apply Sg.mk | apply Sk.mk); · exact aCl) | ((first | apply Br.mk | apply Gd.mk) <;> (intro hb; first | exact aKl hb | (simp only [d1, d2, beq_iff_eq, bne_iff_ne, d3, d4, d5, d6, Int.not_lt, Int.not_le, ge_iff_le, gt_iff_lt, ne_eq, d7] at hb; first | (exfalso; omega) | skip) | skip)))); (all_goals (try (conv => whnf)))
  all_goals
    refine fin_ro1 rfl (isv_scal _ _) rfl ?_
    simp only [mkRes]
    congr 3
    unfold atV
    rw [hl]
    first
      | (rw [if_pos (by omega)]; done)
      | (rw [if_neg (by omega)]; done)
end Go.Proofs.Ytcaddlighhiepaa
