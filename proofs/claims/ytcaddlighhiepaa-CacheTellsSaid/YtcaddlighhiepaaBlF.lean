/- Words of instructions made from numbers; blocks of valid words. -/
import Derived.Test.YtcaddlighhiepaaDecA
import Derived.Test.YtcaddlighhiepaaBb0
import Derived.Test.YtcaddlighhiepaaAtA
namespace Go.Proofs.Ytcaddlighhiepaa
open Go Go.RowKit
set_option linter.unusedSimpArgs false
set_option linter.unusedVariables false

theorem bl_full (xs : List Nat) : ∀ (f q : Nat), 0 < f → (∀ j, q ≤ j → j < q + f → dOk (xs.getD j 0) = true) → 0 < (bl xs f q).length ∧ ((bl xs f q).length = f ∨ endsB (dOp (xs.getD (q + (bl xs f q).length - 1) 0)) = true)
  | 0, _, h, _ => by omega
  | f + 1, q, _, hd => by
    have e : bl xs (f + 1) q = if dOk (xs.getD q 0) = true then (if endsB (dOp (xs.getD q 0)) = true then [bM (xs.getD q 0)] else bM (xs.getD q 0) :: bl xs f (q + 1)) else [] := rfl
    rw [e, if_pos (hd q (by omega) (by omega))]
    by_cases he : endsB (dOp (xs.getD q 0)) = true
    · rw [if_pos he]
      exact ⟨by simp, .inr (by simpa using he)⟩
    · rw [if_neg he]
      cases f with
      | zero => exact ⟨by simp, .inl (by simp [bl])⟩
      | succ f =>
        have ih := bl_full xs (f + 1) (q + 1) (by omega) (fun j h1 h2 => hd j (by omega) (by omega))
        refine ⟨by simp, ?_⟩
        rw [List.length_cons]
        rcases ih.2 with h | h
        · left; omega
        · right
          rw [show q + ((bl xs (f + 1) (q + 1)).length + 1) - 1 = q + 1 + (bl xs (f + 1) (q + 1)).length - 1 by omega]
          exact h
/-- The words of the page. -/
def cv (ls : List Int) (i : Nat) : Nat := encI (instV (IntKind.i64.wrap (atV ls (i : Int) + (i : Int))))
theorem cv_lt (ls : List Int) (i : Nat) : cv ls i < 4294967296 := by
  unfold cv
  exact (encI_fn (IntKind.i64.wrap (atV ls (i : Int) + (i : Int)))).2.1
theorem encI_dok (n : Int) : dOk (encI (instV n)) = true := by
  obtain ⟨o, a, b, c, m, h1, h2, h3, h4, h5⟩ := inst_ok n
  have he := enc_lt h2
  have e : encI (instV n) = (encV o a b c m).toNat := by rw [h1]; rfl
  rw [e]
  clear e h1
  generalize hw : (encV o a b c m).toNat = w
  exact (dec_enc (w := w) h2 (by rw [← hw, Int.toNat_of_nonneg he.1])).2.2.2.2.2
theorem cv_dok (ls : List Int) (j : Nat) : dOk (cv ls j) = true := by
  unfold cv
  exact encI_dok (IntKind.i64.wrap (atV ls (j : Int) + (j : Int)))
end Go.Proofs.Ytcaddlighhiepaa
