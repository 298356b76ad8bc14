/- Blocks that cover a page: plain laws; a page of valid instructions. -/
import Derived.Test.YtppjiheebpabjaaBbB
import Derived.Test.YtppjiheebpabjaaAtA
namespace Go.Proofs.Ytppjiheebpabjaa
open Go Go.RowKit
set_option linter.unusedSimpArgs false
set_option linter.unusedVariables false

theorem bl_nth (xs : List Nat) : ∀ (f q i : Nat), i < (bl xs f q).length → (bl xs f q)[i]? = some (bM (xs.getD (q + i) 0)) ∧ (endsB (dOp (xs.getD (q + i) 0)) = true → i + 1 = (bl xs f q).length)
  | 0, q, i, h => by simp [bl] at h
  | f + 1, q, i, h => by
    have e : bl xs (f + 1) q = if dOk (xs.getD q 0) = true then (if endsB (dOp (xs.getD q 0)) = true then [bM (xs.getD q 0)] else bM (xs.getD q 0) :: bl xs f (q + 1)) else [] := rfl
    rw [e] at h ⊢
    by_cases hd : dOk (xs.getD q 0) = true
    · rw [if_pos hd] at h ⊢
      by_cases he : endsB (dOp (xs.getD q 0)) = true
      · rw [if_pos he] at h ⊢
        have hi : i = 0 := by simp at h; exact h
        subst hi
        exact ⟨rfl, fun _ => rfl⟩
      · rw [if_neg he] at h ⊢
        cases i with
        | zero => exact ⟨rfl, fun h2 => absurd h2 he⟩
        | succ i =>
          have ih := bl_nth xs f (q + 1) i (by simpa using h)
          rw [show q + 1 + i = q + (i + 1) by omega] at ih
          refine ⟨by rw [List.getElem?_cons_succ]; exact ih.1, fun h2 => ?_⟩
          have := ih.2 h2
          rw [List.length_cons]; omega
    · rw [if_neg hd] at h; simp at h
theorem bl_full (xs : List Nat) : ∀ (f q : Nat), 0 < f → (∀ j, q ≤ j → j < q + f → dOk (xs.getD j 0) = true) → 0 < (bl xs f q).length ∧ ((bl xs f q).length = f ∨ endsB (dOp (xs.getD (q + (bl xs f q).length - 1) 0)) = true)
  | 0, _, h, _ => by omega
  | f + 1, q, _, hd => by
    have e : bl xs (f + 1) q = if dOk (xs.getD q 0) = true then (if endsB (dOp (xs.getD q 0)) = true then [bM (xs.getD q 0)] else bM (xs.getD q 0) :: bl xs f (q + 1)) else [] := rfl
    rw [e, if_pos (hd q (by omega) (by omega))]
    by_cases he : endsB (dOp (xs.getD q 0)) = true
    · rw [if_pos he]
      exact ⟨by simp, .inr (by simpa using he)⟩
    · rw [if_neg he]
      cases f with
      | zero => exact ⟨by simp, .inl (by simp [bl])⟩
      | succ f =>
        have ih := bl_full xs (f + 1) (q + 1) (by omega) (fun j h1 h2 => hd j (by omega) (by omega))
        refine ⟨by simp, ?_⟩
        rw [List.length_cons]
        rcases ih.2 with h | h
        · left; omega
        · right
          rw [show q + ((bl xs (f + 1) (q + 1)).length + 1) - 1 = q + 1 + (bl xs (f + 1) (q + 1)).length - 1 by omega]
          exact h
/-- The words of the page. -/
def cv (ls : List Int) (i : Nat) : Nat := encI (instV (IntKind.i64.wrap (atV ls (i : Int) + (i : Int))))
def cvM (ls : List Int) (j : Nat) : List Nat := (List.range 32).map fun i => if i < j then cv ls i else 0
theorem cvM_len (ls : List Int) (j : Nat) : (cvM ls j).length = 32 := by unfold cvM; simp
theorem cvM_get (ls : List Int) (j i : Nat) (hi : i < 32) : (cvM ls j)[i]? = some (if i < j then cv ls i else 0) := by
  unfold cvM; rw [List.getElem?_map, List.getElem?_range hi]; rfl
theorem cvM_set (ls : List Int) (j : Nat) (hj : j < 32) : (cvM ls j).set j (cv ls j) = cvM ls (j + 1) := by
  apply List.ext_getElem?
  intro i
  by_cases hi : i < 32
  · rw [cvM_get ls (j + 1) i hi]
    by_cases h : i = j
    · subst h; rw [List.getElem?_set_self (by rw [cvM_len]; omega), if_pos (by omega)]
    · rw [List.getElem?_set_ne (Ne.symm h), cvM_get ls j i hi]
      by_cases h2 : i < j
      · rw [if_pos h2, if_pos (by omega)]
      · rw [if_neg h2, if_neg (by omega)]
  · rw [List.getElem?_eq_none (by rw [List.length_set, cvM_len]; omega), List.getElem?_eq_none (by rw [cvM_len]; omega)]
theorem cvM_zero (ls : List Int) : cvM ls 0 = zer 32 := by
  unfold cvM zer
  apply List.ext_getElem?
  intro i
  by_cases hi : i < 32
  · rw [List.getElem?_map, List.getElem?_range hi, List.getElem?_replicate, if_pos hi]; rfl
  · rw [List.getElem?_eq_none (by simp; omega), List.getElem?_eq_none (by simp; omega)]
theorem cv_lt (ls : List Int) (i : Nat) : cv ls i < 4294967296 := by
  unfold cv
  exact (encI_fn (IntKind.i64.wrap (atV ls (i : Int) + (i : Int)))).2.1
theorem cvM_lt (ls : List Int) : ∀ y ∈ cvM ls 32, y < 4294967296 := fun y hy => by
  unfold cvM at hy
  obtain ⟨i, hi, rfl⟩ := List.mem_map.1 hy
  have := List.mem_range.1 hi
  rw [if_pos this]; exact cv_lt ls i
theorem encI_dok (n : Int) : dOk (encI (instV n)) = true := by
  obtain ⟨o, a, b, c, m, h1, h2, h3, h4, h5⟩ := inst_ok n
  have he := enc_lt h2
  have e : encI (instV n) = (encV o a b c m).toNat := by rw [h1]; rfl
  rw [e]
  clear e h1
  generalize hw : (encV o a b c m).toNat = w
  exact (dec_enc (w := w) h2 (by rw [← hw, Int.toNat_of_nonneg he.1])).2.2.2.2.2
theorem cv_dok (ls : List Int) (j : Nat) : dOk (cv ls j) = true := by
  unfold cv
  exact encI_dok (IntKind.i64.wrap (atV ls (j : Int) + (j : Int)))
theorem rangeD (f : Nat → Nat) (P : Nat → Prop) (h : ∀ j, j < 32 → P (f j)) (j : Nat) (hj : j < 32) : P (((List.range 32).map f).getD j 0) := by
  have e : ((List.range 32).map f).getD j 0 = f j := by
    rw [List.getD_eq_getElem?_getD, List.getElem?_map, List.getElem?_range hj]; rfl
  rw [e]; exact h j hj
def cvF (f : Nat → Nat) (j : Nat) : Nat → Nat := fun i => if i < j then f i else 0
theorem cvF_pos (f : Nat → Nat) (P : Nat → Prop) (h : ∀ j, P (f j)) (j : Nat) (hj : j < 32) : P (cvF f 32 j) := by
  unfold cvF; rw [if_pos hj]; exact h j
theorem cvM_map (ls : List Int) (j : Nat) : cvM ls j = (List.range 32).map (cvF (cv ls) j) := rfl
theorem cvM_dok (ls : List Int) (j : Nat) (hj : j < 32) : dOk ((cvM ls 32).getD j 0) = true := by
  rw [cvM_map]
  exact rangeD (cvF (cv ls) 32) (fun z => dOk z = true) (cvF_pos (cv ls) (fun z => dOk z = true) (cv_dok ls)) j hj
theorem new1_run : runF eqt tys true fns noCt 1000 20 8 [.s (.int .i64 1)] [] = some ⟨.a (.s (.sl 0 0 32)), [], [⟨true, 1, wsv (zer 32)⟩]⟩ := by kernel_rfl
theorem new1_fn : Fn Try.prog 8 [.s (.int .i64 1)] [] (· = ⟨.a (.s (.sl 0 0 32)), [], [⟨true, 1, wsv (zer 32)⟩]⟩) := run_fn new1_run
/-- A block of the page. -/
theorem cv_block (ls : List Int) (at' : Nat) (s : Int) (ha : at' < 32) (hs : 1 ≤ s) :
    ∃ (l : List Mi) (K : Nat), l.length = K ∧ blL (cvM ls 32) 32 (4 * at') s = l ∧ blA 32 (4 * at') s = 4 * at' ∧ 1 ≤ K ∧ (K : Int) ≤ s ∧ K ≤ 16 ∧ at' + K ≤ 32 ∧
      (∀ i, i < K → l[i]? = some (bM ((cvM ls 32).getD (at' + i) 0)) ∧ (endsB (dOp ((cvM ls 32).getD (at' + i) 0)) = true → i + 1 = K)) ∧
      (endsB (dOp ((cvM ls 32).getD (at' + (K - 1)) 0)) = true ∨ (K : Int) = s ∨ K = 16 ∨ at' + K = 32) := by
  have hm : mpg 32 = 1 := by decide
  have hok : bok 32 (4 * at') s = true := by
    unfold bok ld4
    rw [hm, decide_eq_true hs, decide_eq_true (by omega), decide_eq_true (by omega)]; rfl
  have hl : lmt (4 * at') s ≤ 16 ∧ (lmt (4 * at') s : Int) ≤ s ∧ at' + lmt (4 * at') s ≤ 32 ∧ 0 < lmt (4 * at') s ∧ ((lmt (4 * at') s : Int) = s ∨ lmt (4 * at') s = 16 ∨ at' + lmt (4 * at') s = 32) := by unfold lmt; omega
  have hle := bl_len (cvM ls 32) (lmt (4 * at') s) at'
  have hfu := bl_full (cvM ls 32) (lmt (4 * at') s) at' hl.2.2.2.1 (fun j h1 h2 => cvM_dok ls j (by omega))
  refine ⟨bl (cvM ls 32) (lmt (4 * at') s) at', _, rfl, ?_, ?_, by omega, by omega, by omega, by omega, fun i hi => bl_nth _ _ _ i hi, ?_⟩
  · unfold blL; rw [hok, if_pos rfl, show 4 * at' / 4 = at' by omega]
  · unfold blA; rw [hok]; rfl
  · rcases hfu.2 with h | h
    · right; rw [h]; omega
    · left
      rw [show at' + ((bl (cvM ls 32) (lmt (4 * at') s) at').length - 1) = at' + (bl (cvM ls 32) (lmt (4 * at') s) at').length - 1 by omega]
      exact h
end Go.Proofs.Ytppjiheebpabjaa
