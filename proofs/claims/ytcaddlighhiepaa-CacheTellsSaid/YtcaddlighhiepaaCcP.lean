/- CacheCoheres: coherence is kept. -/
import Derived.Test.YtcaddlighhiepaaCcO
import Derived.Test.YtcaddlighhiepaaCcK
namespace Go.Proofs.Ytcaddlighhiepaa
open Go Go.RowKit
set_option linter.unusedSimpArgs false
set_option linter.unusedVariables false

def GB (xs : List Nat) (n : Nat) (b : Bk) : Prop := mayV b.A b.L b.l = true ∧ b = fdB xs n b.A 16
theorem cohP_iff (xs : List Nat) (n : Nat) (c : List Bk) : CohP xs n c ↔ c.length ≤ 16 ∧ (∀ b ∈ c, GB xs n b) ∧ (c.map (·.A)).Nodup := by
  unfold CohP
  constructor
  · rintro ⟨h1, h2⟩
    refine ⟨h1, fun b hb => ?_, ?_⟩
    · obtain ⟨i, hi⟩ := List.getElem?_of_mem hb
      exact (h2 i b hi).1
    · refine List.pairwise_iff_getElem.2 fun i j hi hj hij h => ?_
      rw [List.length_map] at hi hj
      rw [List.getElem_map, List.getElem_map] at h
      exact (h2 j c[j] (List.getElem?_eq_getElem hj)).2 i c[i] hij (List.getElem?_eq_getElem hi) h
  · rintro ⟨h1, h2, h3⟩
    refine ⟨h1, fun i b hb => ⟨h2 b (List.mem_of_getElem? hb), fun j e hj he hA => ?_⟩⟩
    obtain ⟨hi, hb'⟩ := List.getElem?_eq_some_iff.1 hb
    obtain ⟨hj', he'⟩ := List.getElem?_eq_some_iff.1 he
    refine List.pairwise_iff_getElem.1 h3 j i (by rw [List.length_map]; exact hj') (by rw [List.length_map]; exact hi) hj ?_
    rw [List.getElem_map, List.getElem_map, hb', he']
    exact hA
theorem bl_cong (xs ys : List Nat) : ∀ (f q : Nat), (∀ j, q ≤ j → j < q + f → xs.getD j 0 = ys.getD j 0) → bl xs f q = bl ys f q
  | 0, _, _ => rfl
  | f + 1, q, h => by
    have e : ∀ zs : List Nat, bl zs (f + 1) q = if dOk (zs.getD q 0) = true then (if endsB (dOp (zs.getD q 0)) = true then [bM (zs.getD q 0)] else bM (zs.getD q 0) :: bl zs f (q + 1)) else [] := fun _ => rfl
    rw [e, e, h q (by omega) (by omega), bl_cong xs ys f (q + 1) (fun j h1 h2 => h j (by omega) (by omega))]
theorem blL_cong (xs ys : List Nat) (n a : Nat) (h : ∀ j, j / 32 = a / 128 → xs.getD j 0 = ys.getD j 0) : blL xs n a 16 = blL ys n a 16 := by
  unfold blL
  split
  · rename_i hb
    have h4 : a % 4 = 0 := by
      unfold bok ld4 at hb
      simp only [Bool.and_eq_true, decide_eq_true_eq] at hb
      exact hb.2.1
    have hl : lmt a 16 ≤ 32 - a % 128 / 4 := by unfold lmt; omega
    exact bl_cong xs ys _ _ (fun j h1 h2 => h j (by omega))
  · rfl
theorem fdB_cong (xs ys : List Nat) (n a : Nat) (h : ∀ j, j / 32 = a / 128 → xs.getD j 0 = ys.getD j 0) : fdB xs n a 16 = fdB ys n a 16 := by
  unfold fdB
  have : FP xs n a 16 = FP ys n a 16 := by
    funext b
    unfold FP
    rw [blL_cong xs ys n a h]
  rw [this]
theorem gb_set (xs : List Nat) (n : Nat) (b : Bk) (at_ w : Nat) (h : fk b ≠ ((at_ / 32 : Nat) : Int)) (hb : GB xs n b) : GB (xs.set at_ w) n b := by
  refine ⟨hb.1, ?_⟩
  rw [← fdB_cong xs (xs.set at_ w) n b.A (fun j hj => ?_)]
  · exact hb.2
  · rw [List.getD_eq_getElem?_getD, List.getD_eq_getElem?_getD, List.getElem?_set_ne]
    intro e
    subst e
    exact h (by unfold fk; rw [hj])
theorem coh_set (xs : List Nat) (n : Nat) (c : List Bk) (at_ w : Nat) (h : CohP xs n c) : CohP (xs.set at_ w) n (c.filter (fun b => decide (fk b ≠ ((at_ / 32 : Nat) : Int)))) := by
  rw [cohP_iff] at h ⊢
  obtain ⟨h1, h2, h3⟩ := h
  refine ⟨Nat.le_trans (List.length_filter_le _ _) h1, fun b hb => ?_, ?_⟩
  · obtain ⟨g1, g2⟩ := List.mem_filter.1 hb
    exact gb_set xs n b at_ w (by simpa using g2) (h2 b g1)
  · exact h3.sublist ((List.filter_sublist).map _)
theorem coh_front (xs : List Nat) (n : Nat) (c : List Bk) (i : Nat) (e : Bk) (he : c[i]? = some e) (h : CohP xs n c) : CohP xs n (frontL c i e) := by
  rw [cohP_iff] at h ⊢
  obtain ⟨h1, h2, h3⟩ := h
  have hp : (frontL c i e).Perm c := by
    have hlt := (List.getElem?_eq_some_iff.1 he).1
    have hs : c = c.take i ++ e :: c.drop (i + 1) := by
      conv => lhs; rw [← List.take_append_drop i c]
      rw [List.drop_eq_getElem_cons hlt, (List.getElem?_eq_some_iff.1 he).2]
    conv => rhs; rw [hs]
    exact List.perm_middle.symm
  exact ⟨by rw [hp.length_eq]; exact h1, fun b hb => h2 b (hp.mem_iff.1 hb), (hp.map _).nodup_iff.2 h3⟩
theorem coh_ins (xs : List Nat) (n : Nat) (c : List Bk) (F : Bk) (hF : F = fdB xs n F.A 16) (h : CohP xs n c) : CohP xs n (insL c F) := by
  unfold insL
  split
  · rename_i hm
    rw [cohP_iff] at h ⊢
    obtain ⟨h1, h2, h3⟩ := h
    refine ⟨by simp; omega, fun b hb => ?_, ?_⟩
    · rcases List.mem_cons.1 hb with rfl | hb
      · exact ⟨hm, hF⟩
      · exact h2 b (List.mem_filter.1 (List.mem_of_mem_take hb)).1
    · rw [List.map_cons, List.nodup_cons]
      refine ⟨fun hx => ?_, ?_⟩
      · obtain ⟨b, hb, hA⟩ := List.mem_map.1 hx
        have := (List.mem_filter.1 (List.mem_of_mem_take hb)).2
        simp at this
        exact this hA
      · exact h3.sublist (((List.take_sublist _ _).trans (List.filter_sublist)).map _)
  · exact h
theorem fd_self (xs : List Nat) (hxl : xs.length = 128) (hxr : ∀ y ∈ xs, y < 4294967296) (at_ : Nat) (h : at_ < 128) : fdB xs 128 (4 * at_) 16 = fdB xs 128 (fdB xs 128 (4 * at_) 16).A 16 := by
  have := (fdB_ok xs 128 (4 * at_) 16 (by omega) hxr).1
  rw [this]
  have hb : blA 128 (4 * at_) 16 = 4 * at_ := by
    have hp : mpg 128 = 4 := rfl
    unfold blA bok ld4
    rw [hp, if_pos]
    simp only [Bool.and_eq_true, decide_eq_true_eq]
    omega
  rw [hb]
end Go.Proofs.Ytcaddlighhiepaa
