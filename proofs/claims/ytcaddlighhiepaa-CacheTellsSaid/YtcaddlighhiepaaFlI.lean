import Derived.Test.YtcaddlighhiepaaRarA
import Derived.Test.YtcaddlighhiepaaBkA
import Derived.Test.YtcaddlighhiepaaFldJ
/- Plain laws: folding keeps what may be. -/
namespace Go.Proofs.Ytcaddlighhiepaa
open Go Go.RowKit
set_option linter.unusedSimpArgs false
set_option linter.unusedVariables false

theorem rewM_o (m : Mi) (is : List Bool) (v : List Nat) : (rewM m is v).o = m.o ∨ (40 ≤ m.o ∧ m.o ≤ 45 ∧ (rewM m is v).o = 48) ∨ (aluB m.o = true ∧ ((rewM m is v).o = 24 ∨ immV m.o ≠ 0 ∧ (rewM m is v).o = immV m.o)) := by
  unfold rewM
  by_cases h1 : 32 ≤ m.o ∧ m.o ≤ 36
  · rw [if_pos h1]; left; split <;> rfl
  · rw [if_neg h1]
    by_cases h2 : 40 ≤ m.o ∧ m.o ≤ 45
    · rw [if_pos h2]
      split
      · exact .inr (.inl ⟨h2.1, h2.2, rfl⟩)
      · left; rfl
    · rw [if_neg h2]
      by_cases h3 : aluB m.o = false
      · rw [if_pos h3]; left; rfl
      · rw [if_neg h3]
        have h4 : aluB m.o = true := by simpa using h3
        split
        · exact .inr (.inr ⟨h4, .inl rfl⟩)
        · split
          · rename_i hi
            exact .inr (.inr ⟨h4, .inr ⟨hi.1, rfl⟩⟩)
          · left; rfl
theorem rewM_use (m : Mi) (is : List Bool) (v : List Nat) (h : useOk m.o = true) : useOk (rewM m is v).o = true := by
  rcases rewM_o m is v with e | ⟨_, _, e⟩ | ⟨_, e | ⟨hi, e⟩⟩
  · rw [e]; exact h
  · rw [e]; rfl
  · rw [e]; rfl
  · have := immV_rng m.o hi
    rw [e, useOk_iff, decide_eq_true_eq]; omega
theorem rewM_ends (m : Mi) (is : List Bool) (v : List Nat) : endsB (rewM m is v).o = endsB m.o := by
  have ha : aluB m.o = true → endsB m.o = false := fun h => by
    unfold aluB at h
    unfold endsB
    simp only [decide_eq_true_eq] at h
    exact decide_eq_false (by omega)
  rcases rewM_o m is v with e | ⟨h1, h2, e⟩ | ⟨h, e | ⟨hi, e⟩⟩
  · rw [e]
  · rw [e]; unfold endsB; rw [decide_eq_true (by omega), decide_eq_true (by omega)]
  · rw [e, ha h]; rfl
  · have := immV_rng m.o hi
    rw [e, ha h]; unfold endsB; exact decide_eq_false (by omega)
theorem rwL_ok : ∀ (l : List Mi) (is : List Bool) (v : List Nat), (∀ y ∈ v, y < 4294967296) → (∀ m ∈ l, MiOk m) → ∀ m ∈ rwL l is v, MiOk m
  | [], _, _, _, _, m, hm => by cases hm
  | m0 :: l, is, v, hv, h, m, hm => by
    have h0 := rewM_ok m0 is v hv (h m0 (by simp))
    unfold rwL at hm
    rcases List.mem_cons.1 hm with hm | hm
    · subst hm; exact ⟨h0.1, h0.2.1, h0.2.2.1, h0.2.2.2.1⟩
    · exact rwL_ok l _ _ (aft_rng _ _ _ v h0.2.2.2.1 hv) (fun q hq => h q (by simp [hq])) m hm
theorem maySum_rw : ∀ (l : List Mi) (is : List Bool) (v : List Nat) (s L : Int), (∀ y ∈ v, y < 4294967296) → (∀ m ∈ l, MiOk m) → maySum (l.map Mi.z) s = some L → maySum ((rwL l is v).map Mi.z) s = some L
  | [], _, _, _, _, _, _, h => h
  | m :: l, is, v, s, L, hv, hok, h => by
    have hm := hok m (by simp)
    have h0 := rewM_ok m is v hv hm
    rw [List.map_cons, maySum] at h
    unfold rwL
    rw [List.map_cons, maySum]
    have hie : ((rwL l (aftI (rewM m is v).o (rewM m is v).a is) (aftV (rewM m is v).o (rewM m is v).a (rewM m is v).k v)).map Mi.z).isEmpty = (l.map Mi.z).isEmpty := by
      have := rwL_len l (aftI (rewM m is v).o (rewM m is v).a is) (aftV (rewM m is v).o (rewM m is v).a (rewM m is v).k v)
      rw [Bool.eq_iff_iff, List.isEmpty_iff, List.isEmpty_iff, List.map_eq_nil_iff, List.map_eq_nil_iff, ← List.length_eq_zero_iff, ← List.length_eq_zero_iff, this]
    split at h
    · rename_i ho
      rw [okM_z m _ ⟨hm.1, hm.2.1, hm.2.2.1⟩] at ho
      rw [if_pos (by rw [okM_z _ _ ⟨h0.1, h0.2.1, h0.2.2.1⟩, hie, rewM_ends, h0.2.2.2.2]; exact ⟨rewM_use m is v ho.1, ho.2.1, ho.2.2.1, ho.2.2.2⟩)]
      have hn : (Mi.z (rewM m is v)).n = (Mi.z m).n := h0.2.2.2.2
      rw [hn]
      exact maySum_rw l _ _ _ L (aft_rng _ _ _ v h0.2.2.2.1 hv) (fun q hq => hok q (by simp [hq])) h
    · cases h
theorem mrg_ok : ∀ (l : List Mi) (p : Int), (∀ m ∈ l, MiOk m) → ∀ m ∈ mrg l p, MiOk m
  | [], _, _, m, hm => by cases hm
  | [m0], p, h, m, hm => by
    unfold mrg at hm
    rw [List.mem_singleton] at hm
    subst hm
    exact h m0 (by simp)
  | m0 :: m1 :: l, p, h, m, hm => by
    unfold mrg at hm
    split at hm
    · exact mrg_ok (m1 :: l) _ (fun q hq => h q (List.mem_cons_of_mem _ hq)) m hm
    · rcases List.mem_cons.1 hm with hm | hm
      · subst hm; exact h m0 (by simp)
      · exact mrg_ok (m1 :: l) _ (fun q hq => h q (List.mem_cons_of_mem _ hq)) m hm
theorem mrg_le : ∀ (l : List Mi) (p : Int), (mrg l p).length ≤ l.length
  | [], _ => by simp [mrg]
  | [m0], p => by simp [mrg]
  | m0 :: m1 :: l, p => by
    unfold mrg
    split
    · have := mrg_le (m1 :: l) (m0.n + p); simp only [List.length_cons] at *; omega
    · have := mrg_le (m1 :: l) 0; simp only [List.length_cons] at *; omega
theorem maySum_mrg : ∀ (l : List Mi) (p s L : Int), 0 < l.length → 0 ≤ p → 0 ≤ s → L ≤ 16 → (∀ m ∈ l, MiOk m) → maySum (l.map Mi.z) (s + p) = some L → maySum ((mrg l p).map Mi.z) s = some L
  | [], _, _, _, h0, _, _, _, _, _ => by simp at h0
  | [m], p, s, L, _, hp, hs, hL, hok, h => by
    have hm := hok m (by simp)
    have hlen := maySum_len _ _ _ h
    simp only [List.map_cons, List.map_nil, maySum, mrg] at h ⊢
    split at h
    · rename_i ho
      rw [okM_z m _ ⟨hm.1, hm.2.1, hm.2.2.1⟩] at ho
      injection h with h
      change s + p + m.n = L at h
      rw [if_pos ((okM_z ⟨m.o, m.a, m.b, m.c, m.k, m.n + p⟩ ([] : List Mz).isEmpty ⟨hm.1, hm.2.1, hm.2.2.1⟩).2 ⟨ho.1, by dsimp only; omega, by dsimp only; omega, .inl rfl⟩)]
      show some (s + (m.n + p)) = _
      rw [← h]; congr 1; omega
    · cases h
  | m :: m' :: l, p, s, L, _, hp, hs, hL, hok, h => by
    have hm := hok m (by simp)
    rw [List.map_cons, maySum] at h
    split at h
    · rename_i ho
      rw [okM_z m _ ⟨hm.1, hm.2.1, hm.2.2.1⟩] at ho
      have hlen := maySum_len _ _ _ h
      simp only [List.length_map, List.length_cons] at hlen
      change s + p + m.n + _ ≤ L at hlen
      change maySum _ (s + p + m.n) = _ at h
      unfold mrg
      split
      · exact maySum_mrg (m' :: l) (m.n + p) s L (by simp) (by omega) hs hL (fun q hq => hok q (List.mem_cons_of_mem _ hq)) (by rw [show s + (m.n + p) = s + p + m.n by omega]; exact h)
      · rw [List.map_cons, maySum, if_pos ((okM_z ⟨m.o, m.a, m.b, m.c, m.k, m.n + p⟩ _ ⟨hm.1, hm.2.1, hm.2.2.1⟩).2 ⟨ho.1, by dsimp only; omega, by dsimp only; omega, .inr (by
          rcases ho.2.2.2 with h1 | h1
          · simp at h1
          · exact h1)⟩)]
        exact maySum_mrg (m' :: l) 0 _ L (by simp) (by omega) (by show 0 ≤ s + (m.n + p); omega) hL (fun q hq => hok q (List.mem_cons_of_mem _ hq)) (by show maySum _ (s + (m.n + p) + 0) = _; rw [show s + (m.n + p) + 0 = s + p + m.n by omega]; exact h)
    · cases h
/-- The folded operations. -/
def fldL (l : List Mi) : List Mi := mrg (rwL l isb0 val0) 0
theorem val0_lt : ∀ y ∈ val0, y < 4294967296 := fun y hy => by simp [val0] at hy; omega
theorem fldL_ok (l : List Mi) (h : ∀ m ∈ l, MiOk m) : ∀ m ∈ fldL l, MiOk m := mrg_ok _ _ (rwL_ok l _ _ val0_lt h)
theorem fldL_le (l : List Mi) : (fldL l).length ≤ l.length := by
  have := mrg_le (rwL l isb0 val0) 0
  rw [rwL_len] at this; exact this
theorem fldL_pos (l : List Mi) (h : 0 < l.length) : 0 < (fldL l).length := mrg_pos _ _ (by rw [rwL_len]; exact h)
/-- The folded block may stand. -/
theorem fldL_may (A : Nat) (L : Int) (l : List Mi) (h0 : 0 < l.length) (hok : ∀ m ∈ l, MiOk m) (h : mayV A L (l.map Mi.z) = true) : mayV A L ((fldL l).map Mi.z) = true := by
  rw [mayV_iff] at h ⊢
  have hL := hdB_le h.1
  refine ⟨h.1, maySum_mrg _ 0 0 L (by rw [rwL_len]; exact h0) (by omega) (by omega) hL.2 (rwL_ok l _ _ val0_lt hok) ?_⟩
  exact maySum_rw l _ _ _ L val0_lt hok h.2
end Go.Proofs.Ytcaddlighhiepaa

/- Fold of a block that may stand. -/
namespace Go.Proofs.Ytcaddlighhiepaa
open Go Go.RowKit
set_option linter.unusedSimpArgs false
set_option linter.unusedVariables false

theorem foldI_fn (A : Nat) (hA : A < 4294967296) (L : Int) (l : List Mi) (N K : Nat) (hN : l.length = N) (hN2 : N ≤ 1000000) (h0 : 0 < N) (hok : ∀ m ∈ l, MiOk m) (h : mayV A L (l.map Mi.z) = true) (hK : (fldL l).length = K) :
    Fn Try.prog 43 [.agg [.int .u32 A, .int .i64 L, .sl 0 0 N]] [⟨false, 6, mcs l⟩] (· = ⟨.a (.agg [.int .u32 A, .int .i64 L, .sl 1 0 K]), [], [⟨true, 6, mcs (fldL l)⟩]⟩) := by
  subst hK
  have hn := maySum_n l 0 L ((mayV_iff _ _ _).1 h).2
  exact foldG_fn A L l N hN hN2 h0 (fun m hm => ⟨(hok m hm).1, (hok m hm).2.1, (hok m hm).2.2.1, (hok m hm).2.2.2, by have := hn m hm; omega, by have := hn m hm; omega⟩) (mayI_fn A hA L l N hN hN2 h)
end Go.Proofs.Ytcaddlighhiepaa
