/- Plain laws: folding a pure block does not change what it computes. -/
import Derived.Test.YtpkbfpjkpiimiaaRnB
namespace Go.Proofs.Ytpkbfpjkpiimiaa
open Go Go.RowKit
set_option linter.unusedSimpArgs false
set_option linter.unusedVariables false

def Con (is : List Bool) (v x : List Nat) : Prop := ∀ r, r < 16 → is.getD r false = true → x.getD r 0 = v.getD r 0
def PurM (m : Mi) : Prop := m.o = 24 ∨ aluB m.o = true
theorem aluB_iff (o : Int) : aluB o = true ↔ (1 ≤ o ∧ o ≤ 13 ∨ 16 ≤ o ∧ o ≤ 23) := by unfold aluB; rw [decide_eq_true_eq]
theorem immV_case (o : Int) (h : immV o ≠ 0) : o = 1 ∨ o = 2 ∨ o = 3 ∨ o = 4 ∨ o = 5 ∨ o = 6 ∨ o = 7 ∨ o = 8 ∨ o = 12 := by
  unfold immV at h
  by_cases h1 : o = 1 ∨ o = 2 ∨ o = 3 ∨ o = 4 ∨ o = 5 ∨ o = 6 ∨ o = 7 ∨ o = 8 ∨ o = 12
  · exact h1
  · exfalso
    apply h
    rw [if_neg (by omega), if_neg (by omega), if_neg (by omega), if_neg (by omega), if_neg (by omega), if_neg (by omega), if_neg (by omega), if_neg (by omega)]
theorem imm_alu (o : Int) (h : immV o ≠ 0) (p q : Nat) (hp : p < 4294967296) (hq : q < 4294967296) : aluN (immV o) p (if o = 2 then (4294967296 - q) % 4294967296 else q) = aluN o p q := by
  rcases immV_case o h with e | e | e | e | e | e | e | e | e <;> subst e
  · rfl
  · rw [if_pos rfl]
    show (aluV 16 p _).toNat = (aluV 2 p q).toNat
    have e1 : ∀ z, aluV 16 p z = ((p : Int) + z) % 4294967296 := fun z => by unfold aluV; rw [if_pos (by omega)]
    have e2 : aluV 2 p q = ((p : Int) - q) % 4294967296 := by unfold aluV; rw [if_neg (by omega), if_pos (by omega)]
    rw [e1, e2]; omega
  all_goals (rw [if_neg (by omega)]; rfl)
theorem rewM_val (m : Mi) (is : List Bool) (v x : List Nat) (hp : PurM m) (hok : MiOk m) (hx : ∀ y ∈ x, y < 4294967296) (hc : Con is v x) : vM (rewM m is v) x = vM m x ∧ (rewM m is v).a = m.a ∧ PurM (rewM m is v) := by
  have g := getD_lt hx
  have gb := g m.b
  have gc := g m.c
  unfold rewM
  rcases hp with h24 | hal
  · rw [if_neg (by omega), if_neg (by omega), if_pos (by rw [h24]; rfl)]; exact ⟨rfl, rfl, .inl h24⟩
  · have hr := (aluB_iff _).1 hal
    have hv : vM m x = aluN m.o (x.getD m.b 0) (if thrB m.o then x.getD m.c 0 else m.k) := by unfold vM; rw [if_neg (by omega)]
    rw [if_neg (by omega), if_neg (by omega), if_neg (by rw [hal]; simp)]
    split
    · rename_i hk
      refine ⟨?_, rfl, .inl rfl⟩
      rw [hv]
      show vM ⟨24, m.a, 0, 0, _, m.n⟩ x = _
      unfold vM
      rw [if_pos rfl]
      dsimp only
      rw [hc m.b hok.2.1 hk.1]
      cases ht : thrB m.o with
      | false => rfl
      | true =>
        rcases hk.2 with h2 | h2
        · rw [h2] at ht; cases ht
        · rw [if_pos rfl, if_pos rfl, hc m.c hok.2.2.1 h2]
    · split
      · rename_i hi
        have hi2 := immV_rng m.o hi.1
        have ht : thrB m.o = true := by
          have := immV_case m.o hi.1
          unfold thrB; exact decide_eq_true (by omega)
        have ht2 : thrB (immV m.o) = false := by unfold thrB; exact decide_eq_false (by omega)
        refine ⟨?_, rfl, .inr ?_⟩
        · rw [hv, ht, if_pos rfl]
          unfold vM
          dsimp only
          rw [if_neg (by omega), ht2, if_neg (by simp), ← hc m.c hok.2.2.1 hi.2]
          exact imm_alu m.o hi.1 _ _ gb gc
        · show aluB (immV m.o) = true
          rw [aluB_iff]; omega
      · exact ⟨rfl, rfl, .inr hal⟩
theorem getD_set {α : Type} (l : List α) (i j : Nat) (x d : α) (h : i < l.length) : (l.set i x).getD j d = if j = i then x else l.getD j d := by
  rw [List.getD_eq_getElem?_getD, List.getD_eq_getElem?_getD]
  by_cases e : j = i
  · subst e; rw [if_pos rfl, List.getElem?_set_self h]; rfl
  · rw [if_neg e, List.getElem?_set_ne (Ne.symm e)]
theorem wrt_pure {m : Mi} (h : PurM m) : wrtB m.o = true := by
  unfold wrtB
  rcases h with h | h
  · rw [h]; rfl
  · rw [h, Bool.or_true]
theorem con_step (m : Mi) (is : List Bool) (v x : List Nat) (hp : PurM m) (ha : m.a < 16) (hi : is.length = 16) (hv : v.length = 16) (hx : x.length = 16) (hc : Con is v x) : Con (aftI m.o m.a is) (aftV m.o m.a m.k v) (stM m x) := by
  have hw := wrt_pure hp
  unfold aftI aftV stM
  by_cases h0 : m.a = 0
  · rw [if_pos (.inr h0), if_pos (.inr h0), if_pos h0]; exact hc
  · have hn : ¬ (wrtB m.o = false ∨ m.a = 0) := fun h => h.elim (fun h => by rw [hw] at h; cases h) h0
    rw [if_neg hn, if_neg hn, if_neg h0]
    intro r hr h
    rw [getD_set _ _ _ _ _ (by omega)] at h
    rw [getD_set _ _ _ _ _ (by omega), getD_set _ _ _ _ _ (by omega)]
    by_cases e : r = m.a
    · rw [if_pos e, decide_eq_true_eq] at h
      rw [if_pos e, if_pos e, if_pos h]
      unfold vM; rw [if_pos h]
    · rw [if_neg e] at h
      rw [if_neg e, if_neg e]
      exact hc r hr h
theorem runL_rw : ∀ (l : List Mi) (is : List Bool) (v x : List Nat), (∀ m ∈ l, PurM m) → (∀ m ∈ l, MiOk m) → (∀ y ∈ x, y < 4294967296) → (∀ y ∈ v, y < 4294967296) → is.length = 16 → v.length = 16 → x.length = 16 → Con is v x → runL (rwL l is v) x = runL l x ∧ ∀ m ∈ rwL l is v, PurM m
  | [], _, _, _, _, _, _, _, _, _, _, _ => ⟨rfl, fun m h => by cases h⟩
  | m :: l, is, v, x, hp, hok, hxr, hvr, hi, hv, hx, hc => by
    have hm := hok m (by simp)
    have h1 := rewM_val m is v x (hp m (by simp)) hm hxr hc
    have h2 := rewM_ok m is v hvr hm
    have hst : stM (rewM m is v) x = stM m x := by unfold stM; rw [h1.1, h1.2.1]
    have hcs := con_step (rewM m is v) is v x h1.2.2 h2.1 hi hv hx hc
    rw [hst] at hcs
    have hal := aft_len (rewM m is v).o (rewM m is v).a (rewM m is v).k is v
    have ih := runL_rw l _ _ (stM m x) (fun q hq => hp q (by simp [hq])) (fun q hq => hok q (by simp [hq])) (stM_rng m x hxr hm.2.2.2) (aft_rng (rewM m is v).o (rewM m is v).a (rewM m is v).k v h2.2.2.2.1 hvr) (by rw [hal.1, hi]) (by rw [hal.2, hv]) (by rw [stM_len, hx]) hcs
    unfold rwL
    refine ⟨?_, fun q hq => ?_⟩
    · show runL (rwL l _ _) (stM (rewM m is v) x) = runL l (stM m x)
      rw [hst]; exact ih.1
    · rcases List.mem_cons.1 hq with e | e
      · subst e; exact h1.2.2
      · exact ih.2 q e
theorem stM_n (m : Mi) (p : Int) (x : List Nat) : stM ⟨m.o, m.a, m.b, m.c, m.k, p⟩ x = stM m x := rfl
theorem use_run (m m' : Mi) (x : List Nat) (h : useV m m' = true) : stM m' (stM m x) = stM m' x := by
  unfold useV at h
  by_cases h24 : m.o = 24
  · rw [if_pos h24, decide_eq_true_eq] at h
    rcases h with h | h
    · rw [show stM m x = x from if_pos h]
    · unfold stM
      by_cases h0 : m.a = 0
      · rw [if_pos h0]
      · rw [if_neg h0, if_neg (by omega), if_neg (by omega), h.2, List.set_set]
        have e : ∀ y, vM m' y = m'.k := fun y => if_pos h.1
        rw [e, e]
  · rw [if_neg h24, Bool.and_eq_true, decide_eq_true_eq] at h
    rw [show stM m x = x from if_pos h.1]
theorem runL_mrg : ∀ (l : List Mi) (p : Int) (x : List Nat), runL (mrg l p) x = runL l x
  | [], _, _ => rfl
  | [m], p, x => rfl
  | m :: m' :: l, p, x => by
    unfold mrg
    split
    · rename_i hu
      rw [runL_mrg (m' :: l) _ x]
      show runL l (stM m' x) = runL l (stM m' (stM m x))
      rw [use_run m m' x hu]
    · show runL (mrg (m' :: l) 0) (stM m x) = runL (m' :: l) (stM m x)
      exact runL_mrg (m' :: l) 0 _
theorem mrg_pur : ∀ (l : List Mi) (p : Int), (∀ m ∈ l, PurM m) → ∀ m ∈ mrg l p, PurM m
  | [], _, _, m, hm => by cases hm
  | [m0], p, h, m, hm => by
    unfold mrg at hm
    rw [List.mem_singleton] at hm
    subst hm
    exact h m0 (by simp)
  | m0 :: m1 :: l, p, h, m, hm => by
    unfold mrg at hm
    split at hm
    · exact mrg_pur (m1 :: l) _ (fun q hq => h q (List.mem_cons_of_mem _ hq)) m hm
    · rcases List.mem_cons.1 hm with hm | hm
      · subst hm; exact h m0 (by simp)
      · exact mrg_pur (m1 :: l) _ (fun q hq => h q (List.mem_cons_of_mem _ hq)) m hm
/-- What a folded pure block computes; it is pure. -/
theorem runL_fld (l : List Mi) (x : List Nat) (hp : ∀ m ∈ l, PurM m) (hok : ∀ m ∈ l, MiOk m) (hxr : ∀ y ∈ x, y < 4294967296) (hx : x.length = 16) (h0 : x.getD 0 0 = 0) : runL (fldL l) x = runL l x ∧ ∀ m ∈ fldL l, PurM m := by
  have hc : Con isb0 val0 x := by
    intro r hr h
    by_cases e : r = 0
    · subst e; exact h0
    · exfalso
      have : isb0.getD r false = false := by
        have hq : ∀ q : Nat, q < 16 → q ≠ 0 → isb0.getD q false = false := by decide
        exact hq r hr e
      rw [this] at h; cases h
  have := runL_rw l isb0 val0 x hp hok hxr val0_lt rfl rfl hx hc
  exact ⟨by unfold fldL; rw [runL_mrg]; exact this.1, mrg_pur _ _ this.2⟩
theorem pureV_of (A : Nat) (L : Int) (l : List Mi) (h : mayV A L (l.map Mi.z) = true) (hp : ∀ m ∈ l, PurM m) : pureV A L (l.map Mi.z) = true := by
  unfold pureV purL
  rw [h, Bool.true_and, List.all_eq_true]
  intro z hz
  obtain ⟨m, hm, rfl⟩ := List.mem_map.1 hz
  rw [Bool.or_eq_true, decide_eq_true_eq]
  exact hp m hm
theorem madeL_pur (ls : List Int) : ∀ m ∈ madeL 0 16 ls, PurM m := fun m hm => by
  obtain ⟨_, _, h3, h4⟩ := madeL_ok 0 16 ls m hm
  unfold badI at h3
  unfold opOk at h4
  rw [decide_eq_false_iff_not] at h3
  unfold PurM
  rw [aluB_iff]
  omega
end Go.Proofs.Ytpkbfpjkpiimiaa
