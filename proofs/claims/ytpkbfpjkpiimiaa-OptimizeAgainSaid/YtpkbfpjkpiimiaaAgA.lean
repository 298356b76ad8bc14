/- Plain laws: folding a folded block. -/
import Derived.Test.YtpkbfpjkpiimiaaRfD
namespace Go.Proofs.Ytpkbfpjkpiimiaa
open Go Go.RowKit
set_option linter.unusedSimpArgs false
set_option linter.unusedVariables false

theorem immV_zero (o : Int) (h : 16 ≤ o) : immV o = 0 := by
  unfold immV
  rw [if_neg (by omega), if_neg (by omega), if_neg (by omega), if_neg (by omega), if_neg (by omega), if_neg (by omega), if_neg (by omega), if_neg (by omega)]
/-- Not changed: what is not rewritten. -/
theorem rewM_keep_lui (m : Mi) (is : List Bool) (v : List Nat) (h : m.o = 24) : rewM m is v = m := by
  unfold rewM
  rw [if_neg (by omega), if_neg (by omega), if_pos (by rw [h]; rfl)]
theorem rewM_idem (m : Mi) (is : List Bool) (v : List Nat) : rewM (rewM m is v) is v = rewM m is v := by
  by_cases h1 : 32 ≤ m.o ∧ m.o ≤ 36
  · by_cases h2 : is.getD m.b false = true ∧ m.b ≠ 0
    · have e : rewM m is v = { m with k := (m.k + v.getD m.b 0) % 4294967296, b := 0 } := by unfold rewM; rw [if_pos h1, if_pos h2]
      rw [e]
      unfold rewM
      rw [if_pos h1, if_neg (by rintro ⟨_, h⟩; exact h rfl)]
    · have e : rewM m is v = m := by unfold rewM; rw [if_pos h1, if_neg h2]
      rw [e, e]
  by_cases h2 : 40 ≤ m.o ∧ m.o ≤ 45
  · by_cases h3 : is.getD m.a false = true ∧ is.getD m.b false = true
    · have e : rewM m is v = { o := 48, a := 0, b := 0, c := 0, k := if takI m.o (v.getD m.a 0 : Nat) (v.getD m.b 0 : Nat) then m.k else 4, n := m.n } := by unfold rewM; rw [if_neg h1, if_pos h2, if_pos h3]
      rw [e]
      generalize (if takI m.o (v.getD m.a 0 : Nat) (v.getD m.b 0 : Nat) then m.k else 4) = K
      unfold rewM
      rw [if_neg (by dsimp only; omega), if_neg (by dsimp only; omega), if_pos (show aluB 48 = false from rfl)]
    · have e : rewM m is v = m := by unfold rewM; rw [if_neg h1, if_pos h2, if_neg h3]
      rw [e, e]
  by_cases h3 : aluB m.o = false
  · have e : rewM m is v = m := by unfold rewM; rw [if_neg h1, if_neg h2, if_pos h3]
    rw [e, e]
  by_cases h4 : is.getD m.b false = true ∧ (thrB m.o = false ∨ is.getD m.c false = true)
  · have e : rewM m is v = { m with o := 24, b := 0, c := 0, k := aluN m.o (v.getD m.b 0) (if thrB m.o then v.getD m.c 0 else m.k) } := by unfold rewM; rw [if_neg h1, if_neg h2, if_neg h3, if_pos h4]
    rw [e]
    exact rewM_keep_lui _ is v rfl
  by_cases h5 : immV m.o ≠ 0 ∧ is.getD m.c false = true
  · have e : rewM m is v = { m with o := immV m.o, c := 0, k := if m.o = 2 then (4294967296 - v.getD m.c 0) % 4294967296 else v.getD m.c 0 } := by unfold rewM; rw [if_neg h1, if_neg h2, if_neg h3, if_neg h4, if_pos h5]
    rw [e]
    generalize (if m.o = 2 then (4294967296 - v.getD m.c 0) % 4294967296 else v.getD m.c 0) = K
    have hr := immV_rng m.o h5.1
    have hb : is.getD m.b false = false := by
      cases hb : is.getD m.b false with
      | false => rfl
      | true => exact absurd ⟨hb, .inr h5.2⟩ h4
    have hz := immV_zero (immV m.o) hr.1
    generalize immV m.o = I at *
    unfold rewM
    dsimp only
    rw [if_neg (by omega), if_neg (by omega), if_neg (by rw [show aluB I = true by rw [aluB_iff]; omega]; simp), if_neg (by rintro ⟨h, _⟩; rw [hb] at h; cases h), if_neg (by rintro ⟨h, _⟩; exact h hz)]
  · have e : rewM m is v = m := by unfold rewM; rw [if_neg h1, if_neg h2, if_neg h3, if_neg h4, if_neg h5]
    rw [e, e]
/-- The number of covered instructions does not matter. -/
theorem rewM_setn (m : Mi) (q : Int) (is : List Bool) (v : List Nat) : rewM { m with n := q } is v = { rewM m is v with n := q } := by
  unfold rewM
  dsimp only
  repeat' split
  all_goals rfl
theorem mrg_head : ∀ (l : List Mi) (m : Mi) (q : Int), m.o = 24 → m.a ≠ 0 → ∃ (h : Mi) (t : List Mi), mrg (m :: l) q = h :: t ∧ h.o = 24 ∧ h.a = m.a
  | [], m, q, h24, _ => ⟨{ m with n := m.n + q }, [], rfl, h24, rfl⟩
  | m' :: l, m, q, h24, ha => by
    unfold mrg
    split
    · rename_i hu
      unfold useV at hu
      rw [if_pos h24, decide_eq_true_eq] at hu
      have h2 := hu.resolve_left ha
      obtain ⟨h, t, e1, e2, e3⟩ := mrg_head l m' (m.n + q) h2.1 (by rw [h2.2]; exact ha)
      exact ⟨h, t, e1, e2, by rw [e3, h2.2]⟩
    · exact ⟨_, _, rfl, h24, rfl⟩
theorem wrt24 : wrtB 24 = true := rfl
theorem rw_lui_head (h : Mi) (t : List Mi) (a : Nat) (is : List Bool) (v : List Nat) (k0 : Nat) (h24 : h.o = 24) (ha : h.a = a) (h0 : a ≠ 0) : rwL (h :: t) (is.set a true) (v.set a k0) = rwL (h :: t) is v := by
  have hn : ¬ (wrtB h.o = false ∨ h.a = 0) := by
    rintro (h1 | h1)
    · rw [h24] at h1; cases h1
    · rw [ha] at h1; exact h0 h1
  unfold rwL
  rw [rewM_keep_lui h _ _ h24, rewM_keep_lui h _ _ h24]
  have e1 : ∀ i', aftI h.o h.a i' = i'.set a true := fun i' => by unfold aftI; rw [if_neg hn, ha, h24]; rfl
  have e2 : ∀ v', aftV h.o h.a h.k v' = v'.set a h.k := fun v' => by unfold aftV; rw [if_neg hn, ha, if_pos h24]
  rw [e1, e1, e2, e2, List.set_set, List.set_set]
theorem rw_mrg : ∀ (l : List Mi) (is : List Bool) (v : List Nat) (p : Int), rwL (mrg (rwL l is v) p) is v = mrg (rwL l is v) p
  | [], _, _, _ => rfl
  | [m], is, v, p => by
    show rwL [{ rewM m is v with n := (rewM m is v).n + p }] is v = [{ rewM m is v with n := (rewM m is v).n + p }]
    unfold rwL rwL
    rw [rewM_setn, rewM_idem]
  | m :: m2 :: t, is, v, p => by
    have e0 : rwL (m :: m2 :: t) is v = rewM m is v :: rwL (m2 :: t) (aftI (rewM m is v).o (rewM m is v).a is) (aftV (rewM m is v).o (rewM m is v).a (rewM m is v).k v) := rfl
    rw [e0]
    obtain ⟨r, hr⟩ : ∃ r, rewM m is v = r := ⟨_, rfl⟩
    have hid : rewM r is v = r := by rw [← hr]; exact rewM_idem m is v
    rw [hr]
    have ih := rw_mrg (m2 :: t) (aftI r.o r.a is) (aftV r.o r.a r.k v)
    obtain ⟨r2, X, hX⟩ : ∃ r2 X, rwL (m2 :: t) (aftI r.o r.a is) (aftV r.o r.a r.k v) = r2 :: X := ⟨_, _, rfl⟩
    rw [hX] at ih ⊢
    by_cases hu : useV r r2 = true
    · have e1 : mrg (r :: r2 :: X) p = mrg (r2 :: X) (r.n + p) := by
        show (if useV r r2 = true then mrg (r2 :: X) (r.n + p) else { r with n := r.n + p } :: mrg (r2 :: X) 0) = _
        rw [if_pos hu]
      rw [e1]
      have ih2 := ih (r.n + p)
      by_cases ha : r.a = 0
      · have g1 : aftI r.o r.a is = is := if_pos (.inr ha)
        have g2 : aftV r.o r.a r.k v = v := if_pos (.inr ha)
        rw [g1, g2] at ih2
        exact ih2
      · unfold useV at hu
        have h24 : r.o = 24 := by
          by_cases h24 : r.o = 24
          · exact h24
          · rw [if_neg h24, Bool.and_eq_true, decide_eq_true_eq] at hu; exact absurd hu.1 ha
        rw [if_pos h24, decide_eq_true_eq] at hu
        have h2 := hu.resolve_left ha
        obtain ⟨h, t', e2, e3, e4⟩ := mrg_head X r2 (r.n + p) h2.1 (by rw [h2.2]; exact ha)
        rw [e2] at ih2 ⊢
        have hn : ¬ (wrtB r.o = false ∨ r.a = 0) := by
          rintro (h1 | h1)
          · rw [h24] at h1; cases h1
          · exact ha h1
        have g1 : aftI r.o r.a is = is.set r.a true := by unfold aftI; rw [if_neg hn, h24]; rfl
        have g2 : aftV r.o r.a r.k v = v.set r.a r.k := by unfold aftV; rw [if_neg hn, if_pos h24]
        rw [g1, g2, rw_lui_head h t' r.a is v r.k e3 (by rw [e4, h2.2]) ha] at ih2
        exact ih2
    · have e1 : mrg (r :: r2 :: X) p = { r with n := r.n + p } :: mrg (r2 :: X) 0 := by
        show (if useV r r2 = true then mrg (r2 :: X) (r.n + p) else { r with n := r.n + p } :: mrg (r2 :: X) 0) = _
        rw [if_neg hu]
      rw [e1]
      have hid2 : rewM { r with n := r.n + p } is v = { r with n := r.n + p } := by rw [rewM_setn, hid]
      show rewM { r with n := r.n + p } is v :: rwL (mrg (r2 :: X) 0) (aftI (rewM { r with n := r.n + p } is v).o (rewM { r with n := r.n + p } is v).a is) (aftV (rewM { r with n := r.n + p } is v).o (rewM { r with n := r.n + p } is v).a (rewM { r with n := r.n + p } is v).k v) = _
      rw [hid2]
      congr 1
      exact ih 0
theorem mrg_same : ∀ (l : List Mi), (mrg l 0).length = l.length → mrg l 0 = l
  | [], _ => rfl
  | [m], _ => by
    show [{ m with n := m.n + 0 }] = [m]
    rw [Int.add_zero]
  | m :: m' :: l, h => by
    by_cases hu : useV m m' = true
    · have e : mrg (m :: m' :: l) 0 = mrg (m' :: l) (m.n + 0) := by
        show (if useV m m' = true then mrg (m' :: l) (m.n + 0) else { m with n := m.n + 0 } :: mrg (m' :: l) 0) = _
        rw [if_pos hu]
      rw [e] at h
      have := mrg_le (m' :: l) (m.n + 0)
      simp only [List.length_cons] at *; omega
    · have e : mrg (m :: m' :: l) 0 = { m with n := m.n + 0 } :: mrg (m' :: l) 0 := by
        show (if useV m m' = true then mrg (m' :: l) (m.n + 0) else { m with n := m.n + 0 } :: mrg (m' :: l) 0) = _
        rw [if_neg hu]
      rw [e] at h ⊢
      have ih := mrg_same (m' :: l) (by simpa using h)
      rw [ih, Int.add_zero]
def itL : Nat → List Mi → List Mi
  | 0, l => l
  | i + 1, l => fldL (itL i l)
theorem fld_fld (l : List Mi) : fldL (fldL l) = mrg (fldL l) 0 := by
  show mrg (rwL (mrg (rwL l isb0 val0) 0) isb0 val0) 0 = _
  rw [rw_mrg]; rfl
theorem it_stable (l : List Mi) (h0 : 0 < l.length) : ∀ j, fldL (itL (j + 1) l) = itL (j + 1) l ∨ (itL (j + 1) l).length + j ≤ (itL 1 l).length
  | 0 => .inr (Nat.le_refl _)
  | j + 1 => by
    have e : itL (j + 1 + 1) l = fldL (itL (j + 1) l) := rfl
    rcases it_stable l h0 j with h | h
    · left; rw [e, h, h]
    · have e2 : itL (j + 1 + 1) l = mrg (itL (j + 1) l) 0 := fld_fld (itL j l)
      have hle := mrg_le (itL (j + 1) l) 0
      by_cases hs : (mrg (itL (j + 1) l) 0).length = (itL (j + 1) l).length
      · left
        have e3 := mrg_same _ hs
        have e4 : fldL (itL (j + 1) l) = itL (j + 1) l := by rw [← e, e2, e3]
        rw [e, e4, e4]
      · right
        rw [e2]; omega
theorem it_pos (l : List Mi) (h0 : 0 < l.length) : ∀ j, 0 < (itL j l).length
  | 0 => h0
  | j + 1 => fldL_pos _ (it_pos l h0 j)
theorem it_end (l : List Mi) (h0 : 0 < l.length) (h16 : l.length ≤ 16) : fldL (itL 17 l) = itL 17 l := by
  rcases it_stable l h0 16 with h | h
  · exact h
  · have h1 := it_pos l h0 17
    have h2 : (itL 1 l).length ≤ l.length := fldL_le l
    change (itL 17 l).length + 16 ≤ _ at h
    omega
/-- What holds of each. -/
theorem it_all (L : Int) (l : List Mi) (x : List Nat) (h0 : 0 < l.length) (hp : ∀ m ∈ l, PurM m) (hok : ∀ m ∈ l, MiOk m) (hxr : ∀ y ∈ x, y < 4294967296) (hx : x.length = 16) (hx0 : x.getD 0 0 = 0) (hm : mayV 0 L (l.map Mi.z) = true) :
    ∀ j, (∀ m ∈ itL j l, PurM m) ∧ (∀ m ∈ itL j l, MiOk m) ∧ mayV 0 L ((itL j l).map Mi.z) = true ∧ runL (itL j l) x = runL l x
  | 0 => ⟨hp, hok, hm, rfl⟩
  | j + 1 => by
    obtain ⟨h1, h2, h3, h4⟩ := it_all L l x h0 hp hok hxr hx hx0 hm j
    have hf := runL_fld (itL j l) x h1 h2 hxr hx hx0
    exact ⟨hf.2, fldL_ok _ h2, fldL_may 0 L _ (it_pos l h0 j) h2 h3, by show runL (fldL (itL j l)) x = _; rw [hf.1, h4]⟩
theorem it_facts (L : Int) (l : List Mi) (x : List Nat) (h0 : 0 < l.length) (h16 : l.length ≤ 16) (hp : ∀ m ∈ l, PurM m) (hok : ∀ m ∈ l, MiOk m) (hxr : ∀ y ∈ x, y < 4294967296) (hx : x.length = 16) (hx0 : x.getD 0 0 = 0) (hm : mayV 0 L (l.map Mi.z) = true) :
    ∃ C : Nat → List Mi, C 0 = l ∧ (∀ i, C (i + 1) = fldL (C i)) ∧ (∀ j, 0 < (C j).length) ∧ fldL (C 17) = C 17 ∧
      ∀ j, (∀ m ∈ C j, PurM m) ∧ (∀ m ∈ C j, MiOk m) ∧ mayV 0 L ((C j).map Mi.z) = true ∧ runL (C j) x = runL l x :=
  ⟨fun i => itL i l, rfl, fun _ => rfl, it_pos l h0, it_end l h0 h16, it_all L l x h0 hp hok hxr hx hx0 hm⟩
end Go.Proofs.Ytpkbfpjkpiimiaa
