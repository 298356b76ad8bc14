/- Frozen slices as arguments: a contract over a row that is only read, turned to a frozen slice. -/
import Derived.Test.YtcaddlighhiepaaAbsS
import Derived.Test.YtcaddlighhiepaaShut
namespace Go.Proofs.Ytcaddlighhiepaa
open Go Go.RowKit
set_option linter.unusedSimpArgs false
set_option linter.unusedVariables false

theorem fc_fz {e n c} : Fc (SV.fz e n c) (.fz e n c) := ⟨rfl⟩
theorem vs_thaw {ρ' : Nm} {p : PL} {k n : Nat} {v : Value} (hk : ρ' k = some p) (hp : (∃ L, p = .at L ∧ ((∃ A c, v = .slice A n c ∧ n ≤ c ∧ ((A = some ⟨L.b, L.δ, none⟩ ∧ L.δ + c * L.es ≤ L.tot) ∨ c = 0)))) ∨ (p = .empty ∧ ∃ A, v = .slice A n 0 ∧ n ≤ 0)) : VS ρ' (.sl k 0 n) v := by
  rcases hp with ⟨L, rfl, A, c, rfl, h1, h2⟩ | ⟨rfl, A, rfl, h1⟩
  · refine ⟨A, c, rfl, h1, .inl ⟨L, hk, ?_⟩⟩
    rcases h2 with ⟨rfl, h3⟩ | h2
    · exact .inl ⟨by simp, by simpa using h3⟩
    · exact .inr h2
  · exact ⟨A, 0, rfl, h1, .inr ⟨hk, rfl⟩⟩
/-- A name for a frozen row. -/
theorem conc_thaw {H : List Row} {ρ : Nm} {w : World} {es n : Nat} {cells : List SV} {v : Value} (hc : Conc ⟨w, ownB H ρ, ρ.fr⟩ ρ (Hs H) w) (hd : ∀ i, H.length ≤ i → ρ i = none) (hv : VS ρ (.fz es n cells) v) :
    ∃ ρ' : Nm, Ext ρ ρ' ∧ ρ'.fr = ρ.fr ∧ (∀ i, H.length + 1 ≤ i → ρ' i = none) ∧ (∀ i, i < H.length → ρ' i = ρ i) ∧ VS ρ' (.sl H.length 0 n) v ∧ ownB (H ++ [⟨false, es, cells⟩]) ρ' = ownB H ρ ∧ Conc ⟨w, ownB H ρ, ρ.fr⟩ ρ' (Hs (H ++ [⟨false, es, cells⟩])) w := by
  obtain ⟨A, c, rfl, h1, h2⟩ := hv
  obtain ⟨p, hp1, hp2⟩ : ∃ p : PL, ((∃ L, p = .at L ∧ ((∃ A' c', Value.slice A n c = .slice A' n c' ∧ n ≤ c' ∧ ((A' = some ⟨L.b, L.δ, none⟩ ∧ L.δ + c' * L.es ≤ L.tot) ∨ c' = 0)))) ∨ (p = .empty ∧ ∃ A', Value.slice A n c = .slice A' n 0 ∧ n ≤ 0)) ∧ ((∃ L, p = .at L ∧ ρ.fr L cells ∧ L.es = es) ∨ (p = .empty ∧ cells = [])) := by
    rcases h2 with ⟨L, g1, g2, g3⟩ | ⟨g1, g2⟩
    · exact ⟨.at L, .inl ⟨L, rfl, A, c, rfl, h1, g3⟩, .inl ⟨L, rfl, g1, g2⟩⟩
    · subst g2
      exact ⟨.empty, .inr ⟨rfl, A, rfl, h1⟩, .inr ⟨rfl, g1⟩⟩
  have hk : ρ H.length = none := hd _ (Nat.le_refl _)
  have hlow : ∀ i, i < H.length → Nm.set ρ H.length p i = ρ i := fun i hi => by unfold Nm.set; simp only []; rw [if_neg (by omega)]
  have hsame := Nm.set_same ρ H.length p
  have hx := Nm.set_ext hk p
  have hrow : ∀ i r, Hs (H ++ [⟨false, es, cells⟩]) i = some r → (i < H.length ∧ Hs H i = some r) ∨ (i = H.length ∧ r = ⟨false, es, cells⟩) := fun i r hr => by
    unfold Hs at hr ⊢
    by_cases h : i < H.length
    · rw [List.getElem?_append_left h] at hr; exact .inl ⟨h, hr⟩
    · rw [List.getElem?_append_right (by omega)] at hr
      have : i - H.length = 0 := by
        rcases Nat.eq_zero_or_pos (i - H.length) with h0 | h0
        · exact h0
        · rw [List.getElem?_eq_none (by simp; omega)] at hr; cases hr
      rw [this] at hr
      injection hr with hr
      exact .inr ⟨by omega, hr.symm⟩
  have hO : ownB (H ++ [⟨false, es, cells⟩]) (Nm.set ρ H.length p) = ownB H ρ := by
    funext b
    apply propext
    constructor
    · rintro ⟨i, r, L, g1, g2, g3, g4⟩
      rcases hrow i r g1 with ⟨a1, a2⟩ | ⟨a1, a2⟩
      · exact ⟨i, r, L, a2, g2, by rw [← hlow i a1]; exact g3, g4⟩
      · subst a2; cases g2
    · rintro ⟨i, r, L, g1, g2, g3, g4⟩
      have hi : i < H.length := (List.getElem?_eq_some_iff.1 g1).1
      exact ⟨i, r, L, by rw [List.getElem?_append_left hi]; exact g1, g2, by rw [hlow i hi]; exact g3, g4⟩
  refine ⟨Nm.set ρ H.length p, hx, rfl, fun i hi => ?_, hlow, vs_thaw hsame hp1, hO, ⟨fun i r hr => ?_, fun i r j s Li Lj g1 g2 g3 g4 g5 g6 => ?_, fun i r L g1 g2 g3 => ?_, rfl, rfl, rfl, Nat.le_refl _, fun _ _ _ => rfl, fun L k hf => ?_⟩⟩
  · unfold Nm.set; simp only []; rw [if_neg (by omega)]; exact hd i (by omega)
  · rcases hrow i r hr with ⟨a1, a2⟩ | ⟨rfl, rfl⟩
    · exact (hc.rows i r a2).ext hx
    · unfold RowOk
      rw [hsame]
      rcases hp2 with ⟨L, rfl, a1, a2⟩ | ⟨rfl, a1⟩
      · obtain ⟨⟨b1, c', t, fz, b2, b3, b4⟩, _⟩ := hc.frz L cells a1
        exact ⟨a2, b1, c', t, fz, b2, b3, fun h => (by cases h), fun k s hk => by obtain ⟨v, q1, q2⟩ := b4 k s hk; exact ⟨v, q1, q2.vs _⟩⟩
      · exact a1
  · rcases hrow i r g1 with ⟨a1, a2⟩ | ⟨rfl, rfl⟩
    · rw [hlow i a1] at g5
      rcases hrow j s g3 with ⟨b1, b2⟩ | ⟨rfl, rfl⟩
      · rw [hlow j b1] at g6
        exact hc.apart i r j s Li Lj a2 g2 b2 g4 g5 g6
      · rw [hsame] at g6
        rcases hp2 with ⟨L, rfl, c1, c2⟩ | ⟨rfl, c1⟩
        · injection g6 with g6; injection g6 with g6; subst g6
          exact (hc.frz L cells c1).2.1 i r Li a2 g2 g5
        · cases g6
    · cases g2
  · rcases hrow i r g1 with ⟨a1, a2⟩ | ⟨rfl, rfl⟩
    · rw [hlow i a1] at g3
      exact hc.mine i r L a2 g2 g3
    · cases g2
  · obtain ⟨f1, f2, f3⟩ := hc.frz L k hf
    refine ⟨f1, fun i r Li g1 g2 g3 => ?_, f3⟩
    rcases hrow i r g1 with ⟨a1, a2⟩ | ⟨rfl, rfl⟩
    · rw [hlow i a1] at g3
      exact f2 i r Li a2 g2 g3
    · cases g2
/-- A contract over a row that is only read, the last one, for a frozen slice. -/
theorem fn_thaw {P : Program} {f : FuncId} {args args' : List AV} {H : List Row} {es n : Nat} {cells : List SV} {R R' : Res} (m : Rn)
    (hF : Fn P f args (H ++ [⟨false, es, cells⟩]) (· = R))
    (hC : ∀ (ρ : Nm) (vs : List Value), VAs ρ args' vs → ∃ v, VS ρ (.fz es n cells) v ∧ ∀ ρ' : Nm, Ext ρ ρ' → VS ρ' (.sl H.length 0 n) v → VAs ρ' args vs)
    (h2 : TVm m R.v R'.v) (h3 : HlL m (R.app (H ++ [⟨false, es, cells⟩])) (finL R' H)) (h4 : (upOk H R'.up && nwOk R'.nw && idn m H.length && ltB m (H.length + R'.nw.length)) = true) :
    Fn P f args' H (· = R') := by
  refine ⟨hF.1, fun ρ w vs hd ha hc => ?_⟩
  obtain ⟨v, hv, hargs⟩ := hC ρ vs.toList ha
  obtain ⟨ρ1, hx, hfr, hd1, hlow, hvs, hO, hc1⟩ := conc_thaw hc hd hv
  have hc1' : Conc ⟨w, ownB (H ++ [⟨false, es, cells⟩]) ρ1, ρ1.fr⟩ ρ1 (Hs (H ++ [⟨false, es, cells⟩])) w := by rw [hO, hfr]; exact hc1
  refine (hF.2 ρ1 w vs (fun i hi => hd1 i (by simpa using hi)) (hargs ρ1 hx hvs) hc1').mono fun e w' he => ?_
  obtain ⟨R0, u, ρ2, rfl, rfl, q1, q2, q3, q4, q5, q6, q7⟩ := he
  rw [hO, hfr] at q4
  rw [Bool.and_eq_true, Bool.and_eq_true, Bool.and_eq_true] at h4
  obtain ⟨⟨⟨g5, g6⟩, g7⟩, g8⟩ := h4
  have hup := upOk_ok g5
  refine ⟨R', u, mapN m ρ2, rfl, rfl, map_ext (G := ⟨ρ, H.length⟩) g7 rfl hd (hx.trans q1), fun i hi => ?_, tvm_ok q3 h2, ?_, fun p hp => (hup p hp).1, nwOk_ok g6, fun p hp => (hup p hp).2⟩
  · rw [mapN_eq]
    cases e : look m i with
    | none => rfl
    | some x =>
      have := List.all_eq_true.1 g8 _ (look_mem e)
      simp at this; omega
  · rw [← finL_ok R' H (fun p hp => by obtain ⟨r, hr, _⟩ := (hup p hp).1; exact (List.getElem?_eq_some_iff.1 hr).1)]
    exact conc_map q4 (hll_ok h3)
/-- Where the slice stands: an argument of its own. -/
theorem hole_s {es n k : Nat} {cells : List SV} {pre post : List AV} (ρ : Nm) (vs : List Value) (h : VAs ρ (pre ++ [.s (.fz es n cells)] ++ post) vs) :
    ∃ v, VS ρ (.fz es n cells) v ∧ ∀ ρ' : Nm, Ext ρ ρ' → VS ρ' (.sl k 0 n) v → VAs ρ' (pre ++ [.s (.sl k 0 n)] ++ post) vs := by
  obtain ⟨v, h1, h2⟩ := h.2 pre.length (.s (.fz es n cells)) (by simp)
  refine ⟨v, h2, fun ρ' hx hv => ⟨by have := h.1; simpa using this, fun j s hj => ?_⟩⟩
  by_cases e : j = pre.length
  · subst e
    have : s = .s (.sl k 0 n) := by simpa using hj.symm
    subst this
    exact ⟨v, h1, hv⟩
  · have hj' : (pre ++ [AV.s (.fz es n cells)] ++ post)[j]? = some s := by
      rw [List.append_assoc] at hj ⊢
      by_cases hl : j < pre.length
      · rw [List.getElem?_append_left hl] at hj ⊢; exact hj
      · rw [List.getElem?_append_right (by omega)] at hj ⊢
        obtain ⟨d, hd⟩ : ∃ d, j - pre.length = d + 1 := ⟨j - pre.length - 1, by omega⟩
        rw [hd] at hj ⊢
        exact hj
    obtain ⟨u, g1, g2⟩ := h.2 j s hj'
    exact ⟨u, g1, g2.ext hx⟩
/-- Where the slice stands: a field of a struct. -/
theorem hole_a {es n k : Nat} {cells l1 l2 : List SV} {pre post : List AV} (ρ : Nm) (vs : List Value) (h : VAs ρ (pre ++ [.agg (l1 ++ [.fz es n cells] ++ l2)] ++ post) vs) :
    ∃ v, VS ρ (.fz es n cells) v ∧ ∀ ρ' : Nm, Ext ρ ρ' → VS ρ' (.sl k 0 n) v → VAs ρ' (pre ++ [.agg (l1 ++ [.sl k 0 n] ++ l2)] ++ post) vs := by
  obtain ⟨u, h1, cs, rfl, h3⟩ := h.2 pre.length (.agg (l1 ++ [.fz es n cells] ++ l2)) (by simp)
  obtain ⟨v, h4, h5⟩ := h3.2 l1.length (.fz es n cells) (by simp)
  refine ⟨v, h5, fun ρ' hx hv => ⟨by have := h.1; simpa using this, fun j s hj => ?_⟩⟩
  by_cases e : j = pre.length
  · subst e
    have : s = .agg (l1 ++ [.sl k 0 n] ++ l2) := by simpa using hj.symm
    subst this
    refine ⟨_, h1, cs, rfl, by have := h3.1; simpa using this, fun i t hi => ?_⟩
    by_cases e2 : i = l1.length
    · subst e2
      have : t = .sl k 0 n := by simpa using hi.symm
      subst this
      exact ⟨v, h4, hv⟩
    · have hi' : (l1 ++ [SV.fz es n cells] ++ l2)[i]? = some t := by
        rw [List.append_assoc] at hi ⊢
        by_cases hl : i < l1.length
        · rw [List.getElem?_append_left hl] at hi ⊢; exact hi
        · rw [List.getElem?_append_right (by omega)] at hi ⊢
          obtain ⟨d, hd⟩ : ∃ d, i - l1.length = d + 1 := ⟨i - l1.length - 1, by omega⟩
          rw [hd] at hi ⊢
          exact hi
      obtain ⟨x, g1, g2⟩ := h3.2 i t hi'
      exact ⟨x, g1, g2.ext hx⟩
  · have hj' : (pre ++ [AV.agg (l1 ++ [SV.fz es n cells] ++ l2)] ++ post)[j]? = some s := by
      rw [List.append_assoc] at hj ⊢
      by_cases hl : j < pre.length
      · rw [List.getElem?_append_left hl] at hj ⊢; exact hj
      · rw [List.getElem?_append_right (by omega)] at hj ⊢
        obtain ⟨d, hd⟩ : ∃ d, j - pre.length = d + 1 := ⟨j - pre.length - 1, by omega⟩
        rw [hd] at hj ⊢
        exact hj
    obtain ⟨u, g1, g2⟩ := h.2 j s hj'
    exact ⟨u, g1, g2.ext hx⟩
end Go.Proofs.Ytcaddlighhiepaa
