/- Calls, said of the abstract machine: the caller's use of a contract. -/
import Derived.Test.YtffhbadeoadbkaaAbsJ
namespace Go.Proofs.Ytffhbadeoadbkaa
open Go Go.RowKit

theorem ble_false {a b : Nat} (h : b < a) : Nat.ble a b = false := by
  cases e : Nat.ble a b with
  | false => rfl
  | true => exact absurd (Nat.le_of_ble_eq_true e) (by omega)
section
variable {F : Fr} {ρ ρ1 : Nm} {hp : Hp} {w w' : World} {m : List Em} {n0 : Nat} {H : List Row} {R : Res}
/-- The caller's map of names behind the call. -/
def back (k n0 q : Nat) (ρ ρ1 : Nm) : Nm := fun n => if n0 ≤ n ∧ n < n0 + q then ρ1 (k + (n - n0)) else ρ n
theorem back_ext {k q : Nat} (hq : q ≤ stride) (hf : ∀ n, n0 ≤ n → n < n0 + stride → ρ n = none) : Ext ρ (back k n0 q ρ ρ1) := fun n p hn => by
  unfold back
  rw [if_neg]
  · exact hn
  · rintro ⟨h1, h2⟩; rw [hf n h1 (by omega)] at hn; cases hn
theorem name_in {i : Nat} {p : PL} (hc : Conc F ρ hp w) (hm : m.length = H.length) (hs : ∀ i, H.length ≤ i → ρ (n0 + (i - H.length) % stride) = none) (hr : RowsAt m n0 H hp) (hx : Ext (pull m ρ) ρ1) (h : ρ1 i = some p) (hi : i < H.length) :
    pull m ρ i = some p := by
  have hcp := conc_pull hc hm hs hr
  have := hcp.rows i H[i] (by simp [Hs, hi])
  unfold RowOk at this
  cases e : pull m ρ i with
  | none => rw [e] at this; exact this.elim
  | some q => rw [← h]; exact (hx i q e).symm
theorem vs_push (hc : Conc F ρ hp w) (hm : m.length = H.length) (hf : ∀ n, n0 ≤ n → n < n0 + stride → ρ n = none) (hr : RowsAt m n0 H hp) (hx : Ext (pull m ρ) ρ1) {q : Nat} (hq : q ≤ stride) (hn : ∀ n, H.length + q ≤ n → ρ1 n = none) {s : SV} {v : Value} (h : VS ρ1 s v) :
    VS (back H.length n0 q ρ ρ1) (renS m H.length n0 s) v := by
  have hs : ∀ i, H.length ≤ i → ρ (n0 + (i - H.length) % stride) = none := fun i _ => hf _ (by omega) (by have := Nat.mod_lt (i - H.length) (show 0 < stride by unfold stride; omega); omega)
  have key : ∀ i p, ρ1 i = some p → (∃ L, p = .at L ∧ ∃ L0, back H.length n0 q ρ ρ1 (renN m H.length n0 i).n = some (.at L0) ∧ L.b = L0.b ∧ L.tot = L0.tot ∧ L.es = L0.es ∧ L.δ = L0.δ + (renN m H.length n0 i).sh) ∨ (p = .empty ∧ back H.length n0 q ρ ρ1 (renN m H.length n0 i).n = some .empty) := by
    intro i p hi
    by_cases h1 : i < H.length
    · have h2 := name_in hc hm hs hr hx hi h1
      obtain ⟨e, he⟩ : ∃ e, m[i]? = some e := ⟨_, List.getElem?_eq_getElem (by omega)⟩
      rw [renN_lt he]
      unfold pull at h2
      rw [he] at h2
      simp only [] at h2
      cases e2 : ρ e.n with
      | none => rw [e2] at h2; cases h2
      | some y =>
        have hb := back_ext (k := H.length) (ρ1 := ρ1) hq hf e.n y e2
        rw [e2] at h2
        cases y with
        | empty => injection h2 with h2; exact .inr ⟨h2.symm, hb⟩
        | «at» L0 => injection h2 with h2; subst h2; exact .inl ⟨_, rfl, L0, hb, rfl, rfl, rfl, rfl⟩
    · have h2 : i < H.length + q := by
        rcases Nat.lt_or_ge i (H.length + q) with h | h
        · exact h
        · rw [hn i h] at hi; cases hi
      have e1 : renN m H.length n0 i = ⟨n0 + (i - H.length), 0⟩ := by
        unfold renN
        rw [List.getElem?_eq_none (by omega)]
        simp only []
        rw [Nat.mod_eq_of_lt (by omega)]
      have e2 : back H.length n0 q ρ ρ1 (n0 + (i - H.length)) = some p := by
        unfold back
        rw [if_pos ⟨by omega, by omega⟩, show H.length + (n0 + (i - H.length) - n0) = i by omega]
        exact hi
      rw [e1]
      cases p with
      | empty => exact .inr ⟨rfl, e2⟩
      | «at» L => exact .inl ⟨L, rfl, L, e2, rfl, rfl, rfl, rfl⟩
  cases s <;> simp only [renS, VS] at h ⊢ <;> try exact h
  case ptr i o =>
    obtain ⟨L, hL, rfl⟩ := h
    rcases key i _ hL with ⟨L', e, L0, h1, h2, _, _, h3⟩ | ⟨e, _⟩
    · injection e with e; subst e
      exact ⟨L0, h1, by rw [h2, h3, Nat.add_assoc]⟩
    · cases e
  case sl i o n =>
    obtain ⟨A, c, rfl, hc', h1⟩ := h
    refine ⟨A, c, rfl, hc', ?_⟩
    rcases h1 with ⟨L, hL, h2⟩ | ⟨hL, h2⟩
    · rcases key i _ hL with ⟨L', e, L0, h3, h4, h5, h6, h7⟩ | ⟨e, _⟩
      · injection e with e; subst e
        refine .inl ⟨L0, h3, ?_⟩
        rcases h2 with ⟨rfl, h8⟩ | h2
        · exact .inl ⟨by rw [h4, h7, Nat.add_assoc], by rw [h7, h5, h6] at h8; omega⟩
        · exact .inr h2
      · cases e
    · rcases key i _ hL with ⟨L', e, _⟩ | ⟨_, e⟩
      · cases e
      · exact .inr ⟨e, h2⟩
  case fn f cap =>
    obtain ⟨vs, rfl, h1, h2⟩ := h
    refine ⟨vs, rfl, by simpa using h1, fun j p hp => ?_⟩
    rw [List.getElem?_map] at hp
    cases e0 : cap[j]? with
    | none => rw [e0] at hp; cases hp
    | some p0 =>
      rw [e0] at hp
      injection hp with hp; subst hp
      obtain ⟨L, hL, h3⟩ := h2 j p0 e0
      rcases key p0.1 _ hL with ⟨L', e, L0, h4, h5, _, _, h6⟩ | ⟨e, _⟩
      · injection e with e; subst e
        exact ⟨L0, h4, by rw [h3, h5, h6, Nat.add_assoc]⟩
      · cases e
end
theorem va_push {ρ ρ' : Nm} {f : SV → SV} (h : ∀ s v, VS ρ s v → VS ρ' (f s) v) {m : List Em} {k n0 : Nat} (hf : f = renS m k n0) {x : AV} {v : Value} (hx : VA ρ x v) : VA ρ' (renA m k n0 x) v := by
  subst hf
  cases x with
  | s x => exact h _ _ hx
  | agg l =>
    obtain ⟨cs, rfl, h3⟩ := hx
    exact ⟨cs, rfl, by simpa using h3.1, fun q s e => by
      rw [List.getElem?_map] at e
      cases e0 : l[q]? with
      | none => rw [e0] at e; cases e
      | some s0 =>
        rw [e0] at e; injection e with e; subst e
        obtain ⟨v, h4, h5⟩ := h3.2 q _ e0
        exact ⟨v, h4, h _ _ h5⟩⟩
theorem vt_push {ρ ρ' : Nm} {m : List Em} {k n0 : Nat} (h : ∀ s v, VS ρ s v → VS ρ' (renS m k n0 s) v) {x : TV} {v : Value} (hx : VT ρ x v) : VT ρ' (renT m k n0 x) v := by
  cases x with
  | unk => exact trivial
  | a x => exact va_push h rfl hx
  | tup l =>
    obtain ⟨cs, rfl, h3⟩ := hx
    exact ⟨cs, rfl, by simpa using h3.1, fun q s e => by
      rw [List.getElem?_map] at e
      cases e0 : l[q]? with
      | none => rw [e0] at e; cases e
      | some s0 =>
        rw [e0] at e; injection e with e; subst e
        obtain ⟨v, h4, h5⟩ := h3.2 q _ e0
        exact ⟨v, h4, va_push h rfl h5⟩⟩
theorem rowok_push {ρ1 ρ' : Nm} {w' : World} {c n : Nat} {rr : Row} {f : SV → SV} (h : RowOk ρ1 w' c rr) (hn : ρ' n = ρ1 c) (hv : ∀ s v, VS ρ1 s v → VS ρ' (f s) v) (r : Row) (hes : r.es = rr.es) (ho : r.own = true → rr.own = true)
    (hcells : ∀ (k : Nat) s, r.cells[k]? = some s → ∃ s0, rr.cells[k]? = some s0 ∧ s = f s0) (hl : r.cells.length = rr.cells.length) : RowOk ρ' w' n r := by
  unfold RowOk at h ⊢
  rw [hn]
  cases e : ρ1 c with
  | none => rw [e] at h; exact h.elim
  | some p =>
    rw [e] at h
    cases p with
    | empty =>
      have h : rr.cells = [] := h
      rw [h] at hl
      exact List.eq_nil_of_length_eq_zero hl
    | «at» L =>
      obtain ⟨h1, h2, cs, t, fz, h3, h4, h5, h6⟩ := h
      refine ⟨by rw [hes]; exact h1, by rw [hl]; exact h2, cs, t, fz, h3, h4, fun x => h5 (ho x), fun k s hk => ?_⟩
      obtain ⟨s0, g1, rfl⟩ := hcells k s hk
      obtain ⟨v, g2, g3⟩ := h6 k s0 g1
      exact ⟨v, g2, hv _ _ g3⟩
theorem map_cells (l : List SV) (f : SV → SV) (k : Nat) (s : SV) (h : (l.map f)[k]? = some s) : ∃ s0, l[k]? = some s0 ∧ s = f s0 := by
  rw [List.getElem?_map] at h
  cases e : l[k]? with
  | none => rw [e] at h; cases h
  | some s0 => rw [e] at h; injection h with h; exact ⟨s0, rfl, h.symm⟩
section
variable {F : Fr} {ρ ρ1 : Nm} {hp : Hp} {w w' : World} {m : List Em} {n0 : Nat} {H : List Row} {R : Res}
theorem conc_push (hc : Conc F ρ hp w) (hm : m.length = H.length) (hf : ∀ n, n0 ≤ n → n < n0 + stride → ρ n = none) (hr : RowsAt m n0 H hp) (hx : Ext (pull m ρ) ρ1) (hq : R.nw.length ≤ stride) (hn : ∀ n, H.length + R.nw.length ≤ n → ρ1 n = none)
    (h : Conc ⟨w, ownB H (pull m ρ)⟩ ρ1 (R.app H) w') (hup : ∀ p ∈ R.up, ∃ r, H[p.1]? = some r ∧ r.own = true) (hnw : ∀ r ∈ R.nw, r.own = true) (hup2 : ∀ p ∈ R.up, ∀ r, p.2 = some r → r.own = true) :
    Conc F (back H.length n0 R.nw.length ρ ρ1) ((R.ef m H.length n0).app hp) w' := by
  have hs : ∀ i, H.length ≤ i → ρ (n0 + (i - H.length) % stride) = none := fun i _ => hf _ (by omega) (by have := Nat.mod_lt (i - H.length) (show 0 < stride by unfold stride; omega); omega)
  have hv : ∀ s v, VS ρ1 s v → VS (back H.length n0 R.nw.length ρ ρ1) (renS m H.length n0 s) v := fun s v => vs_push hc hm hf hr hx hq hn
  -- an own argument's name
  have own : ∀ i r, H[i]? = some r → r.own = true → ∃ e rc, m[i]? = some e ∧ e.sh = 0 ∧ hp e.n = some rc ∧ rc.own = true ∧ rc.es = r.es ∧ rc.cells.length = r.cells.length ∧
      (∀ (k : Nat) s, r.cells[k]? = some s → rc.cells[k]? = some (renS m H.length n0 s)) ∧ back H.length n0 R.nw.length ρ ρ1 e.n = ρ1 i ∧ ρ e.n = pull m ρ i ∧ ∀ (j : Nat) (f : Em), m[j]? = some f → j ≠ i → f.n ≠ e.n := by
    intro i r hi ho
    obtain ⟨e, rc, h1, h2, h3, h4, h5, h6⟩ := hr i r hi
    obtain ⟨h7, h8, h9, h10⟩ := h6 ho
    have hlt : i < H.length := (List.getElem?_eq_some_iff.1 hi).1
    have hpe : pull m ρ i = ρ e.n := by
      unfold pull; rw [h1]; simp only [h8, Nat.add_zero]
      cases ρ e.n with
      | none => rfl
      | some p => cases p <;> rfl
    refine ⟨e, rc, h1, h8, h2, h7, h3, h9, fun k s hk => by have := h4 k s hk; rw [h8, Nat.zero_add] at this; exact this, ?_, hpe.symm, h10⟩
    have hrow := hc.rows _ _ h2
    unfold RowOk at hrow
    cases e1 : ρ e.n with
    | none => rw [e1] at hrow; exact hrow.elim
    | some p => rw [back_ext hq hf _ p e1]; exact (hx i p (hpe.trans e1)).symm
  -- what a name of the caller's is, behind the call
  have cls : ∀ n r, (R.ef m H.length n0).app hp n = some r → (∃ c rr, R.app H c = some rr ∧ rr.own = true ∧ r.own = true ∧ back H.length n0 R.nw.length ρ ρ1 n = ρ1 c ∧ RowOk (back H.length n0 R.nw.length ρ ρ1) w' n r ∧
        ((n0 ≤ n ∧ n < n0 + R.nw.length ∧ c = H.length + (n - n0)) ∨ (c < H.length ∧ ∃ (e : Em) (q : Row), m[c]? = some e ∧ e.n = n ∧ H[c]? = some q ∧ q.own = true))) ∨
      (hp n = some r ∧ back H.length n0 R.nw.length ρ ρ1 n = ρ n ∧ ∀ (i : Nat) (q : Row) (e : Em), H[i]? = some q → q.own = true → m[i]? = some e → e.n ≠ n) := by
    intro n r hnr
    unfold Ef.app at hnr
    have hl := look_nwN m H.length n0 R.nw 0 n
    rw [Nat.add_zero] at hl
    by_cases h1 : n0 ≤ n ∧ n < n0 + R.nw.length
    · -- a new row
      left
      obtain ⟨rr, hrr⟩ : ∃ rr, R.nw[n - n0]? = some rr := ⟨_, List.getElem?_eq_getElem (by omega)⟩
      have e1 : look (R.ef m H.length n0).nw n = some (renRow m H.length n0 rr) := by
        show look (nwN m H.length n0 0 R.nw) n = _
        rw [hl, if_pos h1.1, hrr]; rfl
      rw [e1] at hnr
      injection hnr with hnr; subst hnr
      have e2 : R.app H (H.length + (n - n0)) = some rr := by
        unfold Res.app
        rw [Nat.ble_eq_true_of_le (by omega)]
        simp only []
        rw [show H.length + (n - n0) - H.length = n - n0 by omega]; exact hrr
      have e3 : back H.length n0 R.nw.length ρ ρ1 n = ρ1 (H.length + (n - n0)) := by unfold back; rw [if_pos h1]
      have ho := hnw rr (List.mem_of_getElem? hrr)
      exact ⟨_, rr, e2, ho, ho, e3, rowok_push (h.rows _ _ e2) e3 hv _ rfl (fun x => x) (fun k s hk => map_cells _ _ k s hk) (by simp [renRow]), .inl ⟨h1.1, h1.2, rfl⟩⟩
    · have e1 : look (R.ef m H.length n0).nw n = none := by
        show look (nwN m H.length n0 0 R.nw) n = _
        rw [hl]
        split
        · rw [List.getElem?_eq_none (by omega)]; rfl
        · rfl
      rw [e1] at hnr
      simp only [] at hnr
      have e3 : back H.length n0 R.nw.length ρ ρ1 n = ρ n := by unfold back; rw [if_neg h1]
      cases e2 : look (R.ef m H.length n0).up n with
      | some x =>
        rw [e2] at hnr
        simp only [] at hnr
        subst hnr
        obtain ⟨p, g1, g2, g3, g4⟩ := look_upN m H.length n0 R.up n _ (fun p hp' q hq' e => by
          obtain ⟨rp, p1, p2⟩ := hup p hp'
          obtain ⟨rq, q1, q2⟩ := hup q hq'
          obtain ⟨ep, _, p3, _, _, _, _, _, _, _, _, p4⟩ := own _ _ p1 p2
          obtain ⟨eq, _, q3, _⟩ := own _ _ q1 q2
          rw [renN_lt p3, renN_lt q3] at e
          rcases Nat.decEq p.1 q.1 with hne | heq
          · exact absurd e.symm (p4 _ _ q3 (fun e => hne e.symm))
          · exact heq) e2
        obtain ⟨rp, p1, p2⟩ := hup p g1
        obtain ⟨ep, rc, p3, _, _, _, _, _, _, p5, _, _⟩ := own _ _ p1 p2
        rw [renN_lt p3] at g2
        subst g2
        cases e4 : p.2 with
        | none => rw [e4] at g4; cases g4
        | some rr =>
          rw [e4] at g3 g4
          injection g4 with g4
          subst g4
          have hlt : p.1 < H.length := (List.getElem?_eq_some_iff.1 p1).1
          have e5 : R.app H p.1 = some rr := by
            unfold Res.app
            rw [ble_false hlt]
            simp only [g3]
          have ho := hup2 p g1 rr e4
          exact .inl ⟨p.1, rr, e5, ho, ho, p5, rowok_push (h.rows _ _ e5) p5 hv _ rfl (fun x => x) (fun k s hk => map_cells _ _ k s hk) (by simp [renRow]), .inr ⟨hlt, ep, rp, p3, rfl, p1, p2⟩⟩
      | none =>
        rw [e2] at hnr
        simp only [] at hnr
        by_cases hown : ∃ (i : Nat) (q : Row) (e : Em), H[i]? = some q ∧ q.own = true ∧ m[i]? = some e ∧ e.n = n
        · obtain ⟨i, q, e, k1, k2, k3, rfl⟩ := hown
          obtain ⟨e', rc, p3, _, p4, p6, p7, p8, p9, p5, _, _⟩ := own _ _ k1 k2
          rw [k3] at p3; injection p3 with p3; subst p3
          rw [p4] at hnr; injection hnr with hnr; subst hnr
          have hlt : i < H.length := (List.getElem?_eq_some_iff.1 k1).1
          have e5 : R.app H i = some q := by
            unfold Res.app
            rw [ble_false hlt]
            simp only [look_upN_none m H.length n0 R.up _ e2 i (by rw [renN_lt k3])]
            exact k1
          refine .inl ⟨i, q, e5, k2, p6, p5, rowok_push (h.rows _ _ e5) p5 hv _ p7 (fun _ => k2) (fun k s hk => ?_) p8, .inr ⟨hlt, e, q, k3, rfl, k1, k2⟩⟩
          have hkl : k < q.cells.length := by rw [← p8]; exact (List.getElem?_eq_some_iff.1 hk).1
          refine ⟨q.cells[k], List.getElem?_eq_getElem hkl, ?_⟩
          have := p9 k _ (List.getElem?_eq_getElem hkl)
          rw [hk] at this; injection this
        · refine .inr ⟨hnr, e3, fun i q e k1 k2 k3 k4 => hown ⟨i, q, e, k1, k2, k3, k4⟩⟩
  -- another row's block is as it was
  have oth : ∀ n r L, hp n = some r → (∀ (i : Nat) (q : Row) (e : Em), H[i]? = some q → q.own = true → m[i]? = some e → e.n ≠ n) → ρ n = some (.at L) → L.b < w.heap.size ∧ ¬ ownB H (pull m ρ) L.b := by
    intro n r L h1 h2 h3
    refine ⟨(hc.rows n r h1).lt h3, ?_⟩
    rintro ⟨i, q, Li, g1, g2, g3, g4⟩
    obtain ⟨e, rc, p1, _, p2, p3, _, _, _, _, p4, _⟩ := own i q g1 g2
    exact hc.apart e.n rc n r Li L p2 p3 h1 (h2 i q e g1 g2 p1) (p4.trans g3) h3 g4
  have cOwn : ∀ b, ownB H (pull m ρ) b → F.O b ∨ F.w0.heap.size ≤ b := by
    rintro b ⟨i, q, Li, g1, g2, g3, rfl⟩
    obtain ⟨e, rc, p1, _, p2, p3, _, _, _, _, p4, _⟩ := own i q g1 g2
    exact hc.mine e.n rc Li p2 p3 (p4.trans g3)
  have cMine : ∀ c rr L, R.app H c = some rr → rr.own = true → ρ1 c = some (.at L) → ownB H (pull m ρ) L.b ∨ w.heap.size ≤ L.b := fun c rr L h1 h2 h3 => h.mine c rr L h1 h2 h3
  have blk : ∀ b, b < w.heap.size → ¬ ownB H (pull m ρ) b → w'.heap[b]? = w.heap[b]? := fun b h1 h2 => h.block b h1 h2
  have cInj : ∀ n1 n2 c, ((n0 ≤ n1 ∧ n1 < n0 + R.nw.length ∧ c = H.length + (n1 - n0)) ∨ (c < H.length ∧ ∃ (e : Em) (q : Row), m[c]? = some e ∧ e.n = n1 ∧ H[c]? = some q ∧ q.own = true)) → ((n0 ≤ n2 ∧ n2 < n0 + R.nw.length ∧ c = H.length + (n2 - n0)) ∨ (c < H.length ∧ ∃ (e : Em) (q : Row), m[c]? = some e ∧ e.n = n2 ∧ H[c]? = some q ∧ q.own = true)) → n1 = n2 := by
    intro n1 n2 c h1 h2
    rcases h1 with ⟨a1, a2, a3⟩ | ⟨a1, e, q, a2, a3, _⟩ <;> rcases h2 with ⟨b1, b2, b3⟩ | ⟨b1, e', q', b2, b3, _⟩
    · omega
    · omega
    · omega
    · rw [a2] at b2; injection b2 with b2; subst b2; exact a3.symm.trans b3
  refine ⟨fun n r hnr => ?_, fun n r n' r' L L' h1 h2 h3 h4 h5 h6 => ?_, fun n r L h1 h2 h3 => ?_, h.os.trans hc.os, h.tape.trans hc.tape, h.output.trans hc.output, Nat.le_trans hc.size h.size, fun b hb hno => ?_⟩
  · rcases cls n r hnr with ⟨c, rr, _, _, _, _, g, _⟩ | ⟨g1, g2, g3⟩
    · exact g
    · have g4 := (hc.rows n r g1)
      refine RowOk.ext (back_ext hq hf) (g4.of_block fun L hL => ?_)
      obtain ⟨q1, q2⟩ := oth n r L g1 g3 hL
      exact blk _ q1 q2
  · rcases cls n r h1 with ⟨c, rr, a1, a2, _, a3, _, a4⟩ | ⟨a1, a2, a3⟩ <;> rcases cls n' r' h3 with ⟨c', rr', b1, b2, _, b3, _, b4⟩ | ⟨b1, b2, b3⟩
    · refine h.apart c rr c' rr' L L' a1 a2 b1 (fun e => ?_) (a3 ▸ h5) (b3 ▸ h6)
      subst e; exact h4 (cInj n n' c a4 b4)
    · rw [b2] at h6
      obtain ⟨q1, q2⟩ := oth n' r' L' b1 b3 h6
      rw [a3] at h5
      rcases cMine c rr L a1 a2 h5 with g | g
      · exact fun e => q2 (e ▸ g)
      · omega
    · rw [a2] at h5
      obtain ⟨q1, q2⟩ := oth n r L a1 a3 h5
      rw [b3] at h6
      rcases cMine c' rr' L' b1 b2 h6 with g | g
      · exact fun e => q2 (e ▸ g)
      · omega
    · rw [a2] at h5; rw [b2] at h6
      exact hc.apart n r n' r' L L' a1 h2 b1 h4 h5 h6
  · rcases cls n r h1 with ⟨c, rr, a1, a2, _, a3, _, a4⟩ | ⟨a1, a2, a3⟩
    · rw [a3] at h3
      rcases cMine c rr L a1 a2 h3 with g | g
      · exact cOwn _ g
      · exact .inr (Nat.le_trans hc.size g)
    · rw [a2] at h3; exact hc.mine n r L a1 h2 h3
  · have h1 : b < w.heap.size := Nat.lt_of_lt_of_le hb hc.size
    rw [blk b h1 (fun g => by rcases cOwn b g with g | g; exact hno g; omega)]
    exact hc.block b hb hno
end
/-- The values of operands. -/
def avs (tv : Operand → TV) : List Operand → Option (List AV)
  | [] => some []
  | x :: l => match tv x with
    | .a u => match avs tv l with
      | some r => some (u :: r)
      | none => none
    | _ => none
theorem avs_ok {tv : Operand → TV} {ρ : Nm} {a : Act} : ∀ (l : List Operand) (r : List AV), avs tv l = some r → (∀ x ∈ l, VT ρ (tv x) (a.eval x)) → VAs ρ r (l.map a.eval) := by
  intro l
  induction l with
  | nil => intro r h _; injection h with h; subst h; exact ⟨rfl, fun k s e => by cases e⟩
  | cons x l ih =>
    intro r h hv
    unfold avs at h
    have hx := hv x (by simp)
    cases e1 : tv x with
    | unk => rw [e1] at h; cases h
    | tup _ => rw [e1] at h; cases h
    | a u =>
      rw [e1] at h hx
      simp only [] at h
      cases e2 : avs tv l with
      | none => rw [e2] at h; cases h
      | some q =>
        rw [e2] at h
        injection h with h; subst h
        obtain ⟨g1, g2⟩ := ih q e2 (fun y hy => hv y (by simp [hy]))
        refine ⟨by simp [g1], fun k s hs => ?_⟩
        cases k with
        | zero => simp at hs; subst hs; exact ⟨_, rfl, hx⟩
        | succ k => exact g2 k s hs
def capA (cap : List (Nat × Nat)) : List AV := cap.map fun p => .s (.ptr p.1 p.2)
variable {P : Program} {o : Oper} {tv : Operand → TV} {n0 : Nat}
theorem sem_call (c : Call) (fo : Operand) (f : FuncId) (cap : List (Nat × Nat)) (l args : List AV) (m : List Em) (H : List Row) (Post : Res → Prop) (fp : List (Nat × Row)) (ho : o.op = .call c) (hc0 : c.callee = .value fo) (hfo : tv fo = .a (.s (.fn (.func f) cap)))
    (hl : avs tv c.args.toList = some l) (ha : l ++ capA cap = args.map (renA m H.length n0)) (hF : Fn P f args H Post) (hm : m.length = H.length) (hr : ∀ hp : Hp, (∀ p ∈ fp, hp p.1 = some p.2) → RowsAt m n0 H hp) (hq : ∀ R, Post R → R.nw.length ≤ stride) :
    SemOp P o tv n0 fp (fun e => ∃ R, Post R ∧ e = R.ef m H.length n0) := by
  intro F ρ hp a w Q K h1 hc hf hfr hK
  obtain ⟨⟨fn, g1, g2, g3⟩, hF⟩ := hF
  have hr' := hr hp hf
  have hs : ∀ i, H.length ≤ i → ρ (n0 + (i - H.length) % stride) = none := fun i _ => hfr _ (by omega) (by have := Nat.mod_lt (i - H.length) (show 0 < stride by unfold stride; omega); omega)
  have hfv := eval2 h1 (by rw [ho]; simp [Op.operands, Call.operands, hc0]) hfo
  obtain ⟨caps, e1, e2, e3⟩ := hfv
  have hav := avs_ok (ρ := ρ) (a := a) _ _ hl (fun x hx => h1 x (by rw [ho]; simp only [Op.operands, Call.operands, hc0, Array.mem_append]; exact .inr (by simpa using hx)))
  have hall : VAs ρ (l ++ capA cap) ((c.args.map a.eval) ++ caps).toList := by
    have hl2 : l.length = c.args.size := by have := hav.1; simpa using this
    refine ⟨by simp [capA, hl2, e2], fun k s hk => ?_⟩
    rw [Array.toList_append]
    by_cases hkl : k < l.length
    · rw [List.getElem?_append_left hkl] at hk
      obtain ⟨v, q1, q2⟩ := hav.2 k s hk
      exact ⟨v, by rw [List.getElem?_append_left (by simp; omega)]; simpa using q1, q2⟩
    · rw [List.getElem?_append_right (by omega)] at hk
      unfold capA at hk
      rw [List.getElem?_map] at hk
      cases e4 : cap[k - l.length]? with
      | none => rw [e4] at hk; cases hk
      | some p =>
        rw [e4] at hk; injection hk with hk; subst hk
        obtain ⟨L, q1, q2⟩ := e3 _ p e4
        exact ⟨_, by rw [List.getElem?_append_right (by simp; omega)]; simpa [hl2] using q2, ⟨L, q1, rfl⟩⟩
  rw [ha] at hall
  have hcalls := hF (pull m ρ) w (c.args.map a.eval ++ caps) (fun n hn => by unfold pull; rw [List.getElem?_eq_none (by omega)]) (vas_pull hm hs hall) (conc_pull hc hm hs hr')
  unfold Oper.wp
  have hrun : (execOp a.eval o).run P w = .ok (.enter f (c.args.map a.eval ++ caps)) w := by
    unfold execOp; rw [ho]
    have g2' : ¬ fn.name = "runtime.NumGoroutine" := by simpa using g2
    have g3' : ¬ fn.body = none := by intro e; rw [e] at g3; cases g3
    simp [resolve, hc0, Deferred.ofValue, e1, invoke, callFunc, program, Sem.run, g1, g2', g3']
  rw [hrun, Oper.upon_enter]
  refine Calls.mono hcalls fun e w' hpost => ?_
  obtain ⟨R, v, ρ1, p1, rfl, p2, p3, p4, p5, p6, p7, p8⟩ := hpost
  have hq' := hq R p1
  exact hK _ (back H.length n0 R.nw.length ρ ρ1) v w' ⟨R, p1, rfl⟩ (back_ext hq' hfr) (fun n hne => by unfold back; rw [if_neg]; rintro ⟨q1, q2⟩; exact hne ⟨q1, by omega⟩)
    (vt_push (fun s v => vs_push hc hm hfr hr' p2 hq' p3) p4) (conc_push hc hm hfr hr' p2 hq' p3 p5 p6 p7 p8)
end Go.Proofs.Ytffhbadeoadbkaa
