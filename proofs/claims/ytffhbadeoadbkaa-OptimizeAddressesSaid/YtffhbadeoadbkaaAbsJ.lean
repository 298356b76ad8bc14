/- Calls, said of the abstract machine: a contract by names of its own, and its use by a caller. -/
import Derived.Test.YtffhbadeoadbkaaAbsI
namespace Go.Proofs.Ytffhbadeoadbkaa
open Go Go.RowKit

/-- What a call leaves: a value, its own argument rows' changes, new rows (named from the number of the argument rows on). -/
structure Res where
  v : TV
  up : List (Nat × Option Row)
  nw : List Row
def Hs (H : List Row) : Hp := fun n => H[n]?
def Res.app (r : Res) (H : List Row) : Hp := fun n =>
  match Nat.ble H.length n with
  | true => r.nw[n - H.length]?
  | false => match look r.up n with
    | some x => x
    | none => H[n]?
/-- The blocks that a call may write. -/
def ownB (H : List Row) (ρ : Nm) : Nat → Prop := fun b => ∃ n r L, H[n]? = some r ∧ r.own = true ∧ ρ n = some (.at L) ∧ L.b = b
def Enters (P : Program) (f : FuncId) : Prop := ∃ fn, P.funcs[f]? = some fn ∧ (fn.name == "runtime.NumGoroutine") = false ∧ fn.body.isSome = true
def Fn (P : Program) (f : FuncId) (args : List AV) (H : List Row) (Post : Res → Prop) : Prop :=
  Enters P f ∧ ∀ (ρ : Nm) (w : World) (vs : Array Value), (∀ n, H.length ≤ n → ρ n = none) → VAs ρ args vs.toList → Conc ⟨w, ownB H ρ⟩ ρ (Hs H) w →
    Calls P f vs w fun e w' => ∃ R v ρ', Post R ∧ e = .returned v ∧ Ext ρ ρ' ∧ (∀ n, H.length + R.nw.length ≤ n → ρ' n = none) ∧ VT ρ' R.v v ∧ Conc ⟨w, ownB H ρ⟩ ρ' (R.app H) w' ∧
      (∀ p ∈ R.up, ∃ r, H[p.1]? = some r ∧ r.own = true) ∧ (∀ r ∈ R.nw, r.own = true) ∧ (∀ p ∈ R.up, ∀ r, p.2 = some r → r.own = true)

/-- The caller's name for a callee's name. -/
structure Em where
  (n sh : Nat)
def renN (m : List Em) (k n0 i : Nat) : Em := match m[i]? with
  | some e => e
  | none => ⟨n0 + (i - k) % stride, 0⟩
def renS (m : List Em) (k n0 : Nat) : SV → SV
  | .ptr i o => .ptr (renN m k n0 i).n ((renN m k n0 i).sh + o)
  | .sl i o n => .sl (renN m k n0 i).n ((renN m k n0 i).sh + o) n
  | .fn f cap => .fn f (cap.map fun p => ((renN m k n0 p.1).n, (renN m k n0 p.1).sh + p.2))
  | s => s
def renA (m : List Em) (k n0 : Nat) : AV → AV
  | .s x => .s (renS m k n0 x)
  | .agg l => .agg (l.map (renS m k n0))
def renT (m : List Em) (k n0 : Nat) : TV → TV
  | .unk => .unk
  | .a x => .a (renA m k n0 x)
  | .tup l => .tup (l.map (renA m k n0))
/-- The callee's map of names seen through the caller's. -/
def pull (m : List Em) (ρ : Nm) : Nm := fun i => match m[i]? with
  | some e => match ρ e.n with
    | some (.at L) => some (.at { L with δ := L.δ + e.sh })
    | p => p
  | none => none
theorem pull_at {m : List Em} {ρ : Nm} {i : Nat} {L : Loc} (h : pull m ρ i = some (.at L)) : ∃ e L0, m[i]? = some e ∧ ρ e.n = some (.at L0) ∧ L = { L0 with δ := L0.δ + e.sh } := by
  unfold pull at h
  cases e1 : m[i]? with
  | none => rw [e1] at h; cases h
  | some e =>
    rw [e1] at h
    simp only [] at h
    cases e2 : ρ e.n with
    | none => rw [e2] at h; cases h
    | some p =>
      rw [e2] at h
      cases p with
      | empty => cases h
      | «at» L0 => injection h with h; injection h with h; exact ⟨e, L0, rfl, e2, h.symm⟩
theorem pull_mk {m : List Em} {ρ : Nm} {i : Nat} {e : Em} {L : Loc} (h : m[i]? = some e) (h2 : ρ e.n = some (.at L)) : pull m ρ i = some (.at { L with δ := L.δ + e.sh }) := by
  unfold pull; rw [h]; simp only [h2]
theorem pull_empty {m : List Em} {ρ : Nm} {i : Nat} {e : Em} (h : m[i]? = some e) (h2 : ρ e.n = some .empty) : pull m ρ i = some .empty := by
  unfold pull; rw [h]; simp only [h2]
theorem renN_lt {m : List Em} {k n0 i : Nat} {e : Em} (h : m[i]? = some e) : renN m k n0 i = e := by unfold renN; rw [h]
/-- From the caller's reading of an argument to the callee's. -/
theorem vs_pull {m : List Em} {k n0 : Nat} {ρ : Nm} (hk : m.length = k) {s : SV} {v : Value} (hs : ∀ i, k ≤ i → ρ (n0 + (i - k) % stride) = none) (h : VS ρ (renS m k n0 s) v) : VS (pull m ρ) s v := by
  cases s <;> simp only [renS, VS] at h ⊢ <;> try exact h
  case ptr i o =>
    obtain ⟨L, hL, rfl⟩ := h
    cases e : m[i]? with
    | none =>
      have hi : k ≤ i := by rw [← hk]; exact List.getElem?_eq_none_iff.1 e
      unfold renN at hL; rw [e] at hL
      simp only [] at hL
      rw [hs i hi] at hL; cases hL
    | some x =>
      rw [renN_lt e] at hL ⊢
      exact ⟨_, pull_mk e hL, by simp [Nat.add_assoc]⟩
  case sl i o n =>
    obtain ⟨A, c, rfl, hc, h1⟩ := h
    refine ⟨A, c, rfl, hc, ?_⟩
    cases e : m[i]? with
    | none =>
      have hi : k ≤ i := by rw [← hk]; exact List.getElem?_eq_none_iff.1 e
      unfold renN at h1; rw [e] at h1
      simp only [] at h1
      rw [hs i hi] at h1
      rcases h1 with ⟨_, hL, _⟩ | ⟨hL, _⟩ <;> cases hL
    | some x =>
      rw [renN_lt e] at h1
      rcases h1 with ⟨L, hL, h2⟩ | ⟨hL, h2⟩
      · refine .inl ⟨_, pull_mk e hL, ?_⟩
        rcases h2 with ⟨rfl, h3⟩ | h2
        · exact .inl ⟨by simp [Nat.add_assoc], by simp only []; omega⟩
        · exact .inr h2
      · exact .inr ⟨pull_empty e hL, h2⟩
  case fn f cap =>
    obtain ⟨vs, rfl, h1, h2⟩ := h
    refine ⟨vs, rfl, by simpa using h1, fun j p hp => ?_⟩
    obtain ⟨L, hL, h3⟩ := h2 j _ (by rw [List.getElem?_map, hp]; rfl)
    simp only [] at hL h3
    cases e : m[p.1]? with
    | none =>
      have hi : k ≤ p.1 := by rw [← hk]; exact List.getElem?_eq_none_iff.1 e
      unfold renN at hL; rw [e] at hL
      simp only [] at hL
      rw [hs _ hi] at hL; cases hL
    | some x =>
      rw [renN_lt e] at hL h3
      exact ⟨_, pull_mk e hL, by rw [h3]; simp [Nat.add_assoc]⟩
theorem vas_pull {m : List Em} {k n0 : Nat} {ρ : Nm} (hk : m.length = k) (hs : ∀ i, k ≤ i → ρ (n0 + (i - k) % stride) = none) {l : List AV} {vs : List Value} (h : VAs ρ (l.map (renA m k n0)) vs) : VAs (pull m ρ) l vs := by
  refine ⟨by simpa using h.1, fun j s e => ?_⟩
  obtain ⟨v, h1, h2⟩ := h.2 j _ (by rw [List.getElem?_map, e]; rfl)
  refine ⟨v, h1, ?_⟩
  cases s with
  | s x => exact vs_pull hk hs h2
  | agg l =>
    obtain ⟨cs, rfl, h3⟩ := h2
    exact ⟨cs, rfl, by simpa using h3.1, fun q s e => by
      obtain ⟨v, h4, h5⟩ := h3.2 q _ (by rw [List.getElem?_map, e]; rfl)
      exact ⟨v, h4, vs_pull hk hs h5⟩⟩
/-- How the callee's argument rows lie among the caller's. -/
def RowsAt (m : List Em) (n0 : Nat) (H : List Row) (hp : Hp) : Prop :=
  ∀ (i : Nat) (r : Row), H[i]? = some r → ∃ (e : Em) (rc : Row), m[i]? = some e ∧ hp e.n = some rc ∧ rc.es = r.es ∧ (∀ (k : Nat) s, r.cells[k]? = some s → rc.cells[e.sh + k]? = some (renS m H.length n0 s)) ∧
    e.sh + r.cells.length ≤ rc.cells.length ∧ (r.own = true → rc.own = true ∧ e.sh = 0 ∧ rc.cells.length = r.cells.length ∧ ∀ (j : Nat) (f : Em), m[j]? = some f → j ≠ i → f.n ≠ e.n)
theorem conc_pull {F : Fr} {ρ : Nm} {hp : Hp} {w : World} {m : List Em} {n0 : Nat} {H : List Row} (hc : Conc F ρ hp w) (hm : m.length = H.length) (hs : ∀ i, H.length ≤ i → ρ (n0 + (i - H.length) % stride) = none) (hr : RowsAt m n0 H hp) :
    Conc ⟨w, ownB H (pull m ρ)⟩ (pull m ρ) (Hs H) w := by
  refine ⟨fun i r hi => ?_, fun i r j s Li Lj h1 h2 h3 h4 h5 h6 => ?_, fun i r L h1 h2 h3 => .inl ⟨i, r, L, h1, h2, h3, rfl⟩, rfl, rfl, rfl, Nat.le_refl _, fun _ _ _ => rfl⟩
  · obtain ⟨e, rc, h1, h2, h3, h4, h5, h6⟩ := hr i r hi
    have h7 := hc.rows _ _ h2
    unfold RowOk at h7 ⊢
    cases e1 : ρ e.n with
    | none => rw [e1] at h7; exact h7.elim
    | some p =>
      rw [e1] at h7
      cases p with
      | empty =>
        rw [pull_empty h1 e1]
        have h7 : rc.cells = [] := h7
        rw [h7] at h5
        exact List.eq_nil_of_length_eq_zero (by simp at h5; simp [h5.2])
      | «at» L =>
        rw [pull_mk h1 e1]
        obtain ⟨g1, g2, c, t, fz, g3, g4, g5, g6⟩ := h7
        refine ⟨g1.trans h3, by simp only []; omega, c, t, fz, g3, g4, fun ho => g5 (h6 ho).1, fun k s hk => ?_⟩
        obtain ⟨v, g7, g8⟩ := g6 _ _ (h4 k s hk)
        exact ⟨v, by simp only []; rw [Nat.add_assoc]; exact g7, vs_pull hm hs g8⟩
  · obtain ⟨e, rc, k1, k2, _, _, _, k6⟩ := hr i r h1
    obtain ⟨e', rc', k1', k2', _⟩ := hr j s h3
    obtain ⟨e1, L1, q1, q2, rfl⟩ := pull_at h5
    obtain ⟨e2, L2, p1, p2, rfl⟩ := pull_at h6
    rw [k1] at q1; injection q1 with q1; subst q1
    rw [k1'] at p1; injection p1 with p1; subst p1
    exact hc.apart e.n rc e'.n rc' L1 L2 k2 (k6 h2).1 k2' (fun q => (k6 h2).2.2.2 j e' k1' (fun e => h4 e.symm) q.symm) q2 p2
def renRow (m : List Em) (k n0 : Nat) (r : Row) : Row := { r with cells := r.cells.map (renS m k n0) }
def nwN (m : List Em) (k n0 : Nat) : Nat → List Row → List (Nat × Row)
  | _, [] => []
  | j, r :: l => (n0 + j, renRow m k n0 r) :: nwN m k n0 (j + 1) l
def upN (m : List Em) (k n0 : Nat) : List (Nat × Option Row) → List (Nat × Option Row)
  | [] => []
  | p :: l => ((renN m k n0 p.1).n, match p.2 with | some r => some (renRow m k n0 r) | none => none) :: upN m k n0 l
def Res.ef (R : Res) (m : List Em) (k n0 : Nat) : Ef := ⟨renT m k n0 R.v, upN m k n0 R.up, nwN m k n0 0 R.nw⟩
theorem look_nwN (m : List Em) (k n0 : Nat) (l : List Row) (j n : Nat) : look (nwN m k n0 j l) n = if n0 + j ≤ n then (l[n - (n0 + j)]?).map (renRow m k n0) else none := by
  induction l generalizing j with
  | nil => unfold nwN look; split <;> simp
  | cons r l ih =>
    unfold nwN look
    simp only []
    cases hb : Nat.beq n (n0 + j) with
    | true =>
      have := Nat.eq_of_beq_eq_true hb
      subst this
      simp
    | false =>
      have hne := Nat.ne_of_beq_eq_false hb
      rw [ih]
      by_cases h : n0 + (j + 1) ≤ n
      · rw [if_pos h, if_pos (by omega), show n - (n0 + j) = (n - (n0 + (j + 1))) + 1 by omega]; rfl
      · rw [if_neg h, if_neg (by omega)]
theorem look_upN (m : List Em) (k n0 : Nat) (l : List (Nat × Option Row)) (n : Nat) (x : Option Row) (hinj : ∀ p ∈ l, ∀ q ∈ l, (renN m k n0 p.1).n = (renN m k n0 q.1).n → p.1 = q.1)
    (h : look (upN m k n0 l) n = some x) : ∃ p ∈ l, (renN m k n0 p.1).n = n ∧ look l p.1 = some p.2 ∧ x = p.2.map (renRow m k n0) := by
  induction l with
  | nil => cases h
  | cons p l ih =>
    unfold upN look at h
    simp only [] at h
    cases hb : Nat.beq n (renN m k n0 p.1).n with
    | true =>
      rw [hb] at h
      have := Nat.eq_of_beq_eq_true hb
      injection h with h
      refine ⟨p, by simp, this.symm, ?_, ?_⟩
      · unfold look; rw [Nat.beq_refl]
      · rw [← h]; cases p.2 <;> rfl
    | false =>
      rw [hb] at h
      have hne := Nat.ne_of_beq_eq_false hb
      obtain ⟨q, h1, h2, h3, h4⟩ := ih (fun a ha b hb => hinj a (by simp [ha]) b (by simp [hb])) h
      refine ⟨q, by simp [h1], h2, ?_, h4⟩
      unfold look
      cases hb2 : Nat.beq q.1 p.1 with
      | true => exact absurd ((congrArg (fun z => (renN m k n0 z).n) (Nat.eq_of_beq_eq_true hb2)).symm.trans h2).symm hne
      | false => exact h3
theorem look_upN_none (m : List Em) (k n0 : Nat) (l : List (Nat × Option Row)) (n : Nat) (h : look (upN m k n0 l) n = none) (i : Nat) (hi : (renN m k n0 i).n = n) : look l i = none := by
  induction l with
  | nil => rfl
  | cons p l ih =>
    unfold upN look at h
    simp only [] at h
    unfold look
    cases hb : Nat.beq i p.1 with
    | true =>
      have := Nat.eq_of_beq_eq_true hb
      subst this
      rw [hi, Nat.beq_refl] at h
      cases h
    | false =>
      simp only []
      refine ih ?_
      cases hb2 : Nat.beq n (renN m k n0 p.1).n with
      | true => rw [hb2] at h; cases h
      | false => rw [hb2] at h; exact h
end Go.Proofs.Ytffhbadeoadbkaa
