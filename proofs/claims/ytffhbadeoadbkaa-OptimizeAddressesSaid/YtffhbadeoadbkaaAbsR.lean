/- Renaming, results, and a function's contract from the evaluation of its body. -/
import Derived.Test.YtffhbadeoadbkaaAbsQ
namespace Go.Proofs.Ytffhbadeoadbkaa
open Go Go.RowKit

/-- A renaming: a name's elder name; none: an empty row. -/
abbrev Rn := List (Nat × Option Nat)
def mapN (m : Rn) (ρ : Nm) : Nm := fun n => match look m n with
  | some (some c) => ρ c
  | some none => some .empty
  | none => none
def SVm (m : Rn) (cur : SV) : SV → Prop
  | .unk => True
  | .ptr n o => ∃ c, look m n = some (some c) ∧ cur = .ptr c o
  | .sl n o k => (∃ c, look m n = some (some c) ∧ cur = .sl c o k) ∨ (look m n = some none ∧ k = 0 ∧ cur = .nilsl)
  | .fn f cap => ∃ cap0, cur = .fn f cap0 ∧ cap0.length = cap.length ∧ ∀ (j : Nat) (p : Nat × Nat), cap[j]? = some p → ∃ c, look m p.1 = some (some c) ∧ cap0[j]? = some (c, p.2)
  | s => cur = s
theorem svm_ok {m : Rn} {ρ : Nm} {s s' : SV} {v : Value} (h : VS ρ s v) (hm : SVm m s s') : VS (mapN m ρ) s' v := by
  cases s' <;> simp only [SVm] at hm
  case unk => exact trivial
  case ptr n o =>
    obtain ⟨c, h1, rfl⟩ := hm
    obtain ⟨L, h2, h3⟩ := h
    exact ⟨L, by unfold mapN; rw [h1]; exact h2, h3⟩
  case sl n o k =>
    rcases hm with ⟨c, h1, rfl⟩ | ⟨h1, rfl, rfl⟩
    · obtain ⟨A, cc, h2, h3, h4⟩ := h
      have e : mapN m ρ n = ρ c := by unfold mapN; rw [h1]
      exact ⟨A, cc, h2, h3, by rw [e]; exact h4⟩
    · have h : v = .slice none 0 0 := h
      exact ⟨none, 0, h, Nat.le_refl _, .inr ⟨by unfold mapN; rw [h1], rfl⟩⟩
  case fn f cap =>
    obtain ⟨cap0, rfl, h1, h2⟩ := hm
    obtain ⟨vs, h3, h4, h5⟩ := h
    refine ⟨vs, h3, h4.trans h1, fun j p hp => ?_⟩
    obtain ⟨c, h6, h7⟩ := h2 j p hp
    obtain ⟨L, h8, h9⟩ := h5 j _ h7
    exact ⟨L, by unfold mapN; rw [h6]; exact h8, h9⟩
  all_goals (subst hm; exact h)
def SVsM (m : Rn) (l l' : List SV) : Prop := l.length = l'.length ∧ ∀ (k : Nat) s', l'[k]? = some s' → ∃ s, l[k]? = some s ∧ SVm m s s'
theorem SVsM.nil {m : Rn} : SVsM m [] [] := ⟨rfl, fun k s h => by cases h⟩
theorem SVsM.cons {m : Rn} {s s' : SV} {l l' : List SV} (h : SVm m s s') (hl : SVsM m l l') : SVsM m (s :: l) (s' :: l') :=
  ⟨by simp [hl.1], fun k x hx => by
    cases k with
    | zero => injection hx with hx; subst hx; exact ⟨s, rfl, h⟩
    | succ k => exact hl.2 k x hx⟩
theorem SVsM.append {m : Rn} {a a' b b' : List SV} (h : SVsM m a a') (hl : SVsM m b b') : SVsM m (a ++ b) (a' ++ b') :=
  ⟨by simp [hl.1, h.1], fun k x hx => by
    by_cases hk : k < a'.length
    · rw [List.getElem?_append_left hk] at hx
      rw [List.getElem?_append_left (by rw [h.1]; exact hk)]; exact h.2 k x hx
    · rw [List.getElem?_append_right (by omega)] at hx
      rw [List.getElem?_append_right (by rw [h.1]; omega), h.1]; exact hl.2 _ x hx⟩
def SV.scal : SV → Bool
  | .ptr _ _ | .sl _ _ _ | .fn _ _ => false
  | _ => true
def allScal : List SV → Bool
  | [] => true
  | s :: l => match s.scal with
    | true => allScal l
    | false => false
theorem svm_scal {m : Rn} {s : SV} (h : s.scal = true) : SVm m s s := by
  cases s <;> simp [SVm, SV.scal] at h ⊢
theorem allScal_mem {l : List SV} (h : allScal l = true) : ∀ s ∈ l, s.scal = true := by
  induction l with
  | nil => intro s hs; cases hs
  | cons a l ih =>
    unfold allScal at h
    cases e : a.scal with
    | false => rw [e] at h; cases h
    | true =>
      rw [e] at h
      intro s hs
      rcases List.mem_cons.1 hs with rfl | hs
      · exact e
      · exact ih h s hs
theorem SVsM.scal {m : Rn} {l : List SV} (h : allScal l = true) : SVsM m l l := ⟨rfl, fun _ s hs => ⟨s, hs, svm_scal (allScal_mem h s (List.mem_of_getElem? hs))⟩⟩
theorem vsm_ok {m : Rn} {ρ : Nm} {l l' : List SV} {vs : List Value} (h : VSs ρ l vs) (hm : SVsM m l l') : VSs (mapN m ρ) l' vs :=
  ⟨hm.1.symm.trans h.1, fun k s' hs => by
    obtain ⟨s, h1, h2⟩ := hm.2 k s' hs
    obtain ⟨v, h3, h4⟩ := h.2 k s h1
    exact ⟨v, h3, svm_ok h4 h2⟩⟩
def AVm (m : Rn) : AV → AV → Prop
  | .s x, .s y => SVm m x y
  | .agg l, .agg l' => SVsM m l l'
  | _, _ => False
theorem avm_ok {m : Rn} {ρ : Nm} {x y : AV} {v : Value} (h : VA ρ x v) (hm : AVm m x y) : VA (mapN m ρ) y v := by
  cases x <;> cases y
  · exact svm_ok h hm
  · exact hm.elim
  · exact hm.elim
  · obtain ⟨cs, rfl, h1⟩ := h; exact ⟨cs, rfl, vsm_ok h1 hm⟩
def AVsM (m : Rn) : List AV → List AV → Prop
  | [], [] => True
  | x :: l, y :: l' => AVm m x y ∧ AVsM m l l'
  | _, _ => False
theorem avsm_ok {m : Rn} {ρ : Nm} : ∀ {l l' : List AV} {vs : List Value}, VAs ρ l vs → AVsM m l l' → VAs (mapN m ρ) l' vs
  | [], [], vs, h, _ => ⟨h.1, fun _ s e => by cases e⟩
  | x :: l, y :: l', vs, h, hm => by
    cases vs with
    | nil => have := h.1; simp at this
    | cons v vs =>
      obtain ⟨u, h1, h2⟩ := h.2 0 x rfl
      injection h1 with h1; subst h1
      have := avsm_ok (l := l) (l' := l') (vs := vs) ⟨by have := h.1; simpa using this, fun k s e => h.2 (k + 1) s e⟩ hm.2
      refine ⟨by simp [this.1], fun k s e => ?_⟩
      cases k with
      | zero => injection e with e; subst e; exact ⟨v, rfl, avm_ok h2 hm.1⟩
      | succ k => exact this.2 k s e
  | [], _ :: _, _, _, h => h.elim
  | _ :: _, [], _, _, h => h.elim
def TVm (m : Rn) (x : TV) : TV → Prop
  | .unk => True
  | .a y => ∃ z, x = .a z ∧ AVm m z y
  | .tup l' => ∃ l, x = .tup l ∧ AVsM m l l'
theorem tvm_ok {m : Rn} {ρ : Nm} {x y : TV} {v : Value} (h : VT ρ x v) (hm : TVm m x y) : VT (mapN m ρ) y v := by
  cases y with
  | unk => exact trivial
  | a y => obtain ⟨z, rfl, h1⟩ := hm; exact avm_ok h h1
  | tup l' =>
    obtain ⟨l, rfl, h1⟩ := hm
    obtain ⟨vs, rfl, h2⟩ := h
    exact ⟨vs, rfl, avsm_ok h2 h1⟩
def injB (m : Rn) (n c : Nat) : Bool := m.all fun p => Nat.beq p.1 n || (match p.2 with | some x => !Nat.beq x c | none => true)
theorem injB_ok {m : Rn} {n c : Nat} (h : injB m n c = true) {n' c' : Nat} (hl : look m n' = some (some c')) (hne : n' ≠ n) : c' ≠ c := by
  have := List.all_eq_true.1 h _ (look_mem hl)
  simp only [Bool.or_eq_true] at this
  rcases this with h1 | h1
  · exact absurd (Nat.eq_of_beq_eq_true h1) hne
  · rintro rfl; rw [Nat.beq_refl] at h1; cases h1
/-- A row under a new name. -/
def RowMt (m : Rn) (hp : Hp) (n : Nat) (r' : Row) : Prop :=
  (∃ c r, look m n = some (some c) ∧ hp c = some r ∧ r.es = r'.es ∧ (r'.own = true → r.own = true ∧ injB m n c = true) ∧ SVsM m r.cells r'.cells) ∨ (look m n = some none ∧ r'.cells = [])
theorem conc_map {F : Fr} {m : Rn} {ρ : Nm} {hp hp' : Hp} {w : World} (hc : Conc F ρ hp w) (h : ∀ n r', hp' n = some r' → RowMt m hp n r') : Conc F (mapN m ρ) hp' w := by
  refine ⟨fun n r' hn => ?_, fun n r' k s' Ln Lk h1 h2 h3 h4 h5 h6 => ?_, fun n r' L h1 h2 h3 => ?_, hc.os, hc.tape, hc.output, hc.size, hc.block⟩
  · rcases h n r' hn with ⟨c, r, h1, h2, h3, h4, h5⟩ | ⟨h1, h2⟩
    · have := hc.rows c r h2
      unfold RowOk at this ⊢
      have e : mapN m ρ n = ρ c := by unfold mapN; rw [h1]
      rw [e]
      cases e2 : ρ c with
      | none => rw [e2] at this; exact this.elim
      | some p =>
        rw [e2] at this
        cases p with
        | empty =>
          have this : r.cells = [] := this
          have := h5.1
          rw [‹r.cells = []›] at this
          exact List.eq_nil_of_length_eq_zero this.symm
        | «at» L =>
          obtain ⟨g1, g2, cs, t, fz, g3, g4, g5, g6⟩ := this
          refine ⟨g1.trans h3, by rw [← h5.1]; exact g2, cs, t, fz, g3, g4, fun ho => g5 (h4 ho).1, fun k s' hs => ?_⟩
          obtain ⟨s, q1, q2⟩ := h5.2 k s' hs
          obtain ⟨v, q3, q4⟩ := g6 k s q1
          exact ⟨v, q3, svm_ok q4 q2⟩
    · unfold RowOk
      have e : mapN m ρ n = some .empty := by unfold mapN; rw [h1]
      rw [e]; exact h2
  · rcases h n r' h1 with ⟨c, r, a1, a2, a3, a4, a5⟩ | ⟨a1, _⟩
    · have e : mapN m ρ n = ρ c := by unfold mapN; rw [a1]
      rw [e] at h5
      rcases h k s' h3 with ⟨c', r2, b1, b2, _⟩ | ⟨b1, _⟩
      · have e2 : mapN m ρ k = ρ c' := by unfold mapN; rw [b1]
        rw [e2] at h6
        exact hc.apart c r c' r2 Ln Lk a2 (a4 h2).1 b2 (fun e => injB_ok (a4 h2).2 b1 (fun e => h4 e.symm) e.symm) h5 h6
      · unfold mapN at h6; rw [b1] at h6; cases h6
    · unfold mapN at h5; rw [a1] at h5; cases h5
  · rcases h n r' h1 with ⟨c, r, a1, a2, a3, a4, a5⟩ | ⟨a1, _⟩
    · have e : mapN m ρ n = ρ c := by unfold mapN; rw [a1]
      rw [e] at h3
      exact hc.mine c r L a2 (a4 h2).1 h3
    · unfold mapN at h3; rw [a1] at h3; cases h3
/-- Rows, each name once: what stands behind an entry of the same name is not looked at. -/
def HlS (m : Rn) (hp : Hp) : List Nat → Hl → Prop
  | _, [] => True
  | s, p :: l => (match memB p.1 s with | true => True | false => match p.2 with | some r => RowMt m hp p.1 r | none => True) ∧ HlS m hp (p.1 :: s) l
def HlL (m : Rn) (hp : Hp) (l : Hl) : Prop := HlS m hp [] l
theorem hls_ok {m : Rn} {hp : Hp} : ∀ {l : Hl} {s : List Nat}, HlS m hp s l → ∀ n r', memB n s = false → hpG l n = some r' → RowMt m hp n r'
  | [], _, _, n, r', _, h => by cases h
  | p :: l, s, hl, n, r', hs, h => by
    obtain ⟨k, x⟩ := p
    rw [hpG_cons] at h
    unfold Hp.set at h
    split at h
    · rename_i e; subst e; subst h
      have := hl.1
      simp only [hs] at this
      exact this
    · rename_i e
      refine hls_ok hl.2 n r' ?_ h
      unfold memB
      cases hb : Nat.beq n k with
      | true => exact absurd (Nat.eq_of_beq_eq_true hb) e
      | false => exact hs
theorem hll_ok {m : Rn} {hp : Hp} {l : Hl} (h : HlL m hp l) (n : Nat) (r' : Row) (hn : hpG l n = some r') : RowMt m hp n r' := hls_ok h n r' rfl hn
def TmL (m : Rn) (tm : Nat → TV) : Tm → Prop
  | [] => True
  | p :: l => TVm m (tm p.1) p.2 ∧ TmL m tm l
theorem tml_ok {m : Rn} {tm : Nat → TV} : ∀ {l : Tm}, TmL m tm l → ∀ t, TVm m (tm t) (tmG l t)
  | [], _, t => trivial
  | p :: l, hl, t => by
    obtain ⟨k, x⟩ := p
    rw [tmG_cons]
    split
    · rename_i e; subst e; exact hl.1
    · exact tml_ok hl.2 t
def idsB (m : Rn) (ids : List Nat) : Bool := m.all fun p => memB (p.1 / span) ids
theorem memB_mem {n : Nat} : ∀ {l : List Nat}, memB n l = true → n ∈ l
  | [], h => by cases h
  | m :: l, h => by
    unfold memB at h
    cases e : Nat.beq n m with
    | true => rw [Nat.eq_of_beq_eq_true e]; simp
    | false => rw [e] at h; exact List.mem_cons_of_mem _ (memB_mem h)
def idn (m : Rn) : Nat → Bool
  | 0 => true
  | k + 1 => (match look m k with | some (some c) => Nat.beq c k | _ => false) && idn m k
theorem idn_ok {m : Rn} : ∀ {k : Nat}, idn m k = true → ∀ n, n < k → look m n = some (some n)
  | 0, _, n, h => by omega
  | k + 1, h, n, hn => by
    unfold idn at h
    rw [Bool.and_eq_true] at h
    by_cases e : n = k
    · subst e
      have h1 := h.1
      split at h1
      · rename_i c hc; rw [hc, Nat.eq_of_beq_eq_true h1]
      · cases h1
    · exact idn_ok h.2 n (by omega)
theorem map_ext {m : Rn} {k : Nat} (h : idn m k = true) {G : Gm} (hk : G.k = k) {ρ : Nm} (hd : ∀ n, G.k ≤ n → G.ρ0 n = none) (hx : Ext G.ρ0 ρ) : Ext G.ρ0 (mapN m ρ) := fun n p hn => by
  have : n < k := by
    rcases Nat.lt_or_ge n k with h | h
    · exact h
    · rw [hd n (by omega)] at hn; cases hn
  unfold mapN
  rw [idn_ok h n this]
  exact hx n p hn
/-- A state said again, by other names and of less. -/
theorem wk_of (m : Rn) {N k : Nat} {σ σ' : St} (h1 : TmL m (tmG σ.tm) σ'.tm) (h2 : HlL m (hpG σ.h) σ'.h) (h3 : (idsB m σ'.ids && idn m k) = true) : Wk N k σ σ' := fun G F ρ a w hk hr =>
  ⟨mapN m ρ, hr.defers, hr.tmps, fun t => tvm_ok (hr.vals t) (tml_ok h1 t), conc_map hr.conc (hll_ok h2), fun n hn => by
    have : (look m n).isSome = true := by
      unfold mapN at hn
      cases e : look m n with
      | none => rw [e] at hn; exact absurd rfl hn
      | some x => rfl
    obtain ⟨x, hx⟩ := Option.isSome_iff_exists.1 this
    exact memB_mem (List.all_eq_true.1 (Bool.and_eq_true _ _ ▸ h3 : idsB m σ'.ids = true ∧ _).1 _ (look_mem hx)), map_ext ((Bool.and_eq_true _ _ ▸ h3 : _ ∧ idn m k = true).2) hk hr.dom hr.ext, hr.dom⟩

/-- The results of a call. -/
def resV (T : Tys) (σ : St) : List ResultVar → (List AV → Prop) → Prop
  | [], K => K []
  | .tmp t :: l, K => (match tmG σ.tm t with
    | .a x => resV T σ l fun r => K (x :: r)
    | _ => False)
  | .cell p ty :: l, K => (match tmG σ.tm p with
    | .a (.s (.ptr i k)) => (match T ty with
      | some y => (match y.kind.agg with
        | false => Ge (hpG σ.h i) fun r => Ge (r.cells[k]?) fun s => resV T σ l fun q => K (.s s :: q)
        | true => Ge (hpG σ.h i) fun r => Sg r.cells k y.size fun c => resV T σ l fun q => K (.agg c :: q))
      | none => False)
    | _ => False)
def mkRes : List AV → TV
  | [x] => .a x
  | l => .tup l
def resSem (tmps : Array Value) : ResultVar → Sem Value
  | .tmp t => pure (tmps.getD t undef)
  | .cell p t => do loadVar t (← asAddr (tmps.getD p undef))
theorem results_eq (fn : Func) (tmps : Array Value) : results fn tmps = (do let vs ← fn.results.mapM (resSem tmps); pure (if h : vs.size = 1 then vs[0] else .tuple vs)) := by
  unfold results
  rfl
theorem res_ok {P : Program} {T : Tys} (hT : TysOk P T) {G : Gm} {F : Fr} {N : Nat} {σ : St} {ρ : Nm} {a : Act} {w : World} (hr : Rel G F N σ ρ a w) : ∀ (l : List ResultVar) (K : List AV → Prop), resV T σ l K →
    ∃ r vs, K r ∧ VAs ρ r vs ∧ r.length = l.length ∧ (l.mapM (resSem a.tmps)).run P w = .ok vs w
  | [], K, h => ⟨[], [], h, ⟨rfl, fun _ s e => by cases e⟩, rfl, by simp⟩
  | .tmp t :: l, K, h => by
    unfold resV at h
    split at h
    · rename_i x hx
      obtain ⟨r, vs, h1, h2, h3, h4⟩ := res_ok hT hr l _ h
      have hv := hr.vals t
      rw [hx] at hv
      refine ⟨x :: r, a.tmps.getD t undef :: vs, h1, ⟨by simp [h2.1], fun k s e => ?_⟩, by simp [h3], by rw [List.mapM_cons]; simp only [resSem, Sem.run_bind, Sem.run_pure, Result.andThen_ok, h4]⟩
      cases k with
      | zero => injection e with e; subst e; exact ⟨_, rfl, hv⟩
      | succ k => exact h2.2 k s e
    · exact h.elim
  | .cell p ty :: l, K, h => by
    unfold resV at h
    split at h
    · rename_i i k hx
      have hv := hr.vals p
      rw [hx] at hv
      obtain ⟨L, hL, hp⟩ := hv
      have hrow : ∀ r, hpG σ.h i = some r → _ := fun r hr' => row_at hr.conc hr' hL
      split at h
      · rename_i y hy
        split at h
        · rename_i hk
          obtain ⟨r, h1, s, h2, h3⟩ := h
          obtain ⟨q, vs, g1, g2, g3, g4⟩ := res_ok hT hr l _ h3
          obtain ⟨v, h5, h6⟩ := row_cell hr.conc h1 hL h2
          refine ⟨.s s :: q, v :: vs, g1, ⟨by simp [g2.1], fun k s e => ?_⟩, by simp [g3], ?_⟩
          · cases k with
            | zero => injection e with e; subst e; exact ⟨_, rfl, h6⟩
            | succ k => exact g2.2 k s e
          · rw [List.mapM_cons]
            have hl : (do loadVar ty (← asAddr (a.tmps.getD p undef)) : Sem Value).run P w = .ok v w := by
              rw [hp]; simp [asAddr, loadVar, (hT ty y hy).agg w, hk, load, Sem.run, h5, pure]
            simp only [Sem.run_bind] at hl
            simp only [resSem, Sem.run_bind, Sem.run_pure]
            rw [hl]
            simp only [Result.andThen_ok, g4]
        · rename_i hk
          obtain ⟨r, h1, c, ⟨h2, h2'⟩, h3⟩ := h
          obtain ⟨q, vs, g1, g2, g3, g4⟩ := res_ok hT hr l _ h3
          obtain ⟨us, h5, h6⟩ := row_seg (P := P) hr.conc h1 hL k c h2'
          rw [h2] at h6
          refine ⟨.agg c :: q, .agg us.toArray :: vs, g1, ⟨by simp [g2.1], fun k s e => ?_⟩, by simp [g3], ?_⟩
          · cases k with
            | zero => injection e with e; subst e; exact ⟨_, rfl, ⟨_, rfl, h5⟩⟩
            | succ k => exact g2.2 k s e
          · rw [List.mapM_cons]
            have hl : (do loadVar ty (← asAddr (a.tmps.getD p undef)) : Sem Value).run P w = .ok (.agg us.toArray) w := by
              rw [hp]; simp [asAddr, loadVar, (hT ty y hy).agg w, hk, (hT ty y hy).sizeOf w, h6]
            simp only [Sem.run_bind] at hl
            simp only [resSem, Sem.run_bind, Sem.run_pure]
            rw [hl]
            simp only [Result.andThen_ok, g4]
      · exact h.elim
    · exact h.elim
def argTm : Nat → List AV → Tm
  | _, [] => []
  | i, x :: l => (i, .a x) :: argTm (i + 1) l
def argHl : Nat → List Row → Hl
  | _, [] => []
  | i, x :: l => (i, some x) :: argHl (i + 1) l
theorem argTm_get : ∀ (l : List AV) (i t : Nat), tmG (argTm i l) t = match (if i ≤ t then l[t - i]? else none) with | some x => .a x | none => .unk
  | [], i, t => by
    show TV.unk = _
    split
    · rename_i h; split at h <;> simp at h
    · rfl
  | x :: l, i, t => by
    show tmG ((i, .a x) :: argTm (i + 1) l) t = _
    rw [tmG_cons, argTm_get l (i + 1) t]
    by_cases h1 : t = i
    · subst h1; simp
    · rw [if_neg h1]
      by_cases h2 : i ≤ t
      · rw [if_pos (by omega), if_pos h2, show t - i = (t - (i + 1)) + 1 by omega]; rfl
      · rw [if_neg (by omega), if_neg h2]
theorem argHl_get : ∀ (l : List Row) (i n : Nat), hpG (argHl i l) n = if i ≤ n then l[n - i]? else none
  | [], i, n => by show none = _; split <;> simp
  | x :: l, i, n => by
    show hpG ((i, some x) :: argHl (i + 1) l) n = _
    rw [hpG_cons]
    unfold Hp.set
    rw [argHl_get l (i + 1) n]
    by_cases h1 : n = i
    · subst h1; simp
    · rw [if_neg h1]
      by_cases h2 : i ≤ n
      · rw [if_pos (by omega), if_pos h2, show n - i = (n - (i + 1)) + 1 by omega]; rfl
      · rw [if_neg (by omega), if_neg h2]
/-- The rows behind a call, by the contract's names. -/
def finL (R : Res) (H : List Row) : Hl := argHl H.length R.nw ++ (upL R.up (argHl 0 H))
theorem look_append {α : Type} (l m : List (Nat × α)) (n : Nat) : look (l ++ m) n = match look l n with | some x => some x | none => look m n := by
  induction l with
  | nil => rfl
  | cons p l ih =>
    obtain ⟨k, x⟩ := p
    show look ((k, x) :: (l ++ m)) n = _
    rw [look_cons, look_cons]
    by_cases h : n = k
    · rw [if_pos h, if_pos h]
    · rw [if_neg h, if_neg h, ih]
theorem look_arg : ∀ (l : List Row) (i n : Nat), look (argHl i l) n = if i ≤ n then (l[n - i]?).map some else none
  | [], i, n => by show none = _; split <;> simp
  | x :: l, i, n => by
    show look ((i, some x) :: argHl (i + 1) l) n = _
    rw [look_cons, look_arg l (i + 1) n]
    by_cases h1 : n = i
    · subst h1; simp
    · rw [if_neg h1]
      by_cases h2 : i ≤ n
      · rw [if_pos (by omega), if_pos h2, show n - i = (n - (i + 1)) + 1 by omega]; rfl
      · rw [if_neg (by omega), if_neg h2]
theorem finL_ok (R : Res) (H : List Row) (hup : ∀ p ∈ R.up, p.1 < H.length) : hpG (finL R H) = R.app H := by
  funext n
  have e : hpG (finL R H) n = match look (argHl H.length R.nw) n with | some r => r | none => hpG (upL R.up (argHl 0 H)) n := by
    unfold finL
    show (match look (argHl H.length R.nw ++ upL R.up (argHl 0 H)) n with | some r => r | none => none) = _
    rw [look_append]
    cases look (argHl H.length R.nw) n <;> rfl
  rw [e, look_arg]
  unfold Res.app
  by_cases h : H.length ≤ n
  · rw [if_pos h, Nat.ble_eq_true_of_le h]
    simp only []
    cases e2 : R.nw[n - H.length]? with
    | some r => rfl
    | none =>
      show hpG (upL R.up (argHl 0 H)) n = none
      rw [hpG_up, argHl_get]
      cases e3 : look R.up n with
      | some x => exact absurd (hup _ (look_mem e3)) (by simp; omega)
      | none => simp; omega
  · rw [if_neg h, ble_false (by omega)]
    show hpG (upL R.up (argHl 0 H)) n = _
    rw [hpG_up, argHl_get]
    rw [if_pos (Nat.zero_le _), Nat.sub_zero]
    cases look R.up n <;> rfl
def upOk (H : List Row) : List (Nat × Option Row) → Bool
  | [] => true
  | p :: l => (match H[p.1]? with | some r => r.own | none => false) && (match p.2 with | some r => r.own | none => true) && upOk H l
def nwOk : List Row → Bool
  | [] => true
  | r :: l => r.own && nwOk l
def ltB (m : Rn) (k : Nat) : Bool := m.all fun p => Nat.blt p.1 k
/-- At the end of a call: the results and the rows are as the contract says. -/
inductive Fin (H : List Row) (Post : Res → Prop) (σ : St) (v : TV) : Prop
  | mk (R : Res) (m : Rn) (h1 : Post R) (h2 : TVm m v R.v) (h3 : HlL m (hpG σ.h) (finL R H)) (h4 : (upOk H R.up && nwOk R.nw && idn m H.length && ltB m (H.length + R.nw.length)) = true)
def finK (T : Tys) (H : List Row) (Post : Res → Prop) (res : List ResultVar) : Exit → St → Prop
  | .normal, σ => resV T σ res fun l => Fin H Post σ (mkRes l)
  | .ret, σ => resV T σ res fun l => Fin H Post σ (mkRes l)
  | _, _ => False
theorem upOk_ok {H : List Row} : ∀ {l : List (Nat × Option Row)}, upOk H l = true → ∀ p ∈ l, (∃ r, H[p.1]? = some r ∧ r.own = true) ∧ ∀ r, p.2 = some r → r.own = true
  | [], _, p, hp => by cases hp
  | q :: l, h, p, hp => by
    unfold upOk at h
    rw [Bool.and_eq_true, Bool.and_eq_true] at h
    rcases List.mem_cons.1 hp with rfl | hp
    · refine ⟨?_, fun r hr => ?_⟩
      · have := h.1.1
        split at this
        · rename_i r hr; exact ⟨r, hr, this⟩
        · cases this
      · have := h.1.2; rw [hr] at this; exact this
    · exact upOk_ok h.2 p hp
theorem nwOk_ok : ∀ {l : List Row}, nwOk l = true → ∀ r ∈ l, r.own = true
  | [], _, r, hr => by cases hr
  | q :: l, h, r, hr => by
    unfold nwOk at h
    rw [Bool.and_eq_true] at h
    rcases List.mem_cons.1 hr with rfl | hr
    · exact h.1
    · exact nwOk_ok h.2 r hr
theorem fn_of_vc {P : Program} (hm : P.follows .mixedOrders = true) {T : Tys} (hT : TysOk P T) {f : FuncId} {fn : Func} {c : Code} {args : List AV} {H : List Row} {Post : Res → Prop} (N : Nat) (res : List ResultVar) (hf : P.funcs[f]? = some fn) (hn : (fn.name == "runtime.NumGoroutine") = false)
    (hb : fn.body = some c) (hN : fn.ntmps = N) (hres : fn.results.toList = res) (hlen : (Nat.ble args.length N && Nat.ble H.length 1000) = true) (h : vc P T N H.length c ⟨argTm 0 args, argHl 0 H, [0]⟩ (finK T H Post res)) : Fn P f args H Post := by
  rw [Bool.and_eq_true] at hlen
  have hl1 := Nat.le_of_ble_eq_true hlen.1
  have hl2 := Nat.le_of_ble_eq_true hlen.2
  refine ⟨⟨fn, hf, hn, by rw [hb]; rfl⟩, fun ρ w vs hdom hargs hc => ?_⟩
  have hvl : vs.size = args.length := by have := hargs.1; simpa using this.symm
  refine calls_of_wp hf hb (wp_mono (vc_sound hm hT (G := ⟨ρ, H.length⟩) (F := ⟨w, ownB H ρ⟩) (N := N) rfl c _ _ ρ _ w h ⟨rfl, by simp [hN]; omega, fun t => ?_, ?_, fun n hn => ?_, Ext.refl _, hdom⟩) fun e a' w' hq => ?_)
  · rw [argTm_get]
    by_cases ht : t < args.length
    · rw [if_pos (Nat.zero_le _), Nat.sub_zero]
      obtain ⟨v, h1, h2⟩ := hargs.2 t _ (List.getElem?_eq_getElem ht)
      rw [List.getElem?_eq_getElem ht]
      have h1' : vs[t]? = some v := by simpa using h1
      have : (vs ++ Array.replicate (fn.ntmps - vs.size) undef).getD t undef = v := by
        rw [Array.getD_eq_getD_getElem?, Array.getElem?_append_left (by omega), h1']; rfl
      rw [this]; exact h2
    · rw [if_pos (Nat.zero_le _), Nat.sub_zero, List.getElem?_eq_none (by omega)]; exact trivial
  · have : hpG (argHl 0 H) = Hs H := by funext n; rw [argHl_get]; simp [Hs]
    rw [this]; exact hc
  · have : n < H.length := by
      rcases Nat.lt_or_ge n H.length with h | h
      · exact h
      · exact absurd (hdom n h) hn
    have : n / span = 0 := Nat.div_eq_of_lt (by unfold span; omega)
    rw [this]; simp
  · obtain ⟨σ, ρ1, hr, hq⟩ := hq
    have done : resV T σ res (fun l => Fin H Post σ (mkRes l)) → bodyPost P fn (fun e w' => ∃ R v ρ', Post R ∧ e = .returned v ∧ Ext ρ ρ' ∧ (∀ n, H.length + R.nw.length ≤ n → ρ' n = none) ∧ VT ρ' R.v v ∧ Conc ⟨w, ownB H ρ⟩ ρ' (R.app H) w' ∧
        (∀ p ∈ R.up, ∃ r, H[p.1]? = some r ∧ r.own = true) ∧ (∀ r ∈ R.nw, r.own = true) ∧ (∀ p ∈ R.up, ∀ r, p.2 = some r → r.own = true)) .ret a' w' := by
      intro hq
      obtain ⟨l, vs', h1, h2, h3, h4⟩ := res_ok hT hr res _ hq
      obtain ⟨R, m, g1, g2, g3, g4⟩ := h1
      rw [Bool.and_eq_true, Bool.and_eq_true, Bool.and_eq_true] at g4
      obtain ⟨⟨⟨g5, g6⟩, g7⟩, g8⟩ := g4
      have hup := upOk_ok g5
      have hrun : (results fn a'.tmps).run P w' = .ok (if h : vs'.toArray.size = 1 then vs'.toArray[0] else .tuple vs'.toArray) w' := by
        rw [← hres] at h4
        rw [results_eq, Array.mapM_eq_mapM_toList]
        simp only [Sem.run_bind, Sem.run_map, h4, Result.andThen_ok, Sem.run_pure]
      refine ⟨hr.defers, _, hrun, R, _, mapN m ρ1, g1, rfl, map_ext g7 rfl hdom hr.ext, fun n hn => ?_, ?_, ?_, fun p hp => (hup p hp).1, nwOk_ok g6, fun p hp => (hup p hp).2⟩
      · unfold mapN
        cases e : look m n with
        | none => rfl
        | some x =>
          have := List.all_eq_true.1 g8 _ (look_mem e)
          simp at this; omega
      · refine tvm_ok ?_ g2
        rcases l with _ | ⟨x, _ | ⟨y, l⟩⟩
        · have : vs' = [] := by have := h2.1; simpa using this.symm
          subst this
          exact ⟨#[], rfl, h2⟩
        · obtain ⟨v, q1, q2⟩ := h2.2 0 x rfl
          have hl : vs'.length = 1 := h2.1.symm
          obtain ⟨u, rfl⟩ := List.length_eq_one_iff.1 hl
          injection q1 with q1; subst q1
          exact q2
        · have hl : vs'.length = l.length + 2 := h2.1.symm
          rw [dif_neg (by simp; omega)]
          exact ⟨vs'.toArray, rfl, h2⟩
      · rw [← finL_ok R H (fun p hp => by obtain ⟨r, hr, _⟩ := (hup p hp).1; exact (List.getElem?_eq_some_iff.1 hr).1)]
        exact conc_map hr.conc (hll_ok g3)
    cases e with
    | normal => exact done hq
    | ret => exact done hq
    | exit i => exact hq.elim
    | goto i => exact hq.elim
    | panic c => exact hq.elim
    | outgrown => exact hq.elim
end Go.Proofs.Ytffhbadeoadbkaa
