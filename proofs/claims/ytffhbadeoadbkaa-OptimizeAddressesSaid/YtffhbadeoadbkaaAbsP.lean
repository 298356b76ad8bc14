/- The evaluator of a statement, and that it is right. -/
import Derived.Test.YtffhbadeoadbkaaAbsO
namespace Go.Proofs.Ytffhbadeoadbkaa
open Go Go.RowKit

abbrev Tm := List (Nat × TV)
def tmG (tm : Tm) : Nat → TV := fun t => match look tm t with
  | some v => v
  | none => .unk
abbrev Hl := List (Nat × Option Row)
def hpG (h : Hl) : Hp := fun n => match look h n with
  | some r => r
  | none => none
def putT (tm : Tm) (d : Option Nat) (v : TV) : Tm := match d with
  | some d => (d, v) :: tm
  | none => tm
def nwL : List (Nat × Row) → Hl → Hl
  | [], h => h
  | p :: l, h => (p.1, some p.2) :: nwL l h
def upL : List (Nat × Option Row) → Hl → Hl
  | [], h => h
  | p :: l, h => p :: upL l h
def appL (e : Ef) (h : Hl) : Hl := nwL e.nw (upL e.up h)
theorem look_cons {α : Type} (m : Nat) (x : α) (l : List (Nat × α)) (n : Nat) : look ((m, x) :: l) n = if n = m then some x else look l n := by
  show (match Nat.beq n m with | true => some x | false => look l n) = _
  cases hb : Nat.beq n m with
  | true => rw [if_pos (Nat.eq_of_beq_eq_true hb)]
  | false => rw [if_neg (Nat.ne_of_beq_eq_false hb)]
theorem hpG_cons (n : Nat) (r : Option Row) (h : Hl) : hpG ((n, r) :: h) = Hp.set (hpG h) n r := by
  funext m
  unfold hpG Hp.set
  rw [look_cons]
  by_cases hb : m = n <;> simp [hb]
theorem hpG_up (u : List (Nat × Option Row)) (h : Hl) (n : Nat) : hpG (upL u h) n = match look u n with | some r => r | none => hpG h n := by
  induction u with
  | nil => rfl
  | cons p u ih =>
    obtain ⟨m, r⟩ := p
    show hpG ((m, r) :: upL u h) n = _
    rw [hpG_cons, look_cons]
    unfold Hp.set
    by_cases hb : n = m
    · rw [if_pos hb, if_pos hb]
    · rw [if_neg hb, if_neg hb, ih]
theorem hpG_app (e : Ef) (h : Hl) : hpG (appL e h) = e.app (hpG h) := by
  funext n
  unfold appL Ef.app
  generalize e.nw = nw
  induction nw with
  | nil => exact hpG_up _ _ _
  | cons p nw ih =>
    obtain ⟨m, r⟩ := p
    show hpG ((m, some r) :: nwL nw (upL e.up h)) n = _
    rw [hpG_cons, look_cons]
    unfold Hp.set
    by_cases hb : n = m
    · rw [if_pos hb, if_pos hb]
    · rw [if_neg hb, if_neg hb, ih]
theorem tmG_cons (t : Nat) (v : TV) (tm : Tm) (k : Nat) : tmG ((t, v) :: tm) k = if k = t then v else tmG tm k := by
  unfold tmG
  rw [look_cons]
  by_cases hb : k = t <;> simp [hb]
theorem tmG_same (t : Nat) (v : TV) (tm : Tm) (h : tmG tm t = v) : tmG ((t, v) :: tm) = tmG tm := by
  funext k
  rw [tmG_cons]
  split
  · rename_i e; subst e; exact h.symm
  · rfl
def upK : List (Nat × Option Row) → Hl → (Hl → Prop) → Prop
  | [], h, K => K h
  | p :: l, h, K => upK l h fun h => K (p :: h)
def nwK : List (Nat × Row) → Hl → (Hl → Prop) → Prop
  | [], h, K => K h
  | p :: l, h, K => nwK l h fun h => K ((p.1, some p.2) :: h)
theorem upK_iff : ∀ (l : List (Nat × Option Row)) (h : Hl) (K : Hl → Prop), upK l h K ↔ K (upL l h)
  | [], _, _ => Iff.rfl
  | _ :: l, h, _ => upK_iff l h _
theorem nwK_iff : ∀ (l : List (Nat × Row)) (h : Hl) (K : Hl → Prop), nwK l h K ↔ K (nwL l h)
  | [], _, _ => Iff.rfl
  | _ :: l, h, _ => nwK_iff l h _
def putK (tm : Tm) (d : Option Nat) (v : TV) (K : Tm → Prop) : Prop := fT v fun v => match d with
  | some d => K ((d, v) :: tm)
  | none => K tm
theorem putK_iff (tm : Tm) (d : Option Nat) (v : TV) (K : Tm → Prop) : putK tm d v K ↔ K (putT tm d v) := by
  unfold putK; rw [fT_iff]; cases d <;> exact Iff.rfl
def appK (e : Ef) (h : Hl) (K : Hl → Prop) : Prop := upK e.up h fun h => nwK e.nw h K
theorem appK_iff (e : Ef) (h : Hl) (K : Hl → Prop) : appK e h K ↔ K (appL e h) := by unfold appK; rw [upK_iff, nwK_iff]; exact Iff.rfl
/-- One statement, in the order of the text. -/
def fN (n : Nat) (K : Nat → Prop) : Prop := match n with
  | 0 => K 0
  | m + 1 => K (m + 1)
theorem fN_iff (n : Nat) (K : Nat → Prop) : fN n K ↔ K n := by cases n <;> exact Iff.rfl
def recK (det : Bool) (d : Did) (l : List Did) (K : List Did → Prop) : Prop := match det with
  | true => K (d :: l)
  | false => K l
/-- One statement and what is behind it. (By the recursor itself: so Lean's kernel meets the terms that the walk met.) -/
def vregS (P : Program) (T : Tys) (det : Bool) (all : List Oper) (base : Nat) (o : Oper) (ih : Nat → Tm → Hl → List Did → (Tm → Hl → List Did → Prop) → Prop) (i : Nat) (tm : Tm) (h : Hl) (rec : List Did) (K : Tm → Hl → List Did → Prop) : Prop :=
  match o.guard with
    | none => vop P T det o (evF (tmG tm)) (hpG h) (base + stride * i) fun fp e => putK tm o.dst e.v fun tm => appK e h fun h => recK det (.did fp e) rec fun rec => fN (i + 1) fun i => ih i tm h rec K
    | some (j, want) => match dstAt all j with
      | some t => (match tmG tm t with
        | .a (.s (.bool b)) =>
          fB (!want) fun nw => Gd b want nw (vop P T det o (evF (tmG ((t, .a (.s (.bool want))) :: tm))) (hpG h) (base + stride * i) fun fp e => putK ((t, .a (.s (.bool want))) :: tm) o.dst e.v fun tm => appK e h fun h => recK det (.did fp e) rec fun rec => fN (i + 1) fun i =>
            ih i tm h rec K)
          (putK ((t, .a (.s (.bool nw))) :: tm) o.dst (.tup []) fun tm => recK det .skip rec fun rec => fN (i + 1) fun i => ih i tm h rec K)
        | .tup _ => putK tm o.dst (.tup []) fun tm => recK det .skip rec fun rec => fN (i + 1) fun i => ih i tm h rec K
        | _ => False)
      | none => False
noncomputable def vreg (P : Program) (T : Tys) (det : Bool) (all : List Oper) (base : Nat) (i : Nat) (l : List Oper) : Tm → Hl → List Did → (Tm → Hl → List Did → Prop) → Prop :=
  List.rec (motive := fun _ => Nat → Tm → Hl → List Did → (Tm → Hl → List Did → Prop) → Prop) (fun _ tm h rec K => K tm h rec) (fun o _ ih => vregS P T det all base o ih) l i
theorem vreg_cons {P : Program} {T : Tys} {det : Bool} {all : List Oper} {base i : Nat} {o : Oper} {rest : List Oper} {tm : Tm} {h : Hl} {rec : List Did} {K : Tm → Hl → List Did → Prop} :
    vreg P T det all base i (o :: rest) tm h rec K = vregS P T det all base o (fun i => vreg P T det all base i rest) i tm h rec K := rfl
def u1 (o : Oper) (d : Did) : Nat → Option TV := fun t => match o.dst with
  | some t' => if t = t' then some d.v else none
  | none => none
theorem putT_u1 (tm : Tm) (o : Oper) (d : Did) : tmG (putT tm o.dst d.v) = ap (u1 o d) (tmG tm) := by
  funext t
  unfold putT ap u1
  cases o.dst with
  | none => rfl
  | some t' =>
    simp only []
    rw [tmG_cons]
    by_cases h : t = t' <;> simp [h]
def ChainR (P : Program) (all : List Oper) (base : Nat) : Nat → List Oper → List Did → (Nat → TV) → Hp → (Nat → TV) → Hp → Prop
  | _, [], [], tm, hp, tm', hp' => tm' = tm ∧ hp' = hp
  | i, o :: rest, d :: ds, tm, hp, tm', hp' => DidOk P all base i o d tm hp ∧ ChainR P all base (i + 1) rest ds (ap (u1 o d) tm) (ap d.u hp) tm' hp'
  | _, _, _, _, _, _, _ => False
theorem vreg_chain {P : Program} {T : Tys} (hT : TysOk P T) {all : List Oper} {base : Nat} {K : Tm → Hl → List Did → Prop} : ∀ (rest : List Oper) (i : Nat) (tm : Tm) (h : Hl) (rec : List Did), vreg P T true all base i rest tm h rec K →
    ∃ ds tm' h', ChainR P all base i rest ds (tmG tm) (hpG h) (tmG tm') (hpG h') ∧ K tm' h' (ds.reverse ++ rec) := by
  intro rest
  induction rest with
  | nil => intro i tm h rec hv; exact ⟨[], tm, h, ⟨rfl, rfl⟩, hv⟩
  | cons o rest ih =>
    intro i tm h rec hv
    have step : ∀ tm1 : Tm, tmG tm1 = tmG tm → (∀ g, o.guard = some g → ∃ t, dstAt all g.1 = some t ∧ tmG tm t = .a (.s (.bool g.2))) →
        vop P T true o (evF (tmG tm1)) (hpG h) (base + stride * i) (fun fp e => putK tm1 o.dst e.v fun tm => appK e h fun h => recK true (.did fp e) rec fun rec => fN (i + 1) fun i => vreg P T true all base i rest tm h rec K) →
        ∃ ds tm' h', ChainR P all base i (o :: rest) ds (tmG tm) (hpG h) (tmG tm') (hpG h') ∧ K tm' h' (ds.reverse ++ rec) := by
      intro tm1 htm hg hop
      obtain ⟨fp, E, h1, h2, h3, h4⟩ := vop_sound hT hop
      obtain ⟨e, rfl⟩ := h4 rfl
      obtain ⟨h5, h6⟩ := h3 e rfl
      simp only [putK_iff, appK_iff, recK, fN_iff] at h6
      obtain ⟨ds, tm', h', h7, h8⟩ := ih _ _ _ _ h6
      refine ⟨.did fp e :: ds, tm', h', ⟨⟨hg, by rw [← htm]; exact h1, h2, h5⟩, ?_⟩, by simpa using h8⟩
      rw [← htm, ap_app, ← hpG_app]
      have := putT_u1 tm1 o (.did fp e)
      rw [← this]; exact h7
    rw [vreg_cons] at hv
    unfold vregS at hv
    cases hg : o.guard with
    | none => rw [hg] at hv; exact step tm rfl (fun g e => by rw [hg] at e; cases e) hv
    | some g =>
      rw [hg] at hv
      obtain ⟨g1, g2⟩ := g
      simp only [] at hv
      cases hd : dstAt all g1 with
      | none => rw [hd] at hv; exact hv.elim
      | some t =>
        rw [hd] at hv
        simp only [] at hv
        split at hv
        · rename_i b hb
          rw [fB_iff] at hv
          obtain ⟨hv1, hv2⟩ := hv
          by_cases e : b = g2
          · subst e
            exact step _ (tmG_same _ _ _ hb) (fun g' e => by rw [hg] at e; injection e with e; subst e; exact ⟨t, hd, hb⟩) (hv1 rfl)
          · have e2 : b = !g2 := by cases b <;> cases g2 <;> simp_all
            replace hv2 := hv2 e2
            simp only [putK_iff, recK, fN_iff] at hv2
            obtain ⟨ds, tm', h', h7, h8⟩ := ih _ _ _ _ hv2
            refine ⟨.skip :: ds, tm', h', ⟨⟨(g1, g2), t, hg, hd, .inl ⟨b, hb, e⟩⟩, ?_⟩, by simpa using h8⟩
            have h9 := putT_u1 ((t, .a (.s (.bool !g2))) :: tm) o .skip
            rw [tmG_same _ _ _ (by rw [hb, e2])] at h9
            have h10 : ap Did.skip.u (hpG h) = hpG h := by funext n; rfl
            rw [← h9, h10]; exact h7
        · rename_i l hb
          simp only [putK_iff, recK, fN_iff] at hv
          obtain ⟨ds, tm', h', h7, h8⟩ := ih _ _ _ _ hv
          refine ⟨.skip :: ds, tm', h', ⟨⟨(g1, g2), t, hg, hd, .inr ⟨l, hb⟩⟩, ?_⟩, by simpa using h8⟩
          have h9 := putT_u1 tm o .skip
          have h10 : ap Did.skip.u (hpG h) = hpG h := by funext n; rfl
          rw [← h9, h10]; exact h7
        · exact hv.elim
theorem chain_len {P : Program} {all : List Oper} {base : Nat} : ∀ (rest : List Oper) (i : Nat) (ds : List Did) (tm : Nat → TV) (hp : Hp) (tm' : Nat → TV) (hp' : Hp), ChainR P all base i rest ds tm hp tm' hp' → rest.length = ds.length
  | [], _, [], _, _, _, _, _ => rfl
  | o :: rest, i, d :: ds, tm, hp, tm', hp', h => by have := chain_len rest _ ds _ _ _ _ h.2; simp [this]
  | [], _, _ :: _, _, _, _, _, h => h.elim
  | _ :: _, _, [], _, _, _, _, h => h.elim
theorem chain_ok {P : Program} {all : List Oper} {base : Nat} {tm0 : Nat → TV} {hp0 : Hp} {dsA : List Did} : ∀ (rest : List Oper) (i : Nat) (ds : List Did) (tm : Nat → TV) (hp : Hp) (tm' : Nat → TV) (hp' : Hp), ChainR P all base i rest ds tm hp tm' hp' →
    (∀ k, rest[k]? = all[i + k]?) → (∀ k, ds[k]? = dsA[i + k]?) → tm = foldU (uT all dsA) (List.range i) tm0 → hp = foldU (uH dsA) (List.range i) hp0 →
    (∀ (k : Nat) o d, rest[k]? = some o → ds[k]? = some d → DidOk P all base (i + k) o d (foldU (uT all dsA) (List.range (i + k)) tm0) (foldU (uH dsA) (List.range (i + k)) hp0)) ∧
    tm' = foldU (uT all dsA) (List.range (i + rest.length)) tm0 ∧ hp' = foldU (uH dsA) (List.range (i + rest.length)) hp0
  | [], i, [], tm, hp, tm', hp', h, _, _, h1, h2 => ⟨fun k o d e => by simp at e, by rw [h.1, h1]; simp, by rw [h.2, h2]; simp⟩
  | o :: rest, i, d :: ds, tm, hp, tm', hp', h, e1, e2, h1, h2 => by
    have ho : all[i]? = some o := by have := e1 0; simpa using this.symm
    have hd : dsA[i]? = some d := by have := e2 0; simpa using this.symm
    have uT1 : uT all dsA i = u1 o d := by
      funext t
      unfold uT
      rw [ho, hd]
      rfl
    have uH1 : uH dsA i = d.u := by funext n; unfold uH; rw [hd]
    obtain ⟨g1, g2, g3⟩ := chain_ok (tm0 := tm0) (hp0 := hp0) rest (i + 1) ds _ _ tm' hp' h.2 (fun k => by have := e1 (k + 1); rw [List.getElem?_cons_succ] at this; rw [this]; congr 1; omega) (fun k => by have := e2 (k + 1); rw [List.getElem?_cons_succ] at this; rw [this]; congr 1; omega)
      (by rw [List.range_succ, foldU_append, ← h1]; show _ = ap (uT all dsA i) tm; rw [uT1]) (by rw [List.range_succ, foldU_append, ← h2]; show _ = ap (uH dsA i) hp; rw [uH1])
    refine ⟨fun k o' d' ho' hd' => ?_, by rw [g2]; congr 2; simp; omega, by rw [g3]; congr 2; simp; omega⟩
    cases k with
    | zero =>
      injection ho' with ho'; injection hd' with hd'; subst ho' hd'
      rw [Nat.add_zero, ← h1, ← h2]; exact h.1
    | succ k =>
      have := g1 k o' d' ho' hd'
      rw [show i + (k + 1) = i + 1 + k by omega]; exact this
  | [], _, _ :: _, _, _, _, _, h, _, _, _, _ => h.elim
  | _ :: _, _, [], _, _, _, _, h, _, _, _, _ => h.elim
/-- The state of a frame. -/
structure St where
  (tm : Tm) (h : Hl) (ids : List Nat)
def span : Nat := 65536
/-- The names of the call's arguments, which stay. -/
structure Gm where
  (ρ0 : Nm) (k : Nat)
structure Rel (G : Gm) (F : Fr) (N : Nat) (σ : St) (ρ : Nm) (a : Act) (w : World) : Prop where
  defers : a.defers = []
  tmps : a.tmps.size = N
  vals : ∀ t, VT ρ (tmG σ.tm t) (a.tmps.getD t undef)
  conc : Conc F ρ (hpG σ.h) w
  ids : ∀ n, ρ n ≠ none → n / span ∈ σ.ids
  ext : Ext G.ρ0 ρ
  dom : ∀ n, G.k ≤ n → G.ρ0 n = none
def dstB (N : Nat) : List Oper → Bool
  | [] => true
  | o :: l => (match o.dst with | some d => Nat.blt d N | none => true) && dstB N l
theorem dstB_ok {N : Nat} : ∀ {l : List Oper}, dstB N l = true → ∀ (i : Nat) o d, l[i]? = some o → o.dst = some d → d < N := by
  intro l
  induction l with
  | nil => intro _ i o d h; cases h
  | cons x l ih =>
    intro h i o d hi hd
    unfold dstB at h
    rw [Bool.and_eq_true] at h
    cases i with
    | zero =>
      injection hi with hi; subst hi
      rw [hd] at h
      simpa using h.1
    | succ i => exact ih h.2 i o d hi hd
def memB (n : Nat) : List Nat → Bool
  | [] => false
  | m :: l => match Nat.beq n m with
    | true => true
    | false => memB n l
theorem memB_ok {n : Nat} : ∀ {l : List Nat}, memB n l = false → n ∉ l := by
  intro l
  induction l with
  | nil => intro _ h; cases h
  | cons m l ih =>
    intro h hm
    unfold memB at h
    cases e : Nat.beq n m with
    | true => rw [e] at h; cases h
    | false =>
      rw [e] at h
      rcases List.mem_cons.1 hm with rfl | hm
      · rw [Nat.beq_refl] at e; cases e
      · exact ih h hm
def hdN : List Nat → Nat
  | [] => 0
  | n :: _ => n
noncomputable def vregion (P : Program) (T : Tys) (N : Nat) (id : Nat) (ops : List Oper) (draw : Bool) (σ : St) (Q : St → Prop) : Prop :=
  match σ with
  | ⟨tm, h, ids⟩ => match memB (id + 1) ids with
    | true => False
    | false => match dstB N ops && Nat.ble ops.length 1024 with
      | false => False
      | true => match draw with
        | false => vreg P T false ops (span * (id + 1)) 0 ops tm h [] fun tm h _ => Q ⟨tm, h, (id + 1) :: ids⟩
        | true => vreg P T true ops (span * (id + 1)) 0 ops tm h [] fun tm h rec => Sd (drawB ops rec.reverse = true) (Q ⟨tm, h, (id + 1) :: ids⟩)
theorem name_id {id n i L : Nat} (hL : L ≤ 1024) (hi : i < L) (h1 : span * (id + 1) + stride * i ≤ n) (h2 : n < span * (id + 1) + stride * i + stride) : n / span = id + 1 := by
  have : stride * i + stride ≤ span := by
    have : stride * i + stride = stride * (i + 1) := by rw [Nat.mul_succ]
    rw [this]
    have : stride * (i + 1) ≤ stride * 1024 := Nat.mul_le_mul_left _ (by omega)
    unfold stride span at *; omega
  refine Nat.div_eq_of_lt_le ?_ ?_
  · rw [Nat.mul_comm]; omega
  · have : (id + 1 + 1) * span = span * (id + 1) + span := by rw [Nat.add_mul, Nat.one_mul, Nat.mul_comm]
    rw [this]; omega
theorem names_step {id j L : Nat} {ids : List Nat} {ρ ρ' : Nm} (hL : L ≤ 1024) (hj : j < L) (h : ∀ n, ρ n ≠ none → n / span ∈ (id + 1) :: ids) (hf : ∀ n, ¬ (span * (id + 1) + stride * j ≤ n ∧ n < span * (id + 1) + stride * j + stride) → ρ' n = ρ n) (n : Nat) (hn : ρ' n ≠ none) : n / span ∈ (id + 1) :: ids := by
  by_cases hr : span * (id + 1) + stride * j ≤ n ∧ n < span * (id + 1) + stride * j + stride
  · rw [name_id hL hj hr.1 hr.2]; simp
  · rw [hf n hr] at hn; exact h n hn
theorem region_draw {id' : Nat} {P : Program} (hm : P.follows .mixedOrders = true) {T : Tys} (hT : TysOk P T) {G : Gm} {F : Fr} {N id : Nat} {ops : Array Oper} {σ : St} {ρ : Nm} {a : Act} {w : World} {Q : Exit → Act → World → Prop} {K : St → Prop} (hr : Rel G F N σ ρ a w)
    (hv : vregion P T N id ops.toList true σ K) (hQ : ∀ σ' ρ' a' w', K σ' → Rel G F N σ' ρ' a' w' → Q .normal a' w') : (Code.region id' ops true).wp P Q a w := by
  obtain ⟨tm, h, ids⟩ := σ
  unfold vregion at hv
  simp only [] at hv
  cases e1 : memB (id + 1) ids with
  | true => rw [e1] at hv; exact hv.elim
  | false =>
    rw [e1] at hv
    simp only [] at hv
    cases e2 : (dstB N ops.toList && Nat.ble ops.toList.length 1024) with
    | false => rw [e2] at hv; exact hv.elim
    | true =>
      rw [e2] at hv
      simp only [] at hv
      rw [Bool.and_eq_true] at e2
      have hL := Nat.le_of_ble_eq_true e2.2
      have hfresh0 : ∀ n, n / span = id + 1 → ρ n = none := fun n hn => by
        cases e : ρ n with
        | none => rfl
        | some p => exact absurd (hn ▸ hr.ids n (by rw [e]; simp)) (memB_ok e1)
      obtain ⟨ds, tm', h', h1, h2⟩ := vreg_chain hT _ _ _ _ _ hv
      have hlen := chain_len _ _ _ _ _ _ _ h1
      obtain ⟨g1, g2, g3⟩ := chain_ok (tm0 := tmG tm) (hp0 := hpG h) (dsA := ds) _ _ _ _ _ _ _ h1 (fun k => by simp) (fun k => by simp) rfl rfl
      simp only [Nat.zero_add] at g1 g2 g3
      have hch : ChainOk P ops.toList (span * (id + 1)) ds (tmG tm) (hpG h) := ⟨hlen, fun i o d ho hd => g1 i o d ho hd⟩
      simp only [List.append_nil, List.reverse_reverse] at h2
      obtain ⟨h2, h2'⟩ := h2
      refine wp_region_any hm ?_
      have hops : ops.toList.toArray = ops := by simp
      have hnil : lst ops.toList.length (Array.replicate ops.size false) = [] := by
        unfold lst
        apply List.filter_eq_nil_iff.2
        intro i hi
        have : i < ops.size := by simpa using hi
        simp [this]
      have key := any_go (M := fun ρ => (∀ n, ρ n ≠ none → n / span ∈ (id + 1) :: ids) ∧ Ext G.ρ0 ρ) (P := P) (F := F) (Q := Q) (N := N) (fun j hj ρ ρ' h hx hf => ⟨fun n hn => names_step hL hj h.1 hf n hn, h.2.trans hx⟩) hch h2 (dstB_ok e2.1)
        (fun ρ' a' w' k1 k2 k3 k4 k5 => hQ ⟨tm', h', (id + 1) :: ids⟩ ρ' a' w' h2' ⟨k1, k2, fun t => by rw [g2]; exact k3 t, by rw [g3]; exact k4, k5.1, k5.2, hr.dom⟩)
        ops.size (Array.replicate ops.size false) ρ a { w with drawn := w.drawn + 1 } ⟨by simp, fun i o _ hl => ?_, hr.defers, hr.tmps, fun t => ?_, ?_, fun j hj _ n h3 h4 => hfresh0 n (name_id hL hj h3 h4), ⟨fun n hn => List.mem_cons_of_mem _ (hr.ids n hn), hr.ext⟩⟩ (Nat.le_trans (List.length_filter_le _ _) (by simp))
      · rw [hops] at key; exact key
      · exfalso
        have hl' : (Array.replicate ops.size false).getD i false = true := hl
        by_cases hi : i < ops.size <;> simp [hi] at hl'
      · rw [hnil]; exact hr.vals t
      · rw [hnil]; exact hr.conc.same rfl rfl rfl rfl
end Go.Proofs.Ytffhbadeoadbkaa
