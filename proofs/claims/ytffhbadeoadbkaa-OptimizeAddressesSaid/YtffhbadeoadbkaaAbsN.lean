/- A statement whose order is open: what is found in the order of the text holds in every order. -/
import Derived.Test.YtffhbadeoadbkaaAbsM
namespace Go.Proofs.Ytffhbadeoadbkaa
open Go Go.RowKit

/-- Updates of a store, one after the other. -/
def ap {V : Type} (u : Nat → Option V) (f : Nat → V) : Nat → V := fun k => match u k with
  | some v => v
  | none => f k
def foldU {V : Type} (us : Nat → Nat → Option V) (l : List Nat) (f : Nat → V) : Nat → V := l.foldl (fun f i => ap (us i) f) f
theorem foldU_cons {V : Type} (us : Nat → Nat → Option V) (i : Nat) (l : List Nat) (f : Nat → V) : foldU us (i :: l) f = foldU us l (ap (us i) f) := rfl
theorem foldU_append {V : Type} (us : Nat → Nat → Option V) (l m : List Nat) (f : Nat → V) : foldU us (l ++ m) f = foldU us m (foldU us l f) := by simp [foldU]
theorem foldU_at {V : Type} (us : Nat → Nat → Option V) (k : Nat) : ∀ (l : List Nat) (f g : Nat → V), f k = g k → foldU us l f k = foldU us l g k := by
  intro l
  induction l with
  | nil => intro f g h; exact h
  | cons i l ih =>
    intro f g h
    rw [foldU_cons, foldU_cons]
    refine ih _ _ ?_
    unfold ap
    split
    · rfl
    · exact h
theorem foldU_filter {V : Type} (us : Nat → Nat → Option V) (k : Nat) : ∀ (l : List Nat) (f : Nat → V), foldU us l f k = foldU us (l.filter fun i => (us i k).isSome) f k := by
  intro l
  induction l with
  | nil => intro f; rfl
  | cons i l ih =>
    intro f
    rw [foldU_cons, ih]
    cases e : us i k with
    | some v => rw [List.filter_cons, if_pos (by rw [e]; rfl), foldU_cons]
    | none =>
      rw [List.filter_cons, if_neg (by rw [e]; simp)]
      refine foldU_at us k _ _ _ ?_
      unfold ap; rw [e]
/-- Two lists of updates that agree at those that touch k leave the same at k. -/
theorem foldU_same {V : Type} (us : Nat → Nat → Option V) (k n : Nat) (p q : Nat → Bool) (f : Nat → V) (h : ∀ i, i < n → (us i k).isSome = true → p i = q i) :
    foldU us ((List.range n).filter p) f k = foldU us ((List.range n).filter q) f k := by
  rw [foldU_filter, foldU_filter us k ((List.range n).filter q)]
  rw [List.filter_filter, List.filter_filter]
  congr 1
  apply List.filter_congr
  intro i hi
  have hi : i < n := by simpa using hi
  cases e : (us i k).isSome with
  | false => simp
  | true => rw [h i hi e]
theorem range_filter_lt (n j : Nat) (h : j ≤ n) : (List.range n).filter (fun i => decide (i < j)) = List.range j := by
  induction n with
  | zero => have : j = 0 := by omega
            subst this; rfl
  | succ n ih =>
    rw [List.range_succ, List.filter_append]
    by_cases hj : j ≤ n
    · rw [ih hj]
      simp
      omega
    · have : j = n + 1 := by omega
      subst this
      rw [List.filter_eq_self.2 (by intro i hi; simp at hi ⊢; omega), List.range_succ]
      simp
/-- One more update at its place: as if it came last, where no later one that has been made touches what it touches. -/
theorem foldU_insert {V : Type} (us : Nat → Nat → Option V) (k n j : Nat) (p : Nat → Bool) (f : Nat → V) (hj : j < n) (hp : p j = false) (h : ∀ i, i < n → j < i → p i = true → (us j k).isSome = true → (us i k).isSome = false) :
    foldU us ((List.range n).filter fun i => p i || decide (i = j)) f k = ap (us j) (foldU us ((List.range n).filter p) f) k := by
  cases e : us j k with
  | none =>
    have : ap (us j) (foldU us ((List.range n).filter p) f) k = foldU us ((List.range n).filter p) f k := by unfold ap; rw [e]
    rw [this]
    refine foldU_same us k n _ _ f fun i hi hu => ?_
    have : i ≠ j := by rintro rfl; rw [e] at hu; cases hu
    simp [this]
  | some v =>
    have hr : ap (us j) (foldU us ((List.range n).filter p) f) k = v := by unfold ap; rw [e]
    rw [hr]
    have hsame : foldU us ((List.range n).filter fun i => p i || decide (i = j)) f k = foldU us ((List.range n).filter fun i => (p i && decide (i < j)) || decide (i = j)) f k := by
      refine foldU_same us k n _ _ f fun i hi hu => ?_
      by_cases h1 : i < j
      · simp [h1]
      · by_cases h2 : i = j
        · simp [h2]
        · have : p i = false := by
            cases hpi : p i with
            | false => rfl
            | true => have := h i hi (by omega) hpi (by rw [e]; rfl); rw [this] at hu; cases hu
          simp [h1, h2, this]
    rw [hsame]
    have hsplit : (List.range n).filter (fun i => (p i && decide (i < j)) || decide (i = j)) = ((List.range j).filter p) ++ [j] := by
      clear hr hsame h e
      induction n with
      | zero => omega
      | succ n ih =>
        rw [List.range_succ, List.filter_append]
        by_cases hjn : j < n
        · rw [ih hjn]; simp; omega
        · have : j = n := by omega
          subst this
          have : List.filter (fun i => (p i && decide (i < j)) || decide (i = j)) (List.range j) = List.filter p (List.range j) := by
            apply List.filter_congr
            intro i hi
            have : i < j := by simpa using hi
            simp [this, Nat.ne_of_lt this]
          rw [this]; simp
    rw [hsplit, foldU_append]
    show ap (us j) _ k = v
    unfold ap; rw [e]

inductive Did where
  | skip
  | did (fp : List (Nat × Row)) (e : Ef)
def Did.v : Did → TV
  | .skip => .tup []
  | .did _ e => e.v
def Did.u : Did → Nat → Option (Option Row)
  | .skip, _ => none
  | .did _ e, n => match look e.nw n with
    | some r => some (some r)
    | none => look e.up n
def evF (tm : Nat → TV) : Operand → TV
  | .tmp t => tm t
  | .const v => absC v
  | .func f => .a (.s (.fn (.func f) []))
  | .global _ => .unk
def dstAt (all : List Oper) (j : Nat) : Option Nat := match all[j]? with
  | some o => o.dst
  | none => none
theorem vt_undef (ρ : Nm) : VT ρ (.tup []) undef := ⟨#[], rfl, rfl, fun _ _ h => by simp at h⟩
/-- A test that was not made is not passed. -/
theorem unwanted {all : List Oper} {a : Act} {o : Oper} {g : Nat × Bool} {t : Nat} {ρ : Nm} {l : List AV} (hg : o.guard = some g) (hdt : dstAt all g.1 = some t) (hv : VT ρ (.tup l) (a.tmps.getD t undef)) : Region.wanted o (yielded all.toArray a.tmps) = false := by
  obtain ⟨vs, hv, _⟩ := hv
  have hy : yielded all.toArray a.tmps g.1 = none := by
    unfold yielded
    have : (all.toArray[g.1]?).bind (·.dst) = some t := by
      unfold dstAt at hdt
      cases e : all[g.1]? with
      | none => rw [e] at hdt; cases hdt
      | some og => rw [e] at hdt; simp [e, hdt]
    rw [this]
    cases e : a.tmps[t]? with
    | none => simp [e]
    | some v =>
      have : v = .tuple vs := by rw [Array.getD_eq_getD_getElem?, e] at hv; exact hv
      subst this; simp [e]
  unfold Region.wanted
  rw [hg]
  simp [hy]
theorem ev_ok {ρ : Nm} {tm : Nat → TV} {a : Act} (x : Operand) (h : ∀ t, x = .tmp t → VT ρ (tm t) (a.tmps.getD t undef)) : VT ρ (evF tm x) (a.eval x) := by
  cases x with
  | tmp t => exact h t rfl
  | const v => exact absC_ok ρ v
  | global g => exact trivial
  | func f => exact ⟨#[], rfl, rfl, fun k p e => by simp at e⟩
def DidOk (P : Program) (all : List Oper) (base i : Nat) (o : Oper) (d : Did) (tm : Nat → TV) (hp : Hp) : Prop :=
  match d with
  | .did fp e => (∀ g, o.guard = some g → ∃ t, dstAt all g.1 = some t ∧ tm t = .a (.s (.bool g.2))) ∧ SemOp P o (evF tm) (base + stride * i) fp (· = e) ∧ (∀ p ∈ fp, hp p.1 = some p.2) ∧ EfOk (base + stride * i) fp e
  | .skip => ∃ g t, o.guard = some g ∧ dstAt all g.1 = some t ∧ ((∃ b, tm t = .a (.s (.bool b)) ∧ b ≠ g.2) ∨ ∃ l, tm t = .tup l)
def uT (all : List Oper) (ds : List Did) (i : Nat) : Nat → Option TV := fun t => match all[i]?, ds[i]? with
  | some o, some d => match o.dst with
    | some t' => if t = t' then some d.v else none
    | none => none
  | _, _ => none
def uH (ds : List Did) (i : Nat) : Nat → Option (Option Row) := fun n => match ds[i]? with
  | some d => d.u n
  | none => none
def ChainOk (P : Program) (all : List Oper) (base : Nat) (ds : List Did) (tm : Nat → TV) (hp : Hp) : Prop :=
  all.length = ds.length ∧ ∀ (i : Nat) o d, all[i]? = some o → ds[i]? = some d → DidOk P all base i o d (foldU (uT all ds) (List.range i) tm) (foldU (uH ds) (List.range i) hp)

def maskOf (o : Oper) (acc : List Nat) : Nat := o.after.toList.foldl (fun s e => if Region.binds .any e then s ||| 2 ^ e.on ||| acc.getD e.on 0 else s) 0
def predsGo : List Oper → List Nat → List Nat
  | [], acc => acc
  | o :: l, acc => predsGo l (acc ++ [maskOf o acc])
def Closed (all : List Oper) (L : Nat → Prop) : Prop := ∀ i o, all[i]? = some o → L i → ∀ e ∈ o.after, Region.binds .any e = true → L e.on
theorem mask_bit (acc : List Nat) (i : Nat) : ∀ (l : List Edge) (s : Nat), (l.foldl (fun s e => if Region.binds .any e then s ||| 2 ^ e.on ||| acc.getD e.on 0 else s) s).testBit i = true →
    s.testBit i = true ∨ ∃ e ∈ l, Region.binds .any e = true ∧ (i = e.on ∨ (acc.getD e.on 0).testBit i = true) := by
  intro l
  induction l with
  | nil => intro s h; exact .inl h
  | cons e l ih =>
    intro s h
    rw [List.foldl_cons] at h
    rcases ih _ h with h1 | ⟨e', h1, h2⟩
    · by_cases hb : Region.binds .any e = true
      · rw [if_pos hb, Nat.testBit_or, Nat.testBit_or, Bool.or_eq_true, Bool.or_eq_true] at h1
        rcases h1 with (h1 | h1) | h1
        · exact .inl h1
        · rw [Nat.testBit_two_pow] at h1
          exact .inr ⟨e, by simp, hb, .inl (by simpa using h1 : e.on = i).symm⟩
        · exact .inr ⟨e, by simp, hb, .inr h1⟩
      · rw [if_neg hb] at h1; exact .inl h1
    · exact .inr ⟨e', by simp [h1], h2⟩
theorem preds_ok (all : List Oper) (L : Nat → Prop) (hL : Closed all L) : ∀ (l : List Oper) (acc : List Nat), (∃ pre, all = pre ++ l ∧ pre.length = acc.length) → (∀ k, L k → ∀ i, (acc.getD k 0).testBit i = true → L i) →
    ∀ k, L k → ∀ i, ((predsGo l acc).getD k 0).testBit i = true → L i := by
  intro l
  induction l with
  | nil => intro acc _ h; exact h
  | cons o l ih =>
    rintro acc ⟨pre, rfl, hpre⟩ h
    refine ih _ ⟨pre ++ [o], by simp, by simp [hpre]⟩ fun k hk i hi => ?_
    by_cases h1 : k < acc.length
    · refine h k hk i ?_
      rw [List.getD_eq_getElem?_getD, List.getElem?_append_left h1, ← List.getD_eq_getElem?_getD] at hi
      exact hi
    · by_cases h2 : k = acc.length
      · subst h2
        have e1 : (acc ++ [maskOf o acc]).getD acc.length 0 = maskOf o acc := by simp [List.getD]
        rw [e1] at hi
        rcases mask_bit acc i _ _ hi with h3 | ⟨e, h3, h4, h5⟩
        · simp at h3
        · have h6 : L e.on := hL acc.length o (by rw [← hpre]; simp) hk e (by simpa using h3) h4
          rcases h5 with rfl | h5
          · exact h6
          · exact h _ h6 i h5
      · rw [List.getD_eq_getElem?_getD, List.getElem?_eq_none (by simp; omega)] at hi
        simp at hi
def disj (l m : List Nat) : Bool := l.all fun x => m.all fun y => !Nat.beq x y
def Did.rd : Did → List Nat
  | .skip => []
  | .did fp _ => fp.map (·.1)
def Did.wr : Did → List Nat
  | .skip => []
  | .did _ e => e.up.map (·.1) ++ e.nw.map (·.1)
def apartB (all : List Oper) (ds : List Did) (i j : Nat) : Bool :=
  match all[i]?, all[j]?, ds[i]?, ds[j]? with
  | some x, some y, some d, some e => x.apart all.toArray y && disj d.wr e.rd && disj e.wr d.rd
  | _, _, _, _ => true
def edgesB : List Oper → Nat → Bool
  | [], _ => true
  | o :: l, i => (o.after.toList.all fun e => !Region.binds .any e || Nat.blt e.on i) && edgesB l (i + 1)
def drawB (all : List Oper) (ds : List Did) : Bool :=
  edgesB all 0 && (List.range all.length).all fun j => (List.range j).all fun i => ((predsGo all []).getD j 0).testBit i || apartB all ds i j
theorem edges_ok : ∀ (l : List Oper) (i : Nat), edgesB l i = true → ∀ (j : Nat) o, l[j]? = some o → ∀ e ∈ o.after, Region.binds .any e = true → e.on < i + j := by
  intro l
  induction l with
  | nil => intro i _ j o h; cases h
  | cons x l ih =>
    intro i h j o hj e he hb
    unfold edgesB at h
    rw [Bool.and_eq_true] at h
    cases j with
    | zero =>
      injection hj with hj; subst hj
      have := List.all_eq_true.1 h.1 e (by simpa using he)
      rw [hb] at this
      simpa using this
    | succ j =>
      have := ih (i + 1) h.2 j o hj e he hb
      omega
theorem disj_ok {l m : List Nat} (h : disj l m = true) {x : Nat} (h1 : x ∈ l) (h2 : x ∈ m) : False := by
  have := List.all_eq_true.1 (List.all_eq_true.1 h x h1) x h2
  rw [Nat.beq_refl] at this; cases this
theorem look_mem {α : Type} {l : List (Nat × α)} {n : Nat} {x : α} (h : look l n = some x) : (n, x) ∈ l := by
  induction l with
  | nil => cases h
  | cons p l ih =>
    unfold look at h
    cases hb : Nat.beq n p.1 with
    | true => rw [hb] at h; injection h with h; have := Nat.eq_of_beq_eq_true hb; subst this; subst h; simp
    | false => rw [hb] at h; simp [ih h]
theorem u_wr {d : Did} {n : Nat} (h : (d.u n).isSome = true) : n ∈ d.wr := by
  cases d with
  | skip => cases h
  | did fp e =>
    unfold Did.u at h
    unfold Did.wr
    simp only [] at h
    cases e1 : look e.nw n with
    | some r => exact List.mem_append_right _ (List.mem_map.2 ⟨_, look_mem e1, rfl⟩)
    | none =>
      rw [e1] at h
      cases e2 : look e.up n with
      | some r => exact List.mem_append_left _ (List.mem_map.2 ⟨_, look_mem e2, rfl⟩)
      | none => rw [e2] at h; cases h
theorem ap_app (fp : List (Nat × Row)) (e : Ef) (hp : Hp) : ap ((Did.did fp e).u) hp = e.app hp := by
  funext n
  have h1 : (Did.did fp e).u n = match look e.nw n with | some r => some (some r) | none => look e.up n := rfl
  unfold ap Ef.app
  rw [h1]
  cases look e.nw n with
  | some r => rfl
  | none => cases look e.up n <;> rfl
end Go.Proofs.Ytffhbadeoadbkaa
