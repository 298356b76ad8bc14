/- An abstract machine for walks: abstract values, rows of memory by name, and what they say of a world. -/
import Derived.Orders
import Derived.Scope
import Derived.RowKit3
import Derived.Below
import Derived.Lib.Hide
import Derived.Deep.AppendSrc
import Derived.Laws.CopyRow
import Derived.Laws.Slices
import Derived.Laws.Rows
import Derived.Laws.Shifts
import Derived.KernelRfl
namespace Go.Proofs.Ytffhbadeoadbkaa
open Go Go.RowKit

/-- A value of one cell: addresses by the name of the row and the offset in it. -/
inductive SV where
  | unk
  | bool (b : Bool)
  | int (k : IntKind) (n : Int)
  | str (s : ByteArray)
  | nil
  | ptr (i o : Nat)
  | nilsl
  | sl (i o n : Nat)
  | fn (f : Fn) (cap : List (Nat × Nat))
inductive AV where
  | s (x : SV)
  | agg (l : List SV)
inductive TV where
  | unk
  | a (x : AV)
  | tup (l : List AV)
/-- Where a name lies: a block, an offset, the block's size, the cells of an element. -/
structure Loc where
  (b δ tot es : Nat)
inductive PL where
  | empty
  | at (L : Loc)
abbrev Nm := Nat → Option PL
/-- A row of cells. -/
structure Row where
  (own : Bool) (es : Nat) (cells : List SV)
abbrev Hp := Nat → Option Row

def VS (ρ : Nm) : SV → Value → Prop
  | .unk, _ => True
  | .bool b, v => v = .bool b
  | .int k n, v => v = .int k n
  | .str s, v => v = .string s
  | .nil, v => v = .pointer none
  | .ptr i o, v => ∃ L, ρ i = some (.at L) ∧ v = .pointer (some ⟨L.b, L.δ + o, none⟩)
  | .nilsl, v => v = .slice none 0 0
  | .sl i o n, v => ∃ A c, v = .slice A n c ∧ n ≤ c ∧
      ((∃ L, ρ i = some (.at L) ∧ ((A = some ⟨L.b, L.δ + o, none⟩ ∧ L.δ + o + c * L.es ≤ L.tot) ∨ c = 0)) ∨ (ρ i = some .empty ∧ c = 0))
  | .fn f cap, v => ∃ vs : Array Value, v = .func f #[] vs ∧ vs.size = cap.length ∧
      ∀ (k : Nat) (p : Nat × Nat), cap[k]? = some p → ∃ L, ρ p.1 = some (.at L) ∧ vs[k]? = some (Value.pointer (some ⟨L.b, L.δ + p.2, none⟩))
def VSs (ρ : Nm) (l : List SV) (cs : List Value) : Prop := l.length = cs.length ∧ ∀ (k : Nat) s, l[k]? = some s → ∃ v, cs[k]? = some v ∧ VS ρ s v
def VA (ρ : Nm) : AV → Value → Prop
  | .s x, v => VS ρ x v
  | .agg l, v => ∃ cs, v = .agg cs ∧ VSs ρ l cs.toList
def VAs (ρ : Nm) (l : List AV) (cs : List Value) : Prop := l.length = cs.length ∧ ∀ (k : Nat) s, l[k]? = some s → ∃ v, cs[k]? = some v ∧ VA ρ s v
def VT (ρ : Nm) : TV → Value → Prop
  | .unk, _ => True
  | .a x, v => VA ρ x v
  | .tup l, v => ∃ vs, v = .tuple vs ∧ VAs ρ l vs.toList

/-- More names are known. -/
def Ext (ρ ρ' : Nm) : Prop := ∀ i p, ρ i = some p → ρ' i = some p
theorem Ext.refl (ρ : Nm) : Ext ρ ρ := fun _ _ h => h
theorem Ext.trans {a b c : Nm} (h : Ext a b) (k : Ext b c) : Ext a c := fun i p hi => k i p (h i p hi)
theorem VS.ext {ρ ρ' : Nm} (h : Ext ρ ρ') {s : SV} {v : Value} (hv : VS ρ s v) : VS ρ' s v := by
  cases s <;> simp only [VS] at hv ⊢ <;> try exact hv
  case ptr i o => obtain ⟨L, hL, e⟩ := hv; exact ⟨L, h _ _ hL, e⟩
  case sl i o n =>
    obtain ⟨A, c, e, hc, h1 | h1⟩ := hv
    · obtain ⟨L, hL, h2⟩ := h1; exact ⟨A, c, e, hc, .inl ⟨L, h _ _ hL, h2⟩⟩
    · exact ⟨A, c, e, hc, .inr ⟨h _ _ h1.1, h1.2⟩⟩
  case fn f cap =>
    obtain ⟨vs, e, hn, hk⟩ := hv
    exact ⟨vs, e, hn, fun k p hp => by obtain ⟨L, hL, e⟩ := hk k p hp; exact ⟨L, h _ _ hL, e⟩⟩
theorem VSs.ext {ρ ρ' : Nm} (h : Ext ρ ρ') {l : List SV} {cs : List Value} (hv : VSs ρ l cs) : VSs ρ' l cs :=
  ⟨hv.1, fun k s hs => by obtain ⟨v, h1, h2⟩ := hv.2 k s hs; exact ⟨v, h1, h2.ext h⟩⟩
theorem VA.ext {ρ ρ' : Nm} (h : Ext ρ ρ') {s : AV} {v : Value} (hv : VA ρ s v) : VA ρ' s v := by
  cases s with
  | s x => exact VS.ext h hv
  | agg l => obtain ⟨cs, e, hc⟩ := hv; exact ⟨cs, e, hc.ext h⟩
theorem VAs.ext {ρ ρ' : Nm} (h : Ext ρ ρ') {l : List AV} {cs : List Value} (hv : VAs ρ l cs) : VAs ρ' l cs :=
  ⟨hv.1, fun k s hs => by obtain ⟨v, h1, h2⟩ := hv.2 k s hs; exact ⟨v, h1, h2.ext h⟩⟩
theorem VT.ext {ρ ρ' : Nm} (h : Ext ρ ρ') {s : TV} {v : Value} (hv : VT ρ s v) : VT ρ' s v := by
  cases s with
  | unk => exact trivial
  | a x => exact VA.ext h hv
  | tup l => obtain ⟨cs, e, hc⟩ := hv; exact ⟨cs, e, hc.ext h⟩

/-- What a row's name says of a world. -/
def RowOk (ρ : Nm) (w : World) (n : Nat) (r : Row) : Prop :=
  match ρ n with
  | none => False
  | some .empty => r.cells = []
  | some (.at L) => L.es = r.es ∧ L.δ + r.cells.length ≤ L.tot ∧ ∃ c t fz, w.heap[L.b]? = some (.cells c t fz) ∧ c.size = L.tot ∧ (r.own = true → fz = (0, 0)) ∧
      ∀ k s, r.cells[k]? = some s → ∃ v, c[L.δ + k]? = some v ∧ VS ρ s v
/-- The world in which the call began, and the blocks that it may write. -/
structure Fr where
  w0 : World
  O : Nat → Prop
structure Conc (F : Fr) (ρ : Nm) (hp : Hp) (w : World) : Prop where
  rows : ∀ n r, hp n = some r → RowOk ρ w n r
  apart : ∀ n r m s Ln Lm, hp n = some r → r.own = true → hp m = some s → n ≠ m → ρ n = some (.at Ln) → ρ m = some (.at Lm) → Ln.b ≠ Lm.b
  mine : ∀ n r L, hp n = some r → r.own = true → ρ n = some (.at L) → F.O L.b ∨ F.w0.heap.size ≤ L.b
  os : w.os = F.w0.os
  tape : w.tape = F.w0.tape
  output : w.output = F.w0.output
  size : F.w0.heap.size ≤ w.heap.size
  block : ∀ b, b < F.w0.heap.size → ¬ F.O b → w.heap[b]? = F.w0.heap[b]?

theorem RowOk.ext {ρ ρ' : Nm} (h : Ext ρ ρ') {w : World} {n : Nat} {r : Row} (hr : RowOk ρ w n r) : RowOk ρ' w n r := by
  unfold RowOk at hr ⊢
  cases e : ρ n with
  | none => rw [e] at hr; exact hr.elim
  | some p =>
    rw [e] at hr
    rw [h n p e]
    cases p with
    | empty => exact hr
    | «at» L =>
      obtain ⟨h1, h0, c, t, fz, h2, h3, h4, h5⟩ := hr
      exact ⟨h1, h0, c, t, fz, h2, h3, h4, fun k s hs => by obtain ⟨v, hv, hw⟩ := h5 k s hs; exact ⟨v, hv, hw.ext h⟩⟩
theorem RowOk.lt {ρ : Nm} {w : World} {n : Nat} {r : Row} {L : Loc} (hr : RowOk ρ w n r) (e : ρ n = some (.at L)) : L.b < w.heap.size := by
  unfold RowOk at hr
  rw [e] at hr
  obtain ⟨_, _, c, t, fz, h2, _⟩ := hr
  exact (Array.getElem?_eq_some_iff.1 h2).1
theorem RowOk.of_block {ρ : Nm} {w w' : World} {n : Nat} {r : Row} (hr : RowOk ρ w n r) (h : ∀ L, ρ n = some (.at L) → w'.heap[L.b]? = w.heap[L.b]?) : RowOk ρ w' n r := by
  unfold RowOk at hr ⊢
  cases e : ρ n with
  | none => rw [e] at hr; exact hr.elim
  | some p =>
    rw [e] at hr
    cases p with
    | empty => exact hr
    | «at» L =>
      obtain ⟨h1, h0, c, t, fz, h2, h3⟩ := hr
      exact ⟨h1, h0, c, t, fz, (h L e).trans h2, h3⟩
theorem Conc.same {F : Fr} {ρ : Nm} {hp : Hp} {w w' : World} (h : Conc F ρ hp w) (h1 : w'.heap = w.heap) (h2 : w'.os = w.os) (h3 : w'.tape = w.tape) (h4 : w'.output = w.output) : Conc F ρ hp w' :=
  ⟨fun n r hr => (h.rows n r hr).of_block (fun L _ => by rw [h1]), h.apart, h.mine, h2.trans h.os, h3.trans h.tape, h4.trans h.output, by rw [h1]; exact h.size, fun b hb ho => by rw [h1]; exact h.block b hb ho⟩
theorem Conc.drew {F : Fr} {ρ : Nm} {hp : Hp} {w : World} (h : Conc F ρ hp w) : Conc F ρ hp w.drew := h.same rfl rfl rfl rfl
theorem Conc.ext {F : Fr} {ρ ρ' : Nm} (h : Ext ρ ρ') {hp : Hp} {w : World} (hc : Conc F ρ hp w) : Conc F ρ' hp w := by
  have key : ∀ n r L, hp n = some r → ρ' n = some (.at L) → ρ n = some (.at L) := fun n r L hn hL => by
    have := hc.rows n r hn
    unfold RowOk at this
    cases e : ρ n with
    | none => rw [e] at this; exact this.elim
    | some p => rw [← hL]; exact (h n p e).symm
  exact ⟨fun n r hr => (hc.rows n r hr).ext h, fun n r m s Ln Lm h1 h2 h3 h4 h5 h6 => hc.apart n r m s Ln Lm h1 h2 h3 h4 (key _ _ _ h1 h5) (key _ _ _ h3 h6),
    fun n r L h1 h2 h3 => hc.mine n r L h1 h2 (key _ _ _ h1 h3), hc.os, hc.tape, hc.output, hc.size, hc.block⟩
/-- Fewer rows are spoken of. -/
theorem Conc.less {F : Fr} {ρ : Nm} {hp hp' : Hp} {w : World} (hc : Conc F ρ hp w) (h : ∀ n r, hp' n = some r → hp n = some r) : Conc F ρ hp' w :=
  ⟨fun n r hr => hc.rows n r (h n r hr), fun n r m s Ln Lm h1 h2 h3 => hc.apart n r m s Ln Lm (h _ _ h1) h2 (h _ _ h3), fun n r L h1 => hc.mine n r L (h _ _ h1), hc.os, hc.tape, hc.output, hc.size, hc.block⟩

def Hp.set (hp : Hp) (n : Nat) (r : Option Row) : Hp := fun m => if m = n then r else hp m
def Nm.set (ρ : Nm) (n : Nat) (p : PL) : Nm := fun m => if m = n then some p else ρ m
theorem Nm.set_ext {ρ : Nm} {n : Nat} (h : ρ n = none) (p : PL) : Ext ρ (Nm.set ρ n p) := fun i q hi => by
  unfold Nm.set
  split
  · rename_i e; subst e; rw [h] at hi; cases hi
  · exact hi
theorem Nm.set_same (ρ : Nm) (n : Nat) (p : PL) : Nm.set ρ n p n = some p := by simp [Nm.set]
theorem Conc.dom {F : Fr} {ρ : Nm} {hp : Hp} {w : World} (hc : Conc F ρ hp w) {n : Nat} (h : ρ n = none) : hp n = none := by
  cases e : hp n with
  | none => rfl
  | some r => have := hc.rows n r e; unfold RowOk at this; rw [h] at this; exact this.elim

/-- A new block. -/
theorem Conc.new {F : Fr} {ρ : Nm} {hp : Hp} {w : World} (hc : Conc F ρ hp w) {n : Nat} (hn : ρ n = none) (es : Nat) (cells : List SV) (c : Array Value) (t : TypeId) (hl : cells.length ≤ c.size)
    (hv : ∀ (k : Nat) s, cells[k]? = some s → ∃ v, c[k]? = some v ∧ VS ρ s v) :
    Ext ρ (Nm.set ρ n (.at ⟨w.heap.size, 0, c.size, es⟩)) ∧ Conc F (Nm.set ρ n (.at ⟨w.heap.size, 0, c.size, es⟩)) (Hp.set hp n (some ⟨true, es, cells⟩)) (w.alloc (.cells c t)) := by
  have hx := Nm.set_ext hn (.at ⟨w.heap.size, 0, c.size, es⟩)
  have hd := hc.dom hn
  refine ⟨hx, ?_⟩
  have old : ∀ m r L, hp m = some r → Nm.set ρ n (.at ⟨w.heap.size, 0, c.size, es⟩) m = some (.at L) → L.b < w.heap.size := fun m r L hm hL => by
    have h1 := (hc.ext hx).rows m r hm
    exact h1.lt hL
  refine ⟨fun m r hr => ?_, fun m r k s Ln Lm h1 h2 h3 h4 h5 h6 => ?_, fun m r L h1 h2 h3 => ?_, hc.os, hc.tape, hc.output, ?_, fun b hb ho => ?_⟩
  · unfold Hp.set at hr
    split at hr
    · rename_i e; subst e; injection hr with hr; subst hr
      unfold RowOk
      rw [Nm.set_same]
      refine ⟨rfl, by simpa using hl, c, t, (0, 0), heap_alloc_new w _, rfl, fun _ => rfl, fun k s hs => ?_⟩
      obtain ⟨v, h1, h2⟩ := hv k s hs
      exact ⟨v, by simpa using h1, h2.ext hx⟩
    · exact ((hc.rows m r hr).ext hx).of_block fun L hL => Below.heap_alloc _ _ _ (old m r L hr hL)
  · unfold Hp.set at h1 h3
    split at h1
    · rename_i e; subst e
      split at h3
      · rename_i e2; exact absurd e2.symm h4
      · rw [Nm.set_same] at h5; injection h5 with h5; injection h5 with h5; subst h5
        have := old k s Lm h3 h6
        simp only []
        omega
    · split at h3
      · rename_i e; subst e
        rw [Nm.set_same] at h6; injection h6 with h6; injection h6 with h6; subst h6
        have := old m r Ln h1 h5
        simp only []
        omega
      · exact (hc.ext hx).apart m r k s Ln Lm h1 h2 h3 h4 h5 h6
  · unfold Hp.set at h1
    split at h1
    · rename_i e; subst e
      rw [Nm.set_same] at h3; injection h3 with h3; injection h3 with h3; subst h3
      exact .inr hc.size
    · exact (hc.ext hx).mine m r L h1 h2 h3
  · have := hc.size; simp; omega
  · have := hc.size
    rw [Below.heap_alloc _ _ _ (by omega)]
    exact hc.block b hb ho
/-- A name for an empty row that has no block. -/
theorem Conc.newEmpty {F : Fr} {ρ : Nm} {hp : Hp} {w : World} (hc : Conc F ρ hp w) {n : Nat} (hn : ρ n = none) (es : Nat) :
    Ext ρ (Nm.set ρ n .empty) ∧ Conc F (Nm.set ρ n .empty) (Hp.set hp n (some ⟨true, es, []⟩)) w := by
  have hx := Nm.set_ext hn .empty
  have hd := hc.dom hn
  refine ⟨hx, ?_⟩
  have hc' := hc.ext hx
  refine ⟨fun m r hr => ?_, fun m r k s Ln Lm h1 h2 h3 h4 h5 h6 => ?_, fun m r L h1 h2 h3 => ?_, hc.os, hc.tape, hc.output, hc.size, hc.block⟩
  · unfold Hp.set at hr
    split at hr
    · rename_i e; subst e; injection hr with hr; subst hr
      unfold RowOk; rw [Nm.set_same]
    · exact hc'.rows m r hr
  · unfold Hp.set at h1 h3
    split at h1
    · rename_i e; subst e; rw [Nm.set_same] at h5; cases h5
    · split at h3
      · rename_i e; subst e; rw [Nm.set_same] at h6; cases h6
      · exact hc'.apart m r k s Ln Lm h1 h2 h3 h4 h5 h6
  · unfold Hp.set at h1
    split at h1
    · rename_i e; subst e; rw [Nm.set_same] at h3; cases h3
    · exact hc'.mine m r L h1 h2 h3
/-- A row of the call's own gets other cells. -/
theorem Conc.write {F : Fr} {ρ : Nm} {hp : Hp} {w w' : World} (hc : Conc F ρ hp w) {n : Nat} {r : Row} {L : Loc} (hr : hp n = some r) (ho : r.own = true) (hL : ρ n = some (.at L))
    {c' : Array Value} {t : TypeId} (cells : List SV) (h0 : w'.heap[L.b]? = some (.cells c' t (0, 0))) (hsz : c'.size = L.tot) (hll : L.δ + cells.length ≤ L.tot)
    (hv : ∀ (k : Nat) s, cells[k]? = some s → ∃ v, c'[L.δ + k]? = some v ∧ VS ρ s v)
    (h1 : ∀ b, b ≠ L.b → w'.heap[b]? = w.heap[b]?) (h2 : w'.heap.size = w.heap.size) (h3 : w'.os = w.os) (h4 : w'.tape = w.tape) (h5 : w'.output = w.output) :
    Conc F ρ (Hp.set hp n (some { r with cells := cells })) w' := by
  have hr0 := hc.rows n r hr
  refine ⟨fun m s hs => ?_, fun m s k u Ln Lm e1 e2 e3 e4 e5 e6 => ?_, fun m s M e1 e2 e3 => ?_, h3.trans hc.os, h4.trans hc.tape, h5.trans hc.output, by rw [h2]; exact hc.size, fun b hb hno => ?_⟩
  · unfold Hp.set at hs
    split at hs
    · rename_i e; subst e; injection hs with hs; subst hs
      unfold RowOk at hr0 ⊢
      rw [hL] at hr0 ⊢
      exact ⟨hr0.1, hll, c', t, (0, 0), h0, hsz, fun _ => rfl, hv⟩
    · rename_i hne
      refine (hc.rows m s hs).of_block fun M hM => h1 _ ?_
      exact fun e => hc.apart n r m s L M hr ho hs (fun e => hne e.symm) hL hM e.symm
  · unfold Hp.set at e1 e3
    split at e1
    · rename_i e; subst e; injection e1 with e1; subst e1
      split at e3
      · rename_i e; exact absurd e.symm e4
      · exact hc.apart m r k u Ln Lm hr ho e3 e4 e5 e6
    · split at e3
      · rename_i e; subst e
        exact hc.apart m s k r Ln Lm e1 e2 hr e4 e5 e6
      · exact hc.apart m s k u Ln Lm e1 e2 e3 e4 e5 e6
  · unfold Hp.set at e1
    split at e1
    · rename_i e; subst e; exact hc.mine m r M hr ho e3
    · exact hc.mine m s M e1 e2 e3
  · have hb' : b ≠ L.b := by
      intro e
      rcases hc.mine n r L hr ho hL with h | h
      · exact hno (e ▸ h)
      · omega
    rw [h1 b hb']; exact hc.block b hb hno
/-- A row of the call's own is grown where it lies, under a new name. -/
theorem Conc.grow {F : Fr} {ρ : Nm} {hp : Hp} {w w' : World} (hc : Conc F ρ hp w) {n m : Nat} {r : Row} {L : Loc} (hm : ρ m = none) (hr : hp n = some r) (ho : r.own = true) (hL : ρ n = some (.at L))
    {c' : Array Value} {t : TypeId} (cells : List SV) (h0 : w'.heap[L.b]? = some (.cells c' t (0, 0))) (hsz : c'.size = L.tot) (hll : L.δ + cells.length ≤ L.tot)
    (hv : ∀ (k : Nat) s, cells[k]? = some s → ∃ v, c'[L.δ + k]? = some v ∧ VS ρ s v)
    (h1 : ∀ b, b ≠ L.b → w'.heap[b]? = w.heap[b]?) (h2 : w'.heap.size = w.heap.size) (h3 : w'.os = w.os) (h4 : w'.tape = w.tape) (h5 : w'.output = w.output) :
    Ext ρ (Nm.set ρ m (.at L)) ∧ Conc F (Nm.set ρ m (.at L)) (Hp.set (Hp.set hp n none) m (some { r with cells := cells })) w' := by
  have hx := Nm.set_ext hm (.at L)
  refine ⟨hx, ?_⟩
  have hd := hc.dom hm
  have hmn : m ≠ n := by rintro rfl; rw [hm] at hL; cases hL
  have hw := (hc.ext hx).write hr ho (hx _ _ hL) cells h0 hsz hll (fun k s hs => by obtain ⟨v, a, b⟩ := hv k s hs; exact ⟨v, a, b.ext hx⟩) h1 h2 h3 h4 h5
  have hn' : Hp.set hp n (some { r with cells := cells }) n = some { r with cells := cells } := by simp [Hp.set]
  have hLn := hx _ _ hL
  refine ⟨fun k s hs => ?_, fun k s j u Ln Lm e1 e2 e3 e4 e5 e6 => ?_, fun k s M e1 e2 e3 => ?_, hw.os, hw.tape, hw.output, hw.size, hw.block⟩
  · unfold Hp.set at hs
    split at hs
    · rename_i e; subst e; injection hs with hs; subst hs
      have := hw.rows n _ hn'
      unfold RowOk at this ⊢
      rw [hLn] at this
      rw [Nm.set_same]
      exact this
    · split at hs
      · cases hs
      · rename_i hk1 hk2; exact hw.rows k s (by simp [Hp.set, hk2, hs])
  · unfold Hp.set at e1 e3
    split at e1
    · rename_i e; subst e; injection e1 with e1; subst e1
      rw [Nm.set_same] at e5; injection e5 with e5; injection e5 with e5; subst e5
      split at e3
      · rename_i e; exact absurd e.symm e4
      · split at e3
        · cases e3
        · rename_i hj1 hj2
          exact hw.apart n _ j u L Lm hn' ho (by simp [Hp.set, hj2, e3]) (fun e => hj2 e.symm) hLn e6
    · split at e1
      · cases e1
      · rename_i hk1 hk2
        split at e3
        · rename_i e; subst e; injection e3 with e3; subst e3
          rw [Nm.set_same] at e6; injection e6 with e6; injection e6 with e6; subst e6
          exact hw.apart k s n _ Ln L (by simp [Hp.set, hk2, e1]) e2 hn' hk2 e5 hLn
        · split at e3
          · cases e3
          · rename_i hj1 hj2
            exact hw.apart k s j u Ln Lm (by simp [Hp.set, hk2, e1]) e2 (by simp [Hp.set, hj2, e3]) e4 e5 e6
  · unfold Hp.set at e1
    split at e1
    · rename_i e; subst e; injection e1 with e1; subst e1
      rw [Nm.set_same] at e3; injection e3 with e3; injection e3 with e3; subst e3
      exact hw.mine n _ L hn' ho hLn
    · split at e1
      · cases e1
      · rename_i hk1 hk2
        exact hw.mine k s M (by simp [Hp.set, hk2, e1]) e2 e3
end Go.Proofs.Ytffhbadeoadbkaa
