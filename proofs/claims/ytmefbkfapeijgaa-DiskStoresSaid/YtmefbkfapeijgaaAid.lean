/- Small words for walks: what a string reads as, what is kept below a block. -/
import Derived.Test.YtmefbkfapeijgaaLawB
namespace Go.Proofs.Ytmefbkfapeijgaa
open Go.RowKit

theorem tl_loop (b : ByteArray) (i : Nat) (r : List UInt8) : ByteArray.toList.loop b i r = r.reverse ++ b.data.toList.drop i := by
  fun_induction ByteArray.toList.loop b i r with
  | case1 i r h ih =>
    rw [ih]
    have : i < b.data.toList.length := by simpa using h
    rw [List.drop_eq_getElem_cons this]
    simp
    exact getElem!_pos b.data i h
  | case2 i r h =>
    rw [List.drop_eq_nil_of_le (by simpa using h)]; simp
@[simp] theorem str_toList (l : List UInt8) : (str l).toList = l := by
  unfold ByteArray.toList; rw [tl_loop]; simp [str]
theorem bcell {W w1 : World} (hb : Below W.heap.size W w1) : (∀ b o, b < W.heap.size → w1.cell? ⟨b, o, none⟩ = W.cell? ⟨b, o, none⟩) ∧ (∀ b o, b < W.heap.size → w1.frozen? ⟨b, o, none⟩ = W.frozen? ⟨b, o, none⟩) :=
  ⟨fun b o h => hb.cell (p := ⟨b, o, none⟩) h, fun b o h => hb.frozen (p := ⟨b, o, none⟩) h⟩
/-- One old block reads as before. -/
theorem bone {W w1 : World} (hb : Below W.heap.size W w1) (b : Nat) (h : b < W.heap.size) : (∀ o, w1.cell? ⟨b, o, none⟩ = W.cell? ⟨b, o, none⟩) ∧ (∀ o, w1.frozen? ⟨b, o, none⟩ = W.frozen? ⟨b, o, none⟩) :=
  ⟨fun o => hb.cell (p := ⟨b, o, none⟩) h, fun o => hb.frozen (p := ⟨b, o, none⟩) h⟩
/-- A block that was just made reads as what was laid into it. -/
theorem rd_new_at {X : World} {b : Nat} (hb : X.heap.size = b) (cs : List Value) (t : TypeId) : Rd (X.alloc (.cells cs.toArray t (0, 0))).drew (X.alloc (.cells cs.toArray t (0, 0))).drew.heap.size (some ⟨b, 0, none⟩) cs := by
  subst hb
  exact (Rd.new X cs t (0, 0)).more (by simp)
/-- From block number B on, what was there is there as it was. -/
def Keeps (B : Nat) (w w' : World) : Prop := w.heap.size ≤ w'.heap.size ∧ ∀ g, B ≤ g → g < w.heap.size → w'.heap[g]? = w.heap[g]?
theorem Keeps.refl (B : Nat) (w : World) : Keeps B w w := ⟨Nat.le_refl _, fun _ _ _ => rfl⟩
theorem Keeps.trans {B : Nat} {a b c : World} (h : Keeps B a b) (k : Keeps B b c) : Keeps B a c :=
  ⟨Nat.le_trans h.1 k.1, fun g h1 h2 => (k.2 g h1 (Nat.lt_of_lt_of_le h2 h.1)).trans (h.2 g h1 h2)⟩
theorem Keeps.alloc {B : Nat} {a w : World} (h : Keeps B a w) (o : Obj) : Keeps B a (w.alloc o) :=
  h.trans ⟨by simp, fun g _ h2 => Below.heap_alloc _ _ _ h2⟩
theorem Keeps.setCell {B : Nat} {a w : World} (h : Keeps B a w) {p : Addr} (hp : p.block < B) (u : Value) : Keeps B a (w.setCell p u) :=
  h.trans ⟨by simp [World.setCell], fun g h1 _ => Below.heap_setCell _ _ _ _ (by omega)⟩
theorem Keeps.drew {B : Nat} {a w : World} (h : Keeps B a w) : Keeps B a w.drew := h
theorem Keeps.drewN {B : Nat} {a w : World} (h : Keeps B a w) (n : Nat) : Keeps B a (w.drewN n) := h
theorem Keeps.below {B : Nat} {a w w' : World} (h : Keeps B a w) (hb : Below w.heap.size w w') : Keeps B a w' :=
  h.trans ⟨hb.size, fun g _ h2 => hb.block g h2⟩
theorem Keeps.mono {B B' : Nat} {a w : World} (h : Keeps B a w) (hB : B ≤ B') : Keeps B' a w := ⟨h.1, fun g h1 h2 => h.2 g (by omega) h2⟩
/-- The address A leads, in w and from block B on, to the cells cs. -/
def Nw (B : Nat) (w : World) (A : Option Addr) (cs : List Value) : Prop :=
  0 < cs.length → ∃ b off, A = some ⟨b, off, none⟩ ∧ B ≤ b ∧ b < w.heap.size ∧ ∀ j, j < cs.length → w.cell? ⟨b, off + j, none⟩ = cs[j]?
theorem Nw.keep {B : Nat} {w w' : World} {A : Option Addr} {cs : List Value} (h : Nw B w A cs) (hk : Keeps B w w') : Nw B w' A cs := fun hn => by
  obtain ⟨b, off, rfl, h1, h2, hc⟩ := h hn
  exact ⟨b, off, rfl, h1, Nat.lt_of_lt_of_le h2 hk.1, fun j hj => (World.cell?_of_block (hk.2 b h1 h2)).trans (hc j hj)⟩
theorem Nw.rd {B : Nat} {w : World} {A : Option Addr} {cs : List Value} (h : Nw B w A cs) : Rd w w.heap.size A cs := fun hn => by
  obtain ⟨b, off, rfl, _, h2, hc⟩ := h hn
  exact ⟨b, off, rfl, h2, hc⟩
theorem Nw.mono {B B' : Nat} {w : World} {A : Option Addr} {cs : List Value} (h : Nw B w A cs) (hB : B' ≤ B) : Nw B' w A cs := fun hn => by
  obtain ⟨b, off, rfl, h1, h2, hc⟩ := h hn
  exact ⟨b, off, rfl, by omega, h2, hc⟩
theorem Nw.nil {B : Nat} {w : World} {A : Option Addr} : Nw B w A [] := fun h => absurd h (by simp)
theorem Nw.new_at {B : Nat} {X : World} {b : Nat} (hb : X.heap.size = b) (cs : List Value) (t : TypeId) (hB : B ≤ b) : Nw B (X.alloc (.cells cs.toArray t (0, 0))) (some ⟨b, 0, none⟩) cs := fun _ => by
  subst hb
  exact ⟨_, 0, rfl, hB, by simp, fun j _ => by rw [Nat.zero_add, World.cell?_alloc_mark]; simp⟩
theorem Nw.drew {B : Nat} {w : World} {A : Option Addr} {cs : List Value} (h : Nw B w A cs) : Nw B w.drew A cs := h
/-- A row of the call's own is kept like that, too. -/
theorem row_keep {w w' : World} {B : Nat} {e : TypeId} {s n : Nat} {v : Value} {cs : List Value} (h : w.ownsRow B e s v n cs) (hk : Keeps B w w') : w'.ownsRow B e s v n cs := by
  obtain ⟨h1, h2⟩ := h
  refine ⟨h1, ?_⟩
  rcases h2 with h2 | ⟨g, cap, cur, hv, hg, hh, r⟩
  · exact .inl h2
  · refine .inr ⟨g, cap, cur, hv, hg, ?_, r⟩
    rw [hk.2 g hg ?_]
    · exact hh
    · rcases Nat.lt_or_ge g w.heap.size with hlt | hge
      · omega
      · rw [Array.getElem?_eq_none hge] at hh; cases hh
theorem row_nw {w : World} {B : Nat} {e : TypeId} {s n c : Nat} {A : Option Addr} {cs : List Value} (h : w.ownsRow B e s (.slice A n c) n cs) : Nw B w A cs := fun hn => by
  have hl := h.1
  have hn' : 0 < n := by
    rcases Nat.eq_zero_or_pos n with h0 | h0
    · subst h0; rw [Nat.zero_mul] at hl; omega
    · exact h0
  obtain ⟨g, rfl, hB, hg⟩ := row_get h hn'
  refine ⟨g, 0, rfl, hB, hg, fun j hj => ?_⟩
  rw [Nat.zero_add]
  exact h.cellAt j (by omega)
theorem cl_at {w : World} {b off m n : Nat} {X : Option Value} (h : w.cell? ⟨b, off + m, none⟩ = X) (e : n = off + m) : w.cell? ⟨b, n, none⟩ = X := e ▸ h
theorem lt_keep {b : Nat} {w w' : World} (h : b < w.heap.size) (hb : Below w.heap.size w w') : b < w'.heap.size := Nat.lt_of_lt_of_le h hb.size
theorem cell_keep {b : Nat} {w w' : World} {cs : Array Value} (h : b < w.heap.size) (hc : ∀ o, w.cell? ⟨b, o, none⟩ = cs[o]?) (hb : Below w.heap.size w w') : ∀ o, w'.cell? ⟨b, o, none⟩ = cs[o]? := fun o => (hb.cell (p := ⟨b, o, none⟩) h).trans (hc o)
theorem nw_keep {B : Nat} {w w' : World} {A : Option Addr} {cs : List Value} (h : Nw B w A cs) (hb : Below w.heap.size w w') : Nw B w' A cs := h.keep ((Keeps.refl _ _).below hb)
/-- A block's cells as an array. -/
theorem arr_new (w : World) (cs : Array Value) (t : TypeId) (fr : Nat × Nat) : ∀ o, (w.alloc (.cells cs t fr)).cell? ⟨w.heap.size, o, none⟩ = cs[o]? := fun o => by rw [World.cell?_alloc_mark]
theorem arr_new_at {w : World} {b : Nat} (hb : w.heap.size = b) (cs : Array Value) (t : TypeId) (fr : Nat × Nat) : ∀ o, (w.alloc (.cells cs t fr)).cell? ⟨b, o, none⟩ = cs[o]? := hb ▸ arr_new w cs t fr
theorem arr_alloc {w : World} {b : Nat} {cs : Array Value} (hl : b < w.heap.size) (h : ∀ o, w.cell? ⟨b, o, none⟩ = cs[o]?) (x : Obj) : ∀ o, (w.alloc x).cell? ⟨b, o, none⟩ = cs[o]? := fun o => (World.cell?_alloc_lt w x _ hl).trans (h o)
theorem arr_other {w : World} {b : Nat} {cs : Array Value} {p : Addr} (hne : p.block ≠ b) (h : ∀ o, w.cell? ⟨b, o, none⟩ = cs[o]?) (v : Value) : ∀ o, (w.setCell p v).cell? ⟨b, o, none⟩ = cs[o]? := fun o =>
  (World.cell?_of_block (w := w) (Below.heap_setCell w p v b (fun e => hne e.symm))).trans (h o)
theorem arr_set {w : World} {b : Nat} {cs : Array Value} {k : Nat} (h : ∀ o, w.cell? ⟨b, o, none⟩ = cs[o]?) (v : Value) : ∀ o, (w.setCell ⟨b, k, none⟩ v).cell? ⟨b, o, none⟩ = (cs.setIfInBounds k v)[o]? := fun o => by
  by_cases ho : k = o
  · subst ho
    by_cases hk : k < cs.size
    · rw [World.cell?_setCell_same w _ v (u := cs[k]) (by rw [h]; simp [hk])]
      simp [hk]
    · have h0 : w.cell? ⟨b, k, none⟩ = none := by rw [h]; simp; omega
      have e : (cs.setIfInBounds k v)[k]? = none := by simp; omega
      rw [e]
      unfold World.cell? at h0 ⊢
      simp only [World.setCell, Array.getElem?_modify] at h0 ⊢
      revert h0
      cases hh : w.heap[b]? with
      | none => simp
      | some x => cases x <;> simp
  · rw [World.cell?_setCell_other w _ _ v (by intro e; injection e with _ e; exact ho e), h, Array.getElem?_setIfInBounds_ne ho]
theorem arr_drew {w : World} {b : Nat} {cs : Array Value} (h : ∀ o, w.cell? ⟨b, o, none⟩ = cs[o]?) : ∀ o, w.drew.cell? ⟨b, o, none⟩ = cs[o]? := h
theorem cell_then (b : Nat) {w w' : World} {P : Prop} {cs : Array Value} (hb : Below w.heap.size w w') (h : b < w.heap.size) (hc : ∀ o, w.cell? ⟨b, o, none⟩ = cs[o]?) (K : (∀ o, w'.cell? ⟨b, o, none⟩ = cs[o]?) → P) : P := K (cell_keep h hc hb)
/-- A block known whole. -/
def Bk (w : World) (b : Nat) (cs : Array Value) (t : TypeId) : Prop := w.heap[b]? = some (.cells cs t (0, 0))
section
variable {w w' : World} {b : Nat} {cs : Array Value} {t : TypeId}
theorem Bk.lt (h : Bk w b cs t) : b < w.heap.size := by
  rcases Nat.lt_or_ge b w.heap.size with h1 | h1
  · exact h1
  · unfold Bk at h; rw [Array.getElem?_eq_none h1] at h; cases h
theorem Bk.arr (h : Bk w b cs t) : ∀ o, w.cell? ⟨b, o, none⟩ = cs[o]? := fun o => by unfold Bk at h; unfold World.cell?; simp only [h]; rfl
theorem Bk.frz (h : Bk w b cs t) : ∀ o, w.frozen? ⟨b, o, none⟩ = false := fun o => by unfold Bk at h; unfold World.frozen?; simp [h]
theorem Bk.new (hb : w.heap.size = b) : Bk (w.alloc (.cells cs t (0, 0))) b cs t := by
  subst hb
  show (w.heap.push _)[w.heap.size]? = _
  simp
theorem Bk.alloc (h : Bk w b cs t) (x : Obj) : Bk (w.alloc x) b cs t := (Below.heap_alloc w x b h.lt).trans h
theorem Bk.other {p : Addr} (hne : p.block ≠ b) (h : Bk w b cs t) (v : Value) : Bk (w.setCell p v) b cs t := (Below.heap_setCell w p v b (fun e => hne e.symm)).trans h
theorem Bk.set {k : Nat} (h : Bk w b cs t) (v : Value) : Bk (w.setCell ⟨b, k, none⟩ v) b (cs.setIfInBounds k v) t := by
  unfold Bk at h ⊢
  simp only [World.setCell, Array.getElem?_modify]
  simp [h]
theorem Bk.drew (h : Bk w b cs t) : Bk w.drew b cs t := h
theorem Bk.drewN (h : Bk w b cs t) (n : Nat) : Bk (w.drewN n) b cs t := h
theorem Bk.below (h : Bk w b cs t) (hb : Below w.heap.size w w') : Bk w' b cs t := (hb.block b h.lt).trans h
end
theorem bk_then (b : Nat) {w w' : World} {P : Prop} {cs : Array Value} {t : TypeId} (hb : Below w.heap.size w w') (h : Bk w b cs t) (K : Bk w' b cs t → P) : P := K (h.below hb)
end Go.Proofs.Ytmefbkfapeijgaa
