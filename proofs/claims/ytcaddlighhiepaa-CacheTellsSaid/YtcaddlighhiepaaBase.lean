/- Plain words for memory, with no program in sight: what a slice reads as, what a call's own slice holds, and how both are kept. -/
import Derived.WalkKit
import Derived.WalkSpells
import Derived.WalkLawsBesides
import Derived.Deep.Draws
import Derived.BigQuiet
import Derived.Lib.Hide
namespace Go.Proofs.Ytcaddlighhiepaa
open Go.RowKit

/-- Words, bytes and ints as cells. -/
def ws (xs : List Nat) : List Value := xs.map fun (x : Nat) => .int .u32 x
def ys (xs : List Nat) : List Value := xs.map fun (x : Nat) => .int .u8 x
def zs (xs : List Int) : List Value := xs.map fun (x : Int) => .int .i64 x
@[simp] theorem ws_length (xs : List Nat) : (ws xs).length = xs.length := by simp [ws]
@[simp] theorem ys_length (xs : List Nat) : (ys xs).length = xs.length := by simp [ys]
@[simp] theorem zs_length (xs : List Int) : (zs xs).length = xs.length := by simp [zs]
theorem ws_get (xs : List Nat) (k : Nat) (h : k < xs.length) : (ws xs)[k]? = some (.int .u32 (xs.getD k 0 : Nat)) := by simp [ws, h]
theorem ys_get (xs : List Nat) (k : Nat) (h : k < xs.length) : (ys xs)[k]? = some (.int .u8 (xs.getD k 0 : Nat)) := by simp [ys, h]
theorem zs_get (xs : List Int) (k : Nat) (h : k < xs.length) : (zs xs)[k]? = some (.int .i64 (xs.getD k 0)) := by simp [zs, h]
/-- All are words. -/
def Wd (xs : List Nat) : Prop := ∀ x ∈ xs, x < 4294967296
theorem Wd.at_ {xs : List Nat} (h : Wd xs) (k : Nat) : xs.getD k 0 < 4294967296 := by
  by_cases hk : k < xs.length
  · simp only [List.getD_eq_getElem?_getD, List.getElem?_eq_getElem hk, Option.getD_some]; exact h _ (List.getElem_mem hk)
  · simp only [List.getD_eq_getElem?_getD, List.getElem?_eq_none (Nat.le_of_not_lt hk), Option.getD_none]; omega
theorem Wd.set {xs : List Nat} (h : Wd xs) (k x : Nat) (hx : x < 4294967296) : Wd (xs.set k x) := fun y hy => by
  rcases List.mem_or_eq_of_mem_set hy with h1 | h1
  · exact h y h1
  · omega
theorem Wd.rep (n : Nat) : Wd (List.replicate n 0) := fun y hy => by simp at hy; omega
theorem ws_set (xs : List Nat) (k x : Nat) : (ws xs).set k (.int .u32 (x : Nat)) = ws (xs.set k x) := by simp [ws, List.map_set]
theorem ws_rep (n : Nat) : ws (List.replicate n 0) = List.replicate n (.int .u32 0) := by simp [ws]

/-- The address A leads, in w and below block B, to the cells cs (nothing is asked where there are none). -/
def Rd (w : World) (B : Nat) (A : Option Addr) (cs : List Value) : Prop :=
  0 < cs.length → ∃ b off, A = some ⟨b, off, none⟩ ∧ b < B ∧ ∀ j, j < cs.length → w.cell? ⟨b, off + j, none⟩ = cs[j]?

section
variable {w w' : World} {B B' C : Nat} {A : Option Addr} {cs : List Value}
theorem Rd.nil : Rd w B A [] := fun h => absurd h (by simp)
theorem Rd.cast {ds : List Value} (h : Rd w B A cs) (e : cs = ds) : Rd w B A ds := e ▸ h
theorem Rd.at_ (h : Rd w B A cs) (k : Nat) (hk : k < cs.length) : ∃ b off, A = some ⟨b, off, none⟩ ∧ b < B ∧ w.cell? ⟨b, off + k, none⟩ = cs[k]? := by
  obtain ⟨b, off, e, hb, hc⟩ := h (by omega)
  exact ⟨b, off, e, hb, hc k hk⟩
theorem Rd.keep (h : Rd w B A cs) (hk : ∀ p : Addr, p.block < B → w'.cell? p = w.cell? p) : Rd w' B A cs := fun hn => by
  obtain ⟨b, off, e, hb, hc⟩ := h hn
  exact ⟨b, off, e, hb, fun j hj => (hk _ hb).trans (hc j hj)⟩
theorem Rd.more (h : Rd w B A cs) (hB : B ≤ B') : Rd w B' A cs := fun hn => by
  obtain ⟨b, off, e, hb, hc⟩ := h hn
  exact ⟨b, off, e, by omega, hc⟩
/-- Behind a call that turned nothing that was there. -/
theorem Rd.below (h : Rd w B A cs) (hb : Below C w w') (hB : B ≤ C) : Rd w' B A cs := h.keep fun _ hp => hb.cell (by omega)
theorem Rd.upto (h : Rd w w.heap.size A cs) (hb : Below w.heap.size w w') : Rd w' w'.heap.size A cs := (h.below hb (Nat.le_refl _)).more hb.size
theorem Rd.drewN (h : Rd w B A cs) (n : Nat) : Rd (w.drewN n) B A cs := h
theorem Rd.alloc (h : Rd w B A cs) (hB : B ≤ w.heap.size) (o : Obj) : Rd (w.alloc o) B A cs := h.keep fun p hp => World.cell?_alloc_lt w o p (by omega)
/-- A row but for the written one. -/
theorem Rd.grown {row : Option Nat} (h : Rd w B A cs) (hg : w.grownBy w' row) (hB : B ≤ w.heap.size) (hr : A.map (·.block) = none ∨ A.map (·.block) ≠ row) : Rd w' B A cs := fun hn => by
  obtain ⟨b, off, rfl, hb, hc⟩ := h hn
  refine ⟨b, off, rfl, hb, fun j hj => ?_⟩
  rw [← hc j hj]
  exact World.cell?_of_block (hg.block b (by omega) (by simpa using hr))
/-- A part of a slice. -/
theorem Rd.part (h : Rd w B A cs) (k n c : Nat) (hk : k + n ≤ cs.length) (hc : cs.length ≤ c) : Rd w B (if c = k then A else A.map (·.add k)) ((cs.drop k).take n) := fun hn => by
  have hl : ((cs.drop k).take n).length = n := by simp; omega
  rw [hl] at hn
  obtain ⟨b, off, rfl, hb, hcell⟩ := h (by omega)
  rw [if_neg (by omega)]
  refine ⟨b, off + k, ?_, hb, fun j hj => ?_⟩
  · by_cases hk0 : k = 0
    · simp [hk0, Addr.add]
    · simp [Addr.add, hk0]
  · rw [hl] at hj
    rw [Nat.add_assoc, hcell _ (by omega)]
    simp [hj]
end

theorem Rd.piece {w : World} {B : Nat} {A : Option Addr} {cs : List Value} (h : Rd w B A cs) (k n : Nat) (hk : k + n ≤ cs.length) : Rd w B (A.map (·.add k)) ((cs.drop k).take n) := by
  have := h.part k n (cs.length + k + 1) hk (by omega)
  rw [if_neg (by omega)] at this
  exact this
theorem ws_piece (xs : List Nat) (k n : Nat) : ((ws xs).drop k).take n = ws ((xs.drop k).take n) := by simp [ws, List.map_take, List.map_drop]
theorem Wd.piece {xs : List Nat} (h : Wd xs) (k n : Nat) : Wd ((xs.drop k).take n) := fun x hx => h x (List.mem_of_mem_drop (List.mem_of_mem_take hx))
theorem row_base {w : World} {B B' : Nat} {e : TypeId} {s n : Nat} {v : Value} {cs : List Value} (h : w.ownsRow B e s v n cs) (hB : B' ≤ B) : w.ownsRow B' e s v n cs := by
  obtain ⟨h1, h2⟩ := h
  refine ⟨h1, ?_⟩
  rcases h2 with h2 | ⟨g, cap, cur, hv, hg, r⟩
  · exact .inl h2
  · exact .inr ⟨g, cap, cur, hv, by omega, r⟩
theorem row_shape {w : World} {B : Nat} {e : TypeId} {s n : Nat} {v : Value} {cs : List Value} (h : w.ownsRow B e s v n cs) : ∃ A c, v = .slice A n c ∧ n ≤ c ∧ c ≤ maxLen := by
  rcases h.2 with ⟨rfl, rfl⟩ | ⟨g, cap, cur, rfl, hg, hh, hn, hm, r⟩
  · exact ⟨none, 0, rfl, Nat.le_refl _, by simp [maxLen]⟩
  · exact ⟨_, cap, rfl, hn, hm⟩
section
variable {w w' : World} {B C : Nat} {e : TypeId} {s n c : Nat} {A : Option Addr} {v : Value} {cs : List Value}
theorem row_get (h : w.ownsRow B e s (.slice A n c) n cs) (hn : 0 < n) : ∃ g, A = some ⟨g, 0, none⟩ ∧ B ≤ g ∧ g < w.heap.size := by
  rcases h.2 with ⟨h1, rfl⟩ | ⟨g, cap, cur, hv, hg, hh, _⟩
  · omega
  · injection hv with h1 h2 h3
    refine ⟨g, h1, hg, ?_⟩
    rcases Nat.lt_or_ge g w.heap.size with hlt | hge
    · exact hlt
    · rw [Array.getElem?_eq_none hge] at hh; cases hh
/-- The block that a slice value lies in, if it lies in one. -/
theorem row_blk (h : w.ownsRow B e s (.slice A n c) n cs) : A = none ∨ ∃ g, A = some ⟨g, 0, none⟩ ∧ B ≤ g ∧ g < w.heap.size := by
  rcases h.2 with ⟨h1, rfl⟩ | ⟨g, cap, cur, hv, hg, hh, _⟩
  · injection h1 with h1; exact .inl h1
  · injection hv with h1 h2 h3
    refine .inr ⟨g, h1, hg, ?_⟩
    rcases Nat.lt_or_ge g w.heap.size with hlt | hge
    · exact hlt
    · rw [Array.getElem?_eq_none hge] at hh; cases hh
theorem row_rd (h : w.ownsRow B e s (.slice A n c) n cs) : Rd w w.heap.size A cs := fun hn => by
  have hl := h.1
  have hn' : 0 < n := by
    rcases Nat.eq_zero_or_pos n with h0 | h0
    · subst h0; rw [Nat.zero_mul] at hl; omega
    · exact h0
  obtain ⟨g, rfl, _, hg⟩ := row_get h hn'
  refine ⟨g, 0, rfl, hg, fun j hj => ?_⟩
  rw [Nat.zero_add]
  exact h.cellAt j (by omega)
theorem row_below (h : w.ownsRow B e s v n cs) (hb : Below C w w') (hC : w.heap.size ≤ C) : w'.ownsRow B e s v n cs := by
  obtain ⟨h1, h2⟩ := h
  refine ⟨h1, ?_⟩
  rcases h2 with h2 | ⟨g, cap, cur, hv, hg, hh, r⟩
  · exact .inl h2
  · refine .inr ⟨g, cap, cur, hv, hg, ?_, r⟩
    rw [hb.block g ?_]
    · exact hh
    · rcases Nat.lt_or_ge g w.heap.size with hlt | hge
      · omega
      · rw [Array.getElem?_eq_none hge] at hh; cases hh
theorem grown_setCell (w : World) (g k : Nat) (u : Value) : w.grownBy (w.setCell ⟨g, k, none⟩ u) (some g) :=
  ⟨rfl, rfl, rfl, by simp [World.setCell], fun i _ hne => Below.heap_setCell w _ u i (fun e => hne (by rw [e]))⟩
theorem grown_trans {a b d : World} {row : Option Nat} (h : a.grownBy b row) (k : b.grownBy d row) : a.grownBy d row :=
  ⟨k.os.trans h.os, k.tape.trans h.tape, k.output.trans h.output, Nat.le_trans h.size k.size, fun i hi hne => (k.block i (Nat.lt_of_lt_of_le hi h.size) hne).trans (h.block i hi hne)⟩
theorem grown_of_below {a b : World} (h : Below a.heap.size a b) (row : Option Nat) : a.grownBy b row := ⟨h.os, h.tape, h.output, h.size, fun i hi _ => h.block i hi⟩
theorem below_of_grown {a b : World} {row : Option Nat} {B : Nat} (hg : a.grownBy b row) (hB : B ≤ a.heap.size) (hr : ∀ k, row = some k → B ≤ k) : Below B a b := (Below.refl _ _).grown hg hB hr
theorem below_drewN' {a b : World} {B : Nat} (h : Below B a b) (n : Nat) : Below B a (b.drewN n) := ⟨h.os, h.tape, h.output, h.size, h.block⟩
theorem below_drewN_l {a b : World} {B n : Nat} (h : Below B (a.drewN n) b) : Below B a b := ⟨h.os, h.tape, h.output, h.size, h.block⟩
end
/-- A new block reads as what was laid into it. -/
theorem Rd.new (w : World) (cs : List Value) (t : TypeId) (fr : Nat × Nat) : Rd (w.alloc (.cells cs.toArray t fr)) (w.heap.size + 1) (some ⟨w.heap.size, 0, none⟩) cs := fun _ =>
  ⟨w.heap.size, 0, rfl, Nat.lt_succ_self _, fun j _ => by rw [Nat.zero_add, World.cell?_alloc_mark]; simp⟩
/-- A contract whose world is told the other way round. -/
theorem flip {P : Program} {f : FuncId} {args : Array Value} {w : World} {v : Value} (h : Calls P f args w fun e w' => e = .returned v ∧ w = w') : Calls P f args w fun e w' => e = .returned v ∧ w' = w := h.mono fun _ _ ⟨h1, h2⟩ => ⟨h1, h2.symm⟩
/-- What a call hands back, by what it is. -/
theorem ret_int {k : IntKind} {a b : Int} (h : a = b) : Ending.returned (.int k a) = .returned (.int k b) := by rw [h]
theorem ret_bool {a b : Bool} (h : a = b) : Ending.returned (.bool a) = .returned (.bool b) := by rw [h]
end Go.Proofs.Ytcaddlighhiepaa
