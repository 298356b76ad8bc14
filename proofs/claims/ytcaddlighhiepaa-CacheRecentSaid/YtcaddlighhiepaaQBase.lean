import Derived.WalkKit
import Derived.WalkSpells
import Derived.WalkLawsBesides
import Derived.Deep.Draws
import Derived.BigQuiet
import Derived.Lib.Hide
namespace Go.Proofs.Ytcaddlighhiepaa
open Go.RowKit
def ws (xs : List Nat) : List Value := xs.map fun (x : Nat) => .int .u32 x
def ys (xs : List Nat) : List Value := xs.map fun (x : Nat) => .int .u8 x
def zs (xs : List Int) : List Value := xs.map fun (x : Int) => .int .i64 x
@[simp] theorem ws_length (xs : List Nat) : (ws xs).length = xs.length := by simp [ws]
@[simp] theorem ys_length (xs : List Nat) : (ys xs).length = xs.length := by simp [ys]
@[simp] theorem zs_length (xs : List Int) : (zs xs).length = xs.length := by simp [zs]
def Wd (xs : List Nat) : Prop := ∀ x ∈ xs, x < 4294967296
theorem Wd.set {xs : List Nat} (h : Wd xs) (k x : Nat) (hx : x < 4294967296) : Wd (xs.set k x) := fun y hy => by
  rcases List.mem_or_eq_of_mem_set hy with h1 | h1
  · exact h y h1
  · omega
def Rd (w : World) (B : Nat) (A : Option Addr) (cs : List Value) : Prop :=
  0 < cs.length → ∃ b off, A = some ⟨b, off, none⟩ ∧ b < B ∧ ∀ j, j < cs.length → w.cell? ⟨b, off + j, none⟩ = cs[j]?
section
variable {w w' : World} {B B' C : Nat} {A : Option Addr} {cs : List Value}
theorem Rd.nil : Rd w B A [] := fun h => absurd h (by simp)
theorem Rd.keep (h : Rd w B A cs) (hk : ∀ p : Addr, p.block < B → w'.cell? p = w.cell? p) : Rd w' B A cs := fun hn => by
  obtain ⟨b, off, e, hb, hc⟩ := h hn
  exact ⟨b, off, e, hb, fun j hj => (hk _ hb).trans (hc j hj)⟩
theorem Rd.alloc (h : Rd w B A cs) (hB : B ≤ w.heap.size) (o : Obj) : Rd (w.alloc o) B A cs := h.keep fun p hp => World.cell?_alloc_lt w o p (by omega)
theorem Rd.part (h : Rd w B A cs) (k n c : Nat) (hk : k + n ≤ cs.length) (hc : cs.length ≤ c) : Rd w B (if c = k then A else A.map (·.add k)) ((cs.drop k).take n) := fun hn => by
  have hl : ((cs.drop k).take n).length = n := by simp; omega
  rw [hl] at hn
  obtain ⟨b, off, rfl, hb, hcell⟩ := h (by omega)
  rw [if_neg (by omega)]
  refine ⟨b, off + k, ?_, hb, fun j hj => ?_⟩
  · by_cases hk0 : k = 0
    · simp [hk0, Addr.add]
    · simp [Addr.add, hk0]
  · rw [hl] at hj
    rw [Nat.add_assoc, hcell _ (by omega)]
    simp [hj]
end
section
variable {w w' : World} {B C : Nat} {e : TypeId} {s n c : Nat} {A : Option Addr} {v : Value} {cs : List Value}
end
theorem Rd.new (w : World) (cs : List Value) (t : TypeId) (fr : Nat × Nat) : Rd (w.alloc (.cells cs.toArray t fr)) (w.heap.size + 1) (some ⟨w.heap.size, 0, none⟩) cs := fun _ =>
  ⟨w.heap.size, 0, rfl, Nat.lt_succ_self _, fun j _ => by rw [Nat.zero_add, World.cell?_alloc_mark]; simp⟩
end Go.Proofs.Ytcaddlighhiepaa
