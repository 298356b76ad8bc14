import Derived.Test.YtcaddlighhiepaaQBase
import Derived.WideShapes
import Derived.OpenShut
namespace Go.Proofs.Ytcaddlighhiepaa
open Go.RowKit
theorem cell_lt {w : World} {a : Addr} {v : Value} (h : w.cell? a = some v) : a.block < w.heap.size := by
  rcases Nat.lt_or_ge a.block w.heap.size with h1 | h1
  · exact h1
  · simp [World.cell?, Array.getElem?_eq_none h1] at h
def RowIn (k : IntKind) (w : World) (a : Option Addr) (len cap : Nat) (zs : List Int) : Prop :=
  (a = none ∧ len = 0 ∧ cap = 0 ∧ zs = []) ∨
  ∃ x, a = some x ∧ len ≤ cap ∧ cap ≤ maxLen ∧ zs.length = cap ∧ (∀ i, i < zs.length → w.cell? (x.add i) = some (.int k (zs.getD i 0))) ∧ ∀ n ∈ zs, (Lit.int k n).wf = true
theorem RowIn.rd {k : IntKind} {w : World} {a : Option Addr} {len cap : Nat} {us : List Int} (h : RowIn k w a len cap us) :
    (us.take len).length = len ∧ Rd w w.heap.size a ((us.take len).map fun (x : Int) => .int k x) ∧ ∀ n ∈ us.take len, (Lit.int k n).wf = true := by
  rcases h with ⟨rfl, rfl, rfl, rfl⟩ | ⟨x, rfl, hl, _, hz, hc, hw⟩
  · exact ⟨rfl, Rd.nil, fun n hn => by simp at hn⟩
  · have hlen : (us.take len).length = len := by simp; omega
    refine ⟨hlen, fun hn => ?_, fun n hn => hw n (List.mem_of_mem_take hn)⟩
    rw [List.length_map, hlen] at hn
    have h0 := hc 0 (by omega)
    obtain ⟨b, off, spot⟩ := x
    have hs : spot = none := by simpa [Addr.add] using World.cell?_spot h0
    subst hs
    refine ⟨b, off, rfl, cell_lt h0, fun j hj => ?_⟩
    rw [List.length_map, hlen] at hj
    have := hc j (by omega)
    rw [show (⟨b, off, none⟩ : Addr).add j = ⟨b, off + j, none⟩ by by_cases h : j = 0 <;> simp [Addr.add, h]] at this
    rw [this]
    have hju : j < us.length := by omega
    simp [hj, hju]
theorem RowIn.cap {k : IntKind} {w : World} {a : Option Addr} {len cap : Nat} {us : List Int} (h : RowIn k w a len cap us) : len ≤ cap := by
  rcases h with ⟨_, rfl, rfl, _⟩ | ⟨x, _, hl, _⟩ <;> omega
end Go.Proofs.Ytcaddlighhiepaa
