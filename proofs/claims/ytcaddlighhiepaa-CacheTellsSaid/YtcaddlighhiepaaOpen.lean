/- From the readings of a law's arguments to plain lists. -/
import Derived.Test.YtcaddlighhiepaaBase
import Derived.WideShapes
import Derived.OpenShut
namespace Go.Proofs.Ytcaddlighhiepaa
open Go.RowKit

theorem cell_lt {w : World} {a : Addr} {v : Value} (h : w.cell? a = some v) : a.block < w.heap.size := by
  rcases Nat.lt_or_ge a.block w.heap.size with h1 | h1
  · exact h1
  · simp [World.cell?, Array.getElem?_eq_none h1] at h
/-- What the shell of a law's proof says of a slice of integers that came in. -/
def RowIn (k : IntKind) (w : World) (a : Option Addr) (len cap : Nat) (zs : List Int) : Prop :=
  (a = none ∧ len = 0 ∧ cap = 0 ∧ zs = []) ∨
  ∃ x, a = some x ∧ len ≤ cap ∧ cap ≤ maxLen ∧ zs.length = cap ∧ (∀ i, i < zs.length → w.cell? (x.add i) = some (.int k (zs.getD i 0))) ∧ ∀ n ∈ zs, (Lit.int k n).wf = true
theorem RowIn.rd {k : IntKind} {w : World} {a : Option Addr} {len cap : Nat} {us : List Int} (h : RowIn k w a len cap us) :
    (us.take len).length = len ∧ Rd w w.heap.size a ((us.take len).map fun (x : Int) => .int k x) ∧ ∀ n ∈ us.take len, (Lit.int k n).wf = true := by
  rcases h with ⟨rfl, rfl, rfl, rfl⟩ | ⟨x, rfl, hl, _, hz, hc, hw⟩
  · exact ⟨rfl, Rd.nil, fun n hn => by simp at hn⟩
  · have hlen : (us.take len).length = len := by simp; omega
    refine ⟨hlen, fun hn => ?_, fun n hn => hw n (List.mem_of_mem_take hn)⟩
    rw [List.length_map, hlen] at hn
    have h0 := hc 0 (by omega)
    obtain ⟨b, off, spot⟩ := x
    have hs : spot = none := by simpa [Addr.add] using World.cell?_spot h0
    subst hs
    refine ⟨b, off, rfl, cell_lt h0, fun j hj => ?_⟩
    rw [List.length_map, hlen] at hj
    have := hc j (by omega)
    rw [show (⟨b, off, none⟩ : Addr).add j = ⟨b, off + j, none⟩ by by_cases h : j = 0 <;> simp [Addr.add, h]] at this
    rw [this]
    have hju : j < us.length := by omega
    simp [hj, hju]
theorem RowIn.cap {k : IntKind} {w : World} {a : Option Addr} {len cap : Nat} {us : List Int} (h : RowIn k w a len cap us) : len ≤ cap := by
  rcases h with ⟨_, rfl, rfl, _⟩ | ⟨x, _, hl, _⟩ <;> omega
theorem RowIn.words {w : World} {a : Option Addr} {len cap : Nat} {us : List Int} (h : RowIn .u32 w a len cap us) :
    ∃ xs : List Nat, xs.length = len ∧ Wd xs ∧ Rd w w.heap.size a (ws xs) := by
  obtain ⟨h1, h2, h3⟩ := h.rd
  have hb : ∀ n ∈ us.take len, 0 ≤ n ∧ n < 4294967296 := fun n hn => by
    have := h3 n hn
    simp [Lit.wf, IntKind.min, IntKind.max, IntKind.signed, IntKind.bits] at this
    omega
  refine ⟨(us.take len).map Int.toNat, by simpa using h1, fun x hx => ?_, ?_⟩
  · obtain ⟨n, hn, rfl⟩ := List.mem_map.1 hx
    have := hb n hn
    omega
  · have e : ws ((us.take len).map Int.toNat) = (us.take len).map fun (x : Int) => .int .u32 x := by
      unfold ws
      rw [List.map_map]
      refine List.map_congr_left fun n hn => ?_
      have := hb n hn
      simp only [Function.comp]
      rw [Int.toNat_of_nonneg this.1]
    rw [e]; exact h2
theorem RowIn.ints {w : World} {a : Option Addr} {len cap : Nat} {us : List Int} (h : RowIn .i64 w a len cap us) :
    ∃ ls : List Int, ls.length = len ∧ Rd w w.heap.size a (zs ls) ∧ ∀ n ∈ ls, -9223372036854775808 ≤ n ∧ n ≤ 9223372036854775807 := by
  obtain ⟨h1, h2, h3⟩ := h.rd
  refine ⟨_, h1, h2, fun n hn => ?_⟩
  have := h3 n hn
  simp [Lit.wf, IntKind.min, IntKind.max, IntKind.signed, IntKind.bits] at this
  omega
theorem wf_i64 {n : Int} (h : (Lit.int .i64 n).wf = true) : -9223372036854775808 ≤ n ∧ n ≤ 9223372036854775807 := by
  simp [Lit.wf, IntKind.min, IntKind.max, IntKind.signed, IntKind.bits] at h
  omega
theorem wf_u32 {n : Int} (h : (Lit.int .u32 n).wf = true) : ∃ m : Nat, n = m ∧ m < 4294967296 := by
  simp [Lit.wf, IntKind.min, IntKind.max, IntKind.signed, IntKind.bits] at h
  exact ⟨n.toNat, by omega, by omega⟩
theorem wf_u64 {n : Int} (h : (Lit.int .u64 n).wf = true) : ∃ m : Nat, n = m ∧ m < 18446744073709551616 := by
  simp [Lit.wf, IntKind.min, IntKind.max, IntKind.signed, IntKind.bits] at h
  exact ⟨n.toNat, by omega, by omega⟩
end Go.Proofs.Ytcaddlighhiepaa
