/- Buffers by their slice, opened. -/
import Derived.Test.YthgikkibfbkoiaaOpenV
import Derived.Test.YthgikkibfbkoiaaTlbL
namespace Go.Proofs.Ythgikkibfbkoiaa
open Go.Joins Go.ChangeShapes Go.WideShapes Go.RowKit Go.Deep
set_option linter.unusedVariables false
section
variable {H : Type} {enc : TypeId × Value → H} {P : Program} {w : World} {base : Nat} {spare : Nat → Bool} {held : Bool}
/-- The four cells of an entry. -/
theorem openTe {fuel : Nat} {e : TypeId} {f0 f1 f2 f3 : Field} {cs : List Value} {x : DataW H × List MemPlace} (hs : P.underlying e = some (.struct #[f0, f1, f2, f3])) (hone : oneCellFields P #[f0, f1, f2, f3] = true) (hC : P.cellsOf e = 4)
    (t0 : P.underlying f0.type = some (.int .u32)) (t1 : P.underlying f1.type = some (.int .u32)) (t2 : P.underlying f2.type = some .bool) (t3 : P.underlying f3.type = some .bool)
    (h : DataW.trod enc P w base spare held fuel e cs = some x) : ∃ m : Te, cs = [.int .u32 m.p, .int .u32 m.f, .bool m.w, .bool m.x] ∧ m.p < 4294967296 ∧ m.f < 4294967296 := by
  obtain ⟨xs, n, _, hx, hl, hlen, hg⟩ := DataW.trod_struct hs h
  rw [hC] at hl
  obtain ⟨o0, k0⟩ := hone_of hone 0 f0 rfl
  obtain ⟨o1, k1⟩ := hone_of hone 1 f1 rfl
  obtain ⟨o2, k2⟩ := hone_of hone 2 f2 rfl
  obtain ⟨o3, k3⟩ := hone_of hone 3 f3 rfl
  match cs, hl, xs, hlen with
  | [c0, c1, c2, c3], _, [y0, y1, y2, y3], _ =>
    obtain ⟨a0, rfl, w0⟩ := int_field t0 (by simpa [o0, k0] using hg 0 f0 rfl)
    obtain ⟨a1, rfl, w1⟩ := int_field t1 (by simpa [o1, k1] using hg 1 f1 rfl)
    obtain ⟨a2, rfl⟩ := bool_field t2 (by simpa [o2, k2] using hg 2 f2 rfl)
    obtain ⟨a3, rfl⟩ := bool_field t3 (by simpa [o3, k3] using hg 3 f3 rfl)
    obtain ⟨n0, rfl, h0⟩ := wf_u32 w0
    obtain ⟨n1, rfl, h1⟩ := wf_u32 w1
    exact ⟨⟨n0, n1, a2, a3⟩, rfl, h0, h1⟩
/-- A slice of operations that came in. -/
theorem openTes {fuel : Nat} {t e : TypeId} {f0 f1 f2 f3 : Field} {v : Value} {x : DataW H × List MemPlace} (hsl : P.underlying t = some (.slice e)) (hs : P.underlying e = some (.struct #[f0, f1, f2, f3])) (hone : oneCellFields P #[f0, f1, f2, f3] = true) (hC : P.cellsOf e = 4)
    (t0 : P.underlying f0.type = some (.int .u32)) (t1 : P.underlying f1.type = some (.int .u32)) (t2 : P.underlying f2.type = some .bool) (t3 : P.underlying f3.type = some .bool)
    (h : DataW.trod enc P w base (fun _ => true) held fuel t [v] = some x) : ∃ (l : List Te) (N : Nat), l.length = N ∧ N ≤ maxLen ∧ TB l ∧ LRowR w v N ⟨false, 4, tes l⟩ ∧ (v = .slice none 0 0 ∨ ∃ a c, v = .slice (some a) N c) := by
  rcases open_slice hsl h with ⟨hv, _⟩ | ⟨a, len, cap, m, n, D, Pl, hv, hb, hl, hm, hm2, hx, hg⟩
  · injection hv with hv
    subst hv
    refine ⟨[], 0, rfl, Nat.zero_le _, TB_nil, ⟨rfl, .empty, fun ρ n hn => ⟨?_, none, 0, rfl, Nat.le_refl _, .inr ⟨hn, rfl⟩⟩⟩, .inl rfl⟩
    unfold RowOk; rw [hn]; rfl
  · injection hv with hv
    subst hv
    simp only [if_true] at hm2
    subst hm2
    rw [hC] at hg
    have key : ∀ i, ∃ q : Te, i < m → w.cells? base (a.add (i * 4)) 4 = some [.int .u32 q.p, .int .u32 q.f, .bool q.w, .bool q.x] ∧ q.p < 4294967296 ∧ q.f < 4294967296 := fun i => by
      by_cases hi : i < m
      · obtain ⟨cs', h1, h2⟩ := hg i hi
        obtain ⟨q, rfl, hk⟩ := openTe hs hone hC t0 t1 t2 t3 h2
        exact ⟨q, fun _ => ⟨h1, hk⟩⟩
      · exact ⟨⟨0, 0, false, false⟩, fun h => absurd h hi⟩
    obtain ⟨f, hf⟩ := Classical.axiomOfChoice key
    have hcell : ∀ i, i < m → ∀ j, j < 4 → w.cell? ((a.add (i * 4)).add j) = [Value.int .u32 (f i).p, .int .u32 (f i).f, .bool (f i).w, .bool (f i).x][j]? := fun i hi j hj =>
      (World.cells?_some (hf i hi).1).2.2 j hj
    refine ⟨(List.range len).map f, len, by simp, by omega, fun q hq => ?_, ⟨rfl, ?_⟩, .inr ⟨a, m, rfl⟩⟩
    · obtain ⟨i, hi, rfl⟩ := List.mem_map.1 hq
      exact (hf i (by have := List.mem_range.1 hi; omega)).2
    · by_cases h0 : m = 0
      · refine ⟨.empty, fun ρ n hn => ⟨?_, some a, m, rfl, hl, .inr ⟨hn, h0⟩⟩⟩
        unfold RowOk; rw [hn]
        have : len = 0 := by omega
        subst this; rfl
      · have hc0 := hcell 0 (by omega) 0 (by omega)
        obtain ⟨b, off, spot⟩ := a
        have hs0 : spot = none := by simpa [Addr.add] using World.cell?_spot hc0
        subst hs0
        have hadd : ∀ i j, ((⟨b, off, none⟩ : Addr).add i).add j = ⟨b, off + (i + j), none⟩ := fun i j => by
          by_cases h : i = 0 <;> by_cases h' : j = 0 <;> simp [Addr.add, h, h', Nat.add_assoc]
        obtain ⟨c, t, fz, hbk⟩ : ∃ c t fz, w.heap[b]? = some (.cells c t fz) := by
          rw [hadd] at hc0
          unfold World.cell? at hc0
          simp only [] at hc0
          split at hc0
          · rename_i c t fz e; exact ⟨c, t, fz, e⟩
          · cases hc0
        have hc2 : ∀ i, i < m → ∀ j, j < 4 → c[off + (i * 4 + j)]? = [Value.int .u32 (f i).p, .int .u32 (f i).f, .bool (f i).w, .bool (f i).x][j]? := fun i hi j hj => by
          have := hcell i hi j hj
          rw [hadd] at this
          simpa [World.cell?, hbk] using this
        have hsz : off + m * 4 ≤ c.size := by
          have h5 := hc2 (m - 1) (by omega) 3 (by omega)
          have := (Array.getElem?_eq_some_iff.1 h5).1
          omega
        refine ⟨.at ⟨b, off, c.size, 4⟩, fun ρ n hn => ⟨?_, some ⟨b, off, none⟩, m, rfl, hl, .inl ⟨_, hn, .inl ⟨by simp, by simp only []; omega⟩⟩⟩⟩
        unfold RowOk; rw [hn]
        refine ⟨rfl, by rw [tes_len]; simp; omega, c, t, fz, hbk, rfl, fun h => (by cases h), fun k s hk => ?_⟩
        have hk1 : k < len * 4 := by
          have := (List.getElem?_eq_some_iff.1 hk).1
          rw [tes_len] at this; simpa using this
        have hi : k / 4 < len := by omega
        have hj : k % 4 < 4 := Nat.mod_lt _ (by omega)
        have e : k = k / 4 * 4 + k % 4 := by omega
        have hat := tes_at ((List.range len).map f) (k / 4) (f (k / 4)) (by rw [List.getElem?_map, List.getElem?_range hi]; rfl) (k % 4) hj
        rw [← e] at hat
        rw [hat] at hk
        have hv := hc2 (k / 4) (by omega) (k % 4) hj
        rw [← e] at hv
        show ∃ v, c[off + k]? = some v ∧ VS ρ s v
        rw [hv]
        clear hv hat e
        generalize f (k / 4) = q at *
        generalize k % 4 = j at *
        have hjc : j = 0 ∨ j = 1 ∨ j = 2 ∨ j = 3 := by omega
        rcases hjc with rfl | rfl | rfl | rfl <;> (injection hk with hk; subst hk; exact ⟨_, rfl, rfl⟩)
end
end Go.Proofs.Ythgikkibfbkoiaa
