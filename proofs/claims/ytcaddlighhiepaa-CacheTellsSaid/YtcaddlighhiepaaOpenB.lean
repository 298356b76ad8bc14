/- Lists of blocks that came in (rows of slices): what they hold is frozen; a law by its contract. -/
import Derived.Test.YtcaddlighhiepaaOpenW
import Derived.Test.YtcaddlighhiepaaCcH
namespace Go.Proofs.Ytcaddlighhiepaa
open Go.Joins Go.ChangeShapes Go.WideShapes Go.RowKit Go.Deep
set_option linter.unusedVariables false
set_option linter.unusedSimpArgs false
def FrAll (w : World) (ρ : Nm) : Prop := ∀ L c, FzOk w L c → ρ.fr L c
def LFz (w : World) (v : Value) (es N : Nat) (cells : List SV) : Prop := ∀ ρ : Nm, FrAll w ρ → VS ρ (.fz es N cells) v
theorem lfz_of_row {w : World} {v : Value} {es N : Nat} {cells : List SV} (hf : flatAll cells = true) (h : LRowR w v N ⟨false, es, cells⟩) : LFz w v es N cells := by
  intro ρ hr
  obtain ⟨_, p, hp⟩ := h
  obtain ⟨h1, h2⟩ := hp ⟨fun _ => some p, fun _ _ => False⟩ 0 rfl
  obtain ⟨A, c, rfl, hNc, h3⟩ := h2
  refine ⟨A, c, rfl, hNc, ?_⟩
  rcases h3 with ⟨L, hL, h4⟩ | ⟨hL, h4⟩
  · injection hL with hL
    subst hL
    unfold RowOk at h1
    simp only [] at h1
    obtain ⟨g1, g2, cc, ct, fz, g3, g4, _, g5⟩ := h1
    refine .inl ⟨L, hr L cells ⟨g2, cc, ct, fz, g3, g4, fun k s hs => ?_⟩, g1, ?_⟩
    · obtain ⟨x, hx, hv⟩ := g5 k s hs
      exact ⟨x, hx, VS.vf (flat_at hf hs) hv⟩
    · simpa using h4
  · injection hL with hL
    subst hL
    unfold RowOk at h1
    exact .inr ⟨h1, h4⟩
/-- A row that came in, whose cells may be frozen. -/
def LRowZ (w : World) (v : Value) (len : Nat) (r : Row) : Prop :=
  r.own = false ∧ ∃ p : PL, ∀ (ρ : Nm) (n : Nat), FrAll w ρ → ρ n = some p → RowOk ρ w n r ∧ VS ρ (.sl n 0 len) v
theorem LRowR.z {w : World} {v : Value} {len : Nat} {r : Row} (h : LRowR w v len r) : LRowZ w v len r := ⟨h.1, by obtain ⟨p, hp⟩ := h.2; exact ⟨p, fun ρ n _ => hp ρ n⟩⟩
def LRowsZ (w : World) : List (Value × Nat × Row) → List PL → Prop
  | [], [] => True
  | q :: l, p :: ps => (∀ (ρ : Nm) (n : Nat), FrAll w ρ → ρ n = some p → RowOk ρ w n q.2.2 ∧ VS ρ (.sl n 0 q.2.1) q.1) ∧ LRowsZ w l ps
  | _, _ => False
theorem lrowsZ_at {w : World} : ∀ {l : List (Value × Nat × Row)} {ps : List PL}, LRowsZ w l ps → l.length = ps.length ∧ ∀ (i : Nat) q p, l[i]? = some q → ps[i]? = some p → ∀ (ρ : Nm) (n : Nat), FrAll w ρ → ρ n = some p → RowOk ρ w n q.2.2 ∧ VS ρ (.sl n 0 q.2.1) q.1
  | [], [], _ => ⟨rfl, fun i q p h => by simp at h⟩
  | q :: l, p :: ps, h => by
    obtain ⟨h1, h2⟩ := lrowsZ_at h.2
    refine ⟨by simp [h1], fun i q' p' hq hp => ?_⟩
    cases i with
    | zero => injection hq with hq; injection hp with hp; subst hq hp; exact h.1
    | succ i => exact h2 i q' p' hq hp
  | [], _ :: _, h => h.elim
  | _ :: _, [], h => h.elim
theorem law_of_fnZ {P : Program} {f : FuncId} {args : List AV} {H : List Row} {vs : Array Value} {w : World} (q : List (Value × Nat × Row)) (hq : ∀ x ∈ q, LRowZ w x.1 x.2.1 x.2.2) (hH : H = q.map fun x => x.2.2) (hF : Fn P f args H (· = ⟨.a (.s (.bool true)), [], []⟩))
    (ha : ∀ ρ : Nm, FrAll w ρ → (∀ (i : Nat) x, q[i]? = some x → VS ρ (.sl i 0 x.2.1) x.1) → VAs ρ args vs.toList) : Calls P f vs w fun e w' => e = .returned (.bool true) ∧ Below w.heap.size w w' := by
  obtain ⟨ps, hps⟩ : ∃ ps : List PL, LRowsZ w q ps := by
    clear hH ha
    induction q with
    | nil => exact ⟨[], trivial⟩
    | cons x q ih =>
      obtain ⟨ps, h⟩ := ih fun y hy => hq y (by simp [hy])
      obtain ⟨_, p, hp⟩ := hq x (by simp)
      exact ⟨p :: ps, hp, h⟩
  obtain ⟨hlen, hat⟩ := lrowsZ_at hps
  have hHl : H.length = ps.length := by rw [hH]; simp [hlen]
  have hrow : ∀ (i : Nat) r, H[i]? = some r → ∃ x p, q[i]? = some x ∧ ps[i]? = some p ∧ r = x.2.2 := fun i r hr => by
    rw [hH, List.getElem?_map] at hr
    cases e : q[i]? with
    | none => rw [e] at hr; cases hr
    | some x =>
      rw [e] at hr
      injection hr with hr
      have hi : i < ps.length := by rw [← hlen]; exact (List.getElem?_eq_some_iff.1 e).1
      exact ⟨x, ps[i], rfl, List.getElem?_eq_getElem hi, hr.symm⟩
  have hown : ∀ (i : Nat) r, H[i]? = some r → r.own = false := fun i r hr => by
    obtain ⟨x, p, h1, _, rfl⟩ := hrow i r hr
    exact (hq x (List.mem_of_getElem? h1)).1
  have hfr : FrAll w ⟨fun n => ps[n]?, FzOk w⟩ := fun L c h => h
  refine (hF.2 ⟨fun n => ps[n]?, FzOk w⟩ w vs (fun n hn => List.getElem?_eq_none (by omega)) (ha _ hfr fun i x hx => ?_) ⟨fun n r hn => ?_, fun n r m s Ln Lm h1 h2 => ?_, fun n r L h1 h2 => ?_, rfl, rfl, rfl, Nat.le_refl _, fun _ _ _ => rfl, fun L c h => ⟨h, fun n r Ln h1 h2 => ?_, .inl h⟩⟩).mono fun e w' he => ?_
  · have hi : i < ps.length := by rw [← hlen]; exact (List.getElem?_eq_some_iff.1 hx).1
    exact (hat i x ps[i] hx (List.getElem?_eq_getElem hi) _ i hfr (List.getElem?_eq_getElem hi)).2
  · obtain ⟨x, p, h1, h2, rfl⟩ := hrow n r hn
    exact (hat n x p h1 h2 _ n hfr h2).1
  · rw [hown n r h1] at h2; cases h2
  · rw [hown n r h1] at h2; cases h2
  · rw [hown n r h1] at h2; cases h2
  · obtain ⟨R, v, ρ', rfl, rfl, _, _, hv, hc, _⟩ := he
    have hv : v = .bool true := hv
    refine ⟨by rw [hv], hc.os, hc.tape, hc.output, hc.size, fun b hb => hc.block b hb ?_⟩
    rintro ⟨n, r, L, h1, h2, _⟩
    rw [hown n r h1] at h2; cases h2
theorem va_blockZ {ρ : Nm} {b : Bk} {o : Value} (h : VS ρ (.fz 6 b.l.length (mzs b.l)) o) : VA ρ (.agg b.C) (.agg #[.int .u32 b.A, .int .i64 b.L, o]) :=
  ⟨_, rfl, rfl, fun k s hs => by
    match k, hs with
    | 0, hs => injection hs with hs; subst hs; exact ⟨_, rfl, rfl⟩
    | 1, hs => injection hs with hs; subst hs; exact ⟨_, rfl, rfl⟩
    | 2, hs => injection hs with hs; subst hs; exact ⟨_, rfl, h⟩
    | k + 3, hs => simp [Bk.C] at hs⟩
section
variable {H : Type} {enc : TypeId × Value → H} {P : Program} {w : World} {base : Nat} {held : Bool}
/-- The three cells of a block. -/
theorem openBlkC {fuel : Nat} {t e : TypeId} {g0 g1 g2 f0 f1 f2 f3 f4 f5 : Field} {cs : List Value} {x : DataW H × List MemPlace} (hst : P.underlying t = some (.struct #[g0, g1, g2])) (honet : oneCellFields P #[g0, g1, g2] = true) (hCt : P.cellsOf t = 3)
    (u0 : P.underlying g0.type = some (.int .u32)) (u1 : P.underlying g1.type = some (.int .i64)) (hsl : P.underlying g2.type = some (.slice e)) (hs : P.underlying e = some (.struct #[f0, f1, f2, f3, f4, f5])) (hone : oneCellFields P #[f0, f1, f2, f3, f4, f5] = true) (hC : P.cellsOf e = 6)
    (t0 : P.underlying f0.type = some (.int .i64)) (t1 : P.underlying f1.type = some (.int .i64)) (t2 : P.underlying f2.type = some (.int .i64)) (t3 : P.underlying f3.type = some (.int .i64)) (t4 : P.underlying f4.type = some (.int .u32)) (t5 : P.underlying f5.type = some (.int .i64))
    (h : DataW.trod enc P w base (fun _ => true) held fuel t cs = some x) : ∃ (b : Bk) (o : Value), cs = [.int .u32 b.A, .int .i64 b.L, o] ∧ b.A < 4294967296 ∧ b.l.length ≤ maxLen ∧ (∀ m ∈ b.l, m.k < 4294967296) ∧ LFz w o 6 b.l.length (mzs b.l) := by
  obtain ⟨xs, n, _, hx, hl, hlen, hg⟩ := DataW.trod_struct hst h
  rw [hCt] at hl
  obtain ⟨o0, k0⟩ := hone_of honet 0 g0 rfl
  obtain ⟨o1, k1⟩ := hone_of honet 1 g1 rfl
  obtain ⟨o2, k2⟩ := hone_of honet 2 g2 rfl
  match cs, hl, xs, hlen with
  | [c0, c1, c2], _, [y0, y1, y2], _ =>
    obtain ⟨a0, rfl, z2⟩ := int_field u0 (by simpa [o0, k0] using hg 0 g0 rfl)
    obtain ⟨a1, rfl, _⟩ := int_field u1 (by simpa [o1, k1] using hg 1 g1 rfl)
    obtain ⟨A, rfl, hA⟩ := wf_u32 z2
    have h2 := hg 2 g2 rfl
    obtain ⟨l, N, l1, l2, l3, l4, _⟩ := openMicros (v := c2) hsl hs hone hC t0 t1 t2 t3 t4 t5 (by simpa [o2, k2] using h2)
    subst l1
    exact ⟨⟨A, a1, l⟩, c2, rfl, hA, l2, l3, lfz_of_row (mzs_flat l) l4⟩
/-- A slice of blocks that came in. -/
theorem openBlks {fuel : Nat} {tt t e : TypeId} {g0 g1 g2 f0 f1 f2 f3 f4 f5 : Field} {v : Value} {x : DataW H × List MemPlace} (hsl0 : P.underlying tt = some (.slice t)) (hst : P.underlying t = some (.struct #[g0, g1, g2])) (honet : oneCellFields P #[g0, g1, g2] = true) (hCt : P.cellsOf t = 3)
    (u0 : P.underlying g0.type = some (.int .u32)) (u1 : P.underlying g1.type = some (.int .i64)) (hsl : P.underlying g2.type = some (.slice e)) (hs : P.underlying e = some (.struct #[f0, f1, f2, f3, f4, f5])) (hone : oneCellFields P #[f0, f1, f2, f3, f4, f5] = true) (hC : P.cellsOf e = 6)
    (t0 : P.underlying f0.type = some (.int .i64)) (t1 : P.underlying f1.type = some (.int .i64)) (t2 : P.underlying f2.type = some (.int .i64)) (t3 : P.underlying f3.type = some (.int .i64)) (t4 : P.underlying f4.type = some (.int .u32)) (t5 : P.underlying f5.type = some (.int .i64))
    (h : DataW.trod enc P w base (fun _ => true) held fuel tt [v] = some x) : ∃ (l : List Bk) (N : Nat), l.length = N ∧ N ≤ maxLen ∧ (∀ b ∈ l, b.A < 4294967296 ∧ ∀ m ∈ b.l, m.k < 4294967296) ∧ LRowZ w v N ⟨false, 3, bks l⟩ := by
  rcases open_slice hsl0 h with ⟨hv, _⟩ | ⟨a, len, cap, m, n, D, Pl, hv, hb, hl, hm, hm2, hx, hg⟩
  · injection hv with hv
    subst hv
    refine ⟨[], 0, rfl, Nat.zero_le _, (fun m hm => by cases hm), ⟨rfl, .empty, fun ρ n _ hn => ⟨?_, none, 0, rfl, Nat.le_refl _, .inr ⟨hn, rfl⟩⟩⟩⟩
    unfold RowOk; rw [hn]; rfl
  · injection hv with hv
    subst hv
    simp only [if_true] at hm2
    subst hm2
    rw [hCt] at hg
    have key : ∀ i, ∃ q : Bk × Value, i < m → w.cells? base (a.add (i * 3)) 3 = some [.int .u32 q.1.A, .int .i64 q.1.L, q.2] ∧ (q.1.A < 4294967296 ∧ ∀ m ∈ q.1.l, m.k < 4294967296) ∧ LFz w q.2 6 q.1.l.length (mzs q.1.l) := fun i => by
      by_cases hi : i < m
      · obtain ⟨cs', h1, h2⟩ := hg i hi
        obtain ⟨q, o, rfl, hk, _, hk2, hz⟩ := openBlkC hst honet hCt u0 u1 hsl hs hone hC t0 t1 t2 t3 t4 t5 h2
        exact ⟨(q, o), fun _ => ⟨h1, ⟨hk, hk2⟩, hz⟩⟩
      · exact ⟨(⟨0, 0, []⟩, .bool true), fun h => absurd h hi⟩
    obtain ⟨f, hf⟩ := Classical.axiomOfChoice key
    have hcell : ∀ i, i < m → ∀ j, j < 3 → w.cell? ((a.add (i * 3)).add j) = [Value.int .u32 (f i).1.A, .int .i64 (f i).1.L, (f i).2][j]? := fun i hi j hj =>
      (World.cells?_some (hf i hi).1).2.2 j hj
    refine ⟨(List.range len).map fun i => (f i).1, len, by simp, by omega, fun q hq => ?_, ⟨rfl, ?_⟩⟩
    · obtain ⟨i, hi, rfl⟩ := List.mem_map.1 hq
      exact (hf i (by have := List.mem_range.1 hi; omega)).2.1
    · by_cases h0 : m = 0
      · refine ⟨.empty, fun ρ n _ hn => ⟨?_, some a, m, rfl, hl, .inr ⟨hn, h0⟩⟩⟩
        unfold RowOk; rw [hn]
        have : len = 0 := by omega
        subst this; rfl
      · have hc0 := hcell 0 (by omega) 0 (by omega)
        obtain ⟨b, off, spot⟩ := a
        have hs0 : spot = none := by simpa [Addr.add] using World.cell?_spot hc0
        subst hs0
        have hadd : ∀ i j, ((⟨b, off, none⟩ : Addr).add i).add j = ⟨b, off + (i + j), none⟩ := fun i j => by
          by_cases h : i = 0 <;> by_cases h' : j = 0 <;> simp [Addr.add, h, h', Nat.add_assoc]
        obtain ⟨c, t, fz, hbk⟩ : ∃ c t fz, w.heap[b]? = some (.cells c t fz) := by
          rw [hadd] at hc0
          unfold World.cell? at hc0
          simp only [] at hc0
          split at hc0
          · rename_i c t fz e; exact ⟨c, t, fz, e⟩
          · cases hc0
        have hc2 : ∀ i, i < m → ∀ j, j < 3 → c[off + (i * 3 + j)]? = [Value.int .u32 (f i).1.A, .int .i64 (f i).1.L, (f i).2][j]? := fun i hi j hj => by
          have := hcell i hi j hj
          rw [hadd] at this
          simpa [World.cell?, hbk] using this
        have hsz : off + m * 3 ≤ c.size := by
          have h5 := hc2 (m - 1) (by omega) 2 (by omega)
          have := (Array.getElem?_eq_some_iff.1 h5).1
          omega
        refine ⟨.at ⟨b, off, c.size, 3⟩, fun ρ n hfa hn => ⟨?_, some ⟨b, off, none⟩, m, rfl, hl, .inl ⟨_, hn, .inl ⟨by simp, by simp only []; omega⟩⟩⟩⟩
        unfold RowOk; rw [hn]
        refine ⟨rfl, by rw [bks_len]; simp; omega, c, t, fz, hbk, rfl, fun h => (by cases h), fun k s hk => ?_⟩
        have hk1 : k < len * 3 := by
          have := (List.getElem?_eq_some_iff.1 hk).1
          rw [bks_len] at this; simpa using this
        have hi : k / 3 < len := by omega
        have hj : k % 3 < 3 := Nat.mod_lt _ (by omega)
        have e : k = k / 3 * 3 + k % 3 := by omega
        have hat := bks_at ((List.range len).map fun i => (f i).1) (k / 3) (f (k / 3)).1 (by rw [List.getElem?_map, List.getElem?_range hi]; rfl) (k % 3) hj
        rw [← e] at hat
        rw [hat] at hk
        have hv := hc2 (k / 3) (by omega) (k % 3) hj
        have hz := (hf (k / 3) (by omega)).2.2 ρ hfa
        rw [← e] at hv
        show ∃ v, c[off + k]? = some v ∧ VS ρ s v
        rw [hv]
        clear hv hat e
        generalize f (k / 3) = q at *
        generalize k % 3 = j at *
        have hjc : j = 0 ∨ j = 1 ∨ j = 2 := by omega
        rcases hjc with rfl | rfl | rfl
        · injection hk with hk; subst hk; exact ⟨_, rfl, rfl⟩
        · injection hk with hk; subst hk; exact ⟨_, rfl, rfl⟩
        · injection hk with hk; subst hk; exact ⟨_, rfl, hz⟩
end
end Go.Proofs.Ytcaddlighhiepaa
