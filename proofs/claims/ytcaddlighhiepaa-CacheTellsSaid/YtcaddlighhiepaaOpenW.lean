import Derived.Test.YtcaddlighhiepaaOpenS
import Derived.Test.YtcaddlighhiepaaShut
import Derived.Test.YtcaddlighhiepaaAbsS
import Derived.Deep.Slices
import Derived.Test.YtcaddlighhiepaaBkA
/- Words by value (an array of 16), opened; a law by its contract, with rows of any kind. -/
namespace Go.Proofs.Ytcaddlighhiepaa
open Go.Joins Go.ChangeShapes Go.WideShapes Go.RowKit Go.Deep
set_option linter.unusedVariables false
section
variable {H : Type} {enc : TypeId × Value → H} {P : Program} {w : World} {base : Nat} {spare : Nat → Bool} {held : Bool}
theorem arrInts3 {k : IntKind} {n fuel : Nat} {e t : TypeId} {cs : List Value} {x : DataW H × List MemPlace} (ht : P.underlying t = some (.array n e)) (he : P.underlying e = some (.int k)) (hce : P.cellsOf e = 1) (hct : P.cellsOf t = n)
    (h : DataW.trod enc P w base spare held fuel t cs = some x) : ∃ ns : List Int, ns.length = n ∧ cs = ns.map (Value.int k) ∧ ∀ m ∈ ns, (Lit.int k m).wf = true := by
  obtain ⟨xs, m, _, _, hl, hn, hg⟩ := DataW.trod_array ht h
  rw [hct] at hl
  rw [hce] at hg
  have key : ∀ i, ∃ z : Int, i < n → cs[i]? = some (.int k z) ∧ (Lit.int k z).wf = true := fun i => by
    by_cases hi : i < n
    · have h1 := hg i hi
      rw [List.getElem?_eq_getElem (by omega)] at h1
      have e1 : (cs.drop (i * 1)).take 1 = [cs[i]'(by omega)] := by
        rw [Nat.mul_one, List.drop_eq_getElem_cons (by omega)]; rfl
      rw [e1] at h1
      obtain ⟨z, h2, h3⟩ := int_field he h1
      exact ⟨z, fun _ => ⟨by rw [List.getElem?_eq_getElem (by omega), h2], h3⟩⟩
    · exact ⟨0, fun h => absurd h hi⟩
  obtain ⟨f, hf⟩ := Classical.axiomOfChoice key
  refine ⟨(List.range n).map f, by simp, ?_, fun z hz => ?_⟩
  · apply List.ext_getElem?
    intro i
    by_cases hi : i < n
    · rw [(hf i hi).1]; simp [hi]
    · rw [List.getElem?_eq_none (by omega), List.getElem?_eq_none (by simp; omega)]
  · obtain ⟨i, hi, rfl⟩ := List.mem_map.1 hz
    exact (hf i (by simpa using hi)).2
theorem ints_words3 {ns : List Int} (h : ∀ m ∈ ns, (Lit.int .u32 m).wf = true) : ∃ xs : List Nat, xs.length = ns.length ∧ ns.map (Value.int .u32) = xs.map (fun (y : Nat) => Value.int .u32 y) ∧ ∀ y ∈ xs, y < 4294967296 := by
  have hb : ∀ n ∈ ns, 0 ≤ n ∧ n < 4294967296 := fun n hn => by
    obtain ⟨m, rfl, hm⟩ := wf_u32 (h n hn)
    omega
  refine ⟨ns.map Int.toNat, by simp, ?_, fun y hy => ?_⟩
  · rw [List.map_map]
    refine List.map_congr_left fun n hn => ?_
    have := hb n hn
    simp only [Function.comp]
    rw [Int.toNat_of_nonneg this.1]
  · obtain ⟨n, hn, rfl⟩ := List.mem_map.1 hy
    have := hb n hn; omega
def wsV (x : List Nat) : Array Value := (x.map (fun (y : Nat) => Value.int .u32 y)).toArray
theorem openArr {n : Nat} {r : Reach} {b0 : Nat} {t e : TypeId} {v : Value} {d : DataW H} {p : List MemPlace} (ht : P.underlying t = some (.array n e)) (he : P.underlying e = some (.int .u32)) (hce : P.cellsOf e = 1) (hct : P.cellsOf t = n)
    (hv : Value.okWide P w r b0 t v) (h : DataW.Trod enc P w base spare held t v d p) : ∃ x : List Nat, v = .agg (wsV x) ∧ x.length = n ∧ ∀ y ∈ x, y < 4294967296 := by
  simp only [Value.okWide, ht] at hv
  obtain ⟨cs, rfl, hsz, _⟩ := hv
  obtain ⟨fuel, hf⟩ := h
  obtain ⟨ns, l0, e0, w0⟩ := arrInts3 ht he hce hct hf
  obtain ⟨x, x1, x2, x3⟩ := ints_words3 w0
  refine ⟨x, ?_, by omega, x3⟩
  congr 1
  apply Array.ext'
  show cs.toList = (x.map _).toArray.toList
  rw [← x2, ← e0]; rfl
end
theorem va_ws (ρ : Nm) (x : List Nat) : VA ρ (.agg (wsv x)) (.agg (wsV x)) := by
  refine ⟨wsV x, rfl, by simp [wsV], fun k s hs => ?_⟩
  unfold wsv at hs
  rw [List.getElem?_map] at hs
  cases e : x[k]? with
  | none => rw [e] at hs; cases hs
  | some y =>
    rw [e] at hs
    injection hs with hs; subst hs
    exact ⟨_, by show (x.map _).toArray.toList[k]? = _; rw [List.getElem?_map, e]; rfl, rfl⟩
/-- A row that came in, of any kind. -/
def LRowR (w : World) (v : Value) (len : Nat) (r : Row) : Prop :=
  r.own = false ∧ ∃ p : PL, ∀ (ρ : Nm) (n : Nat), ρ n = some p → RowOk ρ w n r ∧ VS ρ (.sl n 0 len) v
theorem LRow.r {w : World} {v : Value} {len : Nat} {cells : List SV} (h : LRow w v len cells) : LRowR w v len ⟨false, 1, cells⟩ := ⟨rfl, h⟩
def LRowsR (w : World) : List (Value × Nat × Row) → List PL → Prop
  | [], [] => True
  | q :: l, p :: ps => (∀ (ρ : Nm) (n : Nat), ρ n = some p → RowOk ρ w n q.2.2 ∧ VS ρ (.sl n 0 q.2.1) q.1) ∧ LRowsR w l ps
  | _, _ => False
theorem lrowsR_at {w : World} : ∀ {l : List (Value × Nat × Row)} {ps : List PL}, LRowsR w l ps → l.length = ps.length ∧ ∀ (i : Nat) q p, l[i]? = some q → ps[i]? = some p → ∀ (ρ : Nm) (n : Nat), ρ n = some p → RowOk ρ w n q.2.2 ∧ VS ρ (.sl n 0 q.2.1) q.1
  | [], [], _ => ⟨rfl, fun i q p h => by simp at h⟩
  | q :: l, p :: ps, h => by
    obtain ⟨h1, h2⟩ := lrowsR_at h.2
    refine ⟨by simp [h1], fun i q' p' hq hp => ?_⟩
    cases i with
    | zero => injection hq with hq; injection hp with hp; subst hq hp; exact h.1
    | succ i => exact h2 i q' p' hq hp
  | [], _ :: _, h => h.elim
  | _ :: _, [], h => h.elim
/-- A law that holds by its contract, rows of any kind. -/
theorem law_of_fnR {P : Program} {f : FuncId} {args : List AV} {H : List Row} {vs : Array Value} {w : World} (q : List (Value × Nat × Row)) (hq : ∀ x ∈ q, LRowR w x.1 x.2.1 x.2.2) (hH : H = q.map fun x => x.2.2) (hF : Fn P f args H (· = ⟨.a (.s (.bool true)), [], []⟩))
    (ha : ∀ ρ : Nm, (∀ (i : Nat) x, q[i]? = some x → VS ρ (.sl i 0 x.2.1) x.1) → VAs ρ args vs.toList) : Calls P f vs w fun e w' => e = .returned (.bool true) ∧ Below w.heap.size w w' := by
  obtain ⟨ps, hps⟩ : ∃ ps : List PL, LRowsR w q ps := by
    clear hH ha
    induction q with
    | nil => exact ⟨[], trivial⟩
    | cons x q ih =>
      obtain ⟨ps, h⟩ := ih fun y hy => hq y (by simp [hy])
      obtain ⟨_, p, hp⟩ := hq x (by simp)
      exact ⟨p :: ps, hp, h⟩
  obtain ⟨hlen, hat⟩ := lrowsR_at hps
  have hHl : H.length = ps.length := by rw [hH]; simp [hlen]
  have hrow : ∀ (i : Nat) r, H[i]? = some r → ∃ x p, q[i]? = some x ∧ ps[i]? = some p ∧ r = x.2.2 := fun i r hr => by
    rw [hH, List.getElem?_map] at hr
    cases e : q[i]? with
    | none => rw [e] at hr; cases hr
    | some x =>
      rw [e] at hr
      injection hr with hr
      have hi : i < ps.length := by rw [← hlen]; exact (List.getElem?_eq_some_iff.1 e).1
      exact ⟨x, ps[i], rfl, List.getElem?_eq_getElem hi, hr.symm⟩
  have hown : ∀ (i : Nat) r, H[i]? = some r → r.own = false := fun i r hr => by
    obtain ⟨x, p, h1, _, rfl⟩ := hrow i r hr
    exact (hq x (List.mem_of_getElem? h1)).1
  refine (hF.2 ⟨fun n => ps[n]?, fun _ _ => False⟩ w vs (fun n hn => List.getElem?_eq_none (by omega)) (ha _ fun i x hx => ?_) ⟨fun n r hn => ?_, fun n r m s Ln Lm h1 h2 => ?_, fun n r L h1 h2 => ?_, rfl, rfl, rfl, Nat.le_refl _, fun _ _ _ => rfl, fun _ _ h => h.elim⟩).mono fun e w' he => ?_
  · have hi : i < ps.length := by rw [← hlen]; exact (List.getElem?_eq_some_iff.1 hx).1
    exact (hat i x ps[i] hx (List.getElem?_eq_getElem hi) _ i (List.getElem?_eq_getElem hi)).2
  · obtain ⟨x, p, h1, h2, rfl⟩ := hrow n r hn
    exact (hat n x p h1 h2 _ n h2).1
  · rw [hown n r h1] at h2; cases h2
  · rw [hown n r h1] at h2; cases h2
  · obtain ⟨R, v, ρ', rfl, rfl, _, _, hv, hc, _⟩ := he
    have hv : v = .bool true := hv
    refine ⟨by rw [hv], hc.os, hc.tape, hc.output, hc.size, fun b hb => hc.block b hb ?_⟩
    rintro ⟨n, r, L, h1, h2, _⟩
    rw [hown n r h1] at h2; cases h2
end Go.Proofs.Ytcaddlighhiepaa

/- Blocks by value (a struct with a slice of structs), opened. -/
namespace Go.Proofs.Ytcaddlighhiepaa
open Go.Joins Go.ChangeShapes Go.WideShapes Go.RowKit Go.Deep
set_option linter.unusedVariables false
section
variable {H : Type} {enc : TypeId × Value → H} {P : Program} {w : World} {base : Nat} {spare : Nat → Bool} {held : Bool}
/-- The six cells of an operation. -/
theorem openMicro {fuel : Nat} {e : TypeId} {f0 f1 f2 f3 f4 f5 : Field} {cs : List Value} {x : DataW H × List MemPlace} (hs : P.underlying e = some (.struct #[f0, f1, f2, f3, f4, f5])) (hone : oneCellFields P #[f0, f1, f2, f3, f4, f5] = true) (hC : P.cellsOf e = 6)
    (t0 : P.underlying f0.type = some (.int .i64)) (t1 : P.underlying f1.type = some (.int .i64)) (t2 : P.underlying f2.type = some (.int .i64)) (t3 : P.underlying f3.type = some (.int .i64)) (t4 : P.underlying f4.type = some (.int .u32)) (t5 : P.underlying f5.type = some (.int .i64))
    (h : DataW.trod enc P w base spare held fuel e cs = some x) : ∃ m : Mz, cs = [.int .i64 m.o, .int .i64 m.a, .int .i64 m.b, .int .i64 m.c, .int .u32 m.k, .int .i64 m.n] ∧ m.k < 4294967296 := by
  obtain ⟨xs, n, _, hx, hl, hlen, hg⟩ := DataW.trod_struct hs h
  rw [hC] at hl
  obtain ⟨o0, k0⟩ := hone_of hone 0 f0 rfl
  obtain ⟨o1, k1⟩ := hone_of hone 1 f1 rfl
  obtain ⟨o2, k2⟩ := hone_of hone 2 f2 rfl
  obtain ⟨o3, k3⟩ := hone_of hone 3 f3 rfl
  obtain ⟨o4, k4⟩ := hone_of hone 4 f4 rfl
  obtain ⟨o5, k5⟩ := hone_of hone 5 f5 rfl
  match cs, hl, xs, hlen with
  | [c0, c1, c2, c3, c4, c5], _, [y0, y1, y2, y3, y4, y5], _ =>
    obtain ⟨a0, rfl, _⟩ := int_field t0 (by simpa [o0, k0] using hg 0 f0 rfl)
    obtain ⟨a1, rfl, _⟩ := int_field t1 (by simpa [o1, k1] using hg 1 f1 rfl)
    obtain ⟨a2, rfl, _⟩ := int_field t2 (by simpa [o2, k2] using hg 2 f2 rfl)
    obtain ⟨a3, rfl, _⟩ := int_field t3 (by simpa [o3, k3] using hg 3 f3 rfl)
    obtain ⟨a4, rfl, w4⟩ := int_field t4 (by simpa [o4, k4] using hg 4 f4 rfl)
    obtain ⟨a5, rfl, _⟩ := int_field t5 (by simpa [o5, k5] using hg 5 f5 rfl)
    obtain ⟨k, rfl, hk⟩ := wf_u32 w4
    exact ⟨⟨a0, a1, a2, a3, k, a5⟩, rfl, hk⟩
/-- A slice of operations that came in. -/
theorem openMicros {fuel : Nat} {t e : TypeId} {f0 f1 f2 f3 f4 f5 : Field} {v : Value} {x : DataW H × List MemPlace} (hsl : P.underlying t = some (.slice e)) (hs : P.underlying e = some (.struct #[f0, f1, f2, f3, f4, f5])) (hone : oneCellFields P #[f0, f1, f2, f3, f4, f5] = true) (hC : P.cellsOf e = 6)
    (t0 : P.underlying f0.type = some (.int .i64)) (t1 : P.underlying f1.type = some (.int .i64)) (t2 : P.underlying f2.type = some (.int .i64)) (t3 : P.underlying f3.type = some (.int .i64)) (t4 : P.underlying f4.type = some (.int .u32)) (t5 : P.underlying f5.type = some (.int .i64))
    (h : DataW.trod enc P w base (fun _ => true) held fuel t [v] = some x) : ∃ (l : List Mz) (N : Nat), l.length = N ∧ N ≤ maxLen ∧ (∀ m ∈ l, m.k < 4294967296) ∧ LRowR w v N ⟨false, 6, mzs l⟩ ∧ (v = .slice none 0 0 ∨ ∃ a c, v = .slice (some a) N c) := by
  rcases open_slice hsl h with ⟨hv, _⟩ | ⟨a, len, cap, m, n, D, Pl, hv, hb, hl, hm, hm2, hx, hg⟩
  · injection hv with hv
    subst hv
    refine ⟨[], 0, rfl, Nat.zero_le _, (fun m hm => by cases hm), ⟨rfl, .empty, fun ρ n hn => ⟨?_, none, 0, rfl, Nat.le_refl _, .inr ⟨hn, rfl⟩⟩⟩, .inl rfl⟩
    unfold RowOk; rw [hn]; rfl
  · injection hv with hv
    subst hv
    simp only [if_true] at hm2
    subst hm2
    rw [hC] at hg
    have key : ∀ i, ∃ q : Mz, i < m → w.cells? base (a.add (i * 6)) 6 = some [.int .i64 q.o, .int .i64 q.a, .int .i64 q.b, .int .i64 q.c, .int .u32 q.k, .int .i64 q.n] ∧ q.k < 4294967296 := fun i => by
      by_cases hi : i < m
      · obtain ⟨cs', h1, h2⟩ := hg i hi
        obtain ⟨q, rfl, hk⟩ := openMicro hs hone hC t0 t1 t2 t3 t4 t5 h2
        exact ⟨q, fun _ => ⟨h1, hk⟩⟩
      · exact ⟨⟨0, 0, 0, 0, 0, 0⟩, fun h => absurd h hi⟩
    obtain ⟨f, hf⟩ := Classical.axiomOfChoice key
    have hcell : ∀ i, i < m → ∀ j, j < 6 → w.cell? ((a.add (i * 6)).add j) = [Value.int .i64 (f i).o, .int .i64 (f i).a, .int .i64 (f i).b, .int .i64 (f i).c, .int .u32 (f i).k, .int .i64 (f i).n][j]? := fun i hi j hj =>
      (World.cells?_some (hf i hi).1).2.2 j hj
    refine ⟨(List.range len).map f, len, by simp, by omega, fun q hq => ?_, ⟨rfl, ?_⟩, .inr ⟨a, m, rfl⟩⟩
    · obtain ⟨i, hi, rfl⟩ := List.mem_map.1 hq
      exact (hf i (by have := List.mem_range.1 hi; omega)).2
    · by_cases h0 : m = 0
      · refine ⟨.empty, fun ρ n hn => ⟨?_, some a, m, rfl, hl, .inr ⟨hn, h0⟩⟩⟩
        unfold RowOk; rw [hn]
        have : len = 0 := by omega
        subst this; rfl
      · have hc0 := hcell 0 (by omega) 0 (by omega)
        obtain ⟨b, off, spot⟩ := a
        have hs0 : spot = none := by simpa [Addr.add] using World.cell?_spot hc0
        subst hs0
        have hadd : ∀ i j, ((⟨b, off, none⟩ : Addr).add i).add j = ⟨b, off + (i + j), none⟩ := fun i j => by
          by_cases h : i = 0 <;> by_cases h' : j = 0 <;> simp [Addr.add, h, h', Nat.add_assoc]
        obtain ⟨c, t, fz, hbk⟩ : ∃ c t fz, w.heap[b]? = some (.cells c t fz) := by
          rw [hadd] at hc0
          unfold World.cell? at hc0
          simp only [] at hc0
          split at hc0
          · rename_i c t fz e; exact ⟨c, t, fz, e⟩
          · cases hc0
        have hc2 : ∀ i, i < m → ∀ j, j < 6 → c[off + (i * 6 + j)]? = [Value.int .i64 (f i).o, .int .i64 (f i).a, .int .i64 (f i).b, .int .i64 (f i).c, .int .u32 (f i).k, .int .i64 (f i).n][j]? := fun i hi j hj => by
          have := hcell i hi j hj
          rw [hadd] at this
          simpa [World.cell?, hbk] using this
        have hsz : off + m * 6 ≤ c.size := by
          have h5 := hc2 (m - 1) (by omega) 5 (by omega)
          have := (Array.getElem?_eq_some_iff.1 h5).1
          omega
        refine ⟨.at ⟨b, off, c.size, 6⟩, fun ρ n hn => ⟨?_, some ⟨b, off, none⟩, m, rfl, hl, .inl ⟨_, hn, .inl ⟨by simp, by simp only []; omega⟩⟩⟩⟩
        unfold RowOk; rw [hn]
        refine ⟨rfl, by rw [mzs_len]; simp; omega, c, t, fz, hbk, rfl, fun h => (by cases h), fun k s hk => ?_⟩
        have hk1 : k < len * 6 := by
          have := (List.getElem?_eq_some_iff.1 hk).1
          rw [mzs_len] at this; simpa using this
        have hi : k / 6 < len := by omega
        have hj : k % 6 < 6 := Nat.mod_lt _ (by omega)
        have e : k = k / 6 * 6 + k % 6 := by omega
        have hat := mzs_at ((List.range len).map f) (k / 6) (f (k / 6)) (by rw [List.getElem?_map, List.getElem?_range hi]; rfl) (k % 6) hj
        rw [← e] at hat
        rw [hat] at hk
        have hv := hc2 (k / 6) (by omega) (k % 6) hj
        rw [← e] at hv
        show ∃ v, c[off + k]? = some v ∧ VS ρ s v
        rw [hv]
        clear hv hat e
        generalize f (k / 6) = q at *
        generalize k % 6 = j at *
        have hjc : j = 0 ∨ j = 1 ∨ j = 2 ∨ j = 3 ∨ j = 4 ∨ j = 5 := by omega
        rcases hjc with rfl | rfl | rfl | rfl | rfl | rfl <;> (injection hk with hk; subst hk; exact ⟨_, rfl, rfl⟩)
/-- A block, handed over by value. -/
theorem openBlock {r : Reach} {b0 : Nat} {t e : TypeId} {g0 g1 g2 f0 f1 f2 f3 f4 f5 : Field} {v : Value} {d : DataW H} {p : List MemPlace} (hst : P.underlying t = some (.struct #[g0, g1, g2])) (honet : oneCellFields P #[g0, g1, g2] = true) (hCt : P.cellsOf t = 3)
    (u0 : P.underlying g0.type = some (.int .u32)) (u1 : P.underlying g1.type = some (.int .i64)) (hsl : P.underlying g2.type = some (.slice e)) (hs : P.underlying e = some (.struct #[f0, f1, f2, f3, f4, f5])) (hone : oneCellFields P #[f0, f1, f2, f3, f4, f5] = true) (hC : P.cellsOf e = 6)
    (t0 : P.underlying f0.type = some (.int .i64)) (t1 : P.underlying f1.type = some (.int .i64)) (t2 : P.underlying f2.type = some (.int .i64)) (t3 : P.underlying f3.type = some (.int .i64)) (t4 : P.underlying f4.type = some (.int .u32)) (t5 : P.underlying f5.type = some (.int .i64))
    (hv : Value.okWide P w r b0 t v) (h : DataW.Trod enc P w base (fun _ => true) held t v d p) :
    ∃ (A : Nat) (L : Int) (l : List Mz) (N : Nat) (o : Value), v = .agg #[.int .u32 A, .int .i64 L, o] ∧ A < 4294967296 ∧ (Lit.int .i64 L).wf = true ∧ l.length = N ∧ N ≤ maxLen ∧ (∀ m ∈ l, m.k < 4294967296) ∧ LRowR w o N ⟨false, 6, mzs l⟩ := by
  obtain ⟨v0, v1, v2, y0, y1, y2, n, rfl, h0, h1, h2⟩ := openAgg3 hst honet hCt hv h
  obtain ⟨z, rfl, z2⟩ := int_field u0 h0
  obtain ⟨A, rfl, hA⟩ := wf_u32 z2
  obtain ⟨L, rfl, hL⟩ := int_field u1 h1
  obtain ⟨l, N, l1, l2, l3, l4, _⟩ := openMicros hsl hs hone hC t0 t1 t2 t3 t4 t5 h2
  exact ⟨A, L, l, N, v2, rfl, hA, hL, l1, l2, l3, l4⟩
end
theorem va_block {ρ : Nm} {A : Nat} {L : Int} {N i : Nat} {o : Value} (h : VS ρ (.sl i 0 N) o) : VA ρ (.agg [.int .u32 A, .int .i64 L, .sl i 0 N]) (.agg #[.int .u32 A, .int .i64 L, o]) :=
  ⟨_, rfl, rfl, fun k s hs => by
    match k, hs with
    | 0, hs => injection hs with hs; subst hs; exact ⟨_, rfl, rfl⟩
    | 1, hs => injection hs with hs; subst hs; exact ⟨_, rfl, rfl⟩
    | 2, hs => injection hs with hs; subst hs; exact ⟨_, rfl, h⟩
    | k + 3, hs => simp at hs⟩
end Go.Proofs.Ytcaddlighhiepaa
