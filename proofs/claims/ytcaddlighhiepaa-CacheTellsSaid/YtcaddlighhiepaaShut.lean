/- From a contract of the abstract machine to what a law's proof asks. -/
import Derived.Test.YtcaddlighhiepaaAbsR
import Derived.Test.YtcaddlighhiepaaOpen
import Derived.Below
namespace Go.Proofs.Ytcaddlighhiepaa
open Go Go.RowKit
set_option linter.unusedSimpArgs false
set_option linter.unusedVariables false

/-- A row that came in. -/
def LRow (w : World) (v : Value) (len : Nat) (cells : List SV) : Prop :=
  ∃ p : PL, ∀ (ρ : Nm) (n : Nat), ρ n = some p → RowOk ρ w n ⟨false, 1, cells⟩ ∧ VS ρ (.sl n 0 len) v
def isv (k : IntKind) (ls : List Int) : List SV := ls.map fun x => SV.int k x
theorem lrow_ints {k : IntKind} {w : World} {a : Option Addr} {len cap : Nat} {zs : List Int} (h : RowIn k w a len cap zs) : ∃ ls : List Int, ls.length = len ∧ (∀ n ∈ ls, (Lit.int k n).wf = true) ∧ LRow w (.slice a len cap) len (isv k ls) := by
  obtain ⟨h1, h2, h3⟩ := h.rd
  refine ⟨zs.take len, h1, h3, ?_⟩
  rcases h with ⟨rfl, rfl, rfl, rfl⟩ | ⟨x, rfl, hl, _, hz, hc, hw⟩
  · refine ⟨.empty, fun ρ n hn => ⟨?_, none, 0, rfl, Nat.le_refl _, .inr ⟨hn, rfl⟩⟩⟩
    unfold RowOk; rw [hn]; rfl
  · by_cases h0 : cap = 0
    · refine ⟨.empty, fun ρ n hn => ⟨?_, some x, cap, rfl, hl, .inr ⟨hn, h0⟩⟩⟩
      unfold RowOk; rw [hn]
      have : len = 0 := by omega
      subst this; simp [isv]
    · have hc0 := hc 0 (by omega)
      obtain ⟨b, off, spot⟩ := x
      have hs : spot = none := by simpa [Addr.add] using World.cell?_spot hc0
      subst hs
      have hadd : ∀ j, (⟨b, off, none⟩ : Addr).add j = ⟨b, off + j, none⟩ := fun j => by by_cases h : j = 0 <;> simp [Addr.add, h]
      obtain ⟨c, t, fz, hb⟩ : ∃ c t fz, w.heap[b]? = some (.cells c t fz) := by
        rw [hadd] at hc0
        unfold World.cell? at hc0
        simp only [] at hc0
        split at hc0
        · rename_i c t fz e; exact ⟨c, t, fz, e⟩
        · cases hc0
      have hcell : ∀ i, i < cap → c[off + i]? = some (.int k (zs.getD i 0)) := fun i hi => by
        have := hc i (by omega)
        rw [hadd] at this
        simpa [World.cell?, hb] using this
      have hsz : off + cap ≤ c.size := by
        have := hcell (cap - 1) (by omega)
        have := (Array.getElem?_eq_some_iff.1 this).1
        omega
      refine ⟨.at ⟨b, off, c.size, 1⟩, fun ρ n hn => ⟨?_, some ⟨b, off, none⟩, cap, rfl, hl, .inl ⟨_, hn, .inl ⟨by simp, by simp only []; omega⟩⟩⟩⟩
      unfold RowOk; rw [hn]
      refine ⟨rfl, by simp [isv]; omega, c, t, fz, hb, rfl, fun h => (by cases h), fun i s hs => ?_⟩
      unfold isv at hs
      rw [List.getElem?_map, List.getElem?_take] at hs
      split at hs
      · rename_i hi
        rw [List.getElem?_eq_getElem (by omega)] at hs
        injection hs with hs; subst hs
        refine ⟨_, hcell i (by omega), ?_⟩
        show Value.int k _ = .int k _
        rw [List.getD_eq_getElem?_getD, List.getElem?_eq_getElem (by omega)]; rfl
      · cases hs
theorem lrow_words {w : World} {a : Option Addr} {len cap : Nat} {zs : List Int} (h : RowIn .u32 w a len cap zs) : ∃ xs : List Nat, xs.length = len ∧ (∀ x ∈ xs, x < 4294967296) ∧ LRow w (.slice a len cap) len (isv .u32 (xs.map fun (x : Nat) => (x : Int))) := by
  obtain ⟨ls, h1, h2, h3⟩ := lrow_ints h
  have hb : ∀ n ∈ ls, 0 ≤ n ∧ n < 4294967296 := fun n hn => by
    have := h2 n hn
    simp [Lit.wf, IntKind.min, IntKind.max, IntKind.signed, IntKind.bits] at this
    omega
  have e : (ls.map Int.toNat).map (fun (x : Nat) => (x : Int)) = ls := by
    rw [List.map_map]
    conv => rhs; rw [← List.map_id ls]
    refine List.map_congr_left fun n hn => ?_
    have := hb n hn
    simp only [Function.comp, id]
    omega
  refine ⟨ls.map Int.toNat, by simpa using h1, fun x hx => ?_, by rw [e]; exact h3⟩
  obtain ⟨n, hn, rfl⟩ := List.mem_map.1 hx
  have := hb n hn
  omega
def LRows (w : World) : List (Value × Nat × List SV) → List PL → Prop
  | [], [] => True
  | q :: l, p :: ps => (∀ (ρ : Nm) (n : Nat), ρ n = some p → RowOk ρ w n ⟨false, 1, q.2.2⟩ ∧ VS ρ (.sl n 0 q.2.1) q.1) ∧ LRows w l ps
  | _, _ => False
theorem lrows_at {w : World} : ∀ {l : List (Value × Nat × List SV)} {ps : List PL}, LRows w l ps → l.length = ps.length ∧ ∀ (i : Nat) q p, l[i]? = some q → ps[i]? = some p → ∀ (ρ : Nm) (n : Nat), ρ n = some p → RowOk ρ w n ⟨false, 1, q.2.2⟩ ∧ VS ρ (.sl n 0 q.2.1) q.1
  | [], [], _ => ⟨rfl, fun i q p h => by simp at h⟩
  | q :: l, p :: ps, h => by
    obtain ⟨h1, h2⟩ := lrows_at h.2
    refine ⟨by simp [h1], fun i q' p' hq hp => ?_⟩
    cases i with
    | zero => injection hq with hq; injection hp with hp; subst hq hp; exact h.1
    | succ i => exact h2 i q' p' hq hp
  | [], _ :: _, h => h.elim
  | _ :: _, [], h => h.elim
theorem vas_nil (ρ : Nm) : VAs ρ [] [] := ⟨rfl, fun k s h => by simp at h⟩
theorem vas_cons {ρ : Nm} {a : AV} {v : Value} {l : List AV} {vs : List Value} (h : VA ρ a v) (hl : VAs ρ l vs) : VAs ρ (a :: l) (v :: vs) :=
  ⟨by simp [hl.1], fun k s hs => by
    cases k with
    | zero => injection hs with hs; subst hs; exact ⟨v, rfl, h⟩
    | succ k => exact hl.2 k s hs⟩
/-- A law that holds by its contract. -/
theorem law_of_fn {P : Program} {f : FuncId} {args : List AV} {H : List Row} {vs : Array Value} {w : World} (q : List (Value × Nat × List SV)) (hq : ∀ x ∈ q, LRow w x.1 x.2.1 x.2.2) (hH : H = q.map fun x => ⟨false, 1, x.2.2⟩) (hF : Fn P f args H (· = ⟨.a (.s (.bool true)), [], []⟩))
    (ha : ∀ ρ : Nm, (∀ (i : Nat) x, q[i]? = some x → VS ρ (.sl i 0 x.2.1) x.1) → VAs ρ args vs.toList) : Calls P f vs w fun e w' => e = .returned (.bool true) ∧ Below w.heap.size w w' := by
  obtain ⟨ps, hps⟩ : ∃ ps : List PL, LRows w q ps := by
    clear hH ha
    induction q with
    | nil => exact ⟨[], trivial⟩
    | cons x q ih =>
      obtain ⟨ps, h⟩ := ih fun y hy => hq y (by simp [hy])
      obtain ⟨p, hp⟩ := hq x (by simp)
      exact ⟨p :: ps, hp, h⟩
  obtain ⟨hlen, hat⟩ := lrows_at hps
  have hHl : H.length = ps.length := by rw [hH]; simp [hlen]
  have hrow : ∀ (i : Nat) r, H[i]? = some r → ∃ x p, q[i]? = some x ∧ ps[i]? = some p ∧ r = ⟨false, 1, x.2.2⟩ := fun i r hr => by
    rw [hH, List.getElem?_map] at hr
    cases e : q[i]? with
    | none => rw [e] at hr; cases hr
    | some x =>
      rw [e] at hr
      injection hr with hr
      have hi : i < ps.length := by rw [← hlen]; exact (List.getElem?_eq_some_iff.1 e).1
      exact ⟨x, ps[i], rfl, List.getElem?_eq_getElem hi, hr.symm⟩
  have hown : ∀ (i : Nat) r, H[i]? = some r → r.own = false := fun i r hr => by obtain ⟨x, p, _, _, rfl⟩ := hrow i r hr; rfl
  refine (hF.2 ⟨fun n => ps[n]?, fun _ _ => False⟩ w vs (fun n hn => List.getElem?_eq_none (by omega)) (ha _ fun i x hx => ?_) ⟨fun n r hn => ?_, fun n r m s Ln Lm h1 h2 => ?_, fun n r L h1 h2 => ?_, rfl, rfl, rfl, Nat.le_refl _, fun _ _ _ => rfl, fun _ _ h => h.elim⟩).mono fun e w' he => ?_
  · have hi : i < ps.length := by rw [← hlen]; exact (List.getElem?_eq_some_iff.1 hx).1
    exact (hat i x ps[i] hx (List.getElem?_eq_getElem hi) _ i (List.getElem?_eq_getElem hi)).2
  · obtain ⟨x, p, h1, h2, rfl⟩ := hrow n r hn
    exact (hat n x p h1 h2 _ n h2).1
  · rw [hown n r h1] at h2; cases h2
  · rw [hown n r h1] at h2; cases h2
  · obtain ⟨R, v, ρ', rfl, rfl, _, _, hv, hc, _⟩ := he
    have hv : v = .bool true := hv
    refine ⟨by rw [hv], hc.os, hc.tape, hc.output, hc.size, fun b hb => hc.block b hb ?_⟩
    rintro ⟨n, r, L, h1, h2, _⟩
    rw [hown n r h1] at h2; cases h2
end Go.Proofs.Ytcaddlighhiepaa
