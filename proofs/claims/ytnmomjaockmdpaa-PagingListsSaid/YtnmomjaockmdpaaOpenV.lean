/- Words by value (an array of 16), opened; a law by its contract, with rows of any kind. -/
import Derived.Test.YtnmomjaockmdpaaOpenS
import Derived.Test.YtnmomjaockmdpaaShut
import Derived.Test.YtnmomjaockmdpaaAbsS
import Derived.Deep.Slices
namespace Go.Proofs.Ytnmomjaockmdpaa
open Go.Joins Go.ChangeShapes Go.WideShapes Go.RowKit Go.Deep
set_option linter.unusedVariables false
section
variable {H : Type} {enc : TypeId × Value → H} {P : Program} {w : World} {base : Nat} {spare : Nat → Bool} {held : Bool}
theorem arrInts3 {k : IntKind} {n fuel : Nat} {e t : TypeId} {cs : List Value} {x : DataW H × List MemPlace} (ht : P.underlying t = some (.array n e)) (he : P.underlying e = some (.int k)) (hce : P.cellsOf e = 1) (hct : P.cellsOf t = n)
    (h : DataW.trod enc P w base spare held fuel t cs = some x) : ∃ ns : List Int, ns.length = n ∧ cs = ns.map (Value.int k) ∧ ∀ m ∈ ns, (Lit.int k m).wf = true := by
  obtain ⟨xs, m, _, _, hl, hn, hg⟩ := DataW.trod_array ht h
  rw [hct] at hl
  rw [hce] at hg
  have key : ∀ i, ∃ z : Int, i < n → cs[i]? = some (.int k z) ∧ (Lit.int k z).wf = true := fun i => by
    by_cases hi : i < n
    · have h1 := hg i hi
      rw [List.getElem?_eq_getElem (by omega)] at h1
      have e1 : (cs.drop (i * 1)).take 1 = [cs[i]'(by omega)] := by
        rw [Nat.mul_one, List.drop_eq_getElem_cons (by omega)]; rfl
      rw [e1] at h1
      obtain ⟨z, h2, h3⟩ := int_field he h1
      exact ⟨z, fun _ => ⟨by rw [List.getElem?_eq_getElem (by omega), h2], h3⟩⟩
    · exact ⟨0, fun h => absurd h hi⟩
  obtain ⟨f, hf⟩ := Classical.axiomOfChoice key
  refine ⟨(List.range n).map f, by simp, ?_, fun z hz => ?_⟩
  · apply List.ext_getElem?
    intro i
    by_cases hi : i < n
    · rw [(hf i hi).1]; simp [hi]
    · rw [List.getElem?_eq_none (by omega), List.getElem?_eq_none (by simp; omega)]
  · obtain ⟨i, hi, rfl⟩ := List.mem_map.1 hz
    exact (hf i (by simpa using hi)).2
theorem ints_words3 {ns : List Int} (h : ∀ m ∈ ns, (Lit.int .u32 m).wf = true) : ∃ xs : List Nat, xs.length = ns.length ∧ ns.map (Value.int .u32) = xs.map (fun (y : Nat) => Value.int .u32 y) ∧ ∀ y ∈ xs, y < 4294967296 := by
  have hb : ∀ n ∈ ns, 0 ≤ n ∧ n < 4294967296 := fun n hn => by
    obtain ⟨m, rfl, hm⟩ := wf_u32 (h n hn)
    omega
  refine ⟨ns.map Int.toNat, by simp, ?_, fun y hy => ?_⟩
  · rw [List.map_map]
    refine List.map_congr_left fun n hn => ?_
    have := hb n hn
    simp only [Function.comp]
    rw [Int.toNat_of_nonneg this.1]
  · obtain ⟨n, hn, rfl⟩ := List.mem_map.1 hy
    have := hb n hn; omega
def wsV (x : List Nat) : Array Value := (x.map (fun (y : Nat) => Value.int .u32 y)).toArray
theorem openArr {n : Nat} {r : Reach} {b0 : Nat} {t e : TypeId} {v : Value} {d : DataW H} {p : List MemPlace} (ht : P.underlying t = some (.array n e)) (he : P.underlying e = some (.int .u32)) (hce : P.cellsOf e = 1) (hct : P.cellsOf t = n)
    (hv : Value.okWide P w r b0 t v) (h : DataW.Trod enc P w base spare held t v d p) : ∃ x : List Nat, v = .agg (wsV x) ∧ x.length = n ∧ ∀ y ∈ x, y < 4294967296 := by
  simp only [Value.okWide, ht] at hv
  obtain ⟨cs, rfl, hsz, _⟩ := hv
  obtain ⟨fuel, hf⟩ := h
  obtain ⟨ns, l0, e0, w0⟩ := arrInts3 ht he hce hct hf
  obtain ⟨x, x1, x2, x3⟩ := ints_words3 w0
  refine ⟨x, ?_, by omega, x3⟩
  congr 1
  apply Array.ext'
  show cs.toList = (x.map _).toArray.toList
  rw [← x2, ← e0]; rfl
end
theorem va_ws (ρ : Nm) (x : List Nat) : VA ρ (.agg (wsv x)) (.agg (wsV x)) := by
  refine ⟨wsV x, rfl, by simp [wsV], fun k s hs => ?_⟩
  unfold wsv at hs
  rw [List.getElem?_map] at hs
  cases e : x[k]? with
  | none => rw [e] at hs; cases hs
  | some y =>
    rw [e] at hs
    injection hs with hs; subst hs
    exact ⟨_, by show (x.map _).toArray.toList[k]? = _; rw [List.getElem?_map, e]; rfl, rfl⟩
/-- A row that came in, of any kind. -/
def LRowR (w : World) (v : Value) (len : Nat) (r : Row) : Prop :=
  r.own = false ∧ ∃ p : PL, ∀ (ρ : Nm) (n : Nat), ρ n = some p → RowOk ρ w n r ∧ VS ρ (.sl n 0 len) v
theorem LRow.r {w : World} {v : Value} {len : Nat} {cells : List SV} (h : LRow w v len cells) : LRowR w v len ⟨false, 1, cells⟩ := ⟨rfl, h⟩
def LRowsR (w : World) : List (Value × Nat × Row) → List PL → Prop
  | [], [] => True
  | q :: l, p :: ps => (∀ (ρ : Nm) (n : Nat), ρ n = some p → RowOk ρ w n q.2.2 ∧ VS ρ (.sl n 0 q.2.1) q.1) ∧ LRowsR w l ps
  | _, _ => False
theorem lrowsR_at {w : World} : ∀ {l : List (Value × Nat × Row)} {ps : List PL}, LRowsR w l ps → l.length = ps.length ∧ ∀ (i : Nat) q p, l[i]? = some q → ps[i]? = some p → ∀ (ρ : Nm) (n : Nat), ρ n = some p → RowOk ρ w n q.2.2 ∧ VS ρ (.sl n 0 q.2.1) q.1
  | [], [], _ => ⟨rfl, fun i q p h => by simp at h⟩
  | q :: l, p :: ps, h => by
    obtain ⟨h1, h2⟩ := lrowsR_at h.2
    refine ⟨by simp [h1], fun i q' p' hq hp => ?_⟩
    cases i with
    | zero => injection hq with hq; injection hp with hp; subst hq hp; exact h.1
    | succ i => exact h2 i q' p' hq hp
  | [], _ :: _, h => h.elim
  | _ :: _, [], h => h.elim
/-- A law that holds by its contract, rows of any kind. -/
theorem law_of_fnR {P : Program} {f : FuncId} {args : List AV} {H : List Row} {vs : Array Value} {w : World} (q : List (Value × Nat × Row)) (hq : ∀ x ∈ q, LRowR w x.1 x.2.1 x.2.2) (hH : H = q.map fun x => x.2.2) (hF : Fn P f args H (· = ⟨.a (.s (.bool true)), [], []⟩))
    (ha : ∀ ρ : Nm, (∀ (i : Nat) x, q[i]? = some x → VS ρ (.sl i 0 x.2.1) x.1) → VAs ρ args vs.toList) : Calls P f vs w fun e w' => e = .returned (.bool true) ∧ Below w.heap.size w w' := by
  obtain ⟨ps, hps⟩ : ∃ ps : List PL, LRowsR w q ps := by
    clear hH ha
    induction q with
    | nil => exact ⟨[], trivial⟩
    | cons x q ih =>
      obtain ⟨ps, h⟩ := ih fun y hy => hq y (by simp [hy])
      obtain ⟨_, p, hp⟩ := hq x (by simp)
      exact ⟨p :: ps, hp, h⟩
  obtain ⟨hlen, hat⟩ := lrowsR_at hps
  have hHl : H.length = ps.length := by rw [hH]; simp [hlen]
  have hrow : ∀ (i : Nat) r, H[i]? = some r → ∃ x p, q[i]? = some x ∧ ps[i]? = some p ∧ r = x.2.2 := fun i r hr => by
    rw [hH, List.getElem?_map] at hr
    cases e : q[i]? with
    | none => rw [e] at hr; cases hr
    | some x =>
      rw [e] at hr
      injection hr with hr
      have hi : i < ps.length := by rw [← hlen]; exact (List.getElem?_eq_some_iff.1 e).1
      exact ⟨x, ps[i], rfl, List.getElem?_eq_getElem hi, hr.symm⟩
  have hown : ∀ (i : Nat) r, H[i]? = some r → r.own = false := fun i r hr => by
    obtain ⟨x, p, h1, _, rfl⟩ := hrow i r hr
    exact (hq x (List.mem_of_getElem? h1)).1
  refine (hF.2 (fun n => ps[n]?) w vs (fun n hn => List.getElem?_eq_none (by omega)) (ha _ fun i x hx => ?_) ⟨fun n r hn => ?_, fun n r m s Ln Lm h1 h2 => ?_, fun n r L h1 h2 => ?_, rfl, rfl, rfl, Nat.le_refl _, fun _ _ _ => rfl⟩).mono fun e w' he => ?_
  · have hi : i < ps.length := by rw [← hlen]; exact (List.getElem?_eq_some_iff.1 hx).1
    exact (hat i x ps[i] hx (List.getElem?_eq_getElem hi) _ i (List.getElem?_eq_getElem hi)).2
  · obtain ⟨x, p, h1, h2, rfl⟩ := hrow n r hn
    exact (hat n x p h1 h2 _ n h2).1
  · rw [hown n r h1] at h2; cases h2
  · rw [hown n r h1] at h2; cases h2
  · obtain ⟨R, v, ρ', rfl, rfl, _, _, hv, hc, _⟩ := he
    have hv : v = .bool true := hv
    refine ⟨by rw [hv], hc.os, hc.tape, hc.output, hc.size, fun b hb => hc.block b hb ?_⟩
    rintro ⟨n, r, L, h1, h2, _⟩
    rw [hown n r h1] at h2; cases h2
end Go.Proofs.Ytnmomjaockmdpaa
