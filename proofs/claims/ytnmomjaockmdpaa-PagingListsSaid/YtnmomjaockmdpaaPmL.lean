/- paging.List: a range over a function. -/
import Derived.RangeFuncBox
import Derived.RangeFuncLeaves
import Derived.RangeFuncCalls
import Derived.Shelf.Abstract
import Derived.WalkKit
import Derived.OwnWalkIn
import Derived.TacticsInMore
import Derived.LoopNIn
import Derived.LoopIn
import Derived.RegionIn
import Derived.Shelf.RegionOpen
import Derived.Maps.AppendAt
import Derived.Test.YtnmomjaockmdpaaPmC
import Derived.Test.YtnmomjaockmdpaaOpenV
namespace Go.Proofs.Ytnmomjaockmdpaa
open Go Go.RowKit Go.Shelf
set_option linter.unusedSimpArgs false
set_option linter.unusedVariables false
attribute [local go_sem] Oper.semAt_some

theorem vs_scal {ρ ρ' : Nm} : ∀ {s : SV} {v : Value}, s.scal = true → VS ρ s v → VS ρ' s v := by
  intro s v h hv
  cases s <;> first | exact hv | (simp [SV.scal] at h)
theorem scal_at : ∀ {l : List SV} {k : Nat} {s : SV}, allScal l = true → l[k]? = some s → s.scal = true
  | a :: l, 0, s, h, e => by
    injection e with e; subst e
    unfold allScal at h
    split at h
    · assumption
    · cases h
  | a :: l, k + 1, s, h, e => by
    unfold allScal at h
    split at h
    · exact scal_at (l := l) (k := k) h (by simpa using e)
    · cases h
theorem rowOk_free {ρ ρ' : Nm} {w w' : World} {n n' n₀ : Nat} {r : Row} (hs : allScal r.cells = true) (ho : r.own = false) (h : RowOk ρ w n r) (e : ρ' n' = ρ n) (hB : Below n₀ w w') (hlt : ∀ L, ρ n = some (.at L) → L.b < n₀) : RowOk ρ' w' n' r := by
  unfold RowOk at h ⊢
  rw [e]
  cases hq : ρ n with
  | none => rw [hq] at h; exact h
  | some p =>
    rw [hq] at h
    cases p with
    | empty => exact h
    | «at» L =>
      obtain ⟨h1, h0, c, t, fz, h2, h3, h4, h5⟩ := h
      refine ⟨h1, h0, c, t, fz, (hB.block L.b (hlt L hq)).trans h2, h3, h4, fun k s hk => ?_⟩
      obtain ⟨v, g1, g2⟩ := h5 k s hk
      exact ⟨v, g1, vs_scal (scal_at hs hk) g2⟩
/-- A slice of words that came in: where it lies, and what the row says in a world. -/
structure WdIn (w : World) (n₀ : Nat) (v : Value) (n : Nat) (cells : List SV) (p : PL) : Prop where
  sc : allScal cells = true
  row : ∀ (ρ : Nm) (i : Nat), ρ i = some p → RowOk ρ w i ⟨false, 1, cells⟩ ∧ VS ρ (.sl i 0 n) v
  lt : ∀ L, p = .at L → L.b < n₀
theorem WdIn.below {w w' : World} {n₀ : Nat} {v : Value} {n : Nat} {cells : List SV} {p : PL} (h : WdIn w n₀ v n cells p) (hB : Below n₀ w w') : WdIn w' n₀ v n cells p :=
  ⟨h.sc, fun ρ i e => ⟨rowOk_free h.sc rfl (h.row ρ i e).1 rfl hB (fun L hL => h.lt L (by rw [e] at hL; exact Option.some.inj hL)), (h.row ρ i e).2⟩, h.lt⟩
/-- A contract without new rows over one slice of words, as a call. -/
theorem calls_of_fn {P : Program} {f : FuncId} {v0 : Value} {as_ : List AV} {n : Nat} {cells : List SV} {p : PL} {w : World} {n₀ : Nat} {vs : Array Value} {T : TV} (hW : WdIn w n₀ v0 n cells p)
    (hF : Fn P f as_ [⟨false, 1, cells⟩] (· = ⟨T, [], []⟩)) (ha : ∀ ρ : Nm, VS ρ (.sl 0 0 n) v0 → VAs ρ as_ vs.toList) :
    Calls P f vs w fun e w' => (∃ (ρ : Nm) (v : Value), e = .returned v ∧ VT ρ T v) ∧ w.grownBy w' none := by
  have h0 := hW.row (fun n => if n = 0 then some p else none) 0 (if_pos rfl)
  have hown : ∀ (i : Nat) r, Hs [⟨false, 1, cells⟩] i = some r → r.own = false := fun i r hr => by
    match i, hr with
    | 0, hr => injection hr with hr; subst hr; rfl
    | i + 1, hr => simp [Hs] at hr
  refine (hF.2 (fun n => if n = 0 then some p else none) w vs (fun n hn => if_neg (by simp at hn; omega)) (ha _ h0.2) ⟨fun i r hr => ?_, fun i r m s Ln Lm h1 h2 => ?_, fun i r L h1 h2 => ?_, rfl, rfl, rfl, Nat.le_refl _, fun _ _ _ => rfl⟩).mono fun e w' he => ?_
  · match i, hr with
    | 0, hr => injection hr with hr; subst hr; exact h0.1
    | i + 1, hr => simp [Hs] at hr
  · rw [hown i r h1] at h2; cases h2
  · rw [hown i r h1] at h2; cases h2
  · obtain ⟨R, v, ρ', rfl, rfl, _, _, hv, hc, _⟩ := he
    refine ⟨⟨ρ', v, rfl, hv⟩, hc.os, hc.tape, hc.output, hc.size, fun b hb _ => hc.block b hb ?_⟩
    rintro ⟨i, r, L, h1, h2, _⟩
    rw [hown i r h1] at h2; cases h2
theorem isPage_calls {w : World} {n₀ : Nat} {v0 : Value} {n : Nat} {xs : List Nat} {p : PL} (hW : WdIn w n₀ v0 n (wsv xs) p) (hn : n < 4294967296) (r : Nat) (hr : r < 4294967296) :
    Calls Try.prog 16 #[v0, .int .u32 r] w fun e w' => e = .returned (.bool (decide (r < mpg n))) ∧ w.grownBy w' none :=
  (calls_of_fn hW (isPageW_fn xs n r hn hr) (vs := #[v0, .int .u32 r]) fun ρ h => vas_cons h (vas_cons rfl (vas_nil ρ))).mono fun e w' ⟨⟨ρ, v, h1, h2⟩, h3⟩ => ⟨by have h2 : v = .bool _ := h2; rw [h1, h2], h3⟩
theorem load_calls {w : World} {n₀ : Nat} {v0 : Value} {n : Nat} {xs : List Nat} {p : PL} (hW : WdIn w n₀ v0 n (wsv xs) p) (hl : xs.length = n) (hn : n < 4294967296) (a : Nat) (ha : a < 4294967296) (hld : ld4 n a = true) :
    Calls Try.prog 26 #[v0, .int .u32 a, .int .i64 4] w fun e w' => e = .returned (.tuple #[.int .u32 (xs.getD (a / 4) 0 : Nat), .bool true]) ∧ w.grownBy w' none :=
  (calls_of_fn hW (load4_ok xs n a hl hn ha hld) (vs := #[v0, .int .u32 a, .int .i64 4]) fun ρ h => vas_cons h (vas_cons rfl (vas_cons rfl (vas_nil ρ)))).mono fun e w' ⟨⟨ρ, v, h1, h2⟩, h3⟩ => ⟨by
    obtain ⟨vs, rfl, h4, h5⟩ := h2
    obtain ⟨x0, g0, k0⟩ := h5 0 _ rfl
    obtain ⟨x1, g1, k1⟩ := h5 1 _ rfl
    have k0 : x0 = .int .u32 (xs.getD (a / 4) 0 : Nat) := k0
    have k1 : x1 = .bool true := k1
    subst k0 k1
    rw [h1]
    obtain ⟨l⟩ := vs
    match l, h4, g0, g1 with
    | [a0, a1], _, g0, g1 =>
      injection g0 with g0; injection g1 with g1
      subst g0 g1
      rfl, h3⟩
theorem frame_calls (w : World) (p : Nat) (hp : p < 4294967296) : Calls Try.prog 21 #[.int .u32 p] w fun e w' => e = .returned (.int .u32 (frW p : Nat)) ∧ w.grownBy w' none := by
  have hF := frameW_fn p hp
  refine (hF.2 (fun _ => none) w #[.int .u32 p] (fun n hn => rfl) (vas_cons rfl (vas_nil _)) ⟨fun i r hr => by simp [Hs] at hr, fun i r m s Ln Lm h1 h2 => by simp [Hs] at h1, fun i r L h1 h2 => by simp [Hs] at h1, rfl, rfl, rfl, Nat.le_refl _, fun _ _ _ => rfl⟩).mono fun e w' he => ?_
  obtain ⟨R, v, ρ', rfl, rfl, _, _, hv, hc, _⟩ := he
  have hv : v = .int .u32 (frW p : Nat) := hv
  refine ⟨by rw [hv], hc.os, hc.tape, hc.output, hc.size, fun b hb _ => hc.block b hb ?_⟩
  rintro ⟨i, r, L, h1, h2, _⟩
  simp at h1
/-- What the iterator hands over. -/
def enP (x : Nat × Nat) : Array Value := #[.int .u32 (x.1 % 4294967296 : Nat), .int .u32 (x.2 % 4294967296 : Nat)]
def genP (xs : List Nat) (r : Nat) : Nat → List (Nat × Nat)
  | 0 => []
  | k + 1 => genP xs r k ++ [(k, ptW xs r k)]
theorem genP_len (xs : List Nat) (r : Nat) : ∀ k, (genP xs r k).length = k
  | 0 => rfl
  | k + 1 => by unfold genP; rw [List.length_append, genP_len xs r k]; rfl
theorem genP_pre (xs : List Nat) (r k : Nat) : ∀ j, genP xs r k <+: genP xs r (k + j)
  | 0 => List.prefix_refl _
  | j + 1 => (genP_pre xs r k j).trans (List.prefix_append _ _)
end Go.Proofs.Ytnmomjaockmdpaa
