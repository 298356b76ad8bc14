/- paging.List: its contract on the abstract machine. -/
import Derived.Test.YtnmomjaockmdpaaPmN
namespace Go.Proofs.Ytnmomjaockmdpaa
open Go Go.RowKit Go.Shelf
set_option linter.unusedSimpArgs false
set_option linter.unusedVariables false

theorem mpv_len : ∀ l : List Mp, (mpv l).length = l.length * 3
  | [] => rfl
  | e :: l => by show ([_, _, _] ++ mpv l).length = _; rw [List.length_append, mpv_len l]; simp; omega
theorem mpv_at : ∀ (l : List Mp) (k : Nat) (ρ : Nm) (s : SV), (mps l)[k]? = some s → ∃ v, (mpv l)[k]? = some v ∧ VS ρ s v
  | e :: l, 0, ρ, s, h => by
    injection h with h; subst h; exact ⟨_, rfl, rfl⟩
  | e :: l, 1, ρ, s, h => by
    injection h with h; subst h; exact ⟨_, rfl, rfl⟩
  | e :: l, 2, ρ, s, h => by
    injection h with h; subst h; exact ⟨_, rfl, rfl⟩
  | e :: l, k + 3, ρ, s, h => by
    have h2 : (mps l)[k]? = some s := h
    exact mpv_at l k ρ s h2
theorem wdIn_of {ρ : Nm} {w : World} {n : Nat} {cells : List SV} {v : Value} (hs : allScal cells = true) (hr : RowOk ρ w 0 ⟨false, 1, cells⟩) (hv : VS ρ (.sl 0 0 n) v) : ∃ p, ρ 0 = some p ∧ WdIn w w.heap.size v n cells p := by
  cases e : ρ 0 with
  | none => unfold RowOk at hr; rw [e] at hr; exact hr.elim
  | some p =>
    refine ⟨p, rfl, hs, fun ρ' i e' => ⟨rowOk_free hs rfl hr (by rw [e', e]) (Below.refl w.heap.size w) (fun L hL => hr.lt hL), ?_⟩, fun L hL => by subst hL; exact hr.lt e⟩
    obtain ⟨A, c, h1, h2, h3⟩ := hv
    refine ⟨A, c, h1, h2, ?_⟩
    rw [e] at h3
    rw [e']
    exact h3
set_option maxHeartbeats 1000000 in
theorem list_fn (xs : List Nat) (n r : Nat) (hl : xs.length = n) (hn : n < 4294967296) (hxr : ∀ y ∈ xs, y < 4294967296) (hr : r < 4294967296) :
    Fn Try.prog 10 [.s (.sl 0 0 n), .s (.int .u32 r)] [⟨false, 1, wsv xs⟩] (· = ⟨.a (.s (.sl 1 0 (lstV xs n r).length)), [], [⟨true, 3, mps (lstV xs n r)⟩]⟩) := by
  have hcol : colP (genP xs r (if r < mpg n then 32 else 0)) = lstV xs n r := by
    unfold lstV
    split
    · exact colP_gen xs hxr r 32 (by omega)
    · exact colP_gen xs hxr r 0 (by omega)
  have h32 := lstV_len xs n r
  have hsc := wsv_scal xs
  refine ⟨⟨_, Try.func10, by kernel_rfl, by kernel_rfl⟩, fun ρ w vs hdom hargs hc => ?_⟩
  obtain ⟨h4, h5⟩ := hargs
  obtain ⟨x0, g0, k0⟩ := h5 0 _ rfl
  obtain ⟨x1, g1, k1⟩ := h5 1 _ rfl
  have k1 : x1 = .int .u32 (r : Nat) := k1
  subst k1
  have hrow := hc.rows 0 _ rfl
  obtain ⟨p, hp, hWd⟩ := wdIn_of hsc hrow k0
  obtain ⟨A, c, rfl, hnc, hplace⟩ := k0
  have hvs : vs = #[.slice A n c, .int .u32 r] := by
    obtain ⟨l⟩ := vs
    match l, h4, g0, g1 with
    | [a0, a1], _, g0, g1 =>
      injection g0 with g0; injection g1 with g1
      subst g0 g1
      rfl
  subst hvs
  have hlist := callsIn_wide.1 (list_in A n c xs n r p hl hn hxr hr w hWd)
  rw [hcol] at hlist
  generalize lstV xs n r = M at *
  clear hcol
  refine hlist.mono ?_
  rintro e w' ⟨v, rfl, hown, hB⟩
  have hL0 : ∀ L, ρ 0 = some (.at L) → L.b < w.heap.size := fun L hL => hrow.lt hL
  obtain ⟨hlen, hcase⟩ := hown
  have key : ∃ q : PL, (∀ ρ' : Nm, ρ' 1 = some q → VS ρ' (.sl 1 0 M.length) v ∧ RowOk ρ' w' 1 ⟨true, 3, mps M⟩) ∧ ∀ L, q = .at L → w.heap.size ≤ L.b := by
    rcases hcase with ⟨rfl, h0⟩ | ⟨g, cap, cur, rfl, hg, hh, hcap, hmax, hsz, htk⟩
    · have hM : M = [] := List.eq_nil_of_length_eq_zero h0
      subst hM
      exact ⟨.empty, fun ρ' e => ⟨⟨none, 0, rfl, Nat.le_refl _, .inr ⟨e, rfl⟩⟩, by unfold RowOk; rw [e]; rfl⟩, fun L h => by cases h⟩
    · refine ⟨.at ⟨g, 0, cur.size, 3⟩, fun ρ' e => ⟨⟨some ⟨g, 0, none⟩, cap, rfl, hcap, .inl ⟨_, e, .inl ⟨rfl, ?_⟩⟩⟩, ?_⟩, fun L h => by injection h with h; subst h; exact hg⟩
      · show 0 + 0 + cap * 3 ≤ cur.size; omega
      · unfold RowOk; rw [e]
        refine ⟨rfl, ?_, cur, _, _, hh, rfl, fun _ => rfl, fun k s hk => ?_⟩
        · show 0 + (mps M).length ≤ cur.size
          rw [mps_len]; omega
        · obtain ⟨v, g1, g2⟩ := mpv_at M k ρ' s hk
          refine ⟨v, ?_, g2⟩
          rw [← htk] at g1
          have hlt := (List.getElem?_eq_some_iff.1 g1).1
          rw [List.getElem?_take] at g1
          split at g1
          · show cur[0 + k]? = _
            rw [Nat.zero_add]; simpa using g1
          · cases g1
  obtain ⟨q, hq, hqb⟩ := key
  have hq1 := hq (fun i => if i = 1 then some q else ρ i) (if_pos rfl)
  refine ⟨_, v, fun i => if i = 1 then some q else ρ i, rfl, rfl, fun i p' h => ?_, fun i hi => ?_, hq1.1, ⟨fun i rw_ hi => ?_, fun i ri m s Li Lm h1 h2 h3 h4 e1 e2 => ?_, fun i ri L h1 h2 e1 => ?_, hB.os, hB.tape, hB.output, hB.size, fun b hb _ => hB.block b hb⟩, fun p' h => (by cases h), fun r' h => ?_, fun p' h => (by cases h)⟩
  · show (if i = 1 then some q else ρ i) = some p'
    rw [if_neg (fun e => by subst e; rw [hdom 1 (Nat.le_refl _)] at h; cases h)]
    exact h
  · show (if i = 1 then some q else ρ i) = none
    have hi : 1 + 1 ≤ i := hi
    rw [if_neg (by omega)]
    exact hdom i (by show 1 ≤ i; omega)
  · match i, hi with
    | 0, hi =>
      injection hi with hi; subst hi
      exact rowOk_free hsc rfl hrow rfl hB hL0
    | 1, hi =>
      injection hi with hi; subst hi
      exact hq1.2
    | i + 2, hi => cases (show (none : Option Row) = some _ from hi)
  · match i, h1, m, h3 with
    | 0, h1, _, _ => injection h1 with h1; subst h1; cases h2
    | 1, _, 0, _ =>
      have e1 : some q = some (.at Li) := e1
      have e2 : ρ 0 = some (.at Lm) := e2
      have := hqb Li (Option.some.inj e1)
      have := hL0 Lm e2
      omega
    | 1, _, 1, _ => exact absurd rfl h4
    | 1, _, m + 2, h3 => cases (show (none : Option Row) = some _ from h3)
    | i + 2, h1, _, _ => cases (show (none : Option Row) = some _ from h1)
  · match i, h1 with
    | 0, h1 => injection h1 with h1; subst h1; cases h2
    | 1, _ =>
      have e1 : some q = some (.at L) := e1
      exact .inr (hqb L (Option.some.inj e1))
    | i + 2, h1 => cases (show (none : Option Row) = some _ from h1)
  · rw [List.mem_singleton] at h; subst h; rfl
end Go.Proofs.Ytnmomjaockmdpaa
