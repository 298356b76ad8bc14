/- rewrite, for any operation and any known registers. -/
import Derived.Test.YtpkbfpjkpiimiaaFldC
import Derived.Test.YtpkbfpjkpiimiaaFldE
namespace Go.Proofs.Ytpkbfpjkpiimiaa
open Go Go.RowKit
set_option linter.unusedSimpArgs false
set_option linter.unusedVariables false

theorem getD_lt {v : List Nat} (h : ∀ y ∈ v, y < 4294967296) (j : Nat) : v.getD j 0 < 4294967296 := by
  by_cases hj : j < v.length
  · rw [List.getD_eq_getElem?_getD, List.getElem?_eq_getElem hj]; exact h _ (List.getElem_mem hj)
  · rw [List.getD_eq_getElem?_getD, List.getElem?_eq_none (by omega)]; simp
theorem rewG_fn (o n : Int) (a b c k : Nat) (is : List Bool) (v : List Nat) (hi : is.length = 16) (hv : v.length = 16) (hvr : ∀ y ∈ v, y < 4294967296) (ha : a < 16) (hb : b < 16) (hc : c < 16) (hk : k < 4294967296) :
    Fn Try.prog 27 [.agg (Mi.C ⟨o, a, b, c, k, n⟩), .agg (knC is v)] [] (· = ⟨.a (.agg (Mi.C (rewM ⟨o, a, b, c, k, n⟩ is v))), [], []⟩) := by
  have la := getD_lt hvr a
  have lb := getD_lt hvr b
  have lc := getD_lt hvr c
  by_cases h1 : 32 ≤ o ∧ o ≤ 36
  · cases h2 : is.getD b false with
    | true =>
      by_cases h3 : b = 0
      · exact rewG_memz o n a b c k _ _ _ is v _ _ _ hi hv hvr ha hb hc hk rfl h2 rfl rfl rfl rfl la lb lc h1 h3
      · exact rewG_mem1 o n a b c k _ _ _ is v _ _ _ hi hv hvr ha hb hc hk rfl h2 rfl rfl rfl rfl la lb lc h1 rfl h3
    | false => exact rewG_mem0 o n a b c k _ _ _ is v _ _ _ hi hv hvr ha hb hc hk rfl h2 rfl rfl rfl rfl la lb lc h1 rfl
  by_cases h2 : 40 ≤ o ∧ o ≤ 45
  · cases h3 : is.getD a false with
    | true =>
      cases h4 : is.getD b false with
      | true => exact rewG_br1 o n a b c k _ _ _ is v _ _ _ hi hv hvr ha hb hc hk h3 h4 rfl rfl rfl rfl la lb lc h2 rfl rfl _ rfl
      | false => exact rewG_brb o n a b c k _ _ _ is v _ _ _ hi hv hvr ha hb hc hk h3 h4 rfl rfl rfl rfl la lb lc h2 rfl rfl
    | false => exact rewG_bra o n a b c k _ _ _ is v _ _ _ hi hv hvr ha hb hc hk h3 rfl rfl rfl rfl rfl la lb lc h2 rfl
  cases hB : aluB o with
  | false => exact rewG_oth o n a b c k _ _ _ is v _ _ _ hi hv hvr ha hb hc hk rfl rfl rfl rfl rfl rfl la lb lc h1 h2 hB
  | true =>
    rcases alu_rng hB with h3 | h3
    · cases h4 : is.getD c false with
      | false => exact rewG_n3 o n a b c k _ _ _ is v _ _ _ hi hv hvr ha hb hc hk rfl rfl h4 rfl rfl rfl la lb lc hB h3 rfl
      | true =>
        cases h5 : is.getD b false with
        | true => exact rewG_k3 o n a b c k _ _ _ is v _ _ _ hi hv hvr ha hb hc hk rfl h5 h4 rfl rfl rfl la lb lc hB h3 rfl rfl
        | false =>
          by_cases h6 : immV o = 0
          · exact rewG_i3 o n a b c k _ _ _ is v _ _ _ hi hv hvr ha hb hc hk rfl h5 h4 rfl rfl rfl la lb lc hB h3 rfl rfl h6
          · by_cases h7 : o = 2
            · exact rewG_s3 o n a b c k _ _ _ is v _ _ _ hi hv hvr ha hb hc hk rfl h5 h4 rfl rfl rfl la lb lc hB h7 rfl rfl
            · exact rewG_j3 o n a b c k _ _ _ is v _ _ _ hi hv hvr ha hb hc hk rfl h5 h4 rfl rfl rfl la lb lc hB h3 rfl rfl h6 h7
    · cases h5 : is.getD b false with
      | true => exact rewG_kI o n a b c k _ _ _ is v _ _ _ hi hv hvr ha hb hc hk rfl h5 rfl rfl rfl rfl la lb lc hB h3 rfl
      | false => exact rewG_nI o n a b c k _ _ _ is v _ _ _ hi hv hvr ha hb hc hk rfl h5 rfl rfl rfl rfl la lb lc hB h3 rfl
end Go.Proofs.Ytpkbfpjkpiimiaa
