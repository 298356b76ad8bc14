/- Lists of mappings: what List hands back, in plain words. -/
import Derived.Test.YtnmomjaockmdpaaWlkA
namespace Go.Proofs.Ytnmomjaockmdpaa
open Go Go.RowKit
set_option linter.unusedSimpArgs false
set_option linter.unusedVariables false

structure Mp where
  (p f g : Nat)
def Mp.C (e : Mp) : List SV := [.int .u32 e.p, .int .u32 e.f, .int .u32 e.g]
def mps : List Mp → List SV
  | [] => []
  | e :: l => e.C ++ mps l
theorem mps_len : ∀ l : List Mp, (mps l).length = l.length * 3
  | [] => rfl
  | m :: l => by show (m.C ++ mps l).length = _; rw [List.length_append, mps_len l]; simp [Mp.C]; omega
theorem mps_scal : ∀ l : List Mp, allScal (mps l) = true
  | [] => rfl
  | m :: l => mps_scal l
theorem mps_known : ∀ l : List Mp, allKnown (mps l) = true
  | [] => rfl
  | m :: l => mps_known l
theorem mps_app : ∀ l l' : List Mp, mps (l ++ l') = mps l ++ mps l'
  | [], l' => rfl
  | m :: l, l' => by show m.C ++ mps (l ++ l') = (m.C ++ mps l) ++ mps l'; rw [mps_app l l', List.append_assoc]
theorem mps_at : ∀ (l : List Mp) (j : Nat) (m : Mp), l[j]? = some m → ∀ i, i < 3 → (mps l)[j * 3 + i]? = (m.C)[i]?
  | m' :: l, 0, m, h, i, hi => by
    injection h with h; subst h
    show (m'.C ++ mps l)[0 * 3 + i]? = _
    rw [Nat.zero_mul, Nat.zero_add, List.getElem?_append_left (by simp [Mp.C]; omega)]
  | m' :: l, j + 1, m, h, i, hi => by
    show (m'.C ++ mps l)[(j + 1) * 3 + i]? = _
    rw [List.getElem?_append_right (by simp [Mp.C]; omega)]
    have : (j + 1) * 3 + i - (m'.C).length = j * 3 + i := by simp [Mp.C]; omega
    rw [this]
    exact mps_at l j m (by simpa using h) i hi
theorem mps_seg (l : List Mp) (j : Nat) (m : Mp) (h : l[j]? = some m) : (m.C).length = 3 ∧ ∀ (i : Nat) s, (m.C)[i]? = some s → (mps l)[j * 3 + i]? = some s :=
  ⟨rfl, fun i s hs => by
    have hi : i < 3 := (List.getElem?_eq_some_iff.1 hs).1
    rw [mps_at l j m h i hi]; exact hs⟩
/-- The entry of a page. -/
def ptW (xs : List Nat) (r p : Nat) : Nat := xs.getD (r * 32 + p) 0
def ptM (xs : List Nat) (r p : Nat) : Mp := ⟨p, frW (ptW xs r p), ptW xs r p &&& 31⟩
/-- The mappings of the first pages. -/
def lstF (xs : List Nat) (r : Nat) : Nat → List Mp
  | 0 => []
  | p + 1 => if ptW xs r p &&& 1 ≠ 0 then lstF xs r p ++ [ptM xs r p] else lstF xs r p
theorem lstF_len (xs : List Nat) (r : Nat) : ∀ p, (lstF xs r p).length ≤ p
  | 0 => Nat.le_refl _
  | p + 1 => by
    have := lstF_len xs r p
    unfold lstF
    split
    · rw [List.length_append, List.length_singleton]; omega
    · omega
theorem lstF_yes {xs : List Nat} {r p : Nat} (h : ptW xs r p &&& 1 ≠ 0) : lstF xs r (p + 1) = lstF xs r p ++ [ptM xs r p] := if_pos h
theorem lstF_no {xs : List Nat} {r p : Nat} (h : ptW xs r p &&& 1 = 0) : lstF xs r (p + 1) = lstF xs r p := if_neg (fun h2 => h2 h)
/-- What is behind the first pages lies at later ones. -/
theorem lstF_rest (xs : List Nat) (r p : Nat) : ∀ k, ∃ S, lstF xs r (p + k) = lstF xs r p ++ S ∧ ∀ e ∈ S, p ≤ e.p
  | 0 => ⟨[], (List.append_nil _).symm, fun e h => by cases h⟩
  | k + 1 => by
    obtain ⟨S, h1, h2⟩ := lstF_rest xs r p k
    show ∃ S, lstF xs r ((p + k) + 1) = _ ∧ _
    by_cases h : ptW xs r (p + k) &&& 1 ≠ 0
    · refine ⟨S ++ [ptM xs r (p + k)], by rw [lstF_yes h, h1, List.append_assoc], fun e he => ?_⟩
      rcases List.mem_append.1 he with he | he
      · exact h2 e he
      · rw [List.mem_singleton] at he
        subst he
        exact Nat.le_add_right p k
    · exact ⟨S, by rw [lstF_no (by omega), h1], h2⟩
/-- The list at the place where the mappings of the first p pages end: the mapping of page p, if it is there, and else nothing or a later page's. -/
theorem lstF_next (xs : List Nat) (r p : Nat) (hp : p < 32) : (ptW xs r p &&& 1 ≠ 0 → (lstF xs r 32)[(lstF xs r p).length]? = some (ptM xs r p)) ∧ (ptW xs r p &&& 1 = 0 → (lstF xs r 32)[(lstF xs r p).length]? = none ∨ ∃ e, (lstF xs r 32)[(lstF xs r p).length]? = some e ∧ e.p ≠ p) := by
  obtain ⟨S, h1, h2⟩ := lstF_rest xs r (p + 1) (32 - (p + 1))
  rw [show p + 1 + (32 - (p + 1)) = 32 by omega] at h1
  refine ⟨fun h => ?_, fun h => ?_⟩
  · rw [h1, lstF_yes h, List.append_assoc, List.getElem?_append_right (Nat.le_refl _), Nat.sub_self]
    rfl
  · rw [h1, lstF_no h, List.getElem?_append_right (Nat.le_refl _), Nat.sub_self]
    cases S with
    | nil => exact .inl rfl
    | cons e S => exact .inr ⟨e, rfl, by have := h2 e List.mem_cons_self; omega⟩
end Go.Proofs.Ytnmomjaockmdpaa
