/- Operations of a block; rows of them. -/
import Derived.Test.YtcaddlighhiepaaAbsS
import Derived.Test.YtcaddlighhiepaaWord
namespace Go.Proofs.Ytcaddlighhiepaa
open Go Go.RowKit
set_option linter.unusedSimpArgs false
set_option linter.unusedVariables false

/-- An operation; its cells; what is known of the registers. -/
structure Mi where
  (o : Int) (a b c k : Nat) (n : Int)
def Mi.C (m : Mi) : List SV := [.int .i64 m.o, .int .i64 m.a, .int .i64 m.b, .int .i64 m.c, .int .u32 m.k, .int .i64 m.n]
def mcs : List Mi → List SV
  | [] => []
  | m :: l => m.C ++ mcs l
theorem mcs_len : ∀ l : List Mi, (mcs l).length = l.length * 6
  | [] => rfl
  | m :: l => by show (m.C ++ mcs l).length = _; rw [List.length_append, mcs_len l]; simp [Mi.C]; omega
theorem mcs_scal : ∀ l : List Mi, allScal (mcs l) = true
  | [] => rfl
  | m :: l => mcs_scal l
theorem mcs_known : ∀ l : List Mi, allKnown (mcs l) = true
  | [] => rfl
  | m :: l => mcs_known l
theorem mcs_app : ∀ l l' : List Mi, mcs (l ++ l') = mcs l ++ mcs l'
  | [], l' => rfl
  | m :: l, l' => by show m.C ++ mcs (l ++ l') = (m.C ++ mcs l) ++ mcs l'; rw [mcs_app l l', List.append_assoc]
/-- The cells of the j-th. -/
theorem mcs_at : ∀ (l : List Mi) (j : Nat) (m : Mi), l[j]? = some m → ∀ i, i < 6 → (mcs l)[j * 6 + i]? = (m.C)[i]?
  | m' :: l, 0, m, h, i, hi => by
    injection h with h; subst h
    show (m'.C ++ mcs l)[0 * 6 + i]? = _
    rw [Nat.zero_mul, Nat.zero_add, List.getElem?_append_left (by simp [Mi.C]; omega)]
  | m' :: l, j + 1, m, h, i, hi => by
    show (m'.C ++ mcs l)[(j + 1) * 6 + i]? = _
    rw [List.getElem?_append_right (by simp [Mi.C]; omega)]
    have : (j + 1) * 6 + i - (m'.C).length = j * 6 + i := by simp [Mi.C]; omega
    rw [this]
    exact mcs_at l j m (by simpa using h) i hi
theorem mcs_seg (l : List Mi) (j : Nat) (m : Mi) (h : l[j]? = some m) : (m.C).length = 6 ∧ ∀ (i : Nat) s, (m.C)[i]? = some s → (mcs l)[j * 6 + i]? = some s :=
  ⟨rfl, fun i s hs => by
    have hi : i < 6 := (List.getElem?_eq_some_iff.1 hs).1
    rw [mcs_at l j m h i hi]; exact hs⟩
theorem mcs_set (l : List Mi) (j : Nat) (m : Mi) (hj : j < l.length) : setAll (mcs l) (j * 6) m.C = mcs (l.set j m) := by
  apply List.ext_getElem?
  intro i
  rw [setAll_get _ _ _ _ (by rw [mcs_len]; show j * 6 + 6 ≤ _; omega)]
  have hlen : (m.C).length = 6 := rfl
  by_cases h : i / 6 < l.length
  · have e : i = i / 6 * 6 + i % 6 := by omega
    have hm : i % 6 < 6 := Nat.mod_lt _ (by omega)
    by_cases hij : i / 6 = j
    · rw [if_pos (by omega), e, mcs_at (l.set j m) (i / 6) m (by rw [hij, List.getElem?_set_self hj]) _ hm]
      congr 1; omega
    · have hl := List.getElem?_eq_getElem h
      rw [if_neg (by omega), e, mcs_at l (i / 6) _ hl _ hm, mcs_at (l.set j m) (i / 6) _ (by rw [List.getElem?_set_ne (by omega)]; exact hl) _ hm]
  · rw [if_neg (by omega), List.getElem?_eq_none (by rw [mcs_len]; omega), List.getElem?_eq_none (by rw [mcs_len, List.length_set]; omega)]
end Go.Proofs.Ytcaddlighhiepaa
