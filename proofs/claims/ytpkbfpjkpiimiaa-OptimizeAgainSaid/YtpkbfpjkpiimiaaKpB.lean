/- Plain laws: blocks made from numbers may stand. -/
import Derived.Test.YtpkbfpjkpiimiaaKpA
namespace Go.Proofs.Ytpkbfpjkpiimiaa
open Go Go.RowKit
set_option linter.unusedSimpArgs false
set_option linter.unusedVariables false

theorem opOk_use {o : Int} (h : opOk o) : useOk o = true := by
  unfold opOk at h
  rw [useOk_iff, decide_eq_true_eq]; omega
theorem lt4 {a : Nat} (h : a < 4) : a < 16 := by omega
theorem z_n (M : Mi) : M.z.n = M.n := rfl
theorem madeL_zero (kd : Int) (ls : List Int) : madeL kd 0 ls = [] := by cases ls <;> rfl
theorem madeL_nil (kd : Int) (f : Nat) : madeL kd f [] = [] := by cases f <;> rfl
theorem madeL_cons (kd : Int) (f : Nat) (x : Int) (ls : List Int) : madeL kd (f + 1) (x :: ls) = if endsB (microV x kd).o = true then [microV x kd] else microV x kd :: madeL kd f ls := by rw [madeL]
theorem maySum_made (kd : Int) (f : Nat) : ∀ (ls : List Int) (s : Int), maySum ((madeL kd f ls).map Mi.z) s = some (s + (madeL kd f ls).length) := by
  induction f with
  | zero => intro ls s; rw [madeL_zero, List.map_nil, maySum, List.length_nil]; congr 1; omega
  | succ f ih =>
    intro ls s
    cases ls with
    | nil => rw [madeL_nil, List.map_nil, maySum, List.length_nil]; congr 1; omega
    | cons x ls =>
      have hk := microV_ok x kd
      rw [madeL_cons]
      have ih2 := ih ls (s + 1)
      clear ih
      generalize madeL kd f ls = R at *
      generalize microV x kd = M at *
      obtain ⟨h1, h2, h3, h4, h5, h6, h7⟩ := hk
      have hu := opOk_use h1
      have hr : M.a < 16 ∧ M.b < 16 ∧ M.c < 16 := ⟨lt4 h2, lt4 h3, lt4 h4⟩
      have hz : M.z.n = 1 := (z_n M).trans h6
      have g1 : 1 ≤ M.n := by rw [h6]; decide
      have g2 : M.n ≤ 16 := by rw [h6]; decide
      clear h1 h2 h3 h4 h5 h6 h7
      by_cases he : endsB M.o = true
      · rw [if_pos he, List.map_cons, maySum, if_pos ((okM_z M ([].map Mi.z).isEmpty hr).2 ⟨hu, g1, g2, .inl rfl⟩), hz, List.map_nil, maySum, List.length_singleton]
        congr 1
      · rw [if_neg he, List.map_cons, maySum, if_pos ((okM_z M _ hr).2 ⟨hu, g1, g2, .inr (by simpa using he)⟩), hz, ih2]
        congr 1
        rw [List.length_cons]; omega
theorem madeL_len (kd : Int) : ∀ (f : Nat) (ls : List Int), (madeL kd f ls).length ≤ f ∧ (0 < f → 0 < ls.length → 0 < (madeL kd f ls).length)
  | 0, ls => by simp [madeL]
  | f + 1, [] => by simp [madeL]
  | f + 1, x :: ls => by
    have := madeL_len kd f ls
    unfold madeL
    split
    · simp
    · rw [List.length_cons]; exact ⟨by omega, fun _ _ => by omega⟩
theorem madeL_ok (kd : Int) : ∀ (f : Nat) (ls : List Int), ∀ m ∈ madeL kd f ls, MiOk m ∧ m.n = 1 ∧ badI m.o kd = false ∧ opOk m.o
  | 0, ls, m, h => by simp [madeL] at h
  | f + 1, [], m, h => by simp [madeL] at h
  | f + 1, x :: ls, m, h => by
    have hk := microV_ok x kd
    unfold madeL at h
    have ih := madeL_ok kd f ls m
    generalize microV x kd = M at *
    have hx : MiOk M ∧ M.n = 1 ∧ badI M.o kd = false ∧ opOk M.o := ⟨⟨lt4 hk.2.1, lt4 hk.2.2.1, lt4 hk.2.2.2.1, hk.2.2.2.2.1⟩, hk.2.2.2.2.2.1, hk.2.2.2.2.2.2, hk.1⟩
    split at h
    · rw [List.mem_singleton] at h; subst h; exact hx
    · rcases List.mem_cons.1 h with h | h
      · subst h; exact hx
      · exact ih h
theorem made_may (kd : Int) (ls : List Int) (h : 0 < ls.length) : mayV 0 (madeL kd 16 ls).length ((madeL kd 16 ls).map Mi.z) = true := by
  have hl := madeL_len kd 16 ls
  have := hl.2 (by omega) h
  rw [mayV_iff]
  refine ⟨?_, ?_⟩
  · unfold hdB; exact decide_eq_true (by omega)
  · rw [maySum_made]; simp
end Go.Proofs.Ytpkbfpjkpiimiaa
