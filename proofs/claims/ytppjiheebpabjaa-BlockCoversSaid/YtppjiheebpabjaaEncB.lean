/- What is encoded is decoded; the instructions made from numbers are valid. -/
import Derived.Test.YtppjiheebpabjaaEncA
import Derived.Test.YtppjiheebpabjaaInsA
namespace Go.Proofs.Ytppjiheebpabjaa
open Go Go.RowKit
set_option linter.unusedSimpArgs false
set_option linter.unusedVariables false

set_option maxRecDepth 100000 in
theorem form_use : ∀ k : Nat, k < 65 → formV (k : Int) ≠ 0 → useOk k = true ∧ useA k = !(formV k == 1) ∧ useB k = decide (2 ≤ formV k ∧ formV k ≤ 5) ∧ useC k = (formV k == 2) ∧ useLo k = loV (formV k) ∧ useHi k = hiV (formV k) := by decide
theorem enc_lt {o a b c m : Int} (hv : rvV o a b c m = true) : 0 ≤ encV o a b c m ∧ encV o a b c m < 4294967296 := by
  obtain ⟨v1, v2, v3, v4, v5, v6, v7, v8, v9⟩ := of_decide_eq_true hv
  have ho := form_rng v1
  unfold encV; omega
theorem dec_enc {o a b c m : Int} {w : Nat} (hv : rvV o a b c m = true) (hw : (w : Int) = encV o a b c m) : dOp w = o ∧ dA w = a ∧ dB w = b ∧ dC w = c ∧ dM w = m ∧ dOk w = true := by
  obtain ⟨v1, v2, v3, v4, v5, v6, v7, v8, v9⟩ := of_decide_eq_true hv
  have ho := form_rng v1
  obtain ⟨u0, u1, u2, u3, u4, u5⟩ := form_use o.toNat (by omega) (by rw [Int.toNat_of_nonneg (by omega)]; exact v1)
  rw [Int.toNat_of_nonneg (by omega)] at u0 u1 u2 u3 u4 u5
  unfold encV at hw
  have hlo : loV (formV o) = -32768 ∧ hiV (formV o) = 32767 ∨ loV (formV o) = 0 ∧ hiV (formV o) ≤ 65535 := by
    unfold loV hiV
    by_cases h : formV o = 3 ∨ formV o = 7
    · simp [h]
    · simp only [h, if_false]; right; refine ⟨trivial, ?_⟩
      repeat' split
      all_goals omega
  have h2 : formV o = 2 → m = 0 := fun h => by
    rw [h] at v5 v6; have := lo_2; omega
  have d1 : dOp w = o := by unfold dOp; simp only [Nat.reducePow]; omega
  have d2 : dA w = a := by unfold dA; simp only [Nat.reducePow]; omega
  have d3 : dB w = b := by unfold dB; simp only [Nat.reducePow]; omega
  have d4 : ((dI w : Nat) : Int) = m % 65536 + c := by unfold dI; simp only [Nat.reducePow]; omega
  have d5 : dC w = c := by
    unfold dC
    rw [d1, u3]
    by_cases h : formV o = 2
    · have := h2 h; simp [h]; omega
    · simp [h]; omega
  have d6 : dM w = m := by
    unfold dM
    rw [d1, u3, u4]
    by_cases h : formV o = 2
    · have := h2 h; simp [h]; omega
    · have hc : c = 0 := by omega
      simp only [beq_eq_false_iff_ne.2 h, Bool.false_eq_true, if_false]
      rcases hlo with ⟨h3, h4⟩ | ⟨h3, h4⟩
      · rw [h3, if_pos (by omega)]; unfold sx; split <;> omega
      · rw [h3, if_neg (by omega)]; omega
  refine ⟨d1, d2, d3, d5, d6, ?_⟩
  unfold dOk validB
  rw [d1, d2, d3, d5, d6, u0, u1, u2, u3, u4, u5]
  simp only [Bool.true_and, Bool.and_eq_true, decide_eq_true_eq, ge_iff_le]
  refine ⟨⟨⟨⟨?_, ?_⟩, ?_⟩, v5⟩, v6⟩
  · by_cases h : formV o = 1
    · simp [h, regB, v8 h]
    · simp [beq_eq_false_iff_ne.2 h, regB]; omega
  · by_cases h : 2 ≤ formV o ∧ formV o ≤ 5
    · simp [h, regB]; omega
    · have : b = 0 := by omega
      simp [h, regB, this]
  · by_cases h : formV o = 2
    · simp [h, regB]; omega
    · have : c = 0 := by omega
      simp [beq_eq_false_iff_ne.2 h, regB, this]
/-- The fields of a number's instruction. -/
theorem inst_ok (n : Int) : ∃ o a b c m : Int, instV n = iv o a b c m ∧ rvV o a b c m = true ∧ -2147483648 ≤ m ∧ m ≤ 2147483647 ∧ o = io n := by
  have ho := io_ok n
  unfold opOk at ho
  have hk : 0 ≤ ik n ∧ ik n < 24 := by unfold ik; omega
  have hr : ∀ d, 0 ≤ ir n d ∧ ir n d < 6 := fun d => by unfold ir; omega
  have r1 := hr 256
  have r2 := hr 4096
  have r3 := hr 65536
  have hkm : 0 ≤ ik n * (mix n 1 / 1099511627776 % 2) ∧ ik n * (mix n 1 / 1099511627776 % 2) < 24 := by
    rcases (by omega : mix n 1 / 1099511627776 % 2 = 0 ∨ mix n 1 / 1099511627776 % 2 = 1) with e | e <;> rw [e] <;> omega
  unfold instV
  generalize io n = o at *
  generalize ik n = k at *
  generalize ir n 256 = A at *
  generalize ir n 4096 = B at *
  generalize ir n 65536 = C at *
  generalize k * (mix n 1 / 1099511627776 % 2) = kz at *
  have fin : ∀ (f a b c m : Int), formV o = f → (f ≠ 0 ∧ (0 ≤ a ∧ a ≤ 15) ∧ (0 ≤ b ∧ b ≤ 15) ∧ (0 ≤ c ∧ c ≤ 15) ∧ loV f ≤ m ∧ m ≤ hiV f ∧ (f = 2 ∨ c = 0) ∧ (f = 1 → a = 0) ∧ (b = 0 ∨ 2 ≤ f ∧ f ≤ 5)) → rvV o a b c m = true := fun f a b c m hf h => by
    unfold rvV; rw [hf]; exact decide_eq_true h
  have fv : ∀ f : Int, (formV o = f) ↔ (formV o = f) := fun f => Iff.rfl
  by_cases c1 : o ≤ 13
  · rw [if_pos c1]
    exact ⟨o, A, B, C, 0, rfl, fin 2 _ _ _ _ (by unfold formV; rw [if_pos (by omega)]) ⟨by omega, by omega, by omega, by omega, by decide, by decide, by omega, by omega, by omega⟩, by omega, by omega, rfl⟩
  rw [if_neg c1]
  by_cases c2 : 40 ≤ o ∧ o ≤ 48
  · rw [if_pos c2]
    by_cases c3 : o = 48
    · rw [if_pos c3]
      exact ⟨o, A, 0, 0, k - 12, rfl, fin 7 _ _ _ _ (by subst c3; rfl) ⟨by omega, by omega, by omega, by omega, by show (-32768 : Int) ≤ _; omega, by show _ ≤ (32767 : Int); omega, by omega, by omega, by omega⟩, by omega, by omega, rfl⟩
    · rw [if_neg c3]
      exact ⟨o, A, B, 0, k - 12, rfl, fin 3 _ _ _ _ (by unfold formV; rw [if_neg (by omega), if_pos (by omega)]) ⟨by omega, by omega, by omega, by omega, by show (-32768 : Int) ≤ _; omega, by show _ ≤ (32767 : Int); omega, by omega, by omega, by omega⟩, by omega, by omega, rfl⟩
  rw [if_neg c2]
  by_cases c4 : o = 16 ∨ o = 23 ∨ 32 ≤ o ∧ o ≤ 36 ∨ o = 49
  · rw [if_pos c4]
    exact ⟨o, A, B, 0, 8 * k - 32, rfl, fin 3 _ _ _ _ (by unfold formV; rw [if_neg (by omega), if_pos (by omega)]) ⟨by omega, by omega, by omega, by omega, by show (-32768 : Int) ≤ _; omega, by show _ ≤ (32767 : Int); omega, by omega, by omega, by omega⟩, by omega, by omega, rfl⟩
  rw [if_neg c4]
  by_cases c5 : o = 24
  · rw [if_pos c5]
    exact ⟨o, A, 0, 0, kz, rfl, fin 6 _ _ _ _ (by subst c5; rfl) ⟨by omega, by omega, by omega, by omega, by show (0 : Int) ≤ _; omega, by show _ ≤ (65535 : Int); omega, by omega, by omega, by omega⟩, by omega, by omega, rfl⟩
  rw [if_neg c5]
  by_cases c6 : 17 ≤ o ∧ o ≤ 22
  · rw [if_pos c6]
    by_cases c7 : o ≤ 19
    · exact ⟨o, A, B, 0, k, rfl, fin 4 _ _ _ _ (by unfold formV; rw [if_neg (by omega), if_neg (by omega), if_pos (by omega)]) ⟨by omega, by omega, by omega, by omega, by show (0 : Int) ≤ _; omega, by show _ ≤ (65535 : Int); omega, by omega, by omega, by omega⟩, by omega, by omega, rfl⟩
    · exact ⟨o, A, B, 0, k, rfl, fin 5 _ _ _ _ (by unfold formV; rw [if_neg (by omega), if_neg (by omega), if_neg (by omega), if_pos (by omega)]) ⟨by omega, by omega, by omega, by omega, by show (0 : Int) ≤ _; omega, by show _ ≤ (31 : Int); omega, by omega, by omega, by omega⟩, by omega, by omega, rfl⟩
  rw [if_neg c6]
  by_cases c8 : o = 58 ∨ o = 59
  · rw [if_pos c8]
    exact ⟨o, A, 0, 0, k % 8, rfl, fin 8 _ _ _ _ (by rcases c8 with rfl | rfl <;> rfl) ⟨by omega, by omega, by omega, by omega, by show (0 : Int) ≤ _; omega, by show _ ≤ (7 : Int); omega, by omega, by omega, by omega⟩, by omega, by omega, rfl⟩
  rw [if_neg c8]
  by_cases c9 : o = 60 ∨ o = 61
  · rw [if_pos c9]
    exact ⟨o, A, 0, 0, k % 12, rfl, fin 9 _ _ _ _ (by rcases c9 with rfl | rfl <;> rfl) ⟨by omega, by omega, by omega, by omega, by show (0 : Int) ≤ _; omega, by show _ ≤ (11 : Int); omega, by omega, by omega, by omega⟩, by omega, by omega, rfl⟩
  rw [if_neg c9]
  exact ⟨o, 0, 0, 0, 0, rfl, fin 1 _ _ _ _ (by
    have : o = 56 ∨ o = 57 ∨ o = 62 ∨ o = 63 ∨ o = 64 := by omega
    rcases this with rfl | rfl | rfl | rfl | rfl <;> rfl) ⟨by omega, by omega, by omega, by omega, by decide, by decide, by omega, by omega, by omega⟩, by omega, by omega, rfl⟩
end Go.Proofs.Ytppjiheebpabjaa
