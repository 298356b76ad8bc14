/- Plain laws about words of 32 bits and their bytes, with no program in sight. -/
import Derived.Test.YtcaddlighhiepaaBase
namespace Go.Proofs.Ytcaddlighhiepaa
open Go.RowKit

/-- Eight bits of a word. -/
def get8 (x l : Nat) : Nat := x / 2 ^ l % 256
/-- A word whose eight bits from l on are those of v. -/
def set8 (x l v : Nat) : Nat := (x &&& (4294967295 - 255 * 2 ^ l)) ||| v % 256 * 2 ^ l
theorem get8_lt (x l : Nat) : get8 x l < 256 := Nat.mod_lt _ (by omega)
theorem get8_bit (x l i : Nat) : (get8 x l).testBit i = (decide (i < 8) && x.testBit (i + l)) := by
  unfold get8
  rw [show (256 : Nat) = 2 ^ 8 from rfl, Nat.testBit_mod_two_pow, Nat.testBit_div_two_pow]
theorem p255 (l i : Nat) : (255 * 2 ^ l).testBit i = (decide (l ≤ i) && decide (i < l + 8)) := by
  rw [Nat.testBit_mul_two_pow, show (255 : Nat) = 2 ^ 8 - 1 from rfl, Nat.testBit_two_pow_sub_one]
  by_cases h : l ≤ i
  · simp [h]; omega
  · simp [h]
theorem l24 (l : Nat) (hl : l ≤ 24) : 255 * 2 ^ l ≤ 4278190080 := by
  have h : 2 ^ l ≤ 2 ^ 24 := Nat.pow_le_pow_right (by omega) hl
  simp at h
  omega
theorem not_bit (l i : Nat) (hl : l ≤ 24) : (4294967295 - 255 * 2 ^ l).testBit i = (decide (i < 32) && !(decide (l ≤ i) && decide (i < l + 8))) := by
  have h := l24 l hl
  have := Nat.testBit_two_pow_sub_succ (x := 255 * 2 ^ l) (n := 32) (by omega) i
  rw [show 4294967295 - 255 * 2 ^ l = 2 ^ 32 - (255 * 2 ^ l + 1) by omega, this, p255]
theorem set8_bit (x l v i : Nat) (hl : l ≤ 24) : (set8 x l v).testBit i = if l ≤ i ∧ i < l + 8 then v.testBit (i - l) else x.testBit i && decide (i < 32) := by
  unfold set8
  rw [Nat.testBit_or, Nat.testBit_and, not_bit l i hl, Nat.testBit_mul_two_pow, show (256 : Nat) = 2 ^ 8 from rfl, Nat.testBit_mod_two_pow]
  by_cases h1 : l ≤ i
  · by_cases h2 : i < l + 8
    · have h3 : i - l < 8 := by omega
      simp [h1, h2, h3]
    · have h3 : ¬ i - l < 8 := by omega
      simp [h1, h2, h3]
  · simp [h1]
theorem bit_ge (x i : Nat) (hx : x < 4294967296) (hi : 32 ≤ i) : x.testBit i = false :=
  Nat.testBit_lt_two_pow (Nat.lt_of_lt_of_le hx (show 2 ^ 32 ≤ 2 ^ i from Nat.pow_le_pow_right (by omega) hi))
theorem set8_lt (x l v : Nat) (hl : l ≤ 24) : set8 x l v < 4294967296 := by
  have h1 : x &&& (4294967295 - 255 * 2 ^ l) ≤ 4294967295 - 255 * 2 ^ l := Nat.and_le_right
  have h2 := l24 l hl
  have h3 : v % 256 * 2 ^ l ≤ 255 * 2 ^ l := Nat.mul_le_mul_right _ (by omega)
  unfold set8
  exact Nat.or_lt_two_pow (n := 32) (by omega) (by omega)
theorem get8_set8 (x l v : Nat) (hl : l ≤ 24) : get8 (set8 x l v) l = v % 256 := by
  apply Nat.eq_of_testBit_eq
  intro i
  rw [get8_bit, set8_bit x l v _ hl, show (256 : Nat) = 2 ^ 8 from rfl, Nat.testBit_mod_two_pow]
  by_cases h : i < 8
  · have h2 : i + l < l + 8 := by omega
    simp [h, h2]
  · simp [h]
theorem get8_set8_other (x l v m : Nat) (hl : l ≤ 24) (hm : m ≤ 24) (h : l + 8 ≤ m ∨ m + 8 ≤ l) : get8 (set8 x l v) m = get8 x m := by
  apply Nat.eq_of_testBit_eq
  intro i
  rw [get8_bit, set8_bit x l v _ hl, get8_bit]
  by_cases h8 : i < 8
  · have h2 : ¬ (l ≤ i + m ∧ i + m < l + 8) := by omega
    have h3 : i + m < 32 := by omega
    simp [h8, h2, h3]
  · simp [h8]
/-- A word is its four bytes. -/
theorem word_ext {x y : Nat} (hx : x < 4294967296) (hy : y < 4294967296) (h0 : get8 x 0 = get8 y 0) (h1 : get8 x 8 = get8 y 8) (h2 : get8 x 16 = get8 y 16) (h3 : get8 x 24 = get8 y 24) : x = y := by
  simp only [get8, Nat.reducePow] at h0 h1 h2 h3
  omega
theorem word_bytes {x : Nat} (hx : x < 4294967296) : x = get8 x 0 + 256 * get8 x 8 + 65536 * get8 x 16 + 16777216 * get8 x 24 := by
  simp only [get8, Nat.reducePow]
  omega
/-- As the walk spells them. -/
theorem get8_int (x l : Nat) (hx : x < 4294967296) : bits BinOp.and IntKind.u32 ((x : Int) / 2 ^ l) 255 = (get8 x l : Nat) := by
  have h1 : x / 2 ^ l < 4294967296 := Nat.lt_of_le_of_lt (Nat.div_le_self _ _) hx
  have h2 := u32_and_nat (x / 2 ^ l) 255 h1 (by omega)
  rw [show ((x : Int) / 2 ^ l) = ((x / 2 ^ l : Nat) : Int) by simp]
  exact h2.trans (by rw [nat_mask8]; rfl)
theorem set8_int (x l v : Nat) (hx : x < 4294967296) (hv : v < 4294967296) (hl : l ≤ 24) :
    bits BinOp.or IntKind.u32 (bits BinOp.andNot IntKind.u32 (x : Int) (255 * 2 ^ l % 4294967296)) (bits BinOp.and IntKind.u32 (v : Int) 255 * 2 ^ l % 4294967296) = (set8 x l v : Nat) := by
  have h2 := l24 l hl
  have h3 : v % 256 * 2 ^ l ≤ 255 * 2 ^ l := Nat.mul_le_mul_right _ (by omega)
  have e1 := u32_and_nat v 255 hv (by omega)
  rw [nat_mask8] at e1
  rw [show (255 : Int) = ((255 : Nat) : Int) from rfl, e1]
  rw [show (((v % 256 : Nat) : Int) * 2 ^ l % 4294967296) = ((v % 256 * 2 ^ l : Nat) : Int) by
    rw [show ((v % 256 : Nat) : Int) * 2 ^ l = ((v % 256 * 2 ^ l : Nat) : Int) by simp]; omega]
  rw [show (((255 : Nat) : Int) * 2 ^ l % 4294967296) = ((255 * 2 ^ l : Nat) : Int) by
    rw [show ((255 : Nat) : Int) * 2 ^ l = ((255 * 2 ^ l : Nat) : Int) by simp]; omega]
  rw [u32_andNot_nat x (255 * 2 ^ l) hx (by omega)]
  have h4 : x &&& (4294967295 - 255 * 2 ^ l) ≤ 4294967295 - 255 * 2 ^ l := Nat.and_le_right
  rw [u32_or_nat _ _ (by omega) (by omega)]
  rfl
end Go.Proofs.Ytcaddlighhiepaa
