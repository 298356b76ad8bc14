/- The bytes of a list of words: what a change of one word, or of one byte, does to them; two lists with the same bytes are equal. -/
import Derived.Test.YtmefbkfapeijgaaBytes
import Derived.Test.YtmefbkfapeijgaaMemD
namespace Go.Proofs.Ytmefbkfapeijgaa
open Go.RowKit

/-- cs laid over L from place k on. -/
def sp {α : Type} (L : List α) (k : Nat) (cs : List α) : List α := L.take k ++ (cs ++ L.drop (k + cs.length))
theorem sp_length {α : Type} (L : List α) (k : Nat) (cs : List α) (h : k + cs.length ≤ L.length) : (sp L k cs).length = L.length := by simp [sp]; omega
theorem sp_nil {α : Type} (L : List α) (k : Nat) : sp L k [] = L := by simp [sp]
theorem sp_get {α : Type} (L : List α) (k : Nat) (cs : List α) (h : k + cs.length ≤ L.length) (j : Nat) : (sp L k cs)[j]? = if k ≤ j ∧ j < k + cs.length then cs[j - k]? else L[j]? := by
  unfold sp
  rw [List.getElem?_append, List.getElem?_append]
  have hl : (L.take k).length = k := by simp; omega
  rw [hl]
  by_cases h1 : j < k
  · rw [if_pos h1, if_neg (by omega)]; simp [h1]
  · rw [if_neg h1]
    by_cases h2 : j - k < cs.length
    · rw [if_pos h2, if_pos (by omega)]
    · rw [if_neg h2, if_neg (by omega), List.getElem?_drop]; congr 1; omega
theorem sp_snoc {α : Type} (L : List α) (k : Nat) (cs ds : List α) (h : k + cs.length + ds.length ≤ L.length) : sp (sp L k cs) (k + cs.length) ds = sp L k (cs ++ ds) := by
  apply List.ext_getElem?
  intro j
  rw [sp_get _ _ _ (by rw [sp_length _ _ _ (by omega)]; omega), sp_get _ _ _ (by omega), sp_get _ _ _ (by simp; omega)]
  rw [List.getElem?_append, List.length_append]
  by_cases h1 : k + cs.length ≤ j ∧ j < k + cs.length + ds.length
  · rw [if_pos h1, if_pos (by omega), if_neg (by omega)]; congr 1; omega
  · rw [if_neg h1]
    by_cases h2 : k ≤ j ∧ j < k + cs.length
    · rw [if_pos h2, if_pos (by omega), if_pos (by omega)]
    · rw [if_neg h2, if_neg (by omega)]

theorem b4_get (x j : Nat) (hj : j < 4) : (b4 x)[j]? = some (UInt8.ofNat (get8 x (8 * j))) := by
  rcases (show j = 0 ∨ j = 1 ∨ j = 2 ∨ j = 3 by omega) with rfl | rfl | rfl | rfl <;>
    · simp only [b4, get8, List.getElem?_cons_zero, List.getElem?_cons_succ, Option.some.injEq, Nat.reduceMul, Nat.reducePow, Nat.div_one]
      apply UInt8.toNat.inj
      simp
theorem bytesOf_cons (x : Nat) (xs : List Nat) : bytesOf (x :: xs) = b4 x ++ bytesOf xs := rfl
theorem bytesOf_get (xs : List Nat) (a : Nat) (h : a < 4 * xs.length) : (bytesOf xs)[a]? = some (UInt8.ofNat (get8 (xs.getD (a / 4) 0) (8 * (a % 4)))) := by
  induction xs generalizing a with
  | nil => simp at h
  | cons x xs ih =>
    rw [bytesOf_cons, List.getElem?_append, show (b4 x).length = 4 from rfl]
    by_cases h4 : a < 4
    · rw [if_pos h4, b4_get x a h4, show a / 4 = 0 by omega, show a % 4 = a by omega]; rfl
    · rw [if_neg h4, ih (a - 4) (by simp at h; omega), show a / 4 = (a - 4) / 4 + 1 by omega, show (a - 4) % 4 = a % 4 by omega]; rfl
theorem ofNat_inj {a b : Nat} (ha : a < 256) (hb : b < 256) (h : UInt8.ofNat a = UInt8.ofNat b) : a = b := by
  have := congrArg UInt8.toNat h
  simp at this
  omega
/-- Lists of words with the same bytes are equal. -/
theorem bytesOf_inj {xs us : List Nat} (hx : Wd xs) (hu : Wd us) (h : bytesOf xs = bytesOf us) : xs = us := by
  have hl : xs.length = us.length := by have := congrArg List.length h; rw [bytesOf_length, bytesOf_length] at this; omega
  apply List.ext_getElem hl
  intro k h1 h2
  have e : ∀ j, j < 4 → get8 (xs.getD k 0) (8 * j) = get8 (us.getD k 0) (8 * j) := by
    intro j hj
    have a := bytesOf_get xs (4 * k + j) (by omega)
    have b := bytesOf_get us (4 * k + j) (by omega)
    rw [show (4 * k + j) / 4 = k by omega, show (4 * k + j) % 4 = j by omega] at a b
    rw [h, b] at a
    exact (ofNat_inj (get8_lt _ _) (get8_lt _ _) (Option.some.inj a)).symm
  have := word_ext (hx.at_ k) (hu.at_ k) (e 0 (by omega)) (e 1 (by omega)) (e 2 (by omega)) (e 3 (by omega))
  simpa [List.getD_eq_getElem?_getD, h1, h2] using this
theorem bytesOf_set (xs : List Nat) (k v : Nat) (hk : k < xs.length) : bytesOf (xs.set k v) = sp (bytesOf xs) (4 * k) (b4 v) := by
  apply List.ext_getElem?
  intro a
  have hl : (bytesOf xs).length = 4 * xs.length := bytesOf_length xs
  have h4 : (b4 v).length = 4 := rfl
  rw [sp_get _ _ _ (by omega), h4]
  by_cases ha : a < 4 * xs.length
  · rw [bytesOf_get _ a (by simpa using ha)]
    by_cases h : 4 * k ≤ a ∧ a < 4 * k + 4
    · rw [if_pos h, b4_get v _ (by omega), show a / 4 = k by omega, show a - 4 * k = a % 4 by omega]
      simp [List.getD_eq_getElem?_getD, hk]
    · rw [if_neg h, bytesOf_get _ a ha]
      congr 3
      simp only [List.getD_eq_getElem?_getD]
      rw [List.getElem?_set_ne (by omega)]
  · rw [if_neg (by omega), List.getElem?_eq_none (by rw [bytesOf_length]; simp; omega), List.getElem?_eq_none (by omega)]
/-- A store of one byte, and of a word. -/
theorem bytesOf_stv1 (xs : List Nat) (a v : Nat) (h : win xs.length a 1 = true) : bytesOf (stv xs a 1 v) = sp (bytesOf xs) a [UInt8.ofNat v] := by
  obtain ⟨hk, _⟩ := win_lt h
  have hl : (bytesOf xs).length = 4 * xs.length := bytesOf_length xs
  have e : stv xs a 1 v = xs.set (a / 4) (set8 (xs.getD (a / 4) 0) (8 * (a % 4)) v) := by unfold stv stw; rw [h]; rfl
  rw [e, bytesOf_set _ _ _ hk]
  apply List.ext_getElem?
  intro j
  have h4 : ∀ x, (b4 x).length = 4 := fun _ => rfl
  rw [sp_get _ _ _ (by rw [h4]; omega), sp_get _ _ _ (by simp; omega), h4]
  simp only [List.length_cons, List.length_nil, Nat.zero_add]
  by_cases h1 : 4 * (a / 4) ≤ j ∧ j < 4 * (a / 4) + 4
  · rw [if_pos h1, b4_get _ _ (by omega)]
    by_cases h2 : a ≤ j ∧ j < a + 1
    · obtain rfl : j = a := by omega
      rw [if_pos h2, show j - 4 * (j / 4) = j % 4 by omega, get8_set8 _ _ _ (by omega), Nat.sub_self]
      simp only [List.getElem?_cons_zero, Option.some.injEq]
      apply UInt8.toNat.inj
      simp
    · rw [if_neg h2, get8_set8_other _ _ _ _ (by omega) (by omega) (by omega), bytesOf_get _ j (by omega), show j / 4 = a / 4 by omega, show j - 4 * (a / 4) = j % 4 by omega]
  · rw [if_neg h1, if_neg (by omega)]
theorem bytesOf_stv4 (xs : List Nat) (a v : Nat) (h : win xs.length a 4 = true) : bytesOf (stv xs a 4 v) = sp (bytesOf xs) a (b4 v) := by
  obtain ⟨hk, _⟩ := win_lt h
  have e : stv xs a 4 v = xs.set (a / 4) v := by unfold stv stw; rw [h]; rfl
  have h4 : 4 * (a / 4) = a := by simp [win] at h; omega
  rw [e, bytesOf_set _ _ _ hk, h4]
/-- A page's bytes are a part of all bytes. -/
theorem bytesOf_drop (xs : List Nat) (k : Nat) : bytesOf (xs.drop k) = (bytesOf xs).drop (4 * k) := by
  induction k generalizing xs with
  | zero => simp
  | succ k ih =>
    cases xs with
    | nil => simp [bytesOf]
    | cons x xs => rw [List.drop_succ_cons, ih, bytesOf_cons, List.drop_append, List.drop_eq_nil_of_le (show (b4 x).length ≤ 4 * (k + 1) by show 4 ≤ _; omega), show 4 * (k + 1) - (b4 x).length = 4 * k by show 4 * (k + 1) - 4 = _; omega]; rfl
theorem bytesOf_take (xs : List Nat) (k : Nat) : bytesOf (xs.take k) = (bytesOf xs).take (4 * k) := by
  induction k generalizing xs with
  | zero => simp [bytesOf]
  | succ k ih =>
    cases xs with
    | nil => simp [bytesOf]
    | cons x xs => rw [List.take_succ_cons, bytesOf_cons, ih, bytesOf_cons, List.take_append, List.take_of_length_le (show (b4 x).length ≤ 4 * (k + 1) by show 4 ≤ _; omega), show 4 * (k + 1) - (b4 x).length = 4 * k by show 4 * (k + 1) - 4 = _; omega]
theorem bytesOf_piece (xs : List Nat) (k n : Nat) : bytesOf ((xs.drop k).take n) = ((bytesOf xs).drop (4 * k)).take (4 * n) := by rw [bytesOf_take, bytesOf_drop]
end Go.Proofs.Ytmefbkfapeijgaa
