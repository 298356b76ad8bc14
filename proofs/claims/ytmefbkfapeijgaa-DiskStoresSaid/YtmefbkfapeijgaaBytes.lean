/- Bytes: what a word's bytes are, strings made of bytes; over any program. -/
import Derived.Test.YtmefbkfapeijgaaWord
import Derived.Test.YtmefbkfapeijgaaOps
import Derived.Lib.AppendStr
import Derived.Laws.IdiomStrings
namespace Go.Proofs.Ytmefbkfapeijgaa
open Go.RowKit

/-- Bytes as cells, and as a string. -/
def bc (l : List UInt8) : List Value := l.map fun (b : UInt8) => .int .u8 (b.toNat : Int)
def str (l : List UInt8) : ByteArray := ⟨l.toArray⟩
@[simp] theorem bc_length (l : List UInt8) : (bc l).length = l.length := by simp [bc]
@[simp] theorem str_size (l : List UInt8) : (str l).size = l.length := by simp [str, ByteArray.size]
theorem bc_append (l m : List UInt8) : bc (l ++ m) = bc l ++ bc m := by simp [bc]
theorem bc_one (l : List UInt8) : ∀ u ∈ bc l, u.oneCell' = true := by intro u hu; simp [bc] at hu; obtain ⟨x, _, rfl⟩ := hu; rfl
theorem strCells_str (l : List UInt8) : Lib.strCells (str l) = bc l := rfl
/-- The bytes of a word, the least first; of words. -/
def b4 (x : Nat) : List UInt8 := [UInt8.ofNat x, UInt8.ofNat (x / 256), UInt8.ofNat (x / 65536), UInt8.ofNat (x / 16777216)]
def bytesOf (xs : List Nat) : List UInt8 := xs.flatMap b4
theorem bytesOf_length (xs : List Nat) : (bytesOf xs).length = 4 * xs.length := by
  induction xs with
  | nil => rfl
  | cons x xs ih => simp [bytesOf, b4] at ih ⊢; omega
theorem bytesOf_append (xs us : List Nat) : bytesOf (xs ++ us) = bytesOf xs ++ bytesOf us := by simp [bytesOf]
theorem bytesOf_step (xs : List Nat) (k : Nat) (hk : k < xs.length) : bytesOf (xs.take (k + 1)) = bytesOf (xs.take k) ++ b4 (xs.getD k 0) := by
  rw [List.take_succ_eq_append_getElem hk, bytesOf_append]
  simp [bytesOf, hk]

theorem b4_cells (x : Nat) (hx : x < 4294967296) : bc (b4 x) = [.int .u8 ((x : Int) % 256), .int .u8 ((x : Int) / 256 % 256), .int .u8 ((x : Int) / 65536 % 256), .int .u8 ((x : Int) / 16777216)] := by
  simp only [bc, b4, List.map_cons, List.map_nil, UInt8.toNat_ofNat']
  congr 1
  congr 1
  congr 1
  congr 2
  omega
theorem ints_one4 (a b c d : Int) (k : IntKind) : ∀ u ∈ [Value.int k a, .int k b, .int k c, .int k d], u.oneCell' = true := by
  intro u hu; simp at hu; rcases hu with rfl | rfl | rfl | rfl <;> rfl
theorem ints_one1 (a : Int) (k : IntKind) : ∀ u ∈ [Value.int k a], u.oneCell' = true := by
  intro u hu; simp at hu; subst hu; rfl
section
variable {P : Program} {w : World}
theorem run_string_row {B : Nat} {src dst e : TypeId} {A : Option Addr} {n c : Nat} {l : List UInt8} (hs : P.underlying src = some (.slice e)) (he : P.underlying e = some (.int .u8)) (hd : P.underlying dst = some .string)
    (hown : w.ownsRow B e 1 (.slice A n c) n (bc l)) : (convert src dst (.slice A n c)).run P w = .ok (.string (str l)) w := by
  have hl : n = l.length := by have := hown.1; simp at this; omega
  subst hl
  rcases row_blk hown with rfl | ⟨g, rfl, hg, _⟩
  · have h0 : l = [] := by
      rcases hown.2 with ⟨_, h⟩ | ⟨g, cap, cur, hv, _⟩
      · exact List.eq_nil_of_length_eq_zero h
      · cases hv
    subst h0
    rw [List.length_nil, run_convert_bytes_string w src dst e none 0 c hs he hd]
    rfl
  · refine run_convert_bytes_back w src dst e ⟨g, 0, none⟩ c l hs he hd fun j hj => ?_
    have := hown.cellAt j (by omega)
    rw [show (⟨g, 0, none⟩ : Addr).add j = ⟨g, j, none⟩ by by_cases h : j = 0 <;> simp [Addr.add, h], this]
    simp [bc, hj]
end
end Go.Proofs.Ytmefbkfapeijgaa
