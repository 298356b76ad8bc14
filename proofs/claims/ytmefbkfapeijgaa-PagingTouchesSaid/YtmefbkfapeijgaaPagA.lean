/- Paging: what a page-table entry permits, and the walk of a page table. -/
import Derived.Test.YtmefbkfapeijgaaLawB
namespace Go.Proofs.Ytmefbkfapeijgaa
open Go.RowKit

/-- The cause of an access, whether the access is known, and whether an entry permits it. -/
def cau (a : Int) : Int := if a = 1 then 4 else if a = 3 then 6 else 5
def knw (a : Int) : Bool := decide (a = 1 ∨ a = 2 ∨ a = 3)
def per (p : Nat) (a : Int) : Bool := decide (p % 2 = 1 ∧ (a = 3 → p / 2 % 2 = 1) ∧ (a = 1 → p / 4 % 2 = 1))

set_option maxRecDepth 100000 in
set_option maxHeartbeats 400000 in
theorem pispage_any (A : Option Addr) (n c f : Nat) (w : World) (hn : n ≤ maxLen) (hf : f < 4294967296) :
    Calls Try.prog 108 #[.slice A n c, .int .u32 f] w fun e w' => e = .returned (.bool (decide (f < pg n))) ∧ w = w' := by
  have := pg_le n
  go_enter Try.func108, Try.ntmps108
  go_wp2_with (go_at_call 32; refine (pages_any _ _ _ _ hn).mono ?_; rintro e w' ⟨rfl, rfl⟩)
  go_ret
  exact ⟨rfl, rfl⟩

set_option maxRecDepth 100000 in
set_option maxHeartbeats 400000 in
theorem frameof_any (p : Nat) (w : World) (hp : p < 4294967296) :
    Calls Try.prog 111 #[.int .u32 p] w fun e w' => e = .returned (.int .u32 (get8 p 8 : Nat)) ∧ w = w' := by
  go_enter Try.func111, Try.ntmps111
  go_wp2_with (go_at_call 90; refine (field8 _ _ _ hp (by omega) (by omega)).mono ?_; rintro e w' ⟨rfl, rfl⟩)
  go_ret
  exact ⟨rfl, rfl⟩

set_option maxRecDepth 100000 in
set_option maxHeartbeats 400000 in
theorem causeof_any (a : Int) (w : World) :
    Calls Try.prog 109 #[.int .i64 a] w fun e w' => e = .returned (.tuple #[.int .i64 (cau a), .bool (knw a)]) ∧ w = w' := by
  by_cases h1 : a = 1
  · subst h1
    go_enter Try.func109, Try.ntmps109
    go_wp2
    go_ret2
    exact ⟨rfl, rfl⟩
  · by_cases h2 : a = 2
    · subst h2
      go_enter Try.func109, Try.ntmps109
      go_wp2
      go_ret2
      exact ⟨rfl, rfl⟩
    · by_cases h3 : a = 3
      · subst h3
        go_enter Try.func109, Try.ntmps109
        go_wp2
        go_ret2
        exact ⟨rfl, rfl⟩
      · have HC := Lib.hid (show cau a = 5 by simp [cau, h1, h3])
        have HK := Lib.hid (show knw a = false by simp [knw, h1, h2, h3])
        have g1 : (a == 1) = false := by simpa using h1
        have g2 : (a == 2) = false := by simpa using h2
        have g3 : (a == 3) = false := by simpa using h3
        clear h1 h2 h3
        go_enter Try.func109, Try.ntmps109
        go_wp2
        go_ret2
        exact ⟨by rw [HC.out, HK.out]; rfl, rfl⟩

theorem bit_int (p b : Nat) (hp : p < 4294967296) (hb : b < 32) : bits BinOp.and IntKind.u32 (p : Int) ((2 ^ b : Nat) : Int) = ((p / 2 ^ b % 2 * 2 ^ b : Nat) : Int) := by
  have h2 : 2 ^ b < 2 ^ 32 := Nat.pow_lt_pow_right (by omega) hb
  rw [u32_and_nat p (2 ^ b) hp (by simpa using h2), nat_bit]

set_option maxRecDepth 100000 in
set_option maxHeartbeats 400000 in
theorem permits_any (p : Nat) (a : Int) (w : World) (hp : p < 4294967296) :
    Calls Try.prog 110 #[.int .u32 p, .int .i64 a] w fun e w' => e = .returned (.bool (per p a)) ∧ w = w' := by
  have b0 : bits BinOp.and IntKind.u32 (p : Int) 1 = ((p % 2 : Nat) : Int) := by have := bit_int p 0 hp (by omega); simpa using this
  have b1 : bits BinOp.and IntKind.u32 (p : Int) 2 = ((p / 2 % 2 * 2 : Nat) : Int) := bit_int p 1 hp (by omega)
  have b2 : bits BinOp.and IntKind.u32 (p : Int) 4 = ((p / 4 % 2 * 4 : Nat) : Int) := bit_int p 2 hp (by omega)
  by_cases h0 : p % 2 = 0
  · have g0 : (bits BinOp.and IntKind.u32 (p : Int) 1 == 0) = true := by rw [b0]; simp; omega
    have HP := Lib.hid (show per p a = false by simp [per]; omega)
    clear b0 b1 b2 h0
    go_enter Try.func110, Try.ntmps110
    go_wp2
    go_ret
    exact ⟨by rw [HP.out]; rfl, rfl⟩
  · have g0 : (bits BinOp.and IntKind.u32 (p : Int) 1 == 0) = false := by rw [b0]; simp; omega
    by_cases h3 : a = 3
    · subst h3
      have HP := Lib.hid (show per p 3 = (bits BinOp.and IntKind.u32 (p : Int) 2 != 0) by rw [b1, Bool.eq_iff_iff]; simp [per]; omega)
      clear b0 b1 b2 h0
      go_enter Try.func110, Try.ntmps110
      go_wp2
      go_ret
      exact ⟨by rw [HP.out]; rfl, rfl⟩
    · have g3 : (a == 3) = false := by simpa using h3
      by_cases h1 : a = 1
      · subst h1
        have HP := Lib.hid (show per p 1 = (bits BinOp.and IntKind.u32 (p : Int) 4 != 0) by rw [b2, Bool.eq_iff_iff]; simp [per]; omega)
        clear b0 b1 b2 h0
        go_enter Try.func110, Try.ntmps110
        go_wp2
        go_ret
        exact ⟨by rw [HP.out]; rfl, rfl⟩
      · have g1 : (a == 1) = false := by simpa using h1
        have HP := Lib.hid (show per p a = true by simp [per, h1, h3]; omega)
        clear b0 b1 b2 h0 h1 h3
        go_enter Try.func110, Try.ntmps110
        go_wp2
        go_ret
        exact ⟨by rw [HP.out]; rfl, rfl⟩
end Go.Proofs.Ytmefbkfapeijgaa
