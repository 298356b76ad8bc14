/- The functions of memory that only read: pages, bounds, a load, and comparing lists of words. -/
import Derived.Test.YtmefbkfapeijgaaRows
import Derived.Test.YtmefbkfapeijgaaWord
namespace Go.Proofs.Ytmefbkfapeijgaa
open Go.RowKit

/-- The number of pages of a list of n words. -/
def pg (n : Nat) : Nat := if n % 32 = 0 ∧ n ≤ 1024 then n / 32 else 0
theorem pg_le (n : Nat) : pg n ≤ 32 ∧ 32 * pg n ≤ n := by unfold pg; split <;> omega
/-- Whether an access is aligned and within the memory. -/
def win (n addr : Nat) (size : Int) : Bool := decide ((size = 1 ∨ size = 4 ∧ addr % 4 = 0) ∧ addr < 128 * pg n)

set_option maxHeartbeats 400000 in
theorem pages_any (A : Option Addr) (n c : Nat) (w : World) (hn : n ≤ maxLen) :
    Calls Try.prog 32 #[.slice A n c] w fun e w' => e = .returned (.int .i64 (pg n)) ∧ w = w' := by
  unfold maxLen at hn
  go_enter Try.func32, Try.ntmps32
  go_wp2
  all_goals
    go_ret
    exact ⟨ret_int (by unfold pg; split <;> omega), rfl⟩

set_option maxHeartbeats 400000 in
theorem rpages_any (A : Option Addr) (n c : Nat) (w : World) (hn : n ≤ maxLen) :
    Calls Try.prog 33 #[.slice A n c] w fun e w' => e = .returned (.int .i64 (pg n)) ∧ w = w' := by
  unfold maxLen at hn
  go_enter Try.func33, Try.ntmps33
  go_wp2
  all_goals
    go_ret
    exact ⟨ret_int (by unfold pg; split <;> omega), rfl⟩

set_option maxHeartbeats 400000 in
theorem within_any (A : Option Addr) (n c addr : Nat) (size : Int) (w : World) (hn : n ≤ maxLen) (ha : addr < 4294967296) :
    Calls Try.prog 89 #[.slice A n c, .int .u32 addr, .int .i64 size] w fun e w' => e = .returned (.bool (win n addr size)) ∧ w = w' := by
  have hp := pg_le n
  by_cases h1 : size = 1
  · subst h1
    go_enter Try.func89, Try.ntmps89
    go_wp2_with (go_at_call 32; refine (pages_any _ _ _ _ hn).mono ?_; rintro e w' ⟨rfl, rfl⟩)
    go_ret
    exact ⟨ret_bool (by unfold win; simp_all <;> (first | omega | (rw [Bool.eq_iff_iff]; simp; omega))), rfl⟩
  · by_cases h4 : size = 4
    · subst h4
      go_enter Try.func89, Try.ntmps89
      go_wp2_with (go_at_call 32; refine (pages_any _ _ _ _ hn).mono ?_; rintro e w' ⟨rfl, rfl⟩)
      all_goals
        go_ret
        exact ⟨ret_bool (by unfold win; simp_all <;> (first | omega | (rw [Bool.eq_iff_iff]; simp; omega))), rfl⟩
    · have g1 : (size != 1) = true := by simp [h1]
      have g4 : (size != 4) = true := by simp [h4]
      go_enter Try.func89, Try.ntmps89
      go_wp2_with (go_at_call 32; refine (pages_any _ _ _ _ hn).mono ?_; rintro e w' ⟨rfl, rfl⟩)
      go_ret
      exact ⟨by simp [win, h1, h4], rfl⟩

set_option maxHeartbeats 400000 in
theorem rwithin_any (A : Option Addr) (n c addr : Nat) (size : Int) (w : World) (hn : n ≤ maxLen) (ha : addr < 4294967296) :
    Calls Try.prog 91 #[.slice A n c, .int .u32 addr, .int .i64 size] w fun e w' => e = .returned (.bool (win n addr size)) ∧ w = w' := by
  have hp := pg_le n
  by_cases h1 : size = 1
  · subst h1
    go_enter Try.func91, Try.ntmps91
    go_wp2_with (go_at_call 33; refine (rpages_any _ _ _ _ hn).mono ?_; rintro e w' ⟨rfl, rfl⟩)
    all_goals
      go_ret
      exact ⟨ret_bool (by unfold win; simp_all <;> (first | omega | (rw [Bool.eq_iff_iff]; simp; omega))), rfl⟩
  · by_cases h4 : size = 4
    · subst h4
      go_enter Try.func91, Try.ntmps91
      go_wp2_with (go_at_call 33; refine (rpages_any _ _ _ _ hn).mono ?_; rintro e w' ⟨rfl, rfl⟩)
      all_goals
        go_ret
        exact ⟨ret_bool (by unfold win; simp_all <;> (first | omega | (rw [Bool.eq_iff_iff]; simp; omega))), rfl⟩
    · have g1 : (size != 1) = true := by simp [h1]
      have g4 : (size != 4) = true := by simp [h4]
      go_enter Try.func91, Try.ntmps91
      go_wp2_with (go_at_call 33; refine (rpages_any _ _ _ _ hn).mono ?_; rintro e w' ⟨rfl, rfl⟩)
      go_ret
      exact ⟨by simp [win, h1, h4], rfl⟩

set_option maxHeartbeats 400000 in
theorem mask8 (w : World) : Calls Try.prog 117 #[.int .i64 8] w fun e w' => e = .returned (.int .u32 255) ∧ w = w' := by
  go_enter Try.func117, Try.ntmps117
  go_wp2
  go_ret
  exact ⟨rfl, rfl⟩

set_option maxHeartbeats 400000 in
theorem field8 (x : Nat) (l : Int) (w : World) (hx : x < 4294967296) (h0 : 0 ≤ l) (hl : l ≤ 31) :
    Calls Try.prog 90 #[.int .u32 x, .int .i64 l, .int .i64 8] w fun e w' => e = .returned (.int .u32 (get8 x l.toNat : Nat)) ∧ w = w' := by
  go_enter Try.func90, Try.ntmps90
  go_wp2_with (go_at_call 117; refine (mask8 _).mono ?_; rintro e w' ⟨rfl, rfl⟩)
  go_ret
  exact ⟨ret_int (get8_int x l.toNat hx), rfl⟩

set_option maxHeartbeats 400000 in
theorem setfield8 (x v : Nat) (l : Int) (w : World) (hx : x < 4294967296) (hv : v < 4294967296) (h0 : 0 ≤ l) (hl : l ≤ 24) :
    Calls Try.prog 93 #[.int .u32 x, .int .i64 l, .int .i64 8, .int .u32 v] w fun e w' => e = .returned (.int .u32 (set8 x l.toNat v : Nat)) ∧ w = w' := by
  go_enter Try.func93, Try.ntmps93
  go_wp2_with (go_at_call 117; refine (mask8 _).mono ?_; rintro e w' ⟨rfl, rfl⟩)
  go_ret
  exact ⟨ret_int (set8_int x l.toNat v hx hv (by omega)), rfl⟩

/-- What a load hands back. -/
def ldv (xs : List Nat) (addr : Nat) (size : Int) : Nat :=
  if win xs.length addr size then (if size = 1 then get8 (xs.getD (addr / 4) 0) (8 * (addr % 4)) else xs.getD (addr / 4) 0) else 0
theorem win_lt {n addr : Nat} {size : Int} (h : win n addr size = true) : addr / 4 < n ∧ (size = 1 ∨ size = 4) := by
  have := pg_le n
  simp [win] at h
  omega

set_option maxHeartbeats 400000 in
theorem load_any (A : Option Addr) (c addr : Nat) (size : Int) (xs : List Nat) (w : World) (hn : xs.length ≤ maxLen) (ha : addr < 4294967296) (hr : Rd w w.heap.size A (ws xs)) (hw : Wd xs) :
    Calls Try.prog 27 #[.slice A xs.length c, .int .u32 addr, .int .i64 size] w fun e w' => e = .returned (.tuple #[.int .u32 (ldv xs addr size : Nat), .bool (win xs.length addr size)]) ∧ w = w' := by
  cases hwin : win xs.length addr size with
  | false =>
    go_enter Try.func27, Try.ntmps27
    go_wp2_with (go_at_call 89; refine (within_any _ _ _ _ _ _ hn ha).mono ?_; rintro e w' ⟨rfl, rfl⟩)
    go_ret2
    exact ⟨by simp [ldv, hwin], rfl⟩
  | true =>
    obtain ⟨hk, hs⟩ := win_lt hwin
    obtain ⟨b, off, rfl, hb, hc⟩ := hr (by simp; omega)
    have hcell := hc (addr / 4) (by simpa using hk)
    rw [ws_get _ _ hk] at hcell
    have hx := hw.at_ (addr / 4)
    generalize hg : xs.getD (addr / 4) 0 = x at hcell hx
    have hv : ldv xs addr size = if size = 1 then get8 x (8 * (addr % 4)) else x := by unfold ldv; rw [hwin, hg]; rfl
    clear hc hr hw
    have Hg := Lib.hid hg
    clear hg
    rcases hs with rfl | rfl
    · simp only [if_pos] at hv
      go_enter Try.func27, Try.ntmps27
      go_wp2_with (first | (go_at_call 89; refine (within_any _ _ _ _ _ _ hn ha).mono ?_; rintro e w' ⟨rfl, rfl⟩) | (go_at_call 90; refine (field8 _ _ _ hx (by omega) (by omega)).mono ?_; rintro e w' ⟨rfl, rfl⟩))
      go_ret2
      exact ⟨by rw [hv, show 8 * (addr % 4) = ((addr : Int) % 4 * 8).toNat by omega]; rfl, rfl⟩
    · go_enter Try.func27, Try.ntmps27
      go_wp2_with (first | (go_at_call 89; refine (within_any _ _ _ _ _ _ hn ha).mono ?_; rintro e w' ⟨rfl, rfl⟩))
      go_ret2
      exact ⟨by rw [hv]; rfl, rfl⟩

set_option maxHeartbeats 400000 in
theorem rload_any (A : Option Addr) (c addr : Nat) (size : Int) (xs : List Nat) (w : World) (hn : xs.length ≤ maxLen) (ha : addr < 4294967296) (hr : Rd w w.heap.size A (ws xs)) (hw : Wd xs) :
    Calls Try.prog 28 #[.slice A xs.length c, .int .u32 addr, .int .i64 size] w fun e w' => e = .returned (.tuple #[.int .u32 (ldv xs addr size : Nat), .bool (win xs.length addr size)]) ∧ w = w' := by
  cases hwin : win xs.length addr size with
  | false =>
    go_enter Try.func28, Try.ntmps28
    go_wp2_with (go_at_call 91; refine (rwithin_any _ _ _ _ _ _ hn ha).mono ?_; rintro e w' ⟨rfl, rfl⟩)
    go_ret2
    exact ⟨by simp [ldv, hwin], rfl⟩
  | true =>
    obtain ⟨hk, hs⟩ := win_lt hwin
    obtain ⟨b, off, rfl, hb, hc⟩ := hr (by simp; omega)
    have hcell := hc (addr / 4) (by simpa using hk)
    rw [ws_get _ _ hk] at hcell
    have hx := hw.at_ (addr / 4)
    generalize hg : xs.getD (addr / 4) 0 = x at hcell hx
    have hv : ldv xs addr size = if size = 1 then get8 x (8 * (addr % 4)) else x := by unfold ldv; rw [hwin, hg]; rfl
    clear hc hr hw
    have Hg := Lib.hid hg
    clear hg
    rcases hs with rfl | rfl
    · simp only [if_pos] at hv
      go_enter Try.func28, Try.ntmps28
      go_wp2_with (first | (go_at_call 91; refine (rwithin_any _ _ _ _ _ _ hn ha).mono ?_; rintro e w' ⟨rfl, rfl⟩))
      go_ret2
      exact ⟨by rw [hv, ← get8_int _ _ hx]; rfl, rfl⟩
    · go_enter Try.func28, Try.ntmps28
      go_wp2_with (first | (go_at_call 91; refine (rwithin_any _ _ _ _ _ _ hn ha).mono ?_; rintro e w' ⟨rfl, rfl⟩))
      go_ret2
      exact ⟨by rw [hv]; rfl, rfl⟩
end Go.Proofs.Ytmefbkfapeijgaa
