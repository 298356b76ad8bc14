/- Comparing two lists of words. -/
import Derived.Test.YtmefbkfapeijgaaMemA
namespace Go.Proofs.Ytmefbkfapeijgaa
open Go.RowKit

theorem take_step {xs us : List Nat} {k : Nat} (h : xs.take k = us.take k) (hx : k < xs.length) (hu : k < us.length) (he : xs.getD k 0 = us.getD k 0) : xs.take (k + 1) = us.take (k + 1) := by
  rw [List.take_succ_eq_append_getElem hx, List.take_succ_eq_append_getElem hu, h]
  simp [hx, hu] at he
  rw [he]

set_option maxHeartbeats 400000 in
theorem same_any (A D : Option Addr) (c d : Nat) (xs us : List Nat) (w : World) (hn : xs.length ≤ maxLen) (_hm : us.length ≤ maxLen) (hr : Rd w w.heap.size A (ws xs)) (hs : Rd w w.heap.size D (ws us)) :
    Calls Try.prog 31 #[.slice A xs.length c, .slice D us.length d] w fun e w' => e = .returned (.bool (decide (xs = us))) ∧ ∃ n, w' = w.drewN n := by
  unfold maxLen at hn
  by_cases hl : us.length = xs.length
  · go_enter Try.func31, Try.ntmps31
    go_wp2
    go_loopw [5] (fun i wr => ∃ k : Nat, k ≤ xs.length ∧ i = .int .i64 k ∧ xs.take k = us.take k ∧ ∃ n, wr = w.drewN n) (fun i _ => xs.length - (intOf i).toNat)
    case atStart => exact ⟨0, Nat.zero_le _, rfl, rfl, 0, rfl⟩
    case round =>
      obtain ⟨k, hk, rfl, ht, m, rfl⟩ := hrel
      by_cases hlt : k < xs.length
      · obtain ⟨b, off, rfl, hb, hc⟩ := hr (by simp; omega)
        obtain ⟨b', off', rfl, hb', hc'⟩ := hs (by simp; omega)
        have g1 := hc k (by simpa using hlt)
        have g2 := hc' k (by simp; omega)
        rw [ws_get _ _ hlt] at g1
        rw [ws_get _ _ (by omega)] at g2
        have T := Lib.hid ht
        have L := Lib.hid hl
        clear hc hc' hr hs ht hl
        have hkm : k < us.length := by have := L.out; omega
        by_cases he : xs.getD k 0 = us.getD k 0
        · have T2 := Lib.hid (take_step T.out hlt hkm he)
          generalize xs.getD k 0 = x at g1 he
          generalize us.getD k 0 = y at g2 he
          subst he
          go_wp2
          go_quiet (fail)
          go_wp2
          go_roundw
          case rel => exact ⟨k + 1, by omega, by go_num, T2.out, _, rfl⟩
          case measure => simp [intOf]; omega
        · have hne : xs ≠ us := fun h => he (by rw [h])
          have he' : (((xs.getD k 0 : Nat) : Int) != ((us.getD k 0 : Nat) : Int)) = true := by rw [bne_iff_ne]; omega
          generalize hgx : xs.getD k 0 = x at g1 he he'
          generalize hgy : us.getD k 0 = y at g2 he he'
          clear hgx hgy
          go_wp2
          go_quiet (fail)
          go_wp2
          go_ret
          exact ⟨ret_bool (by simp [hne]), _, World.drewN_drewN _ _ _⟩
      · have e1 : xs = us := by
          rw [List.take_of_length_le (by omega), List.take_of_length_le (by omega)] at ht
          exact ht
        have T := Lib.hid e1
        clear ht e1 hl hr hs
        go_wp2
        go_ret
        exact ⟨ret_bool (by simp [T.out]), _, rfl⟩
  · go_enter Try.func31, Try.ntmps31
    go_wp2
    go_ret
    exact ⟨ret_bool (by rw [eq_comm, decide_eq_false_iff_not]; intro h; rw [h] at hl; exact hl rfl), 0, rfl⟩
set_option maxHeartbeats 400000 in
theorem equal_any (A D : Option Addr) (c d : Nat) (xs us : List Nat) (w : World) (hn : xs.length ≤ maxLen) (_hm : us.length ≤ maxLen) (hr : Rd w w.heap.size A (ws xs)) (hs : Rd w w.heap.size D (ws us)) :
    Calls Try.prog 103 #[.slice A xs.length c, .slice D us.length d] w fun e w' => e = .returned (.bool (decide (xs = us))) ∧ ∃ n, w' = w.drewN n := by
  unfold maxLen at hn
  by_cases hl : us.length = xs.length
  · go_enter Try.func103, Try.ntmps103
    go_wp2
    go_loopw [13] (fun i wr => ∃ k : Nat, k ≤ xs.length ∧ i = .int .i64 k ∧ xs.take k = us.take k ∧ ∃ n, wr = w.drewN n) (fun i _ => xs.length - (intOf i).toNat)
    case atStart => exact ⟨0, Nat.zero_le _, rfl, rfl, 0, rfl⟩
    case round =>
      obtain ⟨k, hk, rfl, ht, m, rfl⟩ := hrel
      by_cases hlt : k < xs.length
      · obtain ⟨b, off, rfl, hb, hc⟩ := hr (by simp; omega)
        obtain ⟨b', off', rfl, hb', hc'⟩ := hs (by simp; omega)
        have g1 := hc k (by simpa using hlt)
        have g2 := hc' k (by simp; omega)
        rw [ws_get _ _ hlt] at g1
        rw [ws_get _ _ (by omega)] at g2
        have T := Lib.hid ht
        have L := Lib.hid hl
        clear hc hc' hr hs ht hl
        have hkm : k < us.length := by have := L.out; omega
        by_cases he : xs.getD k 0 = us.getD k 0
        · have T2 := Lib.hid (take_step T.out hlt hkm he)
          generalize xs.getD k 0 = x at g1 he
          generalize us.getD k 0 = y at g2 he
          subst he
          go_wp2
          go_quiet (fail)
          go_wp2
          go_roundw
          case rel => exact ⟨k + 1, by omega, by go_num, T2.out, _, rfl⟩
          case measure => simp [intOf]; omega
        · have hne : xs ≠ us := fun h => he (by rw [h])
          have he' : (((xs.getD k 0 : Nat) : Int) != ((us.getD k 0 : Nat) : Int)) = true := by rw [bne_iff_ne]; omega
          generalize hgx : xs.getD k 0 = x at g1 he he'
          generalize hgy : us.getD k 0 = y at g2 he he'
          clear hgx hgy
          go_wp2
          go_quiet (fail)
          go_wp2
          go_ret
          exact ⟨ret_bool (by simp [hne]), _, World.drewN_drewN _ _ _⟩
      · have e1 : xs = us := by
          rw [List.take_of_length_le (by omega), List.take_of_length_le (by omega)] at ht
          exact ht
        have T := Lib.hid e1
        clear ht e1 hl hr hs
        go_wp2
        go_ret
        exact ⟨ret_bool (by simp [T.out]), _, rfl⟩
  · go_enter Try.func103, Try.ntmps103
    go_wp2
    go_ret
    exact ⟨ret_bool (by rw [eq_comm, decide_eq_false_iff_not]; intro h; rw [h] at hl; exact hl rfl), 0, rfl⟩
end Go.Proofs.Ytmefbkfapeijgaa
