/- A store, by the program and by the reference. -/
import Derived.Test.YtmefbkfapeijgaaMemC
namespace Go.Proofs.Ytmefbkfapeijgaa
open Go.RowKit

/-- The word that a store leaves. -/
def stw (xs : List Nat) (addr : Nat) (size : Int) (v : Nat) : Nat := if size = 1 then set8 (xs.getD (addr / 4) 0) (8 * (addr % 4)) v else v
/-- The words behind a store. -/
def stv (xs : List Nat) (addr : Nat) (size : Int) (v : Nat) : List Nat := if win xs.length addr size then xs.set (addr / 4) (stw xs addr size v) else xs
theorem stv_length (xs : List Nat) (addr : Nat) (size : Int) (v : Nat) : (stv xs addr size v).length = xs.length := by unfold stv; split <;> simp
theorem stw_lt (xs : List Nat) (addr : Nat) (size : Int) (v : Nat) (hv : v < 4294967296) : stw xs addr size v < 4294967296 := by
  unfold stw; split
  · exact set8_lt _ _ _ (by omega)
  · exact hv
theorem Wd.stv {xs : List Nat} (h : Wd xs) (addr : Nat) (size : Int) (v : Nat) (hv : v < 4294967296) : Wd (stv xs addr size v) := by
  unfold Proofs.Ytmefbkfapeijgaa.stv; split
  · exact h.set _ _ (stw_lt _ _ _ _ hv)
  · exact h

set_option maxHeartbeats 400000 in
theorem store_any (A : Option Addr) (c addr : Nat) (size : Int) (v : Nat) (xs : List Nat) (w : World) (hn : xs.length ≤ 35184372087808) (ha : addr < 4294967296) (hv : v < 4294967296) (hr : Rd w w.heap.size A (ws xs)) (hw : Wd xs) :
    Calls Try.prog 29 #[.slice A xs.length c, .int .u32 addr, .int .i64 size, .int .u32 v] w fun e w' => ∃ A' c', e = .returned (.tuple #[.slice A' xs.length c', .bool (win xs.length addr size)]) ∧
      w'.ownsRow w.heap.size 24 1 (.slice A' xs.length c') xs.length (ws (stv xs addr size v)) ∧ Below w.heap.size w w' := by
  have hm : xs.length ≤ maxLen := by unfold maxLen; omega
  cases hwin : win xs.length addr size with
  | false =>
    have es : stv xs addr size v = xs := by unfold stv; rw [hwin]; rfl
    have Hs := Lib.hid es
    clear es
    go_enter Try.func29, Try.ntmps29
    go_wp2_with (first | (go_at_call 92; refine (clone_any _ _ _ _ hn hr).mono ?_; rintro e w1 ⟨A', c', rfl, ho, hb⟩) | (go_at_call 89; refine (within_any _ _ _ _ _ _ hm ha).mono ?_; rintro e w' ⟨rfl, rfl⟩))
    go_ret2
    exact ⟨A', c', rfl, by rw [Hs.out]; exact ho, hb⟩
  | true =>
    obtain ⟨hk, hs⟩ := win_lt hwin
    have es : ws (stv xs addr size v) = (ws xs).set (addr / 4) (.int .u32 (stw xs addr size v : Nat)) := by unfold stv; rw [hwin, if_pos rfl, ws_set]
    have hx := hw.at_ (addr / 4)
    have hxc : (ws xs)[addr / 4]? = some (.int .u32 (xs.getD (addr / 4) 0 : Nat)) := ws_get _ _ hk
    have he : stw xs addr size v = if size = 1 then set8 (xs.getD (addr / 4) 0) (8 * (addr % 4)) v else v := rfl
    generalize xs.getD (addr / 4) 0 = x at hx hxc he
    have Es := Lib.hid es
    have Hxc := Lib.hid hxc
    have He := Lib.hid he
    clear es hxc he hw
    rcases hs with rfl | rfl
    all_goals
      go_enter Try.func29, Try.ntmps29
      go_wp2_with (first | (go_at_call 92; refine (clone_any _ _ _ _ hn hr).mono ?_; rintro e w1 ⟨A', c', rfl, ho, hb⟩; obtain ⟨g, rfl, hg1, hg2⟩ := row_get ho (by omega); have hcell := (ho.cellAt (addr / 4) (by omega)).trans Hxc.out; have hfr := ho.frozenAt (addr / 4)) | (go_at_call 89; refine (within_any _ _ _ _ _ _ hm ha).mono ?_; rintro e w' ⟨rfl, rfl⟩) | (go_at_call 93; refine (setfield8 _ _ _ _ hx hv (by omega) (by omega)).mono ?_; rintro e w' ⟨rfl, rfl⟩))
      go_ret2
    · have hst := ho.stored (addr / 4) (.int .u32 (stw xs addr 1 v : Nat))
      rw [← Es.out] at hst
      rw [show stw xs addr 1 v = set8 x ((addr : Int) % 4 * 8).toNat v by rw [He.out, if_pos trivial, show 8 * (addr % 4) = ((addr : Int) % 4 * 8).toNat by omega]] at hst
      exact ⟨_, c', rfl, hst.1, hb.trans (below_of_grown hst.2 hb.size (fun k h => by rw [← Option.some.inj h]; exact hg1))⟩
    · have hst := ho.stored (addr / 4) (.int .u32 (stw xs addr 4 v : Nat))
      rw [← Es.out] at hst
      rw [show stw xs addr 4 v = v by rw [He.out]; rfl] at hst
      exact ⟨_, c', rfl, hst.1, hb.trans (below_of_grown hst.2 hb.size (fun k h => by rw [← Option.some.inj h]; exact hg1))⟩

set_option maxHeartbeats 400000 in
theorem put_any (B g c addr : Nat) (size : Int) (v : Nat) (xs : List Nat) (w : World) (ha : addr < 4294967296) (hv : v < 4294967296) (ho : w.ownsRow B 24 1 (.slice (some ⟨g, 0, none⟩) xs.length c) xs.length (ws xs)) (hw : Wd xs) (hwin : win xs.length addr size = true) :
    Calls Try.prog 95 #[.slice (some ⟨g, 0, none⟩) xs.length c, .int .u32 addr, .int .i64 size, .int .u32 v] w fun e w' => e = .returned (.tuple #[]) ∧
      w'.ownsRow B 24 1 (.slice (some ⟨g, 0, none⟩) xs.length c) xs.length (ws (stv xs addr size v)) ∧ w.grownBy w' (some g) := by
  obtain ⟨hk, hs⟩ := win_lt hwin
  have es : ws (stv xs addr size v) = (ws xs).set (addr / 4) (.int .u32 (stw xs addr size v : Nat)) := by unfold stv; rw [hwin, if_pos rfl, ws_set]
  have hx := hw.at_ (addr / 4)
  have hxc : (ws xs)[addr / 4]? = some (.int .u32 (xs.getD (addr / 4) 0 : Nat)) := ws_get _ _ hk
  have he : stw xs addr size v = if size = 1 then set8 (xs.getD (addr / 4) 0) (8 * (addr % 4)) v else v := rfl
  generalize xs.getD (addr / 4) 0 = x at hx hxc he
  have hcell := (ho.cellAt (addr / 4) (by omega)).trans hxc
  have hfr := ho.frozenAt (addr / 4)
  have hst := ho.stored (addr / 4) (.int .u32 (stw xs addr size v : Nat))
  rw [← es] at hst
  have He := Lib.hid he
  clear es hxc he hw hwin
  rcases hs with rfl | rfl
  · rw [show stw xs addr 1 v = set8 x (8 * (addr % 4)) v by rw [He.out, if_pos rfl], ← set8_int _ _ _ hx hv (by omega)] at hst
    have Hst := Lib.hid hst
    clear hst
    go_enter Try.func95, Try.ntmps95
    go_wp2
    go_end0
    exact ⟨rfl, Hst.out.1, Hst.out.2⟩
  · rw [show stw xs addr 4 v = v by rw [He.out]; rfl] at hst
    have Hst := Lib.hid hst
    clear hst
    go_enter Try.func95, Try.ntmps95
    go_wp2
    first | go_end0 | refine bodyPost_ret (results_none rfl _ _ _) rfl ?_
    exact ⟨rfl, Hst.out.1, Hst.out.2⟩

set_option maxHeartbeats 400000 in
theorem rstore_any (A : Option Addr) (c addr : Nat) (size : Int) (v : Nat) (xs : List Nat) (w : World) (hn : xs.length ≤ 35184372087808) (ha : addr < 4294967296) (hv : v < 4294967296) (hr : Rd w w.heap.size A (ws xs)) (hw : Wd xs) :
    Calls Try.prog 30 #[.slice A xs.length c, .int .u32 addr, .int .i64 size, .int .u32 v] w fun e w' => ∃ A' c', e = .returned (.tuple #[.slice A' xs.length c', .bool (win xs.length addr size)]) ∧
      w'.ownsRow w.heap.size 24 1 (.slice A' xs.length c') xs.length (ws (stv xs addr size v)) ∧ Below w.heap.size w w' := by
  have hm : xs.length ≤ maxLen := by unfold maxLen; omega
  cases hwin : win xs.length addr size with
  | false =>
    have es : stv xs addr size v = xs := by unfold stv; rw [hwin]; rfl
    have Hs := Lib.hid es
    clear es
    go_enter Try.func30, Try.ntmps30
    go_wp2_with (first | (go_at_call 94; refine (copy_any _ _ _ _ hn hr).mono ?_; rintro e w1 ⟨A', c', rfl, ho, hb⟩) | (go_at_call 91; refine (rwithin_any _ _ _ _ _ _ hm ha).mono ?_; rintro e w' ⟨rfl, rfl⟩))
    go_ret2
    exact ⟨A', c', rfl, by rw [Hs.out]; exact ho, hb⟩
  | true =>
    obtain ⟨hk, hs⟩ := win_lt hwin
    have Hw := Lib.hid hwin
    go_enter Try.func30, Try.ntmps30
    go_wp2_with (first | (go_at_call 94; refine (copy_any _ _ _ _ hn hr).mono ?_; rintro e w1 ⟨A', c', rfl, ho, hb⟩; obtain ⟨g, rfl, hg1, hg2⟩ := row_get ho (by omega)) | (go_at_call 91; refine (rwithin_any _ _ _ _ _ _ hm ha).mono ?_; rintro e w' ⟨rfl, rfl⟩) | (go_at_call 95; refine (put_any _ _ _ _ _ _ _ _ ha hv ho hw Hw.out).mono ?_; rintro e w2 ⟨rfl, ho2, hg3⟩))
    go_ret2
    exact ⟨_, c', rfl, ho2, hb.trans (below_of_grown hg3 hb.size (fun k h => by rw [← Option.some.inj h]; exact hg1))⟩
end Go.Proofs.Ytmefbkfapeijgaa
