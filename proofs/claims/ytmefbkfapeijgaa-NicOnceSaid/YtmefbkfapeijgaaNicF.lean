/- The fixed card of the laws. -/
import Derived.Test.YtmefbkfapeijgaaNicD
import Derived.Test.YtmefbkfapeijgaaNicC
import Derived.Deep.RegionHeld3
namespace Go.Proofs.Ytmefbkfapeijgaa
open Go.RowKit

theorem new2_any (w : World) : Calls Try.prog 35 #[.int .i64 2] w fun e w' => ∃ A c, e = .returned (.slice A 64 c) ∧ 64 ≤ c ∧ w'.ownsRow w.heap.size 24 1 (.slice A 64 c) 64 (ws (List.replicate 64 0)) ∧ Below w.heap.size w w' :=
  (rnew_any 2 w).mono fun e w' ⟨A, c, he, ho, hb⟩ => ⟨A, c, he, by obtain ⟨_, _, hv, h1, _⟩ := row_shape ho; injection hv with _ _ hv; rw [hv]; exact h1, ho, hb⟩
theorem no_any (A : Option Addr) (c : Nat) (w : World) (hc : 64 ≤ c) (hr : Rd w w.heap.size A (ws (List.replicate 64 0))) :
    Calls Try.prog 60 #[.agg #[.int .u32 1, .int .u32 0, .bool false, .int .u32 0, .bool false, .int .u32 0], .slice A 64 c, .int .i64 9, .int .u32 2, .int .u64 0] w fun e w' =>
      ∃ A' c', e = .returned (.tuple #[.agg #[.int .u32 1, .int .u32 0, .bool true, .int .u32 1, .bool false, .int .u32 0], .slice A' 0 c']) ∧ Below w.heap.size w w' :=
  (nout_any ⟨1, 0, false, 0, false, 0⟩ A c (List.replicate 64 0) 9 2 0 w (by simp [Nic.Ok]) (by simp) (by simpa using hc) hr (Wd.rep _) (by omega)).mono fun e w' ⟨A', c', he, _, _, hb⟩ => ⟨A', c', he, hb⟩
theorem Nw.get {B : Nat} {w : World} {b off : Nat} {cs : List Value} (h : Nw B w (some ⟨b, off, none⟩) cs) (j : Nat) (hj : j < cs.length) : w.cell? ⟨b, off + j, none⟩ = cs[j]? := by
  obtain ⟨_, _, e, _, _, hc⟩ := h (by omega)
  injection e with e; injection e with e1 e2 _
  subst e1 e2
  exact hc j hj
def abc : List UInt8 := [97, 98, 99]
theorem abc_view : bytesOf ((List.replicate 64 0).set 32 0x636261) = rBy ⟨1, 0, true, 1, false, 0⟩ (List.replicate 64 0) abc := by kernel_rfl
theorem nr_any (A : Option Addr) (c : Nat) (w : World) (hc : 64 ≤ c) (hr : Rd w w.heap.size A (ws (List.replicate 64 0))) :
    Calls Try.prog 65 #[.agg #[.int .u32 1, .int .u32 0, .bool true, .int .u32 1, .bool false, .int .u32 0], .slice A 64 c, .string { data := #[97, 98, 99] }] w fun e w' =>
      ∃ b off c', e = .returned (.tuple #[.agg #[.int .u32 1, .int .u32 0, .bool false, .int .u32 0, .bool true, .int .u32 3], .slice (some ⟨b, off, none⟩) 64 c', .bool true]) ∧ w.heap.size ≤ b ∧ b < w'.heap.size ∧
        Nw w.heap.size w' (some ⟨b, off, none⟩) (ws ((List.replicate 64 0).set 32 0x636261)) ∧ Below w.heap.size w w' :=
  (nreceive_any ⟨1, 0, true, 1, false, 0⟩ A c (List.replicate 64 0) abc w (by simp [Nic.Ok]) (by simp) (by simpa using hc) (by decide) hr (Wd.rep _)).mono fun e w' ⟨A', c', us, he, hwu, hlu, hby, hn, _, hb⟩ => by
    obtain rfl : us = (List.replicate 64 0).set 32 0x636261 := bytesOf_inj hwu ((Wd.rep _).set _ _ (by omega)) (hby.trans abc_view.symm)
    obtain ⟨b, off, rfl, h1, h2, _⟩ := hn (by decide)
    exact ⟨b, off, c', he, h1, h2, hn, hb⟩
theorem nin8 (w : World) : Calls Try.prog 62 #[.agg #[.int .u32 1, .int .u32 0, .bool false, .int .u32 0, .bool true, .int .u32 3], .int .i64 8] w fun e w' => e = .returned (.int .u32 3) ∧ Below w.heap.size w w' := nin_any ⟨1, 0, false, 0, true, 3⟩ 8 w
theorem nin9 (w : World) : Calls Try.prog 62 #[.agg #[.int .u32 1, .int .u32 0, .bool false, .int .u32 0, .bool true, .int .u32 3], .int .i64 9] w fun e w' => e = .returned (.int .u32 2) ∧ Below w.heap.size w w' := nin_any ⟨1, 0, false, 0, true, 3⟩ 9 w
theorem npend1 (w : World) : Calls Try.prog 66 #[.agg #[.int .u32 1, .int .u32 0, .bool false, .int .u32 0, .bool true, .int .u32 3]] w fun e w' => e = .returned (.bool true) ∧ Below w.heap.size w w' := npend_any ⟨1, 0, false, 0, true, 3⟩ w
set_option maxRecDepth 100000 in
set_option maxHeartbeats 2000000 in
theorem awake10 (w : World) : Calls Try.prog 64 #[] w fun e w' => e = .returned (.bool true) ∧ Below w.heap.size w w' := by
  go_enter Try.func64, Try.ntmps64
  go_wp2_with fail
  refine (new2_any _).mono ?_; rintro e w1 ⟨A1, c1, rfl, hc1, ho1, hb1⟩
  have HO1 := Lib.hid (row_rd ho1); clear ho1
  go_wp2_with fail
  refine (no_any _ _ _ hc1 HO1.out).mono ?_; rintro e w2 ⟨A2, c2, rfl, hb2⟩
  have hb12 := hb1.then hb2
  have hz12 := hb2.size
  have hz0 := hb12.size
  go_wp2_with fail
  go_region_with (first
    | (go_at_call 35; refine (new2_any _).mono ?_; rintro e w3 ⟨A3, c3, rfl, hc3, ho3, hb3⟩; have HO3 := Lib.hid (row_rd ho3); clear ho3; have hz3 := hb3.size; apply bk_then (w2.heap.size) hb3; (focus (repeat' first | (with_reducible assumption) | ((with_reducible apply Bk.new); (focus (simp; done))) | (with_reducible apply Bk.alloc) | (with_reducible apply Bk.set) | (with_reducible apply Bk.other) | (with_reducible apply Bk.drew) | (first | (with_reducible exact Nat.le_refl _) | (with_reducible assumption) | omega | (simp; omega) | (simp; done)) | (simp; omega))); intro hk3_0; have hc3_0 := hk3_0.arr; have hf3_0 := hk3_0.frz; have hl3_0 := hk3_0.lt; (try simp at hz3); replace hb3 : Below w.heap.size w w3 := Below.then (by (repeat' first | (with_reducible exact Below.refl _ _) | (with_reducible assumption) | (with_reducible refine Below.alloc ?_ ?_ _) | (with_reducible refine Below.drew ?_) | (with_reducible refine below_drewN' ?_ _) | (with_reducible refine Below.setCell ?_ ?_ _) | (first | (with_reducible exact Nat.le_refl _) | (with_reducible assumption) | omega | (simp; omega) | (simp; done)))) hb3)
    | (go_at_call 65; refine (nr_any _ _ _ (by assumption) HO3.out).mono ?_; rintro e w4 ⟨b, off, c4, rfl, hbb, hbl, hn4, hb4⟩; have HN := Lib.hid hn4; clear hn4; have hz4 := hb4.size; apply bk_then (w2.heap.size) hb4; (focus (repeat' first | (with_reducible assumption) | ((with_reducible apply Bk.new); (focus (simp; done))) | (with_reducible apply Bk.alloc) | (with_reducible apply Bk.set) | (with_reducible apply Bk.other) | (with_reducible apply Bk.drew) | (first | (with_reducible exact Nat.le_refl _) | (with_reducible assumption) | omega | (simp; omega) | (simp; done)) | (simp; omega))); intro hk4_0; have hc4_0 := hk4_0.arr; have hf4_0 := hk4_0.frz; have hl4_0 := hk4_0.lt; (try simp at hz4); replace hb4 : Below w.heap.size w w4 := Below.then (by (repeat' first | (with_reducible exact Below.refl _ _) | (with_reducible assumption) | (with_reducible refine Below.alloc ?_ ?_ _) | (with_reducible refine Below.drew ?_) | (with_reducible refine below_drewN' ?_ _) | (with_reducible refine Below.setCell ?_ ?_ _) | (first | (with_reducible exact Nat.le_refl _) | (with_reducible assumption) | omega | (simp; omega) | (simp; done)))) hb4))
  all_goals
    have hne : w2.heap.size ≠ b := by omega
    go_wp2_with fail
    refine (nin8 _).mono ?_; rintro e w5 ⟨rfl, hb5⟩; have hz5 := hb5.size; apply bk_then (w2.heap.size) hb5; (focus (repeat' first | (with_reducible assumption) | ((with_reducible apply Bk.new); (focus (simp; done))) | (with_reducible apply Bk.alloc) | (with_reducible apply Bk.set) | (with_reducible apply Bk.other) | (with_reducible apply Bk.drew) | (first | (with_reducible exact Nat.le_refl _) | (with_reducible assumption) | omega | (simp; omega) | (simp; done)) | (simp; omega))); intro hk5_0; (try simp only [List.setIfInBounds_toArray, List.set_cons_zero, List.set_cons_succ] at hk5_0); have hc5_0 := hk5_0.arr; have hf5_0 := hk5_0.frz; have hl5_0 := hk5_0.lt; (try simp at hz5); replace HN := Lib.hid (HN.out.keep (Keeps.below (by repeat' first | (with_reducible exact Keeps.refl _ _) | (with_reducible refine Keeps.alloc ?_ _) | (with_reducible refine Keeps.setCell ?_ ?_ _) | (with_reducible refine Keeps.drew ?_) | (with_reducible refine Keeps.drewN ?_ _) | (first | (with_reducible exact Nat.le_refl _) | (with_reducible assumption) | omega | (simp; omega) | (simp; done))) hb5)); replace hb5 : Below w.heap.size w w5 := Below.then (by (repeat' first | (with_reducible exact Below.refl _ _) | (with_reducible assumption) | (with_reducible refine Below.alloc ?_ ?_ _) | (with_reducible refine Below.drew ?_) | (with_reducible refine below_drewN' ?_ _) | (with_reducible refine Below.setCell ?_ ?_ _) | (first | (with_reducible exact Nat.le_refl _) | (with_reducible assumption) | omega | (simp; omega) | (simp; done)))) hb5
    go_wp2_with fail
    refine (nin9 _).mono ?_; rintro e w6 ⟨rfl, hb6⟩; have hz6 := hb6.size; apply bk_then (w2.heap.size) hb6; (focus (repeat' first | (with_reducible assumption) | ((with_reducible apply Bk.new); (focus (simp; done))) | (with_reducible apply Bk.alloc) | (with_reducible apply Bk.set) | (with_reducible apply Bk.other) | (with_reducible apply Bk.drew) | (first | (with_reducible exact Nat.le_refl _) | (with_reducible assumption) | omega | (simp; omega) | (simp; done)) | (simp; omega))); intro hk6_0; (try simp only [List.setIfInBounds_toArray, List.set_cons_zero, List.set_cons_succ] at hk6_0); have hc6_0 := hk6_0.arr; have hf6_0 := hk6_0.frz; have hl6_0 := hk6_0.lt; (try simp at hz6); replace HN := Lib.hid (HN.out.keep (Keeps.below (by repeat' first | (with_reducible exact Keeps.refl _ _) | (with_reducible refine Keeps.alloc ?_ _) | (with_reducible refine Keeps.setCell ?_ ?_ _) | (with_reducible refine Keeps.drew ?_) | (with_reducible refine Keeps.drewN ?_ _) | (first | (with_reducible exact Nat.le_refl _) | (with_reducible assumption) | omega | (simp; omega) | (simp; done))) hb6)); replace hb6 : Below w.heap.size w w6 := Below.then (by (repeat' first | (with_reducible exact Below.refl _ _) | (with_reducible assumption) | (with_reducible refine Below.alloc ?_ ?_ _) | (with_reducible refine Below.drew ?_) | (with_reducible refine below_drewN' ?_ _) | (with_reducible refine Below.setCell ?_ ?_ _) | (first | (with_reducible exact Nat.le_refl _) | (with_reducible assumption) | omega | (simp; omega) | (simp; done)))) hb6
    go_wp2_with fail
    refine (npend1 _).mono ?_; rintro e w7 ⟨rfl, hb7⟩; have hz7 := hb7.size; apply bk_then (w2.heap.size) hb7; (focus (repeat' first | (with_reducible assumption) | ((with_reducible apply Bk.new); (focus (simp; done))) | (with_reducible apply Bk.alloc) | (with_reducible apply Bk.set) | (with_reducible apply Bk.other) | (with_reducible apply Bk.drew) | (first | (with_reducible exact Nat.le_refl _) | (with_reducible assumption) | omega | (simp; omega) | (simp; done)) | (simp; omega))); intro hk7_0; (try simp only [List.setIfInBounds_toArray, List.set_cons_zero, List.set_cons_succ] at hk7_0); have hc7_0 := hk7_0.arr; have hf7_0 := hk7_0.frz; have hl7_0 := hk7_0.lt; (try simp at hz7); replace HN := Lib.hid (HN.out.keep (Keeps.below (by repeat' first | (with_reducible exact Keeps.refl _ _) | (with_reducible refine Keeps.alloc ?_ _) | (with_reducible refine Keeps.setCell ?_ ?_ _) | (with_reducible refine Keeps.drew ?_) | (with_reducible refine Keeps.drewN ?_ _) | (first | (with_reducible exact Nat.le_refl _) | (with_reducible assumption) | omega | (simp; omega) | (simp; done))) hb7)); replace hb7 : Below w.heap.size w w7 := Below.then (by (repeat' first | (with_reducible exact Below.refl _ _) | (with_reducible assumption) | (with_reducible refine Below.alloc ?_ ?_ _) | (with_reducible refine Below.drew ?_) | (with_reducible refine below_drewN' ?_ _) | (with_reducible refine Below.setCell ?_ ?_ _) | (first | (with_reducible exact Nat.le_refl _) | (with_reducible assumption) | omega | (simp; omega) | (simp; done)))) hb7
    have g0 : w7.cell? ⟨b, off + 32, none⟩ = some (.int .u32 6513249) := HN.out.get 32 (by simp)
    go_wp2_with fail
    go_ret
    exact ⟨rfl, by (repeat' first | (with_reducible exact Below.refl _ _) | (with_reducible assumption) | (with_reducible refine Below.alloc ?_ ?_ _) | (with_reducible refine Below.drew ?_) | (with_reducible refine below_drewN' ?_ _) | (with_reducible refine Below.setCell ?_ ?_ _) | (first | (with_reducible exact Nat.le_refl _) | (with_reducible assumption) | omega | (simp; omega) | (simp; done)))⟩
end Go.Proofs.Ytmefbkfapeijgaa
