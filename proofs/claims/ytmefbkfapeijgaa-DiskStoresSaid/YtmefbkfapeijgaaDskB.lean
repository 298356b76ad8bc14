/- The disk controller: validity. -/
import Derived.Test.YtmefbkfapeijgaaDskA
namespace Go.Proofs.Ytmefbkfapeijgaa
open Go.RowKit

def dCmd (d : Dsk) : Bool := decide (d.cm = 1) && decide (d.od = []) || decide (d.cm = 2) && decide (d.od.length = 128)
set_option maxRecDepth 100000 in
set_option maxHeartbeats 400000 in
theorem dcmd_any (d : Dsk) (w : World) :
    Calls Try.prog 116 #[d.V] w fun e w' => e = .returned (.bool (dCmd d)) ∧ Below w.heap.size w w' := by
  obtain ⟨B, bl, fr, st, cm, ob, of, od⟩ := d
  unfold Dsk.V
  go_enter Try.func116, Try.ntmps116
  go_wp2
  all_goals
    ((try simp only [Exit.inBlock, Exit.then]); first | (refine bodyPost_ret (results_tmp rfl _ _ _) rfl ?_) | go_ret2 | go_ret3 | (refine bodyPost_ret (by simp [results, Try.results116, go_sem]; try with_reducible rfl) rfl ?_))
    exact ⟨ret_bool (by grind [dCmd, str_toList, str_size]), by (repeat' first | (with_reducible exact Below.refl _ _) | (with_reducible assumption) | (with_reducible refine Below.alloc ?_ ?_ _) | (with_reducible refine Below.drew ?_) | (with_reducible refine below_drewN' ?_ _) | (with_reducible refine Below.setCell ?_ ?_ _) | (first | (with_reducible exact Nat.le_refl _) | (with_reducible assumption) | omega | (simp; omega) | (simp; done)))⟩
set_option maxRecDepth 100000 in
set_option maxHeartbeats 1000000 in
theorem dmay_any (d : Dsk) (n : Int) (w : World) (ho : d.Ok) :
    Calls Try.prog 87 #[d.V, .int .i64 n] w fun e w' => e = .returned (.bool (dMay d n)) ∧ Below w.heap.size w w' := by
  have HC := Lib.hid (dcmd_any d)
  have ho5 : d.of < 4294967296 := ho.2.2.2.2
  clear ho
  obtain ⟨B, bl, fr, st, cm, ob, of, od⟩ := d
  simp only [] at ho5
  unfold Dsk.V at HC ⊢
  go_enter Try.func87, Try.ntmps87
  go_wp2_with (go_at_call 116; refine (HC.out _).mono ?_; rintro e w1 ⟨rfl, hb1⟩; obtain ⟨hc, hf⟩ := bcell hb1; have hz := hb1.size; replace hb1 : Below w.heap.size w w1 := Below.then (by (repeat' first | (with_reducible exact Below.refl _ _) | (with_reducible assumption) | (with_reducible refine Below.alloc ?_ ?_ _) | (with_reducible refine Below.drew ?_) | (with_reducible refine below_drewN' ?_ _) | (with_reducible refine Below.setCell ?_ ?_ _) | (first | (with_reducible exact Nat.le_refl _) | (with_reducible assumption) | omega | (simp; omega) | (simp; done)))) hb1)
  all_goals
    ((try simp only [Exit.inBlock, Exit.then]); first | (refine bodyPost_ret (results_tmp rfl _ _ _) rfl ?_) | go_ret2 | go_ret3 | (refine bodyPost_ret (by simp [results, Try.results87, go_sem]; try with_reducible rfl) rfl ?_))
    refine ⟨ret_bool (by grind [dMay, dCmd, str_toList, str_size]), ?_⟩
    (repeat' first | (with_reducible exact Below.refl _ _) | (with_reducible assumption) | (with_reducible refine Below.alloc ?_ ?_ _) | (with_reducible refine Below.drew ?_) | (with_reducible refine below_drewN' ?_ _) | (with_reducible refine Below.setCell ?_ ?_ _) | (first | (with_reducible exact Nat.le_refl _) | (with_reducible assumption) | omega | (simp; omega) | (simp; done)))
set_option maxRecDepth 100000 in
set_option maxHeartbeats 1000000 in
theorem rdmay_any (d : Dsk) (n : Int) (w : World) (ho : d.Ok) :
    Calls Try.prog 88 #[d.V, .int .i64 n] w fun e w' => e = .returned (.bool (dMay d n)) ∧ Below w.heap.size w w' := by
  have ho5 : d.of < 4294967296 := ho.2.2.2.2
  clear ho
  obtain ⟨B, bl, fr, st, cm, ob, of, od⟩ := d
  simp only [] at ho5
  unfold Dsk.V
  go_enter Try.func88, Try.ntmps88
  go_wp2
  all_goals
    ((try simp only [Exit.inBlock, Exit.then]); first | (refine bodyPost_ret (results_tmp rfl _ _ _) rfl ?_) | go_ret2 | go_ret3 | (refine bodyPost_ret (by simp [results, Try.results88, go_sem]; try with_reducible rfl) rfl ?_))
    exact ⟨ret_bool (by grind [dMay, str_toList, str_size]), by (repeat' first | (with_reducible exact Below.refl _ _) | (with_reducible assumption) | (with_reducible refine Below.alloc ?_ ?_ _) | (with_reducible refine Below.drew ?_) | (with_reducible refine below_drewN' ?_ _) | (with_reducible refine Below.setCell ?_ ?_ _) | (first | (with_reducible exact Nat.le_refl _) | (with_reducible assumption) | omega | (simp; omega) | (simp; done)))⟩
end Go.Proofs.Ytmefbkfapeijgaa
