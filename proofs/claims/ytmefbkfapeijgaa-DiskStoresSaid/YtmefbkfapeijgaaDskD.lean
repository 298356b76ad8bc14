/- The disk controller: writing a port, the program's function. -/
import Derived.Test.YtmefbkfapeijgaaDskC
namespace Go.Proofs.Ytmefbkfapeijgaa
open Go.RowKit

set_option maxRecDepth 100000 in
set_option maxHeartbeats 2000000 in
theorem dout_any (d : Dsk) (A : Option Addr) (c : Nat) (xs : List Nat) (port : Int) (v a : Nat) (w : World) (ho : d.Ok) (hn : xs.length ≤ 1048576) (hc : xs.length ≤ c) (hr : Rd w w.heap.size A (ws xs)) (hw : Wd xs) (hv : v < 4294967296) :
    Calls Try.prog 50 #[d.V, .slice A xs.length c, .int .i64 port, .int .u32 v, .int .u64 a] w (OutsPost (dOut d xs port v a) w) := by
  have HR := Lib.hid hr
  by_cases hi : port = 6 ∧ (v = 1 ∨ v = 2)
  · obtain ⟨rfl, hv⟩ := hi
    have HI := fun W (hW : Below w.heap.size w W) => dissue_any d A c xs v a W ho hn hc (HR.out.upto hW) hw (by omega)
    have HD : dOut d xs 6 v a = dIss d xs v a := by simp [dOut, hv]
    rw [HD]
    generalize dIss d xs v a = r at HI
    have HI := Lib.hid HI
    obtain ⟨⟨B', bl', fr', st', cm', ob', of', od'⟩, l⟩ := r
    obtain ⟨B, bl, fr, st, cm, ob, of, od⟩ := d
    clear hr hw ho HD
    rw [V_mk]
    rcases hv with rfl | rfl
    all_goals
      go_enter Try.func50, Try.ntmps50
      go_wp2_with (go_at_call 104; refine (HI.out _ (by (repeat' first | (with_reducible exact Below.refl _ _) | (with_reducible assumption) | (with_reducible refine Below.alloc ?_ ?_ _) | (with_reducible refine Below.drew ?_) | (with_reducible refine below_drewN' ?_ _) | (with_reducible refine Below.setCell ?_ ?_ _) | (first | (with_reducible exact Nat.le_refl _) | (with_reducible assumption) | omega | (simp; omega) | (simp; done))))).mono ?_; simp only [OutsPost, V_mk]; rintro e w1 ⟨A1, c1, rfl, hc1, hr1, hb1⟩; have HR1 := Lib.hid hr1; clear hr1; have hz1 := hb1.size; apply bk_then (w.heap.size) hb1; (focus (repeat' first | (with_reducible assumption) | ((with_reducible apply Bk.new); (focus (simp; done))) | (with_reducible apply Bk.alloc) | (with_reducible apply Bk.set) | (with_reducible apply Bk.other) | (with_reducible apply Bk.drew) | (first | (with_reducible exact Nat.le_refl _) | (with_reducible assumption) | omega | (simp; omega) | (simp; done)) | (simp; omega))); intro hk1_0; have hc1_0 := hk1_0.arr; have hf1_0 := hk1_0.frz; have hl1_0 := hk1_0.lt; apply bk_then (w.heap.size + 1) hb1; (focus (repeat' first | (with_reducible assumption) | ((with_reducible apply Bk.new); (focus (simp; done))) | (with_reducible apply Bk.alloc) | (with_reducible apply Bk.set) | (with_reducible apply Bk.other) | (with_reducible apply Bk.drew) | (first | (with_reducible exact Nat.le_refl _) | (with_reducible assumption) | omega | (simp; omega) | (simp; done)) | (simp; omega))); intro hk1_1; have hc1_1 := hk1_1.arr; have hf1_1 := hk1_1.frz; have hl1_1 := hk1_1.lt; (try simp at hz1); replace hb1 : Below w.heap.size w w1 := Below.then (by (repeat' first | (with_reducible exact Below.refl _ _) | (with_reducible assumption) | (with_reducible refine Below.alloc ?_ ?_ _) | (with_reducible refine Below.drew ?_) | (with_reducible refine below_drewN' ?_ _) | (with_reducible refine Below.setCell ?_ ?_ _) | (first | (with_reducible exact Nat.le_refl _) | (with_reducible assumption) | omega | (simp; omega) | (simp; done)))) hb1)
      refine bodyPost_ret (v := .tuple #[.agg #[.int .u32 B', .int .u32 bl', .int .u32 fr', .int .i64 st', .int .i64 cm', .int .u32 ob', .int .u32 of', .string (str od')], .slice A1 l.length c1]) (by simp [results, Try.results50, go_sem, hc1_1]) rfl ?_
      exact ⟨_, _, rfl, hc1, (HR1.out.keep (by repeat' first | (with_reducible exact Keeps.refl _ _) | (with_reducible refine Keeps.alloc ?_ _) | (with_reducible refine Keeps.setCell ?_ ?_ _) | (with_reducible refine Keeps.drew ?_) | (with_reducible refine Keeps.drewN ?_ _) | (first | (with_reducible exact Nat.le_refl _) | (with_reducible assumption) | omega | (simp; omega) | (simp; done)))).mono (by simp; omega), by (repeat' first | (with_reducible exact Below.refl _ _) | (with_reducible assumption) | (with_reducible refine Below.alloc ?_ ?_ _) | (with_reducible refine Below.drew ?_) | (with_reducible refine below_drewN' ?_ _) | (with_reducible refine Below.setCell ?_ ?_ _) | (first | (with_reducible exact Nat.le_refl _) | (with_reducible assumption) | omega | (simp; omega) | (simp; done)))⟩
  · have HP := Lib.hid (dpend_any d)
    obtain ⟨B, bl, fr, st, cm, ob, of, od⟩ := d
    simp only [V_mk] at HP ⊢
    clear hr hw ho
    cases hp : dPend ⟨B, bl, fr, st, cm, ob, of, od⟩
    all_goals
      have H6 : port = 6 → ¬ v = 1 ∧ ¬ v = 2 := by intro h; constructor <;> intro h2 <;> exact hi ⟨h, by omega⟩
      clear hi
      go_enter Try.func50, Try.ntmps50
      go_wp2_with (go_at_call 85; refine (HP.out _).mono ?_; rw [hp]; rintro e w1 ⟨rfl, hb1⟩; have hz1 := hb1.size; apply bk_then (w.heap.size) hb1; (focus (repeat' first | (with_reducible assumption) | ((with_reducible apply Bk.new); (focus (simp; done))) | (with_reducible apply Bk.alloc) | (with_reducible apply Bk.set) | (with_reducible apply Bk.other) | (with_reducible apply Bk.drew) | (first | (with_reducible exact Nat.le_refl _) | (with_reducible assumption) | omega | (simp; omega) | (simp; done)) | (simp; omega))); intro hk1_0; have hc1_0 := hk1_0.arr; have hf1_0 := hk1_0.frz; have hl1_0 := hk1_0.lt; apply bk_then (w.heap.size + 1) hb1; (focus (repeat' first | (with_reducible assumption) | ((with_reducible apply Bk.new); (focus (simp; done))) | (with_reducible apply Bk.alloc) | (with_reducible apply Bk.set) | (with_reducible apply Bk.other) | (with_reducible apply Bk.drew) | (first | (with_reducible exact Nat.le_refl _) | (with_reducible assumption) | omega | (simp; omega) | (simp; done)) | (simp; omega))); intro hk1_1; have hc1_1 := hk1_1.arr; have hf1_1 := hk1_1.frz; have hl1_1 := hk1_1.lt; (try simp at hz1); replace hb1 : Below w.heap.size w w1 := Below.then (by (repeat' first | (with_reducible exact Below.refl _ _) | (with_reducible assumption) | (with_reducible refine Below.alloc ?_ ?_ _) | (with_reducible refine Below.drew ?_) | (with_reducible refine below_drewN' ?_ _) | (with_reducible refine Below.setCell ?_ ?_ _) | (first | (with_reducible exact Nat.le_refl _) | (with_reducible assumption) | omega | (simp; omega) | (simp; done)))) hb1)
      all_goals first
        | (((try simp only [Exit.inBlock, Exit.then]); first | (refine bodyPost_ret (results_tmp rfl _ _ _) rfl ?_) | go_ret2 | go_ret3 | (refine bodyPost_ret (by simp [results, Try.results50, go_sem]; try with_reducible rfl) rfl ?_)); exact ⟨none, 0, by simp_all [dOut, dPend, V_mk], by simp_all [dOut, dPend], fun h => by simp_all [dOut, dPend, os], by (repeat' first | (with_reducible exact Below.refl _ _) | (with_reducible assumption) | (with_reducible refine Below.alloc ?_ ?_ _) | (with_reducible refine Below.drew ?_) | (with_reducible refine below_drewN' ?_ _) | (with_reducible refine Below.setCell ?_ ?_ _) | (first | (with_reducible exact Nat.le_refl _) | (with_reducible assumption) | omega | (simp; omega) | (simp; done)))⟩)
        | (refine bodyPost_ret (by simp [results, Try.results50, go_sem, hc1_1]; try with_reducible rfl) rfl ?_; clear hc1_0 hc1_1 hf1_0 hf1_1; exact ⟨none, 0, by simp_all [dOut, dPend, V_mk], by simp_all [dOut, dPend], fun h => by simp_all [dOut, dPend, os], by (repeat' first | (with_reducible exact Below.refl _ _) | (with_reducible assumption) | (with_reducible refine Below.alloc ?_ ?_ _) | (with_reducible refine Below.drew ?_) | (with_reducible refine below_drewN' ?_ _) | (with_reducible refine Below.setCell ?_ ?_ _) | (first | (with_reducible exact Nat.le_refl _) | (with_reducible assumption) | omega | (simp; omega) | (simp; done)))⟩)
        | skip
end Go.Proofs.Ytmefbkfapeijgaa
