/- The disk controller: completing a command, the reference. -/
import Derived.Test.YtmefbkfapeijgaaDskI
import Derived.Deep.DeepCutAuto
namespace Go.Proofs.Ytmefbkfapeijgaa
open Go.RowKit

theorem row_at_keep {w w' : World} {B g n c : Nat} {e : TypeId} {s : Nat} {cs : List Value} (h : w.ownsRow B e s (.slice (some ⟨g, 0, none⟩) n c) n cs) (hk : w'.heap[g]? = w.heap[g]?) : w'.ownsRow B e s (.slice (some ⟨g, 0, none⟩) n c) n cs := by
  obtain ⟨h1, h2⟩ := h
  refine ⟨h1, ?_⟩
  rcases h2 with ⟨h0, _⟩ | ⟨g', cap, cur, hv, hg, hh, r⟩
  · cases h0
  · have hv' := hv
    injection hv with hv1
    injection hv1 with hv1
    injection hv1 with hv1
    subst hv1
    exact .inr ⟨g, cap, cur, hv', hg, by rw [hk]; exact hh, r⟩
theorem at_set {w w' : World} {g : Nat} (h : w'.heap[g]? = w.heap[g]?) {p : Addr} (hne : g ≠ p.block) (v : Value) : (w'.setCell p v).heap[g]? = w.heap[g]? := (Below.heap_setCell _ _ _ _ hne).trans h
theorem Bk.grown {w w' : World} {b g : Nat} {cs : Array Value} {t : TypeId} (h : Bk w b cs t) (hg : w.grownBy w' (some g)) (hne : b ≠ g) : Bk w' b cs t := (hg.block b h.lt (by intro e; injection e with e; exact hne e)).trans h

theorem bkg_then (b : Nat) {w w' : World} {P : Prop} {g : Nat} {cs : Array Value} {t : TypeId} (hg : w.grownBy w' (some g)) (h : Bk w b cs t) (hne : b ≠ g) (K : Bk w' b cs t → P) : P := K (h.grown hg hne)
def FinOut (d : Dsk) (ok : Bool) (g n c B : Nat) (by_ : List UInt8) (w : World) (e : Ending) (w' : World) : Prop :=
  e = .returned (.tuple #[d.V, .bool ok]) ∧ ∃ us, w'.ownsRow B 24 1 (.slice (some ⟨g, 0, none⟩) n c) n (ws us) ∧ Wd us ∧ bytesOf us = by_ ∧ Below B w w'

set_option maxRecDepth 100000 in
set_option maxHeartbeats 4000000 in
theorem rfinish_any (d : Dsk) (g c B0 : Nat) (xs : List Nat) (ek : Int) (en : Nat) (ed : List UInt8) (w : World) (ho : d.Ok) (hn : xs.length ≤ 1048576) (hle : ed.length ≤ 1048576) (hw : Wd xs) (hB : B0 ≤ g) (hg : g < w.heap.size)
    (hr : w.ownsRow B0 24 1 (.slice (some ⟨g, 0, none⟩) xs.length c) xs.length (ws xs)) :
    Calls Try.prog 115 #[d.V, .slice (some ⟨g, 0, none⟩) xs.length c, .agg #[.int .i64 ek, .int .u32 en, .string (str ed)]] w (FinOut (cDsk d xs.length ek en ed) (cOk d xs.length ek en ed) g xs.length c B0 (cBy d xs ek en ed) w) := by
  have hm : xs.length ≤ maxLen := by unfold maxLen; omega
  obtain ⟨_, _, _, _, hof⟩ := ho
  have HR := Lib.hid hr
  have HW := Lib.hid hw
  obtain ⟨B, bl, fr, st, cm, ob, of, od⟩ := d
  simp only [] at hof
  clear hr hw
  rw [V_mk]
  by_cases hrd : st = 1 ∧ ek = 4 ∧ en = 1 ∧ cm = 1 ∧ ed.length = 128 ∧ of < pg xs.length
  · obtain ⟨rfl, rfl, h1, rfl, h2, hx⟩ := hrd
    have ge : ((en : Int) == 1) = true := by simp; omega
    have gt : decide (1 < (en : Int)) = false := by simp; omega
    have gl : ((ed.length : Int) != 128) = false := by simp; omega
    have gx : decide (of < pg xs.length) = true := by simpa using hx
    have HP := Lib.hid (show pgin xs.length (of : Int) = true by simp [pgin]; omega)
    have HO : cOk ⟨B, bl, fr, 1, 1, ob, of, od⟩ xs.length 4 en ed = true := by simp [cOk, cRd, h1, h2, hx]
    have HD : cDsk ⟨B, bl, fr, 1, 1, ob, of, od⟩ xs.length 4 en ed = ⟨B, bl, fr, 2, 0, 0, 0, []⟩ := by unfold cDsk; rw [HO]; simp [h1]
    have HB : cBy ⟨B, bl, fr, 1, 1, ob, of, od⟩ xs 4 en ed = spB xs of ed := by unfold cBy; rw [HO]; simp [cRd, h1]
    have HS := Lib.hid (show spB xs of ed = sp (bytesOf xs) (128 * of) (ed.take 128) by unfold spB; rw [if_pos (by simp [spin, HP.out, h2]), List.take_of_length_le (by omega)]; simp)
    rw [HD, HO, HB, HS.out]
    clear HO HD HB h1 h2 hx
    go_enter Try.func115, Try.ntmps115
    go_wp2_with (go_at_call 105; refine (r7page_any _ _ _ _ _ hm hof).mono ?_; rintro e w' ⟨rfl, rfl⟩)
    refine (fill_any B0 g c of ed xs _ HP.out (row_keep HR.out (by repeat' first | (with_reducible exact Keeps.refl _ _) | (with_reducible refine Keeps.alloc ?_ _) | (with_reducible refine Keeps.setCell ?_ ?_ _) | (with_reducible refine Keeps.drew ?_) | (with_reducible refine Keeps.drewN ?_ _) | (first | (with_reducible exact Nat.le_refl _) | (with_reducible assumption) | omega | (simp; omega) | (simp; done)))) HW.out hle).mono ?_; rintro e w1 ⟨rfl, us, ho1, hwu, hby, hg1⟩; have hb1 : Below B0 w w1 := Below.grown (by (repeat' first | (with_reducible exact Below.refl _ _) | (with_reducible assumption) | (with_reducible refine Below.alloc ?_ ?_ _) | (with_reducible refine Below.drew ?_) | (with_reducible refine below_drewN' ?_ _) | (with_reducible refine Below.setCell ?_ ?_ _) | (first | (with_reducible exact Nat.le_refl _) | (with_reducible assumption) | omega | (simp; omega) | (simp; done)))) hg1 (by (first | (with_reducible exact Nat.le_refl _) | (with_reducible assumption) | omega | (simp; omega) | (simp; done))) (by intro k e; injection e with e; omega); replace ho1 := Lib.hid ho1; replace hwu := Lib.hid hwu; replace hby := Lib.hid hby; apply bkg_then (w.heap.size) hg1; (focus (repeat' first | (with_reducible assumption) | ((with_reducible apply Bk.new); (focus (simp; done))) | (with_reducible apply Bk.alloc) | (with_reducible apply Bk.set) | (with_reducible apply Bk.other) | (with_reducible apply Bk.drew) | (first | (with_reducible exact Nat.le_refl _) | (with_reducible assumption) | omega | (simp; omega) | (simp; done)) | (simp; omega))); (focus omega); intro hk0; have hc0 := hk0.arr; have hf0 := hk0.frz; have hl0 := hk0.lt; apply bkg_then (w.heap.size + 1) hg1; (focus (repeat' first | (with_reducible assumption) | ((with_reducible apply Bk.new); (focus (simp; done))) | (with_reducible apply Bk.alloc) | (with_reducible apply Bk.set) | (with_reducible apply Bk.other) | (with_reducible apply Bk.drew) | (first | (with_reducible exact Nat.le_refl _) | (with_reducible assumption) | omega | (simp; omega) | (simp; done)) | (simp; omega))); (focus omega); intro hk1; have hc1 := hk1.arr; have hf1 := hk1.frz; have hl1 := hk1.lt; apply bkg_then (w.heap.size + 1 + 1) hg1; (focus (repeat' first | (with_reducible assumption) | ((with_reducible apply Bk.new); (focus (simp; done))) | (with_reducible apply Bk.alloc) | (with_reducible apply Bk.set) | (with_reducible apply Bk.other) | (with_reducible apply Bk.drew) | (first | (with_reducible exact Nat.le_refl _) | (with_reducible assumption) | omega | (simp; omega) | (simp; done)) | (simp; omega))); (focus omega); intro hk2; have hc2 := hk2.arr; have hf2 := hk2.frz; have hl2 := hk2.lt; replace hg1 := Lib.hid hg1
    go_upto_region 12 with (fail)
    repeat go_step
    refine bodyPost_ret (by simp [results, Try.results115, go_sem, hc2]; try with_reducible rfl) rfl ?_
    exact ⟨rfl, us, row_at_keep ho1.out (by repeat' first | (with_reducible rfl) | (with_reducible refine at_set ?_ ?_ _) | (simp; omega)), hwu.out, hby.out, by (repeat' first | (with_reducible exact Below.refl _ _) | (with_reducible assumption) | (with_reducible refine Below.alloc ?_ ?_ _) | (with_reducible refine Below.drew ?_) | (with_reducible refine below_drewN' ?_ _) | (with_reducible refine Below.setCell ?_ ?_ _) | (first | (with_reducible exact Nat.le_refl _) | (with_reducible assumption) | omega | (simp; omega) | (simp; done)))⟩
  · have HB : cBy ⟨B, bl, fr, st, cm, ob, of, od⟩ xs ek en ed = bytesOf xs := by
      unfold cBy; rw [if_neg]; simp only [cOk, cRd, Bool.and_eq_true, decide_eq_true_eq]; grind
    rw [HB]
    have HX := Lib.hid hrd
    clear hrd HB
    go_enter Try.func115, Try.ntmps115
    go_wp2_with (go_at_call 105; refine (r7page_any _ _ _ _ _ hm hof).mono ?_; rintro e w' ⟨rfl, rfl⟩)
    all_goals first
      | (exfalso; refine HX.out ⟨?_, ?_, ?_, ?_, ?_, ?_⟩ <;> first | assumption | rfl | omega)
      | (((try simp only [Exit.inBlock, Exit.then]); first | (refine bodyPost_ret (results_tmp rfl _ _ _) rfl ?_) | go_ret2 | go_ret3 | (refine bodyPost_ret (by simp [results, Try.results115, go_sem]; try with_reducible rfl) rfl ?_)); exact ⟨by grind [cDsk, cOk, cRd, V_mk], xs, row_keep HR.out (by repeat' first | (with_reducible exact Keeps.refl _ _) | (with_reducible refine Keeps.alloc ?_ _) | (with_reducible refine Keeps.setCell ?_ ?_ _) | (with_reducible refine Keeps.drew ?_) | (with_reducible refine Keeps.drewN ?_ _) | (first | (with_reducible exact Nat.le_refl _) | (with_reducible assumption) | omega | (simp; omega) | (simp; done))), HW.out, rfl, by (repeat' first | (with_reducible exact Below.refl _ _) | (with_reducible assumption) | (with_reducible refine Below.alloc ?_ ?_ _) | (with_reducible refine Below.drew ?_) | (with_reducible refine below_drewN' ?_ _) | (with_reducible refine Below.setCell ?_ ?_ _) | (first | (with_reducible exact Nat.le_refl _) | (with_reducible assumption) | omega | (simp; omega) | (simp; done)))⟩)
      | (((try simp only [Exit.inBlock, Exit.then]); first | (refine bodyPost_ret (results_tmp rfl _ _ _) rfl ?_) | go_ret2 | go_ret3 | (refine bodyPost_ret (by simp [results, Try.results115, go_sem]; try with_reducible rfl) rfl ?_)); refine ⟨?_, xs, row_keep HR.out (by repeat' first | (with_reducible exact Keeps.refl _ _) | (with_reducible refine Keeps.alloc ?_ _) | (with_reducible refine Keeps.setCell ?_ ?_ _) | (with_reducible refine Keeps.drew ?_) | (with_reducible refine Keeps.drewN ?_ _) | (first | (with_reducible exact Nat.le_refl _) | (with_reducible assumption) | omega | (simp; omega) | (simp; done))), HW.out, rfl, by (repeat' first | (with_reducible exact Below.refl _ _) | (with_reducible assumption) | (with_reducible refine Below.alloc ?_ ?_ _) | (with_reducible refine Below.drew ?_) | (with_reducible refine below_drewN' ?_ _) | (with_reducible refine Below.setCell ?_ ?_ _) | (first | (with_reducible exact Nat.le_refl _) | (with_reducible assumption) | omega | (simp; omega) | (simp; done)))⟩; have he : ed = [] := List.eq_nil_of_length_eq_zero (by grind); subst he; simp_all [cast1, cDsk, cOk, cRd, V_mk, str]; done)
      | (((try simp only [Exit.inBlock, Exit.then]); first | (refine bodyPost_ret (results_tmp rfl _ _ _) rfl ?_) | go_ret2 | go_ret3 | (refine bodyPost_ret (by simp [results, Try.results115, go_sem]; try with_reducible rfl) rfl ?_)); refine ⟨?_, xs, row_keep HR.out (by repeat' first | (with_reducible exact Keeps.refl _ _) | (with_reducible refine Keeps.alloc ?_ _) | (with_reducible refine Keeps.setCell ?_ ?_ _) | (with_reducible refine Keeps.drew ?_) | (with_reducible refine Keeps.drewN ?_ _) | (first | (with_reducible exact Nat.le_refl _) | (with_reducible assumption) | omega | (simp; omega) | (simp; done))), HW.out, rfl, by (repeat' first | (with_reducible exact Below.refl _ _) | (with_reducible assumption) | (with_reducible refine Below.alloc ?_ ?_ _) | (with_reducible refine Below.drew ?_) | (with_reducible refine below_drewN' ?_ _) | (with_reducible refine Below.setCell ?_ ?_ _) | (first | (with_reducible exact Nat.le_refl _) | (with_reducible assumption) | omega | (simp; omega) | (simp; done)))⟩; have he : ed = [] := List.eq_nil_of_length_eq_zero (by grind); subst he; obtain rfl : en = 0 := (by omega); simp_all [cDsk, cOk, cRd, V_mk, str])
      | skip
end Go.Proofs.Ytmefbkfapeijgaa
