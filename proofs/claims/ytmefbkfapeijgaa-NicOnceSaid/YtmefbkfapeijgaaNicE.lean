/- The network card: receiving, the reference; writing a port, the reference. -/
import Derived.Test.YtmefbkfapeijgaaNicD
import Derived.Deep.DeepCutAuto
namespace Go.Proofs.Ytmefbkfapeijgaa
open Go.RowKit

def AccOut (n : Nic) (ok : Bool) (g k c B : Nat) (by_ : List UInt8) (w : World) (e : Ending) (w' : World) : Prop :=
  e = .returned (.tuple #[n.V, .bool ok]) ∧ ∃ us, w'.ownsRow B 24 1 (.slice (some ⟨g, 0, none⟩) k c) k (ws us) ∧ Wd us ∧ bytesOf us = by_ ∧ Below B w w'

set_option maxRecDepth 100000 in
set_option maxHeartbeats 4000000 in
theorem raccept_any (n : Nic) (g c B0 : Nat) (xs : List Nat) (l : List UInt8) (w : World) (ho : n.Ok) (hn : xs.length ≤ 1048576) (hll : l.length ≤ 9223372036854775807) (hw : Wd xs) (hB : B0 ≤ g) (hg : g < w.heap.size)
    (hr : w.ownsRow B0 24 1 (.slice (some ⟨g, 0, none⟩) xs.length c) xs.length (ws xs)) :
    Calls Try.prog 113 #[n.V, .slice (some ⟨g, 0, none⟩) xs.length c, .string (str l)] w (AccOut (rNic n xs.length l.length) (rOk n xs.length l.length) g xs.length c B0 (rBy n xs l) w) := by
  have hm : xs.length ≤ maxLen := by unfold maxLen; omega
  obtain ⟨_, _, hbu, _⟩ := ho
  have HR := Lib.hid hr
  have HW := Lib.hid hw
  obtain ⟨fr, ln, po, bu, re, go⟩ := n
  simp only [] at hbu
  clear hr hw
  rw [N_mk]
  by_cases hc : po = true ∧ 1 ≤ l.length ∧ l.length ≤ 128 ∧ bu < pg xs.length
  · obtain ⟨rfl, h1, h2, h3⟩ := hc
    have HO : rOk ⟨fr, ln, true, bu, re, go⟩ xs.length l.length = true := by simp [rOk, h1, h2, h3]
    have HD : rNic ⟨fr, ln, true, bu, re, go⟩ xs.length l.length = ⟨fr, ln, false, 0, true, l.length⟩ := by unfold rNic; rw [HO]; rfl
    have HB : rBy ⟨fr, ln, true, bu, re, go⟩ xs l = sp (bytesOf xs) (128 * bu) (l.take 128) := by unfold rBy; rw [HO, List.take_of_length_le h2]; rfl
    have HP := Lib.hid (show pgin xs.length (bu : Int) = true by simp [pgin]; omega)
    have gx : decide (bu < pg xs.length) = true := by simpa using h3
    have gl : IntKind.i64.wrap (bu : Int) = bu := by rw [IntKind.wrap_i64]; omega
    have hle : l.length ≤ 1048576 := by omega
    rw [HD, HO, HB]
    clear HO HD HB
    go_enter Try.func113, Try.ntmps113
    go_wp2_with (first | (go_at_call 105; refine (r7page_any _ _ _ _ _ hm hbu).mono ?_; rintro e w' ⟨rfl, rfl⟩))
    refine (fill_any B0 g c bu l xs _ HP.out (row_keep HR.out (by repeat' first | (with_reducible exact Keeps.refl _ _) | (with_reducible refine Keeps.alloc ?_ _) | (with_reducible refine Keeps.setCell ?_ ?_ _) | (with_reducible refine Keeps.drew ?_) | (with_reducible refine Keeps.drewN ?_ _) | (first | (with_reducible exact Nat.le_refl _) | (with_reducible assumption) | omega | (simp; omega) | (simp; done)))) HW.out hle).mono ?_; rintro e w1 ⟨rfl, us, ho1, hwu, hby, hg1⟩; have hb1 : Below B0 w w1 := Below.grown (by (repeat' first | (with_reducible exact Below.refl _ _) | (with_reducible assumption) | (with_reducible refine Below.alloc ?_ ?_ _) | (with_reducible refine Below.drew ?_) | (with_reducible refine below_drewN' ?_ _) | (with_reducible refine Below.setCell ?_ ?_ _) | (first | (with_reducible exact Nat.le_refl _) | (with_reducible assumption) | omega | (simp; omega) | (simp; done)))) hg1 (by (first | (with_reducible exact Nat.le_refl _) | (with_reducible assumption) | omega | (simp; omega) | (simp; done))) (by intro k e; injection e with e; omega); replace ho1 := Lib.hid ho1; replace hwu := Lib.hid hwu; replace hby := Lib.hid hby; apply bkg_then (w.heap.size) hg1; (focus (repeat' first | (with_reducible assumption) | ((with_reducible apply Bk.new); (focus (simp; done))) | (with_reducible apply Bk.alloc) | (with_reducible apply Bk.set) | (with_reducible apply Bk.other) | (with_reducible apply Bk.drew) | (first | (with_reducible exact Nat.le_refl _) | (with_reducible assumption) | omega | (simp; omega) | (simp; done)) | (simp; omega))); (focus omega); intro hk0; have hc0 := hk0.arr; have hf0 := hk0.frz; have hl0 := hk0.lt; apply bkg_then (w.heap.size + 1) hg1; (focus (repeat' first | (with_reducible assumption) | ((with_reducible apply Bk.new); (focus (simp; done))) | (with_reducible apply Bk.alloc) | (with_reducible apply Bk.set) | (with_reducible apply Bk.other) | (with_reducible apply Bk.drew) | (first | (with_reducible exact Nat.le_refl _) | (with_reducible assumption) | omega | (simp; omega) | (simp; done)) | (simp; omega))); (focus omega); intro hk1; have hc1 := hk1.arr; have hf1 := hk1.frz; have hl1 := hk1.lt; replace hg1 := Lib.hid hg1
    go_wp2_with fail
    refine bodyPost_ret (by simp [results, Try.results113, go_sem, hc1]; try with_reducible rfl) rfl ?_
    exact ⟨rfl, us, row_at_keep ho1.out (by repeat' first | (with_reducible rfl) | (with_reducible refine at_set ?_ ?_ _) | (simp; omega)), hwu.out, hby.out, by (repeat' first | (with_reducible exact Below.refl _ _) | (with_reducible assumption) | (with_reducible refine Below.alloc ?_ ?_ _) | (with_reducible refine Below.drew ?_) | (with_reducible refine below_drewN' ?_ _) | (with_reducible refine Below.setCell ?_ ?_ _) | (first | (with_reducible exact Nat.le_refl _) | (with_reducible assumption) | omega | (simp; omega) | (simp; done)))⟩
  · have hX := Lib.hid hc
    clear hc
    have HO : rOk ⟨fr, ln, po, bu, re, go⟩ xs.length l.length = false := by
      rw [← Bool.not_eq_true]; intro h; simp only [rOk, Bool.and_eq_true, decide_eq_true_eq] at h; exact hX.out ⟨h.1.1.1, h.1.1.2, h.1.2, h.2⟩
    have HD : rNic ⟨fr, ln, po, bu, re, go⟩ xs.length l.length = ⟨fr, ln, po, bu, re, go⟩ := by unfold rNic; rw [HO]; rfl
    have HB : rBy ⟨fr, ln, po, bu, re, go⟩ xs l = bytesOf xs := by unfold rBy; rw [HO]; rfl
    rw [HD, HO, HB]
    have hgg : po = false ∨ (po = true ∧ decide ((l.length : Int) < 1) = true) ∨ (po = true ∧ decide ((l.length : Int) < 1) = false ∧ decide ((128 : Int) < l.length) = true) ∨ (po = true ∧ decide ((l.length : Int) < 1) = false ∧ decide ((128 : Int) < l.length) = false ∧ decide (bu < pg xs.length) = false) := by
      cases po
      · exact .inl rfl
      · by_cases h1 : l.length < 1
        · exact .inr (.inl ⟨rfl, by simp; omega⟩)
        · by_cases h2 : 128 < l.length
          · exact .inr (.inr (.inl ⟨rfl, by simp; omega, by simp; omega⟩))
          · exact .inr (.inr (.inr ⟨rfl, by simp; omega, by simp; omega, by simp; exact Nat.not_lt.mp fun h => hX.out ⟨rfl, by omega, by omega, h⟩⟩))
    clear HO HD HB hX
    rcases hgg with rfl | ⟨rfl, g1⟩ | ⟨rfl, g1, g2⟩ | ⟨rfl, g1, g2, g3⟩
    all_goals
      go_enter Try.func113, Try.ntmps113
      go_wp2_with (first | (go_at_call 105; refine (r7page_any _ _ _ _ _ hm hbu).mono ?_; rintro e w' ⟨rfl, rfl⟩))
      ((try simp only [Exit.inBlock, Exit.then]); first | (refine bodyPost_ret (results_tmp rfl _ _ _) rfl ?_) | go_ret2 | go_ret3 | (refine bodyPost_ret (by simp [results, Try.results113, go_sem]; try with_reducible rfl) rfl ?_))
      exact ⟨rfl, xs, row_keep HR.out (by repeat' first | (with_reducible exact Keeps.refl _ _) | (with_reducible refine Keeps.alloc ?_ _) | (with_reducible refine Keeps.setCell ?_ ?_ _) | (with_reducible refine Keeps.drew ?_) | (with_reducible refine Keeps.drewN ?_ _) | (first | (with_reducible exact Nat.le_refl _) | (with_reducible assumption) | omega | (simp; omega) | (simp; done))), HW.out, rfl, by (repeat' first | (with_reducible exact Below.refl _ _) | (with_reducible assumption) | (with_reducible refine Below.alloc ?_ ?_ _) | (with_reducible refine Below.drew ?_) | (with_reducible refine below_drewN' ?_ _) | (with_reducible refine Below.setCell ?_ ?_ _) | (first | (with_reducible exact Nat.le_refl _) | (with_reducible assumption) | omega | (simp; omega) | (simp; done)))⟩
set_option maxRecDepth 100000 in
set_option maxHeartbeats 2000000 in
theorem rreceive_any (n : Nic) (A : Option Addr) (c : Nat) (xs : List Nat) (l : List UInt8) (w : World) (ho : n.Ok) (hn : xs.length ≤ 1048576) (hn0 : 0 < xs.length) (hll : l.length ≤ 9223372036854775807) (hr : Rd w w.heap.size A (ws xs)) (hw : Wd xs) :
    Calls Try.prog 74 #[n.V, .slice A xs.length c, .string (str l)] w (RcvOut (rNic n xs.length l.length) xs.length (rOk n xs.length l.length) (rBy n xs l) w) := by
  have HR := Lib.hid hr
  have HF := Lib.hid (fun g c B0 W h1 h2 h3 => raccept_any n g c B0 xs l W ho hn hll hw h1 h2 h3)
  generalize rNic n xs.length l.length = n2 at HF
  generalize rOk n xs.length l.length = ok at HF
  generalize rBy n xs l = by_ at HF
  obtain ⟨fr, ln, po, bu, re, go⟩ := n
  obtain ⟨fr', ln', po', bu', re', go'⟩ := n2
  clear hr hw ho
  rw [N_mk] at HF ⊢
  go_enter Try.func74, Try.ntmps74
  go_wp2_with fail
  refine (copy_any A c xs _ (by omega) (HR.out.upto (by (repeat' first | (with_reducible exact Below.refl _ _) | (with_reducible assumption) | (with_reducible refine Below.alloc ?_ ?_ _) | (with_reducible refine Below.drew ?_) | (with_reducible refine below_drewN' ?_ _) | (with_reducible refine Below.setCell ?_ ?_ _) | (first | (with_reducible exact Nat.le_refl _) | (with_reducible assumption) | omega | (simp; omega) | (simp; done)))))).mono ?_; rintro e w1 ⟨A1, c1, rfl, hn1, hb1⟩
  obtain ⟨g, rfl, hg1, hg2⟩ := row_get hn1 hn0
  replace hn1 := Lib.hid hn1
  have hz1 := hb1.size; apply bk_then (w.heap.size) hb1; (focus (repeat' first | (with_reducible assumption) | ((with_reducible apply Bk.new); (focus (simp; done))) | (with_reducible apply Bk.alloc) | (with_reducible apply Bk.set) | (with_reducible apply Bk.other) | (with_reducible apply Bk.drew) | (first | (with_reducible exact Nat.le_refl _) | (with_reducible assumption) | omega | (simp; omega) | (simp; done)) | (simp; omega))); intro hk1_0; have hc1_0 := hk1_0.arr; have hf1_0 := hk1_0.frz; have hl1_0 := hk1_0.lt; apply bk_then (w.heap.size + 1) hb1; (focus (repeat' first | (with_reducible assumption) | ((with_reducible apply Bk.new); (focus (simp; done))) | (with_reducible apply Bk.alloc) | (with_reducible apply Bk.set) | (with_reducible apply Bk.other) | (with_reducible apply Bk.drew) | (first | (with_reducible exact Nat.le_refl _) | (with_reducible assumption) | omega | (simp; omega) | (simp; done)) | (simp; omega))); intro hk1_1; have hc1_1 := hk1_1.arr; have hf1_1 := hk1_1.frz; have hl1_1 := hk1_1.lt; (try simp at hz1); replace hb1 : Below w.heap.size w w1 := Below.then (by (repeat' first | (with_reducible exact Below.refl _ _) | (with_reducible assumption) | (with_reducible refine Below.alloc ?_ ?_ _) | (with_reducible refine Below.drew ?_) | (with_reducible refine below_drewN' ?_ _) | (with_reducible refine Below.setCell ?_ ?_ _) | (first | (with_reducible exact Nat.le_refl _) | (with_reducible assumption) | omega | (simp; omega) | (simp; done)))) hb1
  go_wp2_with fail
  refine (HF.out g c1 _ _ hg1 hg2 hn1.out).mono ?_
  simp only [AccOut, N_mk]
  rintro e w2 ⟨rfl, us, hr2, hwu, hby, hb2⟩
  have hlu := Lib.hid (show List.length us = xs.length by have := hr2.1; simpa using this)
  replace hr2 := Lib.hid hr2
  apply bkb_then (w.heap.size) hb2; (focus (repeat' first | (with_reducible assumption) | ((with_reducible apply Bk.new); (focus (simp; done))) | (with_reducible apply Bk.alloc) | (with_reducible apply Bk.set) | (with_reducible apply Bk.other) | (with_reducible apply Bk.drew) | (first | (with_reducible exact Nat.le_refl _) | (with_reducible assumption) | omega | (simp; omega) | (simp; done)) | (simp; omega))); (focus (first | (with_reducible exact Nat.le_refl _) | (with_reducible assumption) | omega | (simp; omega) | (simp; done))); intro hk20; have hc20 := hk20.arr; have hf20 := hk20.frz; have hl20 := hk20.lt
  apply bkb_then (w.heap.size + 1) hb2; (focus (repeat' first | (with_reducible assumption) | ((with_reducible apply Bk.new); (focus (simp; done))) | (with_reducible apply Bk.alloc) | (with_reducible apply Bk.set) | (with_reducible apply Bk.other) | (with_reducible apply Bk.drew) | (first | (with_reducible exact Nat.le_refl _) | (with_reducible assumption) | omega | (simp; omega) | (simp; done)) | (simp; omega))); (focus (first | (with_reducible exact Nat.le_refl _) | (with_reducible assumption) | omega | (simp; omega) | (simp; done))); intro hk21; have hc21 := hk21.arr; have hf21 := hk21.frz; have hl21 := hk21.lt
  replace hb2 : Below w.heap.size w w2 := hb1.trans (hb2.mono (by (first | (with_reducible exact Nat.le_refl _) | (with_reducible assumption) | omega | (simp; omega) | (simp; done))))
  go_wp2_with fail
  refine bodyPost_ret (by simp [results, Try.results74, go_sem, hc21, hl21]; try with_reducible rfl) rfl ?_
  exact ⟨_, c1, us, rfl, hwu, hlu.out, hby, ((row_nw hr2.out).keep (by repeat' first | (with_reducible exact Keeps.refl _ _) | (with_reducible refine Keeps.alloc ?_ _) | (with_reducible refine Keeps.setCell ?_ ?_ _) | (with_reducible refine Keeps.drew ?_) | (with_reducible refine Keeps.drewN ?_ _) | (first | (with_reducible exact Nat.le_refl _) | (with_reducible assumption) | omega | (simp; omega) | (simp; done)))).mono (by (first | (with_reducible exact Nat.le_refl _) | (with_reducible assumption) | omega | (simp; omega) | (simp; done))), row_cap hr2.out, by (repeat' first | (with_reducible exact Below.refl _ _) | (with_reducible assumption) | (with_reducible refine Below.alloc ?_ ?_ _) | (with_reducible refine Below.drew ?_) | (with_reducible refine below_drewN' ?_ _) | (with_reducible refine Below.setCell ?_ ?_ _) | (first | (with_reducible exact Nat.le_refl _) | (with_reducible assumption) | omega | (simp; omega) | (simp; done)))⟩

set_option maxRecDepth 100000 in
set_option maxHeartbeats 4000000 in
theorem rnout_any (n : Nic) (A : Option Addr) (c : Nat) (xs : List Nat) (port : Int) (v a : Nat) (w : World) (ho : n.Ok) (hn : xs.length ≤ 1048576) (hr : Rd w w.heap.size A (ws xs)) (hv : v < 4294967296) :
    Calls Try.prog 61 #[n.V, .slice A xs.length c, .int .i64 port, .int .u32 v, .int .u64 a] w (NOutPost (nOut n xs port v a) w) := by
  have hm : xs.length ≤ maxLen := by unfold maxLen; omega
  have HR := Lib.hid hr
  obtain ⟨hfr, hln, _, _⟩ := ho
  obtain ⟨fr, ln, po, bu, re, go⟩ := n
  simp only [] at hfr hln
  clear hr
  rw [N_mk]
  by_cases hi : port = 9 ∧ v = 1 ∧ 1 ≤ ln ∧ ln ≤ 128 ∧ fr < pg xs.length
  · obtain ⟨rfl, rfl, h1, h2, h3⟩ := hi
    have HD := Lib.hid (show nOut ⟨fr, ln, po, bu, re, go⟩ xs 9 1 a = (⟨fr, ln, po, bu, re, go⟩, [⟨2, a, 0, (pgB xs fr).take ln⟩]) by simp [nOut, nSend, h1, h2, h3])
    have hl := pgB_length xs fr h3
    have HC := Lib.hid (str_cut (pgB xs fr) 0 ln ((pgB xs fr).take ln) (by simp))
    have gx : decide (fr < pg xs.length) = true := by simpa using h3
    go_enter Try.func61, Try.ntmps61
    go_wp2_with (first | (go_at_call 105; refine (r7page_any _ _ _ _ _ hm hfr).mono ?_; rintro e w' ⟨rfl, rfl⟩) | (go_at_call 40; refine (rpage_any _ _ _ _ _ hm (HR.out.upto (by (repeat' first | (with_reducible exact Below.refl _ _) | (with_reducible assumption) | (with_reducible refine Below.alloc ?_ ?_ _) | (with_reducible refine Below.drew ?_) | (with_reducible refine below_drewN' ?_ _) | (with_reducible refine Below.setCell ?_ ?_ _) | (first | (with_reducible exact Nat.le_refl _) | (with_reducible assumption) | omega | (simp; omega) | (simp; done)))))).mono ?_; rintro e w1 ⟨rfl, hb1⟩; have hz1 := hb1.size; apply bk_then (w.heap.size) hb1; (focus (repeat' first | (with_reducible assumption) | ((with_reducible apply Bk.new); (focus (simp; done))) | (with_reducible apply Bk.alloc) | (with_reducible apply Bk.set) | (with_reducible apply Bk.other) | (with_reducible apply Bk.drew) | (first | (with_reducible exact Nat.le_refl _) | (with_reducible assumption) | omega | (simp; omega) | (simp; done)) | (simp; omega))); intro hk1_0; have hc1_0 := hk1_0.arr; have hf1_0 := hk1_0.frz; have hl1_0 := hk1_0.lt; apply bk_then (w.heap.size + 1) hb1; (focus (repeat' first | (with_reducible assumption) | ((with_reducible apply Bk.new); (focus (simp; done))) | (with_reducible apply Bk.alloc) | (with_reducible apply Bk.set) | (with_reducible apply Bk.other) | (with_reducible apply Bk.drew) | (first | (with_reducible exact Nat.le_refl _) | (with_reducible assumption) | omega | (simp; omega) | (simp; done)) | (simp; omega))); intro hk1_1; have hc1_1 := hk1_1.arr; have hf1_1 := hk1_1.frz; have hl1_1 := hk1_1.lt; (try simp at hz1); replace hb1 : Below w.heap.size w w1 := Below.then (by (repeat' first | (with_reducible exact Below.refl _ _) | (with_reducible assumption) | (with_reducible refine Below.alloc ?_ ?_ _) | (with_reducible refine Below.drew ?_) | (with_reducible refine below_drewN' ?_ _) | (with_reducible refine Below.setCell ?_ ?_ _) | (first | (with_reducible exact Nat.le_refl _) | (with_reducible assumption) | omega | (simp; omega) | (simp; done)))) hb1))
    go_region
    simp only [Exit.then]; rename_i hK; refine hK _ _ (wp_ret ?_); refine bodyPost_ret (v := .tuple #[.agg #[.int .u32 fr, .int .u32 ln, .bool po, .int .u32 bu, .bool re, .int .u32 go], .slice (some ⟨w1.heap.size, 0, none⟩) 1 1]) (by simp [results, Try.results61, go_sem, hc1_1, hl1_1]) rfl ?_
    rw [HD.out, HC.out]
    exact ⟨_, _, rfl, Nat.le_refl _, (Nw.new_at (by simp) _ _ (by omega)).drew, by (repeat' first | (with_reducible exact Below.refl _ _) | (with_reducible assumption) | (with_reducible refine Below.alloc ?_ ?_ _) | (with_reducible refine Below.drew ?_) | (with_reducible refine below_drewN' ?_ _) | (with_reducible refine Below.setCell ?_ ?_ _) | (first | (with_reducible exact Nat.le_refl _) | (with_reducible assumption) | omega | (simp; omega) | (simp; done)))⟩
  · by_cases hj : port = 9 ∧ v = 1
    · obtain ⟨rfl, rfl⟩ := hj
      have hX : ¬(1 ≤ ln ∧ ln ≤ 128 ∧ fr < pg xs.length) := fun h => hi ⟨rfl, rfl, h⟩
      have HD := Lib.hid (show nOut ⟨fr, ln, po, bu, re, go⟩ xs 9 1 a = (⟨fr, ln, po, bu, re, go⟩, []) by simp only [nOut, nSend]; rw [if_neg hX]; rfl)
      have hg : decide ((1 : Int) ≤ ln) = false ∨ (decide ((1 : Int) ≤ ln) = true ∧ decide ((ln : Int) ≤ 128) = false) ∨ (decide ((1 : Int) ≤ ln) = true ∧ decide ((ln : Int) ≤ 128) = true ∧ decide (fr < pg xs.length) = false) := by
        by_cases h1 : 1 ≤ ln
        · by_cases h2 : ln ≤ 128
          · exact .inr (.inr ⟨by simp; omega, by simp; omega, by simp; exact Nat.not_lt.mp fun h => hX ⟨h1, h2, h⟩⟩)
          · exact .inr (.inl ⟨by simp; omega, by simp; omega⟩)
        · exact .inl (by simp; omega)
      clear hi hX
      rcases hg with g1 | ⟨g1, g2⟩ | ⟨g1, g2, g3⟩
      all_goals
        go_enter Try.func61, Try.ntmps61
        go_wp2_with (first | (go_at_call 105; refine (r7page_any _ _ _ _ _ hm hfr).mono ?_; rintro e w' ⟨rfl, rfl⟩))
        ((try simp only [Exit.inBlock, Exit.then]); first | (refine bodyPost_ret (results_tmp rfl _ _ _) rfl ?_) | go_ret2 | go_ret3 | (refine bodyPost_ret (by simp [results, Try.results61, go_sem]; try with_reducible rfl) rfl ?_))
        rw [HD.out]
        exact ⟨none, 0, rfl, by simp, Nw.nil, by (repeat' first | (with_reducible exact Below.refl _ _) | (with_reducible assumption) | (with_reducible refine Below.alloc ?_ ?_ _) | (with_reducible refine Below.drew ?_) | (with_reducible refine below_drewN' ?_ _) | (with_reducible refine Below.setCell ?_ ?_ _) | (first | (with_reducible exact Nat.le_refl _) | (with_reducible assumption) | omega | (simp; omega) | (simp; done)))⟩
    · have H6 : port = 9 → ¬ v = 1 := by intro h h2; exact hj ⟨h, h2⟩
      clear hi hj
      have hg : (port != 9) = true ∨ (port = 9 ∧ ((v : Int) == 1) = false) := by
        by_cases h9 : port = 9
        · exact .inr ⟨h9, by have := H6 h9; simp; omega⟩
        · exact .inl (by simpa using h9)
      by_cases hfp : fr < pg xs.length
      · have gx : decide (fr < pg xs.length) = true := by simpa using hfp
        rcases hg with g9 | ⟨rfl, g1⟩ <;> cases po <;> cases re
        all_goals
          go_enter Try.func61, Try.ntmps61
          go_wp2_with (go_at_call 105; refine (r7page_any _ _ _ _ _ hm hfr).mono ?_; rintro e w' ⟨rfl, rfl⟩)
          all_goals first
            | (((try simp only [Exit.inBlock, Exit.then]); first | (refine bodyPost_ret (results_tmp rfl _ _ _) rfl ?_) | go_ret2 | go_ret3 | (refine bodyPost_ret (by simp [results, Try.results61, go_sem]; try with_reducible rfl) rfl ?_)); exact ⟨none, 0, by simp_all [cast1', cast2, nOut, N_mk], by simp_all [cast1', cast2, nOut], fun h => by simp_all [cast1', cast2, nOut, os], by (repeat' first | (with_reducible exact Below.refl _ _) | (with_reducible assumption) | (with_reducible refine Below.alloc ?_ ?_ _) | (with_reducible refine Below.drew ?_) | (with_reducible refine below_drewN' ?_ _) | (with_reducible refine Below.setCell ?_ ?_ _) | (first | (with_reducible exact Nat.le_refl _) | (with_reducible assumption) | omega | (simp; omega) | (simp; done)))⟩)
            | skip
      · have gx : decide (fr < pg xs.length) = false := by simpa using hfp
        have HX := Nat.not_lt.mp hfp
        clear hfp
        rcases hg with g9 | ⟨rfl, g1⟩ <;> cases po <;> cases re
        all_goals
          go_enter Try.func61, Try.ntmps61
          go_wp2_with (go_at_call 105; refine (r7page_any _ _ _ _ _ hm hfr).mono ?_; rintro e w' ⟨rfl, rfl⟩)
          all_goals first
            | (((try simp only [Exit.inBlock, Exit.then]); first | (refine bodyPost_ret (results_tmp rfl _ _ _) rfl ?_) | go_ret2 | go_ret3 | (refine bodyPost_ret (by simp [results, Try.results61, go_sem]; try with_reducible rfl) rfl ?_)); exact ⟨none, 0, by simp_all [cast1', cast2, Nat.not_lt.mpr HX, nOut, N_mk], by simp_all [cast1', cast2, Nat.not_lt.mpr HX, nOut], fun h => by simp_all [cast1', cast2, Nat.not_lt.mpr HX, nOut, os], by (repeat' first | (with_reducible exact Below.refl _ _) | (with_reducible assumption) | (with_reducible refine Below.alloc ?_ ?_ _) | (with_reducible refine Below.drew ?_) | (with_reducible refine below_drewN' ?_ _) | (with_reducible refine Below.setCell ?_ ?_ _) | (first | (with_reducible exact Nat.le_refl _) | (with_reducible assumption) | omega | (simp; omega) | (simp; done)))⟩)
            | skip
end Go.Proofs.Ytmefbkfapeijgaa
