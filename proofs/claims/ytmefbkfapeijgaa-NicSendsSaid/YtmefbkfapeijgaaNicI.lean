/- The law about sending. -/
import Derived.Test.YtmefbkfapeijgaaNicG
namespace Go.Proofs.Ytmefbkfapeijgaa
open Go.RowKit

theorem rpage_at {n : Nat} (A : Option Addr) (c : Nat) (f : Nat) (xs : List Nat) (hx : xs.length = n) (w : World) (hn : n ≤ 1048576) (hr : Rd w w.heap.size A (ws xs)) :
    Calls Try.prog 40 #[.slice A n c, .int .i64 f] w fun e w' => e = .returned (.tuple #[.string (str (pgB xs f)), .bool (decide (f < pg n))]) ∧ Below w.heap.size w w' := by
  subst hx
  refine (rpage_any A c f xs w (by unfold maxLen; omega) hr).mono fun e w' ⟨he, hb⟩ => ⟨?_, hb⟩
  rw [he]; congr 4; simp [pgin]
theorem one_keep {b o : Nat} {w w' : World} {v : Value} (h : b < w.heap.size) (hc : w.cell? ⟨b, o, none⟩ = some v) (hb : Below w.heap.size w w') : w'.cell? ⟨b, o, none⟩ = some v := (hb.cell (p := ⟨b, o, none⟩) h).trans hc
set_option maxRecDepth 100000 in
set_option maxHeartbeats 4000000 in
theorem nsends_any (n pages : Int) (frame len : Nat) (w : World) (hp1 : -9223372036854775808 ≤ pages) (hp2 : pages ≤ 9223372036854775807) :
    Calls Try.prog 13 #[.int .i64 n, .int .i64 pages, .int .u32 frame, .int .u32 len] w fun e w' => e = .returned (.bool true) ∧ Below w.heap.size w w' := by
  have CW := Lib.hid (fun W => words10 n pages W hp1 hp2)
  obtain ⟨f, hf, hf8⟩ : ∃ f : Nat, (frame : Int) % 8 = f ∧ f < 8 := ⟨frame % 8, by omega, by omega⟩
  obtain ⟨ln, hln, hl140⟩ : ∃ ln : Nat, (len : Int) % 140 = ln ∧ ln < 140 := ⟨len % 140, by omega, by omega⟩
  have HF := Lib.hid hf
  have HL := Lib.hid hln
  clear hf hln hp1 hp2
  go_enter Try.func13, Try.ntmps13
  go_wp2_with fail
  refine (CW.out _).mono ?_; rintro e w1 ⟨A, c, N, us, rfl, hNc, hlu, hwu, hN1, hN6, hN, hown, hb1⟩
  have HN := Lib.hid (⟨hlu, hwu, hN, hN1, hN6⟩ : us.length = N ∧ Wd us ∧ N = 32 * pg N ∧ 1 ≤ pg N ∧ pg N ≤ 6)
  have hN2 : N ≤ 192 := by omega
  have HU := Lib.hid (row_nw hown)
  clear hlu hwu hN hN1 hN6 hown
  have hz1 := hb1.size; (try simp at hz1); replace hb1 : Below w.heap.size w w1 := Below.then (by (repeat' first | (with_reducible exact Below.refl _ _) | (with_reducible assumption) | (with_reducible refine Below.alloc ?_ ?_ _) | (with_reducible refine Below.drew ?_) | (with_reducible refine below_drewN' ?_ _) | (with_reducible refine Below.setCell ?_ ?_ _) | (first | (with_reducible exact Nat.le_refl _) | (with_reducible assumption) | omega | (simp; omega) | (simp; done)))) hb1
  by_cases hg : 1 ≤ ln ∧ ln ≤ 128 ∧ f < pg N
  · have HR := Lib.hid (show nOut ⟨f, ln, false, 0, false, 0⟩ us 9 1 9 = (⟨f, ln, false, 0, false, 0⟩, [⟨2, 9, 0, (pgB us f).take ln⟩]) by simp [nOut, nSend, hg, HN.out.1])
    obtain ⟨h1, h2, h3⟩ := hg
    have g1 : decide ((ln : Int) < 1) = false := by simp; omega
    have g2 : decide ((128 : Int) < ln) = false := by simp; omega
    have g3 : decide (f < pg N) = true := by simpa using h3
    have hl := pgB_length us f (by rw [HN.out.1]; exact h3)
    have b0 : (0 : Int) ≤ (ln : Int) := by omega
    have b1 : (ln : Int) ≤ ((pgB us f).length : Int) := by omega
    have b2 : (ln : Int) ≤ 128 := by omega
    have hC := str_cut (pgB us f) 0 ln ((pgB us f).take ln) (by simp)
    go_wp2_with fail
    rw [HF.out, HL.out]
    refine (nout_at ⟨f, ln, false, 0, false, 0⟩ A c us HN.out.1 9 1 9 _ HR.out _ (by simp [Nic.Ok]; omega) (by omega) hNc (HU.out.keep (by repeat' first | (with_reducible exact Keeps.refl _ _) | (with_reducible refine Keeps.alloc ?_ _) | (with_reducible refine Keeps.setCell ?_ ?_ _) | (with_reducible refine Keeps.drew ?_) | (with_reducible refine Keeps.drewN ?_ _) | (first | (with_reducible exact Nat.le_refl _) | (with_reducible assumption) | omega | (simp; omega) | (simp; done)))).rd HN.out.2.1 (by omega)).mono ?_
    simp only [NOutPost, N_mk]
    rintro e w3 ⟨A3, c3, rfl, hc3, hn3, hb3⟩
    have HN3 := Lib.hid hn3; clear hn3
    have hz3 := hb3.size; apply bk_then (w1.heap.size) hb3; (focus (repeat' first | (with_reducible assumption) | ((with_reducible apply Bk.new); (focus (simp; done))) | (with_reducible apply Bk.alloc) | (with_reducible apply Bk.set) | (with_reducible apply Bk.other) | (with_reducible apply Bk.drew) | (first | (with_reducible exact Nat.le_refl _) | (with_reducible assumption) | omega | (simp; omega) | (simp; done)) | (simp; omega))); intro hk3_0; have hc3_0 := hk3_0.arr; have hf3_0 := hk3_0.frz; have hl3_0 := hk3_0.lt; (try simp at hz3); replace HU := Lib.hid (HU.out.keep (Keeps.below (by repeat' first | (with_reducible exact Keeps.refl _ _) | (with_reducible refine Keeps.alloc ?_ _) | (with_reducible refine Keeps.setCell ?_ ?_ _) | (with_reducible refine Keeps.drew ?_) | (with_reducible refine Keeps.drewN ?_ _) | (first | (with_reducible exact Nat.le_refl _) | (with_reducible assumption) | omega | (simp; omega) | (simp; done))) hb3)); replace hb3 : Below w.heap.size w w3 := Below.then (by (repeat' first | (with_reducible exact Below.refl _ _) | (with_reducible assumption) | (with_reducible refine Below.alloc ?_ ?_ _) | (with_reducible refine Below.drew ?_) | (with_reducible refine below_drewN' ?_ _) | (with_reducible refine Below.setCell ?_ ?_ _) | (first | (with_reducible exact Nat.le_refl _) | (with_reducible assumption) | omega | (simp; omega) | (simp; done)))) hb3
    go_wp2_with fail
    refine (rpage_at A c f us HN.out.1 _ (by omega) (HU.out.keep (by repeat' first | (with_reducible exact Keeps.refl _ _) | (with_reducible refine Keeps.alloc ?_ _) | (with_reducible refine Keeps.setCell ?_ ?_ _) | (with_reducible refine Keeps.drew ?_) | (with_reducible refine Keeps.drewN ?_ _) | (first | (with_reducible exact Nat.le_refl _) | (with_reducible assumption) | omega | (simp; omega) | (simp; done)))).rd).mono ?_
    rintro e w4 ⟨rfl, hb4⟩
    have hz4 := hb4.size; apply bk_then (w1.heap.size) hb4; (focus (repeat' first | (with_reducible assumption) | ((with_reducible apply Bk.new); (focus (simp; done))) | (with_reducible apply Bk.alloc) | (with_reducible apply Bk.set) | (with_reducible apply Bk.other) | (with_reducible apply Bk.drew) | (first | (with_reducible exact Nat.le_refl _) | (with_reducible assumption) | omega | (simp; omega) | (simp; done)) | (simp; omega))); intro hk4_0; (try simp only [List.setIfInBounds_toArray, List.set_cons_zero, List.set_cons_succ] at hk4_0); have hc4_0 := hk4_0.arr; have hf4_0 := hk4_0.frz; have hl4_0 := hk4_0.lt; apply bk_then (w3.heap.size) hb4; (focus (repeat' first | (with_reducible assumption) | ((with_reducible apply Bk.new); (focus (simp; done))) | (with_reducible apply Bk.alloc) | (with_reducible apply Bk.set) | (with_reducible apply Bk.other) | (with_reducible apply Bk.drew) | (first | (with_reducible exact Nat.le_refl _) | (with_reducible assumption) | omega | (simp; omega) | (simp; done)) | (simp; omega))); intro hk4_1; (try simp only [List.setIfInBounds_toArray, List.set_cons_zero, List.set_cons_succ] at hk4_1); have hc4_1 := hk4_1.arr; have hf4_1 := hk4_1.frz; have hl4_1 := hk4_1.lt; (try simp at hz4); replace HN3 := Lib.hid (HN3.out.keep (Keeps.below (by repeat' first | (with_reducible exact Keeps.refl _ _) | (with_reducible refine Keeps.alloc ?_ _) | (with_reducible refine Keeps.setCell ?_ ?_ _) | (with_reducible refine Keeps.drew ?_) | (with_reducible refine Keeps.drewN ?_ _) | (first | (with_reducible exact Nat.le_refl _) | (with_reducible assumption) | omega | (simp; omega) | (simp; done))) hb4)); replace hb4 : Below w.heap.size w w4 := Below.then (by (repeat' first | (with_reducible exact Below.refl _ _) | (with_reducible assumption) | (with_reducible refine Below.alloc ?_ ?_ _) | (with_reducible refine Below.drew ?_) | (with_reducible refine below_drewN' ?_ _) | (with_reducible refine Below.setCell ?_ ?_ _) | (first | (with_reducible exact Nat.le_refl _) | (with_reducible assumption) | omega | (simp; omega) | (simp; done)))) hb4
    obtain ⟨b, off, rfl, hb0, hb1', hcc⟩ := HN3.out (by simp [os, Outp.cells])
    have k0 : w4.cell? ⟨b, off, none⟩ = some (.int .i64 2) := hcc 0 (by simp [os, Outp.cells])
    have k1 : w4.cell? ⟨b, off + 1, none⟩ = some (.int .u64 9) := hcc 1 (by simp [os, Outp.cells])
    have k2 : w4.cell? ⟨b, off + 2, none⟩ = some (.int .u32 0) := hcc 2 (by simp [os, Outp.cells])
    have k3 : w4.cell? ⟨b, off + 3, none⟩ = some (.string (str ((pgB us f).take ln))) := hcc 3 (by simp [os, Outp.cells])
    clear hcc
    go_wp2_with fail
    have HS : (fun w' : World => (w1.heap.size < w'.heap.size ∧ ∀ o, w'.cell? ⟨w1.heap.size, o, none⟩ = (#[.int .u32 f, .int .u32 ln, .bool false, .int .u32 0, .bool false, .int .u32 0] : Array Value)[o]?) ∧ (w3.heap.size < w'.heap.size ∧ ∀ o, w'.cell? ⟨w3.heap.size, o, none⟩ = (#[.int .u32 f, .int .u32 ln, .bool false, .int .u32 0, .bool false, .int .u32 0] : Array Value)[o]?) ∧ (b < w'.heap.size ∧ w'.cell? ⟨b, off, none⟩ = some (.int .i64 2) ∧ w'.cell? ⟨b, off + 1, none⟩ = some (.int .u64 9) ∧ w'.cell? ⟨b, off + 2, none⟩ = some (.int .u32 0) ∧ w'.cell? ⟨b, off + 3, none⟩ = some (.string (str ((pgB us f).take ln)))) ∧ Below w.heap.size w w') (w4) := by
      refine ⟨⟨by (first | (with_reducible exact Nat.le_refl _) | (with_reducible assumption) | omega | (simp; omega) | (simp; done)), ?_⟩, ⟨by (first | (with_reducible exact Nat.le_refl _) | (with_reducible assumption) | omega | (simp; omega) | (simp; done)), ?_⟩, ⟨by (first | (with_reducible exact Nat.le_refl _) | (with_reducible assumption) | omega | (simp; omega) | (simp; done)), ?_, ?_, ?_, ?_⟩, by (repeat' first | (with_reducible exact Below.refl _ _) | (with_reducible assumption) | (with_reducible refine Below.alloc ?_ ?_ _) | (with_reducible refine Below.drew ?_) | (with_reducible refine below_drewN' ?_ _) | (with_reducible refine Below.setCell ?_ ?_ _) | (first | (with_reducible exact Nat.le_refl _) | (with_reducible assumption) | omega | (simp; omega) | (simp; done)))⟩
      all_goals (repeat' first | (with_reducible assumption) | (with_reducible exact arr_new _ _ _ _) | ((with_reducible apply arr_new_at); (focus (simp; done))) | (with_reducible apply arr_alloc) | (with_reducible apply arr_set) | (with_reducible apply arr_other) | (with_reducible apply arr_drew) | (first | (with_reducible exact Nat.le_refl _) | (with_reducible assumption) | omega | (simp; omega) | (simp; done)) | (simp; omega))
    obtain ⟨W, hW⟩ : ∃ W, W = w4 := ⟨_, rfl⟩
    rw [← hW] at HS ⊢
    clear hW
    go_region_held3 (fun w' => (w1.heap.size < w'.heap.size ∧ ∀ o, w'.cell? ⟨w1.heap.size, o, none⟩ = (#[.int .u32 f, .int .u32 ln, .bool false, .int .u32 0, .bool false, .int .u32 0] : Array Value)[o]?) ∧ (w3.heap.size < w'.heap.size ∧ ∀ o, w'.cell? ⟨w3.heap.size, o, none⟩ = (#[.int .u32 f, .int .u32 ln, .bool false, .int .u32 0, .bool false, .int .u32 0] : Array Value)[o]?) ∧ (b < w'.heap.size ∧ w'.cell? ⟨b, off, none⟩ = some (.int .i64 2) ∧ w'.cell? ⟨b, off + 1, none⟩ = some (.int .u64 9) ∧ w'.cell? ⟨b, off + 2, none⟩ = some (.int .u32 0) ∧ w'.cell? ⟨b, off + 3, none⟩ = some (.string (str ((pgB us f).take ln)))) ∧ Below w.heap.size w w')
      (first
        | exact ⟨HS.1, HS.2.1, HS.2.2.1, HS.2.2.2.drew⟩
        | (go_split_ands
           refine ⟨⟨?_, ?_⟩, ⟨?_, ?_⟩, ⟨?_, ?_, ?_, ?_, ?_⟩, ?_⟩
           all_goals first | exact lt_keep (by assumption) hbr | exact cell_keep (by assumption) (by assumption) hbr | exact one_keep (by assumption) (by assumption) hbr | exact nw_keep (by assumption) hbr | exact Below.then (by assumption) hbr))
      (first
        | (go_at_call 64; refine (awake10 _).mono ?_; rintro e wr ⟨rfl, hbr⟩))
    all_goals
      go_wp2
      go_ret
      go_split_ands
      exact ⟨rfl, by assumption⟩
  · have HR := Lib.hid (show nOut ⟨f, ln, false, 0, false, 0⟩ us 9 1 9 = (⟨f, ln, false, 0, false, 0⟩, []) by simp only [nOut, nSend, HN.out.1]; rw [if_neg hg]; rfl)
    go_wp2_with fail
    rw [HF.out, HL.out]
    refine (nout_at ⟨f, ln, false, 0, false, 0⟩ A c us HN.out.1 9 1 9 _ HR.out _ (by simp [Nic.Ok]; omega) (by omega) hNc (HU.out.keep (by repeat' first | (with_reducible exact Keeps.refl _ _) | (with_reducible refine Keeps.alloc ?_ _) | (with_reducible refine Keeps.setCell ?_ ?_ _) | (with_reducible refine Keeps.drew ?_) | (with_reducible refine Keeps.drewN ?_ _) | (first | (with_reducible exact Nat.le_refl _) | (with_reducible assumption) | omega | (simp; omega) | (simp; done)))).rd HN.out.2.1 (by omega)).mono ?_
    simp only [NOutPost, N_mk]
    rintro e w3 ⟨A3, c3, rfl, hc3, hn3, hb3⟩
    clear hn3
    have hz3 := hb3.size; apply bk_then (w1.heap.size) hb3; (focus (repeat' first | (with_reducible assumption) | ((with_reducible apply Bk.new); (focus (simp; done))) | (with_reducible apply Bk.alloc) | (with_reducible apply Bk.set) | (with_reducible apply Bk.other) | (with_reducible apply Bk.drew) | (first | (with_reducible exact Nat.le_refl _) | (with_reducible assumption) | omega | (simp; omega) | (simp; done)) | (simp; omega))); intro hk3_0; have hc3_0 := hk3_0.arr; have hf3_0 := hk3_0.frz; have hl3_0 := hk3_0.lt; (try simp at hz3); replace HU := Lib.hid (HU.out.keep (Keeps.below (by repeat' first | (with_reducible exact Keeps.refl _ _) | (with_reducible refine Keeps.alloc ?_ _) | (with_reducible refine Keeps.setCell ?_ ?_ _) | (with_reducible refine Keeps.drew ?_) | (with_reducible refine Keeps.drewN ?_ _) | (first | (with_reducible exact Nat.le_refl _) | (with_reducible assumption) | omega | (simp; omega) | (simp; done))) hb3)); replace hb3 : Below w.heap.size w w3 := Below.then (by (repeat' first | (with_reducible exact Below.refl _ _) | (with_reducible assumption) | (with_reducible refine Below.alloc ?_ ?_ _) | (with_reducible refine Below.drew ?_) | (with_reducible refine below_drewN' ?_ _) | (with_reducible refine Below.setCell ?_ ?_ _) | (first | (with_reducible exact Nat.le_refl _) | (with_reducible assumption) | omega | (simp; omega) | (simp; done)))) hb3
    have HG := Lib.hid hg; clear hg
    go_wp2_with fail
    refine (rpage_at A c f us HN.out.1 _ (by omega) (HU.out.keep (by repeat' first | (with_reducible exact Keeps.refl _ _) | (with_reducible refine Keeps.alloc ?_ _) | (with_reducible refine Keeps.setCell ?_ ?_ _) | (with_reducible refine Keeps.drew ?_) | (with_reducible refine Keeps.drewN ?_ _) | (first | (with_reducible exact Nat.le_refl _) | (with_reducible assumption) | omega | (simp; omega) | (simp; done)))).rd).mono ?_
    rintro e w4 ⟨rfl, hb4⟩
    have hz4 := hb4.size; apply bk_then (w1.heap.size) hb4; (focus (repeat' first | (with_reducible assumption) | ((with_reducible apply Bk.new); (focus (simp; done))) | (with_reducible apply Bk.alloc) | (with_reducible apply Bk.set) | (with_reducible apply Bk.other) | (with_reducible apply Bk.drew) | (first | (with_reducible exact Nat.le_refl _) | (with_reducible assumption) | omega | (simp; omega) | (simp; done)) | (simp; omega))); intro hk4_0; (try simp only [List.setIfInBounds_toArray, List.set_cons_zero, List.set_cons_succ] at hk4_0); have hc4_0 := hk4_0.arr; have hf4_0 := hk4_0.frz; have hl4_0 := hk4_0.lt; apply bk_then (w3.heap.size) hb4; (focus (repeat' first | (with_reducible assumption) | ((with_reducible apply Bk.new); (focus (simp; done))) | (with_reducible apply Bk.alloc) | (with_reducible apply Bk.set) | (with_reducible apply Bk.other) | (with_reducible apply Bk.drew) | (first | (with_reducible exact Nat.le_refl _) | (with_reducible assumption) | omega | (simp; omega) | (simp; done)) | (simp; omega))); intro hk4_1; (try simp only [List.setIfInBounds_toArray, List.set_cons_zero, List.set_cons_succ] at hk4_1); have hc4_1 := hk4_1.arr; have hf4_1 := hk4_1.frz; have hl4_1 := hk4_1.lt; (try simp at hz4); replace hb4 : Below w.heap.size w w4 := Below.then (by (repeat' first | (with_reducible exact Below.refl _ _) | (with_reducible assumption) | (with_reducible refine Below.alloc ?_ ?_ _) | (with_reducible refine Below.drew ?_) | (with_reducible refine below_drewN' ?_ _) | (with_reducible refine Below.setCell ?_ ?_ _) | (first | (with_reducible exact Nat.le_refl _) | (with_reducible assumption) | omega | (simp; omega) | (simp; done)))) hb4
    go_wp2_with (go_at_call 64; refine (awake10 _).mono ?_; rintro e w5 ⟨rfl, hb5⟩; have hz5 := hb5.size; (try simp at hz5); replace hb5 : Below w.heap.size w w5 := Below.then (by (repeat' first | (with_reducible exact Below.refl _ _) | (with_reducible assumption) | (with_reducible refine Below.alloc ?_ ?_ _) | (with_reducible refine Below.drew ?_) | (with_reducible refine below_drewN' ?_ _) | (with_reducible refine Below.setCell ?_ ?_ _) | (first | (with_reducible exact Nat.le_refl _) | (with_reducible assumption) | omega | (simp; omega) | (simp; done)))) hb5)
    all_goals first
      | (exfalso; refine HG.out ⟨?_, ?_, ?_⟩ <;> first | omega | (simp_all; done))
      | (go_ret; exact ⟨rfl, by (repeat' first | (with_reducible exact Below.refl _ _) | (with_reducible assumption) | (with_reducible refine Below.alloc ?_ ?_ _) | (with_reducible refine Below.drew ?_) | (with_reducible refine below_drewN' ?_ _) | (with_reducible refine Below.setCell ?_ ?_ _) | (first | (with_reducible exact Nat.le_refl _) | (with_reducible assumption) | omega | (simp; omega) | (simp; done)))⟩)
end Go.Proofs.Ytmefbkfapeijgaa
