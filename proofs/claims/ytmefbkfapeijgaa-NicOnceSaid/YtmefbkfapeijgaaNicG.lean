/- The law about the ports of the network card. -/
import Derived.Test.YtmefbkfapeijgaaNicE
import Derived.Test.YtmefbkfapeijgaaNicF
import Derived.Test.YtmefbkfapeijgaaDskF
import Derived.Test.YtmefbkfapeijgaaDskL
import Derived.Test.YtmefbkfapeijgaaMemI
import Derived.Deep.RegionHeld3
namespace Go.Proofs.Ytmefbkfapeijgaa
open Go.RowKit

theorem nout_at {n : Nat} (d : Nic) (A : Option Addr) (c : Nat) (xs : List Nat) (hx : xs.length = n) (port : Int) (v a : Nat) (r : Nic × List Outp) (hrr : nOut d xs port v a = r) (w : World) (ho : d.Ok) (hn : n ≤ 1048576) (hc : n ≤ c) (hr : Rd w w.heap.size A (ws xs)) (hw : Wd xs) (hv : v < 4294967296) :
    Calls Try.prog 60 #[d.V, .slice A n c, .int .i64 port, .int .u32 v, .int .u64 a] w (NOutPost r w) := by
  subst hx hrr; exact nout_any d A c xs port v a w ho hn hc hr hw hv
theorem rnout_at {n : Nat} (d : Nic) (A : Option Addr) (c : Nat) (xs : List Nat) (hx : xs.length = n) (port : Int) (v a : Nat) (r : Nic × List Outp) (hrr : nOut d xs port v a = r) (w : World) (ho : d.Ok) (hn : n ≤ 1048576) (hr : Rd w w.heap.size A (ws xs)) (hv : v < 4294967296) :
    Calls Try.prog 61 #[d.V, .slice A n c, .int .i64 port, .int .u32 v, .int .u64 a] w (NOutPost r w) := by
  subst hx hrr; exact rnout_any d A c xs port v a w ho hn hr hv
theorem nOut_few (d : Nic) (xs : List Nat) (port : Int) (v a : Nat) : (nOut d xs port v a).2.length ≤ 1 := by
  unfold nOut nSend; grind
theorem sameouts_c (A D : Option Addr) (c d : Nat) (l : List Outp) (w : World) (hn : l.length ≤ 1048576) (hr : Rd w w.heap.size A (os l)) (hs : Rd w w.heap.size D (os l)) :
    Calls Try.prog 56 #[.slice A l.length c, .slice D l.length d] w fun e w' => e = .returned (.bool true) ∧ Below w.heap.size w w' :=
  (sameouts_any A D c d l w hn hr hs).mono fun _ _ ⟨he, n, hw⟩ => ⟨he, by subst hw; exact below_drewN' (Below.refl _ _) n⟩

set_option maxRecDepth 100000 in
set_option maxHeartbeats 4000000 in
theorem nports_any (d : Nic) (raw : Bool) (n pages port : Int) (v : Nat) (small : Bool) (a : Nat) (w : World) (ho : d.Ok)
    (hp1 : -9223372036854775808 ≤ pages) (hp2 : pages ≤ 9223372036854775807) (hq1 : -9223372036854775808 ≤ port) (hq2 : port ≤ 9223372036854775807) (hv : v < 4294967296) :
    Calls Try.prog 11 #[d.V, .bool raw, .int .i64 n, .int .i64 pages, .int .i64 port, .int .u32 v, .bool small, .int .u64 a] w fun e w' => e = .returned (.bool true) ∧ Below w.heap.size w w' := by
  have CS := Lib.hid (fun W => shaped10 d raw n W ho)
  have CW := Lib.hid (fun W => words10 n pages W hp1 hp2)
  obtain ⟨q, hq, hq0, hq5⟩ : ∃ q, port % 5 = q ∧ 0 ≤ q ∧ q < 5 := ⟨_, rfl, Int.emod_nonneg _ (by omega), Int.emod_lt_of_pos _ (by omega)⟩
  have CR := Lib.hid (fun W => (hq ▸ round_any port 5 W hq1 hq2 (by omega) (by omega)))
  obtain ⟨v5, hv5, hv51⟩ : ∃ v5 : Nat, (v : Int) % 5 = v5 ∧ v5 < 5 := ⟨v % 5, by omega, by omega⟩
  have HV5 := Lib.hid hv5
  obtain ⟨fr0, ln0, po0, bu0, re0, go0⟩ := d
  rw [N_mk] at CS ⊢
  clear hq hv5 hp1 hp2 hq1 hq2 ho
  cases small
  all_goals
    go_enter Try.func11, Try.ntmps11
    go_wp2_with fail
    refine (CS.out _).mono ?_; rintro e w1 ⟨⟨fr, ln, po, bu, re, go⟩, rfl, ho1, hb1⟩
    have HO1 := Lib.hid ho1; clear ho1
    simp only [N_mk]
    have hz1 := hb1.size; apply bk_then (w.heap.size) hb1; (focus (repeat' first | (with_reducible assumption) | ((with_reducible apply Bk.new); (focus (simp; done))) | (with_reducible apply Bk.alloc) | (with_reducible apply Bk.set) | (with_reducible apply Bk.other) | (with_reducible apply Bk.drew) | (first | (with_reducible exact Nat.le_refl _) | (with_reducible assumption) | omega | (simp; omega) | (simp; done)) | (simp; omega))); intro hk1_0; have hc1_0 := hk1_0.arr; have hf1_0 := hk1_0.frz; have hl1_0 := hk1_0.lt; (try simp at hz1); replace hb1 : Below w.heap.size w w1 := Below.then (by (repeat' first | (with_reducible exact Below.refl _ _) | (with_reducible assumption) | (with_reducible refine Below.alloc ?_ ?_ _) | (with_reducible refine Below.drew ?_) | (with_reducible refine below_drewN' ?_ _) | (with_reducible refine Below.setCell ?_ ?_ _) | (first | (with_reducible exact Nat.le_refl _) | (with_reducible assumption) | omega | (simp; omega) | (simp; done)))) hb1
    go_wp2_with fail
    refine (CW.out _).mono ?_; rintro e w2 ⟨A, c, N, us, rfl, hNc, hlu, hwu, hN1, hN6, hN, hown, hb2⟩
    have HN := Lib.hid (⟨hlu, hwu, hN, hN1, hN6⟩ : us.length = N ∧ Wd us ∧ N = 32 * pg N ∧ 1 ≤ pg N ∧ pg N ≤ 6)
    have hN2 : N ≤ 192 := by omega
    have HU := Lib.hid (row_nw hown)
    clear hlu hwu hN hN1 hN6 hown
    have hz2 := hb2.size; apply bk_then (w.heap.size) hb2; (focus (repeat' first | (with_reducible assumption) | ((with_reducible apply Bk.new); (focus (simp; done))) | (with_reducible apply Bk.alloc) | (with_reducible apply Bk.set) | (with_reducible apply Bk.other) | (with_reducible apply Bk.drew) | (first | (with_reducible exact Nat.le_refl _) | (with_reducible assumption) | omega | (simp; omega) | (simp; done)) | (simp; omega))); intro hk2_0; (try simp only [List.setIfInBounds_toArray, List.set_cons_zero, List.set_cons_succ] at hk2_0); have hc2_0 := hk2_0.arr; have hf2_0 := hk2_0.frz; have hl2_0 := hk2_0.lt; (try simp at hz2); replace hb2 : Below w.heap.size w w2 := Below.then (by (repeat' first | (with_reducible exact Below.refl _ _) | (with_reducible assumption) | (with_reducible refine Below.alloc ?_ ?_ _) | (with_reducible refine Below.drew ?_) | (with_reducible refine below_drewN' ?_ _) | (with_reducible refine Below.setCell ?_ ?_ _) | (first | (with_reducible exact Nat.le_refl _) | (with_reducible assumption) | omega | (simp; omega) | (simp; done)))) hb2
    go_wp2_with (go_at_call 26; refine (CR.out _).mono ?_; rintro e w' ⟨rfl, rfl⟩)
    first | rw [HV5.out] | skip
    refine (nout_at ⟨fr, ln, po, bu, re, go⟩ A c us HN.out.1 _ _ a _ rfl _ HO1.out (by omega) hNc (HU.out.keep (by repeat' first | (with_reducible exact Keeps.refl _ _) | (with_reducible refine Keeps.alloc ?_ _) | (with_reducible refine Keeps.setCell ?_ ?_ _) | (with_reducible refine Keeps.drew ?_) | (with_reducible refine Keeps.drewN ?_ _) | (first | (with_reducible exact Nat.le_refl _) | (with_reducible assumption) | omega | (simp; omega) | (simp; done)))).rd HN.out.2.1 (by omega)).mono ?_
    generalize hr : nOut ⟨fr, ln, po, bu, re, go⟩ us _ _ a = r
    have HRR := Lib.hid hr
    have hfew : r.2.length ≤ 1 := hr ▸ nOut_few _ _ _ _ _
    clear hr
    obtain ⟨⟨fr', ln', po', bu', re', go'⟩, l⟩ := r
    simp only [NOutPost, N_mk] at hfew ⊢
    rintro e w3 ⟨A3, c3, rfl, hc3, hn3, hb3⟩
    have HN3 := Lib.hid hn3; clear hn3
    have hz3 := hb3.size; apply bk_then (w.heap.size) hb3; (focus (repeat' first | (with_reducible assumption) | ((with_reducible apply Bk.new); (focus (simp; done))) | (with_reducible apply Bk.alloc) | (with_reducible apply Bk.set) | (with_reducible apply Bk.other) | (with_reducible apply Bk.drew) | (first | (with_reducible exact Nat.le_refl _) | (with_reducible assumption) | omega | (simp; omega) | (simp; done)) | (simp; omega))); intro hk3_0; (try simp only [List.setIfInBounds_toArray, List.set_cons_zero, List.set_cons_succ] at hk3_0); have hc3_0 := hk3_0.arr; have hf3_0 := hk3_0.frz; have hl3_0 := hk3_0.lt; (try simp at hz3); replace HU := Lib.hid (HU.out.keep (Keeps.below (by repeat' first | (with_reducible exact Keeps.refl _ _) | (with_reducible refine Keeps.alloc ?_ _) | (with_reducible refine Keeps.setCell ?_ ?_ _) | (with_reducible refine Keeps.drew ?_) | (with_reducible refine Keeps.drewN ?_ _) | (first | (with_reducible exact Nat.le_refl _) | (with_reducible assumption) | omega | (simp; omega) | (simp; done))) hb3)); replace hb3 : Below w.heap.size w w3 := Below.then (by (repeat' first | (with_reducible exact Below.refl _ _) | (with_reducible assumption) | (with_reducible refine Below.alloc ?_ ?_ _) | (with_reducible refine Below.drew ?_) | (with_reducible refine below_drewN' ?_ _) | (with_reducible refine Below.setCell ?_ ?_ _) | (first | (with_reducible exact Nat.le_refl _) | (with_reducible assumption) | omega | (simp; omega) | (simp; done)))) hb3
    go_wp2_with fail
    refine (rnout_at ⟨fr, ln, po, bu, re, go⟩ A c us HN.out.1 _ _ a _ HRR.out _ HO1.out (by omega) (HU.out.keep (by repeat' first | (with_reducible exact Keeps.refl _ _) | (with_reducible refine Keeps.alloc ?_ _) | (with_reducible refine Keeps.setCell ?_ ?_ _) | (with_reducible refine Keeps.drew ?_) | (with_reducible refine Keeps.drewN ?_ _) | (first | (with_reducible exact Nat.le_refl _) | (with_reducible assumption) | omega | (simp; omega) | (simp; done)))).rd (by omega)).mono ?_
    simp only [NOutPost, N_mk]
    rintro e w4 ⟨A4, c4, rfl, hc4, hn4, hb4⟩
    have HN4 := Lib.hid hn4; clear hn4
    have hz4 := hb4.size; apply bk_then (w.heap.size) hb4; (focus (repeat' first | (with_reducible assumption) | ((with_reducible apply Bk.new); (focus (simp; done))) | (with_reducible apply Bk.alloc) | (with_reducible apply Bk.set) | (with_reducible apply Bk.other) | (with_reducible apply Bk.drew) | (first | (with_reducible exact Nat.le_refl _) | (with_reducible assumption) | omega | (simp; omega) | (simp; done)) | (simp; omega))); intro hk4_0; (try simp only [List.setIfInBounds_toArray, List.set_cons_zero, List.set_cons_succ] at hk4_0); have hc4_0 := hk4_0.arr; have hf4_0 := hk4_0.frz; have hl4_0 := hk4_0.lt; apply bk_then (w3.heap.size) hb4; (focus (repeat' first | (with_reducible assumption) | ((with_reducible apply Bk.new); (focus (simp; done))) | (with_reducible apply Bk.alloc) | (with_reducible apply Bk.set) | (with_reducible apply Bk.other) | (with_reducible apply Bk.drew) | (first | (with_reducible exact Nat.le_refl _) | (with_reducible assumption) | omega | (simp; omega) | (simp; done)) | (simp; omega))); intro hk4_1; (try simp only [List.setIfInBounds_toArray, List.set_cons_zero, List.set_cons_succ] at hk4_1); have hc4_1 := hk4_1.arr; have hf4_1 := hk4_1.frz; have hl4_1 := hk4_1.lt; (try simp at hz4); replace HN3 := Lib.hid (HN3.out.keep (Keeps.below (by repeat' first | (with_reducible exact Keeps.refl _ _) | (with_reducible refine Keeps.alloc ?_ _) | (with_reducible refine Keeps.setCell ?_ ?_ _) | (with_reducible refine Keeps.drew ?_) | (with_reducible refine Keeps.drewN ?_ _) | (first | (with_reducible exact Nat.le_refl _) | (with_reducible assumption) | omega | (simp; omega) | (simp; done))) hb4)); replace hb4 : Below w.heap.size w w4 := Below.then (by (repeat' first | (with_reducible exact Below.refl _ _) | (with_reducible assumption) | (with_reducible refine Below.alloc ?_ ?_ _) | (with_reducible refine Below.drew ?_) | (with_reducible refine below_drewN' ?_ _) | (with_reducible refine Below.setCell ?_ ?_ _) | (first | (with_reducible exact Nat.le_refl _) | (with_reducible assumption) | omega | (simp; omega) | (simp; done)))) hb4
    go_wp2_with fail
    have HS : (fun w' : World => (w.heap.size < w'.heap.size ∧ ∀ o, w'.cell? ⟨w.heap.size, o, none⟩ = (#[.int .u32 fr, .int .u32 ln, .bool po, .int .u32 bu, .bool re, .int .u32 go] : Array Value)[o]?) ∧ (w3.heap.size < w'.heap.size ∧ ∀ o, w'.cell? ⟨w3.heap.size, o, none⟩ = (#[.int .u32 fr', .int .u32 ln', .bool po', .int .u32 bu', .bool re', .int .u32 go'] : Array Value)[o]?) ∧ (w4.heap.size < w'.heap.size ∧ ∀ o, w'.cell? ⟨w4.heap.size, o, none⟩ = (#[.int .u32 fr', .int .u32 ln', .bool po', .int .u32 bu', .bool re', .int .u32 go'] : Array Value)[o]?) ∧ Nw w.heap.size w' A3 (os l) ∧ Nw w.heap.size w' A4 (os l) ∧ Below w.heap.size w w') (w4.alloc (Obj.cells #[.int .u32 fr', .int .u32 ln', .bool po', .int .u32 bu', .bool re', .int .u32 go'] 67)) := by
      refine ⟨⟨by (first | (with_reducible exact Nat.le_refl _) | (with_reducible assumption) | omega | (simp; omega) | (simp; done)), ?_⟩, ⟨by (first | (with_reducible exact Nat.le_refl _) | (with_reducible assumption) | omega | (simp; omega) | (simp; done)), ?_⟩, ⟨by (first | (with_reducible exact Nat.le_refl _) | (with_reducible assumption) | omega | (simp; omega) | (simp; done)), ?_⟩, (HN3.out.keep (by repeat' first | (with_reducible exact Keeps.refl _ _) | (with_reducible refine Keeps.alloc ?_ _) | (with_reducible refine Keeps.setCell ?_ ?_ _) | (with_reducible refine Keeps.drew ?_) | (with_reducible refine Keeps.drewN ?_ _) | (first | (with_reducible exact Nat.le_refl _) | (with_reducible assumption) | omega | (simp; omega) | (simp; done)))).mono (by (first | (with_reducible exact Nat.le_refl _) | (with_reducible assumption) | omega | (simp; omega) | (simp; done))), (HN4.out.keep (by repeat' first | (with_reducible exact Keeps.refl _ _) | (with_reducible refine Keeps.alloc ?_ _) | (with_reducible refine Keeps.setCell ?_ ?_ _) | (with_reducible refine Keeps.drew ?_) | (with_reducible refine Keeps.drewN ?_ _) | (first | (with_reducible exact Nat.le_refl _) | (with_reducible assumption) | omega | (simp; omega) | (simp; done)))).mono (by (first | (with_reducible exact Nat.le_refl _) | (with_reducible assumption) | omega | (simp; omega) | (simp; done))), by (repeat' first | (with_reducible exact Below.refl _ _) | (with_reducible assumption) | (with_reducible refine Below.alloc ?_ ?_ _) | (with_reducible refine Below.drew ?_) | (with_reducible refine below_drewN' ?_ _) | (with_reducible refine Below.setCell ?_ ?_ _) | (first | (with_reducible exact Nat.le_refl _) | (with_reducible assumption) | omega | (simp; omega) | (simp; done)))⟩
      all_goals (repeat' first | (with_reducible assumption) | (with_reducible exact arr_new _ _ _ _) | ((with_reducible apply arr_new_at); (focus (simp; done))) | (with_reducible apply arr_alloc) | (with_reducible apply arr_set) | (with_reducible apply arr_other) | (with_reducible apply arr_drew) | (first | (with_reducible exact Nat.le_refl _) | (with_reducible assumption) | omega | (simp; omega) | (simp; done)) | (simp; omega))
    obtain ⟨W, hW⟩ : ∃ W, W = w4.alloc (Obj.cells #[.int .u32 fr', .int .u32 ln', .bool po', .int .u32 bu', .bool re', .int .u32 go'] 67) := ⟨_, rfl⟩
    rw [← hW] at HS ⊢
    clear hW
    go_region_held3 (fun w' => (w.heap.size < w'.heap.size ∧ ∀ o, w'.cell? ⟨w.heap.size, o, none⟩ = (#[.int .u32 fr, .int .u32 ln, .bool po, .int .u32 bu, .bool re, .int .u32 go] : Array Value)[o]?) ∧ (w3.heap.size < w'.heap.size ∧ ∀ o, w'.cell? ⟨w3.heap.size, o, none⟩ = (#[.int .u32 fr', .int .u32 ln', .bool po', .int .u32 bu', .bool re', .int .u32 go'] : Array Value)[o]?) ∧ (w4.heap.size < w'.heap.size ∧ ∀ o, w'.cell? ⟨w4.heap.size, o, none⟩ = (#[.int .u32 fr', .int .u32 ln', .bool po', .int .u32 bu', .bool re', .int .u32 go'] : Array Value)[o]?) ∧ Nw w.heap.size w' A3 (os l) ∧ Nw w.heap.size w' A4 (os l) ∧ Below w.heap.size w w')
      (first
        | exact ⟨HS.1, HS.2.1, HS.2.2.1, HS.2.2.2.1, HS.2.2.2.2.1, HS.2.2.2.2.2.drew⟩
        | (go_split_ands
           refine ⟨⟨?_, ?_⟩, ⟨?_, ?_⟩, ⟨?_, ?_⟩, ?_, ?_, ?_⟩
           all_goals first | exact lt_keep (by assumption) hbr | exact cell_keep (by assumption) (by assumption) hbr | exact nw_keep (by assumption) hbr | exact Below.then (by assumption) hbr))
      (first
        | (go_at_call 62; refine (nin_any ⟨fr, ln, po, bu, re, go⟩ _ _).mono ?_; rintro e wr ⟨rfl, hbr⟩)
        | (go_at_call 63; refine (rnin_any ⟨fr, ln, po, bu, re, go⟩ _ _).mono ?_; rintro e wr ⟨rfl, hbr⟩)
        | (go_at_call 56; go_split_ands; refine (sameouts_c A3 A4 c3 c4 l _ (by omega) (Nw.rd (by assumption)) (Nw.rd (by assumption))).mono ?_; rintro e wr ⟨rfl, hbr⟩)
        | (go_at_call 64; refine (awake10 _).mono ?_; rintro e wr ⟨rfl, hbr⟩))
    all_goals
      go_wp2
      go_ret
      go_split_ands
      exact ⟨rfl, by assumption⟩
end Go.Proofs.Ytmefbkfapeijgaa
