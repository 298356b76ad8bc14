/- The law about receiving. -/
import Derived.Test.YtmefbkfapeijgaaNicG
import Derived.Test.YtmefbkfapeijgaaDskM
namespace Go.Proofs.Ytmefbkfapeijgaa
open Go.RowKit

theorem nreceive_at {k : Nat} (n : Nic) (A : Option Addr) (c : Nat) (xs : List Nat) (hx : xs.length = k) (l : List UInt8) (w : World) (ho : n.Ok) (hn : k ≤ 1048576) (hc : k ≤ c) (hll : l.length ≤ 9223372036854775807) (hr : Rd w w.heap.size A (ws xs)) (hw : Wd xs) (n2 : Nic) (hd : rNic n k l.length = n2) (ok : Bool) (hok : rOk n k l.length = ok) (by_ : List UInt8) (hby : rBy n xs l = by_) :
    Calls Try.prog 65 #[n.V, .slice A k c, .string (str l)] w (RcvOut n2 k ok by_ w) := by
  subst hx hd hok hby; exact nreceive_any n A c xs l w ho hn hc hll hr hw
theorem rreceive_at {k : Nat} (n : Nic) (A : Option Addr) (c : Nat) (xs : List Nat) (hx : xs.length = k) (l : List UInt8) (w : World) (ho : n.Ok) (hn : k ≤ 1048576) (hn0 : 0 < k) (hll : l.length ≤ 9223372036854775807) (hr : Rd w w.heap.size A (ws xs)) (hw : Wd xs) (n2 : Nic) (hd : rNic n k l.length = n2) (ok : Bool) (hok : rOk n k l.length = ok) (by_ : List UInt8) (hby : rBy n xs l = by_) :
    Calls Try.prog 74 #[n.V, .slice A k c, .string (str l)] w (RcvOut n2 k ok by_ w) := by
  subst hx hd hok hby; exact rreceive_any n A c xs l w ho hn hn0 hll hr hw
theorem data_list (n m : Int) (w : World) (h0 : 0 ≤ m) (h1 : m ≤ 200) :
    Calls Try.prog 39 #[.int .i64 n, .int .i64 m] w fun e w' => ∃ l : List UInt8, e = .returned (.string (str l)) ∧ (l.length : Int) = m ∧ Below w.heap.size w w' := by
  obtain ⟨k, rfl⟩ : ∃ k : Nat, m = k := ⟨m.toNat, by omega⟩
  exact (data_any n k w (by omega)).mono fun e w' ⟨he, hb⟩ => ⟨_, he, by simp, hb⟩

set_option maxRecDepth 100000 in
set_option maxHeartbeats 4000000 in
theorem nreceives_any (d : Nic) (raw : Bool) (n pages : Int) (fl : List UInt8) (made : Bool) (w : World) (ho : d.Ok)
    (hp1 : -9223372036854775808 ≤ pages) (hp2 : pages ≤ 9223372036854775807) (hfl : fl.length ≤ 9223372036854775807) :
    Calls Try.prog 19 #[d.V, .bool raw, .int .i64 n, .int .i64 pages, .string (str fl), .bool made] w fun e w' => e = .returned (.bool true) ∧ Below w.heap.size w w' := by
  have CS := Lib.hid (fun W => shaped10 d raw n W ho)
  have CW := Lib.hid (fun W => words10 n pages W hp1 hp2)
  obtain ⟨y, e5, h5a, h5b⟩ : ∃ y, mix n 13 = y ∧ 0 ≤ y ∧ y ≤ 9223372036854775807 := ⟨_, rfl, mix_range _ _⟩
  have C5 := Lib.hid (fun W => (e5 ▸ mix_any n 13 W))
  obtain ⟨q, hq, hq0, hq5⟩ : ∃ q, y % 140 = q ∧ 0 ≤ q ∧ q < 140 := ⟨_, rfl, Int.emod_nonneg _ (by omega), Int.emod_lt_of_pos _ (by omega)⟩
  have CR := Lib.hid (fun W => (hq ▸ round_any y 140 W (by omega) (by omega) (by omega) (by omega)))
  have CD := Lib.hid (fun W => data_list n q W hq0 (by omega))
  obtain ⟨fr0, ln0, po0, bu0, re0, go0⟩ := d
  rw [N_mk] at CS ⊢
  clear hq e5 h5a h5b hp1 hp2 ho
  by_cases hlong : made = false ∧ 300 < fl.length
  · obtain ⟨rfl, hlg⟩ := hlong
    have g : decide ((300 : Int) < fl.length) = true := by simp; omega
    go_enter Try.func19, Try.ntmps19
    go_wp2_with fail
    refine (CS.out _).mono ?_; rintro e w1 ⟨⟨fr, ln, po, bu, re, go⟩, rfl, ho1, hb1⟩
    simp only [N_mk]
    have hz1 := hb1.size; apply bk_then (w.heap.size) hb1; (focus (repeat' first | (with_reducible assumption) | ((with_reducible apply Bk.new); (focus (simp; done))) | (with_reducible apply Bk.alloc) | (with_reducible apply Bk.set) | (with_reducible apply Bk.other) | (with_reducible apply Bk.drew) | (first | (with_reducible exact Nat.le_refl _) | (with_reducible assumption) | omega | (simp; omega) | (simp; done)) | (simp; omega))); intro hk1_0; have hc1_0 := hk1_0.arr; have hf1_0 := hk1_0.frz; have hl1_0 := hk1_0.lt; (try simp at hz1); replace hb1 : Below w.heap.size w w1 := Below.then (by (repeat' first | (with_reducible exact Below.refl _ _) | (with_reducible assumption) | (with_reducible refine Below.alloc ?_ ?_ _) | (with_reducible refine Below.drew ?_) | (with_reducible refine below_drewN' ?_ _) | (with_reducible refine Below.setCell ?_ ?_ _) | (first | (with_reducible exact Nat.le_refl _) | (with_reducible assumption) | omega | (simp; omega) | (simp; done)))) hb1
    go_wp2_with fail
    refine (CW.out _).mono ?_; rintro e w2 ⟨A, c, N, us, rfl, hNc, hlu, hwu, hN1, hN6, hN, hown, hb2⟩
    clear hlu hwu hN hN1 hN6 hown
    have hz2 := hb2.size; apply bk_then (w.heap.size) hb2; (focus (repeat' first | (with_reducible assumption) | ((with_reducible apply Bk.new); (focus (simp; done))) | (with_reducible apply Bk.alloc) | (with_reducible apply Bk.set) | (with_reducible apply Bk.other) | (with_reducible apply Bk.drew) | (first | (with_reducible exact Nat.le_refl _) | (with_reducible assumption) | omega | (simp; omega) | (simp; done)) | (simp; omega))); intro hk2_0; (try simp only [List.setIfInBounds_toArray, List.set_cons_zero, List.set_cons_succ] at hk2_0); have hc2_0 := hk2_0.arr; have hf2_0 := hk2_0.frz; have hl2_0 := hk2_0.lt; (try simp at hz2); replace hb2 : Below w.heap.size w w2 := Below.then (by (repeat' first | (with_reducible exact Below.refl _ _) | (with_reducible assumption) | (with_reducible refine Below.alloc ?_ ?_ _) | (with_reducible refine Below.drew ?_) | (with_reducible refine below_drewN' ?_ _) | (with_reducible refine Below.setCell ?_ ?_ _) | (first | (with_reducible exact Nat.le_refl _) | (with_reducible assumption) | omega | (simp; omega) | (simp; done)))) hb2
    go_wp2_with (go_at_call 64; refine (awake10 _).mono ?_; rintro e w3 ⟨rfl, hb3⟩; have hz3 := hb3.size; (try simp at hz3); replace hb3 : Below w.heap.size w w3 := Below.then (by (repeat' first | (with_reducible exact Below.refl _ _) | (with_reducible assumption) | (with_reducible refine Below.alloc ?_ ?_ _) | (with_reducible refine Below.drew ?_) | (with_reducible refine below_drewN' ?_ _) | (with_reducible refine Below.setCell ?_ ?_ _) | (first | (with_reducible exact Nat.le_refl _) | (with_reducible assumption) | omega | (simp; omega) | (simp; done)))) hb3)
    ((try simp only [Exit.inBlock, Exit.then]); first | (refine bodyPost_ret (results_tmp rfl _ _ _) rfl ?_) | go_ret2 | go_ret3 | (refine bodyPost_ret (by simp [results, Try.results19, go_sem]; try with_reducible rfl) rfl ?_))
    exact ⟨rfl, by (repeat' first | (with_reducible exact Below.refl _ _) | (with_reducible assumption) | (with_reducible refine Below.alloc ?_ ?_ _) | (with_reducible refine Below.drew ?_) | (with_reducible refine below_drewN' ?_ _) | (with_reducible refine Below.setCell ?_ ?_ _) | (first | (with_reducible exact Nat.le_refl _) | (with_reducible assumption) | omega | (simp; omega) | (simp; done)))⟩
  have hshort : made = false → fl.length ≤ 300 := fun h => Nat.not_lt.mp fun h1 => hlong ⟨h, h1⟩
  clear hlong
  cases made
  case' false => have hed3 := hshort rfl; have g : decide ((300 : Int) < fl.length) = false := by simp; omega
  all_goals
    clear hshort hfl
    go_enter Try.func19, Try.ntmps19
    go_wp2_with fail
    refine (CS.out _).mono ?_; rintro e w1 ⟨⟨fr, ln, po, bu, re, go⟩, rfl, ho1, hb1⟩
    have HO1 := Lib.hid ho1; clear ho1
    simp only [N_mk]
    have hz1 := hb1.size; apply bk_then (w.heap.size) hb1; (focus (repeat' first | (with_reducible assumption) | ((with_reducible apply Bk.new); (focus (simp; done))) | (with_reducible apply Bk.alloc) | (with_reducible apply Bk.set) | (with_reducible apply Bk.other) | (with_reducible apply Bk.drew) | (first | (with_reducible exact Nat.le_refl _) | (with_reducible assumption) | omega | (simp; omega) | (simp; done)) | (simp; omega))); intro hk1_0; have hc1_0 := hk1_0.arr; have hf1_0 := hk1_0.frz; have hl1_0 := hk1_0.lt; (try simp at hz1); replace hb1 : Below w.heap.size w w1 := Below.then (by (repeat' first | (with_reducible exact Below.refl _ _) | (with_reducible assumption) | (with_reducible refine Below.alloc ?_ ?_ _) | (with_reducible refine Below.drew ?_) | (with_reducible refine below_drewN' ?_ _) | (with_reducible refine Below.setCell ?_ ?_ _) | (first | (with_reducible exact Nat.le_refl _) | (with_reducible assumption) | omega | (simp; omega) | (simp; done)))) hb1
    go_wp2_with fail
    refine (CW.out _).mono ?_; rintro e w2 ⟨A, c, N, us, rfl, hNc, hlu, hwu, hN1, hN6, hN, hown, hb2⟩
    have HN := Lib.hid (⟨hlu, hwu, hN, hN1, hN6⟩ : us.length = N ∧ Wd us ∧ N = 32 * pg N ∧ 1 ≤ pg N ∧ pg N ≤ 6)
    have hN2 : N ≤ 192 := by omega
    have hN3 : 0 < N := by omega
    have HU := Lib.hid (row_nw hown)
    clear hlu hwu hN hN1 hN6 hown
    have hz2 := hb2.size; apply bk_then (w.heap.size) hb2; (focus (repeat' first | (with_reducible assumption) | ((with_reducible apply Bk.new); (focus (simp; done))) | (with_reducible apply Bk.alloc) | (with_reducible apply Bk.set) | (with_reducible apply Bk.other) | (with_reducible apply Bk.drew) | (first | (with_reducible exact Nat.le_refl _) | (with_reducible assumption) | omega | (simp; omega) | (simp; done)) | (simp; omega))); intro hk2_0; (try simp only [List.setIfInBounds_toArray, List.set_cons_zero, List.set_cons_succ] at hk2_0); have hc2_0 := hk2_0.arr; have hf2_0 := hk2_0.frz; have hl2_0 := hk2_0.lt; (try simp at hz2); replace hb2 : Below w.heap.size w w2 := Below.then (by (repeat' first | (with_reducible exact Below.refl _ _) | (with_reducible assumption) | (with_reducible refine Below.alloc ?_ ?_ _) | (with_reducible refine Below.drew ?_) | (with_reducible refine below_drewN' ?_ _) | (with_reducible refine Below.setCell ?_ ?_ _) | (first | (with_reducible exact Nat.le_refl _) | (with_reducible assumption) | omega | (simp; omega) | (simp; done)))) hb2
    go_wp2_with (first | (go_at_call 37; refine (C5.out _).mono ?_; rintro e w' ⟨rfl, rfl⟩) | (go_at_call 26; refine (CR.out _).mono ?_; rintro e w' ⟨rfl, rfl⟩) | (go_at_call 39; refine (CD.out _).mono ?_; rintro e w3 ⟨fl, rfl, hfm, hb3⟩; have hed3 : fl.length ≤ 300 := (by omega); have g : decide ((300 : Int) < fl.length) = false := (by simp; omega); have hz3 := hb3.size; apply bk_then (w.heap.size) hb3; (focus (repeat' first | (with_reducible assumption) | ((with_reducible apply Bk.new); (focus (simp; done))) | (with_reducible apply Bk.alloc) | (with_reducible apply Bk.set) | (with_reducible apply Bk.other) | (with_reducible apply Bk.drew) | (first | (with_reducible exact Nat.le_refl _) | (with_reducible assumption) | omega | (simp; omega) | (simp; done)) | (simp; omega))); intro hk3_0; (try simp only [List.setIfInBounds_toArray, List.set_cons_zero, List.set_cons_succ] at hk3_0); have hc3_0 := hk3_0.arr; have hf3_0 := hk3_0.frz; have hl3_0 := hk3_0.lt; (try simp at hz3); replace HU := Lib.hid (HU.out.keep (Keeps.below (by repeat' first | (with_reducible exact Keeps.refl _ _) | (with_reducible refine Keeps.alloc ?_ _) | (with_reducible refine Keeps.setCell ?_ ?_ _) | (with_reducible refine Keeps.drew ?_) | (with_reducible refine Keeps.drewN ?_ _) | (first | (with_reducible exact Nat.le_refl _) | (with_reducible assumption) | omega | (simp; omega) | (simp; done))) hb3)); replace hb3 : Below w.heap.size w w3 := Below.then (by (repeat' first | (with_reducible exact Below.refl _ _) | (with_reducible assumption) | (with_reducible refine Below.alloc ?_ ?_ _) | (with_reducible refine Below.drew ?_) | (with_reducible refine below_drewN' ?_ _) | (with_reducible refine Below.setCell ?_ ?_ _) | (first | (with_reducible exact Nat.le_refl _) | (with_reducible assumption) | omega | (simp; omega) | (simp; done)))) hb3))
    refine (nreceive_at ⟨fr, ln, po, bu, re, go⟩ A c us HN.out.1 fl _ HO1.out (by omega) hNc (by omega) (HU.out.keep (by repeat' first | (with_reducible exact Keeps.refl _ _) | (with_reducible refine Keeps.alloc ?_ _) | (with_reducible refine Keeps.setCell ?_ ?_ _) | (with_reducible refine Keeps.drew ?_) | (with_reducible refine Keeps.drewN ?_ _) | (first | (with_reducible exact Nat.le_refl _) | (with_reducible assumption) | omega | (simp; omega) | (simp; done)))).rd HN.out.2.1 _ rfl _ rfl _ rfl).mono ?_
    generalize hd2 : rNic ⟨fr, ln, po, bu, re, go⟩ N fl.length = d2
    generalize hok : rOk ⟨fr, ln, po, bu, re, go⟩ N fl.length = ok
    generalize hby : rBy ⟨fr, ln, po, bu, re, go⟩ us fl = by_
    have HD2 := Lib.hid hd2; have HOK := Lib.hid hok; have HBY := Lib.hid hby; clear hd2 hok hby
    obtain ⟨fr', ln', po', bu', re', go'⟩ := d2
    simp only [RcvOut, N_mk]
    rintro e w4 ⟨A4, c4, us4, rfl, hwu4, hlu4, hby4, hn4, _, hb4⟩
    have HN4 := Lib.hid hn4; have HW4 := Lib.hid hwu4; have HL4 := Lib.hid hlu4; have HB4 := Lib.hid hby4; clear hn4 hwu4 hlu4 hby4
    have hz4 := hb4.size; apply bk_then (w.heap.size) hb4; (focus (repeat' first | (with_reducible assumption) | ((with_reducible apply Bk.new); (focus (simp; done))) | (with_reducible apply Bk.alloc) | (with_reducible apply Bk.set) | (with_reducible apply Bk.other) | (with_reducible apply Bk.drew) | (first | (with_reducible exact Nat.le_refl _) | (with_reducible assumption) | omega | (simp; omega) | (simp; done)) | (simp; omega))); intro hk4_0; (try simp only [List.setIfInBounds_toArray, List.set_cons_zero, List.set_cons_succ] at hk4_0); have hc4_0 := hk4_0.arr; have hf4_0 := hk4_0.frz; have hl4_0 := hk4_0.lt; (try simp at hz4); replace HU := Lib.hid (HU.out.keep (Keeps.below (by repeat' first | (with_reducible exact Keeps.refl _ _) | (with_reducible refine Keeps.alloc ?_ _) | (with_reducible refine Keeps.setCell ?_ ?_ _) | (with_reducible refine Keeps.drew ?_) | (with_reducible refine Keeps.drewN ?_ _) | (first | (with_reducible exact Nat.le_refl _) | (with_reducible assumption) | omega | (simp; omega) | (simp; done))) hb4)); replace hb4 : Below w.heap.size w w4 := Below.then (by (repeat' first | (with_reducible exact Below.refl _ _) | (with_reducible assumption) | (with_reducible refine Below.alloc ?_ ?_ _) | (with_reducible refine Below.drew ?_) | (with_reducible refine below_drewN' ?_ _) | (with_reducible refine Below.setCell ?_ ?_ _) | (first | (with_reducible exact Nat.le_refl _) | (with_reducible assumption) | omega | (simp; omega) | (simp; done)))) hb4
    go_wp2_with fail
    refine (rreceive_at ⟨fr, ln, po, bu, re, go⟩ A c us HN.out.1 fl _ HO1.out (by omega) hN3 (by omega) (HU.out.keep (by repeat' first | (with_reducible exact Keeps.refl _ _) | (with_reducible refine Keeps.alloc ?_ _) | (with_reducible refine Keeps.setCell ?_ ?_ _) | (with_reducible refine Keeps.drew ?_) | (with_reducible refine Keeps.drewN ?_ _) | (first | (with_reducible exact Nat.le_refl _) | (with_reducible assumption) | omega | (simp; omega) | (simp; done)))).rd HN.out.2.1 _ HD2.out _ HOK.out _ HBY.out).mono ?_
    simp only [RcvOut, N_mk]
    rintro e w5 ⟨A5, c5, us5, rfl, hwu5, hlu5, hby5, hn5, _, hb5⟩
    obtain rfl : us5 = us4 := bytesOf_inj hwu5 HW4.out (hby5.trans HB4.out.symm)
    have HN5 := Lib.hid hn5; clear hn5 hwu5 hlu5 hby5
    have hz5 := hb5.size; apply bk_then (w.heap.size) hb5; (focus (repeat' first | (with_reducible assumption) | ((with_reducible apply Bk.new); (focus (simp; done))) | (with_reducible apply Bk.alloc) | (with_reducible apply Bk.set) | (with_reducible apply Bk.other) | (with_reducible apply Bk.drew) | (first | (with_reducible exact Nat.le_refl _) | (with_reducible assumption) | omega | (simp; omega) | (simp; done)) | (simp; omega))); intro hk5_0; (try simp only [List.setIfInBounds_toArray, List.set_cons_zero, List.set_cons_succ] at hk5_0); have hc5_0 := hk5_0.arr; have hf5_0 := hk5_0.frz; have hl5_0 := hk5_0.lt; apply bk_then (w4.heap.size) hb5; (focus (repeat' first | (with_reducible assumption) | ((with_reducible apply Bk.new); (focus (simp; done))) | (with_reducible apply Bk.alloc) | (with_reducible apply Bk.set) | (with_reducible apply Bk.other) | (with_reducible apply Bk.drew) | (first | (with_reducible exact Nat.le_refl _) | (with_reducible assumption) | omega | (simp; omega) | (simp; done)) | (simp; omega))); intro hk5_1; (try simp only [List.setIfInBounds_toArray, List.set_cons_zero, List.set_cons_succ] at hk5_1); have hc5_1 := hk5_1.arr; have hf5_1 := hk5_1.frz; have hl5_1 := hk5_1.lt; (try simp at hz5); replace HN4 := Lib.hid (HN4.out.keep (Keeps.below (by repeat' first | (with_reducible exact Keeps.refl _ _) | (with_reducible refine Keeps.alloc ?_ _) | (with_reducible refine Keeps.setCell ?_ ?_ _) | (with_reducible refine Keeps.drew ?_) | (with_reducible refine Keeps.drewN ?_ _) | (first | (with_reducible exact Nat.le_refl _) | (with_reducible assumption) | omega | (simp; omega) | (simp; done))) hb5)); replace hb5 : Below w.heap.size w w5 := Below.then (by (repeat' first | (with_reducible exact Below.refl _ _) | (with_reducible assumption) | (with_reducible refine Below.alloc ?_ ?_ _) | (with_reducible refine Below.drew ?_) | (with_reducible refine below_drewN' ?_ _) | (with_reducible refine Below.setCell ?_ ?_ _) | (first | (with_reducible exact Nat.le_refl _) | (with_reducible assumption) | omega | (simp; omega) | (simp; done)))) hb5
    go_wp2_with fail
    have HS : (fun w' : World => (w.heap.size < w'.heap.size ∧ ∀ o, w'.cell? ⟨w.heap.size, o, none⟩ = (#[.int .u32 fr, .int .u32 ln, .bool po, .int .u32 bu, .bool re, .int .u32 go] : Array Value)[o]?) ∧ (w4.heap.size < w'.heap.size ∧ ∀ o, w'.cell? ⟨w4.heap.size, o, none⟩ = (#[.int .u32 fr', .int .u32 ln', .bool po', .int .u32 bu', .bool re', .int .u32 go'] : Array Value)[o]?) ∧ (w5.heap.size < w'.heap.size ∧ ∀ o, w'.cell? ⟨w5.heap.size, o, none⟩ = (#[.int .u32 fr', .int .u32 ln', .bool po', .int .u32 bu', .bool re', .int .u32 go'] : Array Value)[o]?) ∧ Nw w.heap.size w' A4 (ws us5) ∧ Nw w.heap.size w' A5 (ws us5) ∧ Below w.heap.size w w') (w5.alloc (Obj.cells #[.int .u32 fr', .int .u32 ln', .bool po', .int .u32 bu', .bool re', .int .u32 go'] 67)) := by
      refine ⟨⟨by (first | (with_reducible exact Nat.le_refl _) | (with_reducible assumption) | omega | (simp; omega) | (simp; done)), ?_⟩, ⟨by (first | (with_reducible exact Nat.le_refl _) | (with_reducible assumption) | omega | (simp; omega) | (simp; done)), ?_⟩, ⟨by (first | (with_reducible exact Nat.le_refl _) | (with_reducible assumption) | omega | (simp; omega) | (simp; done)), ?_⟩, (HN4.out.keep (by repeat' first | (with_reducible exact Keeps.refl _ _) | (with_reducible refine Keeps.alloc ?_ _) | (with_reducible refine Keeps.setCell ?_ ?_ _) | (with_reducible refine Keeps.drew ?_) | (with_reducible refine Keeps.drewN ?_ _) | (first | (with_reducible exact Nat.le_refl _) | (with_reducible assumption) | omega | (simp; omega) | (simp; done)))).mono (by (first | (with_reducible exact Nat.le_refl _) | (with_reducible assumption) | omega | (simp; omega) | (simp; done))), (HN5.out.keep (by repeat' first | (with_reducible exact Keeps.refl _ _) | (with_reducible refine Keeps.alloc ?_ _) | (with_reducible refine Keeps.setCell ?_ ?_ _) | (with_reducible refine Keeps.drew ?_) | (with_reducible refine Keeps.drewN ?_ _) | (first | (with_reducible exact Nat.le_refl _) | (with_reducible assumption) | omega | (simp; omega) | (simp; done)))).mono (by (first | (with_reducible exact Nat.le_refl _) | (with_reducible assumption) | omega | (simp; omega) | (simp; done))), by (repeat' first | (with_reducible exact Below.refl _ _) | (with_reducible assumption) | (with_reducible refine Below.alloc ?_ ?_ _) | (with_reducible refine Below.drew ?_) | (with_reducible refine below_drewN' ?_ _) | (with_reducible refine Below.setCell ?_ ?_ _) | (first | (with_reducible exact Nat.le_refl _) | (with_reducible assumption) | omega | (simp; omega) | (simp; done)))⟩
      all_goals (repeat' first | (with_reducible assumption) | (with_reducible exact arr_new _ _ _ _) | ((with_reducible apply arr_new_at); (focus (simp; done))) | (with_reducible apply arr_alloc) | (with_reducible apply arr_set) | (with_reducible apply arr_other) | (with_reducible apply arr_drew) | (first | (with_reducible exact Nat.le_refl _) | (with_reducible assumption) | omega | (simp; omega) | (simp; done)) | (simp; omega))
    obtain ⟨W, hW⟩ : ∃ W, W = w5.alloc (Obj.cells #[.int .u32 fr', .int .u32 ln', .bool po', .int .u32 bu', .bool re', .int .u32 go'] 67) := ⟨_, rfl⟩
    rw [← hW] at HS ⊢
    clear hW
    go_region_held3 (fun w' => (w.heap.size < w'.heap.size ∧ ∀ o, w'.cell? ⟨w.heap.size, o, none⟩ = (#[.int .u32 fr, .int .u32 ln, .bool po, .int .u32 bu, .bool re, .int .u32 go] : Array Value)[o]?) ∧ (w4.heap.size < w'.heap.size ∧ ∀ o, w'.cell? ⟨w4.heap.size, o, none⟩ = (#[.int .u32 fr', .int .u32 ln', .bool po', .int .u32 bu', .bool re', .int .u32 go'] : Array Value)[o]?) ∧ (w5.heap.size < w'.heap.size ∧ ∀ o, w'.cell? ⟨w5.heap.size, o, none⟩ = (#[.int .u32 fr', .int .u32 ln', .bool po', .int .u32 bu', .bool re', .int .u32 go'] : Array Value)[o]?) ∧ Nw w.heap.size w' A4 (ws us5) ∧ Nw w.heap.size w' A5 (ws us5) ∧ Below w.heap.size w w')
      (first
        | exact ⟨HS.1, HS.2.1, HS.2.2.1, HS.2.2.2.1, HS.2.2.2.2.1, HS.2.2.2.2.2.drew⟩
        | (go_split_ands
           refine ⟨⟨?_, ?_⟩, ⟨?_, ?_⟩, ⟨?_, ?_⟩, ?_, ?_, ?_⟩
           all_goals first | exact lt_keep (by assumption) hbr | exact cell_keep (by assumption) (by assumption) hbr | exact nw_keep (by assumption) hbr | exact Below.then (by assumption) hbr))
      (first
        | (go_at_call 31; go_split_ands; refine (samew_b A4 A5 c4 c5 us5 HL4.out _ (by omega) (Nw.rd (by assumption)) (Nw.rd (by assumption))).mono ?_; rintro e wr ⟨rfl, hbr⟩)
        | (go_at_call 66; refine (npend_any ⟨fr, ln, po, bu, re, go⟩ _).mono ?_; rintro e wr ⟨rfl, hbr⟩)
        | (go_at_call 75; refine (rnpend_any ⟨fr, ln, po, bu, re, go⟩ _).mono ?_; rintro e wr ⟨rfl, hbr⟩)
        | (go_at_call 76; refine (nmay_any ⟨fr, ln, po, bu, re, go⟩ _ _ HO1.out).mono ?_; rintro e wr ⟨rfl, hbr⟩)
        | (go_at_call 77; refine (rnmay_any ⟨fr, ln, po, bu, re, go⟩ _ _ HO1.out).mono ?_; rintro e wr ⟨rfl, hbr⟩)
        | (go_at_call 64; refine (awake10 _).mono ?_; rintro e wr ⟨rfl, hbr⟩))
    all_goals
      go_wp2
      go_ret
      go_split_ands
      exact ⟨rfl, by assumption⟩
end Go.Proofs.Ytmefbkfapeijgaa
