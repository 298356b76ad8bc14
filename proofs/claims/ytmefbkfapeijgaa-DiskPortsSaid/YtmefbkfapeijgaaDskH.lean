/- The law about the ports of the disk controller. -/
import Derived.Test.YtmefbkfapeijgaaDskG
import Derived.Deep.RegionHeld3
namespace Go.Proofs.Ytmefbkfapeijgaa
open Go.RowKit

theorem dout_at {n : Nat} (d : Dsk) (A : Option Addr) (c : Nat) (xs : List Nat) (hx : xs.length = n) (port : Int) (v a : Nat) (r : Dsk × List Outp) (hrr : dOut d xs port v a = r) (w : World) (ho : d.Ok) (hn : n ≤ 1048576) (hc : n ≤ c) (hr : Rd w w.heap.size A (ws xs)) (hw : Wd xs) (hv : v < 4294967296) :
    Calls Try.prog 50 #[d.V, .slice A n c, .int .i64 port, .int .u32 v, .int .u64 a] w (OutsPost r w) := by
  subst hx hrr; exact dout_any d A c xs port v a w ho hn hc hr hw hv
theorem rdout_at {n : Nat} (d : Dsk) (A : Option Addr) (c : Nat) (xs : List Nat) (hx : xs.length = n) (port : Int) (v a : Nat) (r : Dsk × List Outp) (hrr : dOut d xs port v a = r) (w : World) (ho : d.Ok) (hn : n ≤ 1048576) (hr : Rd w w.heap.size A (ws xs)) (hv : v < 4294967296) :
    Calls Try.prog 51 #[d.V, .slice A n c, .int .i64 port, .int .u32 v, .int .u64 a] w (OutsPost r w) := by
  subst hx hrr; exact rdout_any d A c xs port v a w ho hn hr hv
theorem dOut_few (d : Dsk) (xs : List Nat) (port : Int) (v a : Nat) : (dOut d xs port v a).2.length ≤ 1 := by
  unfold dOut dIss; grind

theorem sameouts_b (A D : Option Addr) (c d : Nat) (l : List Outp) (w : World) (hn : l.length ≤ 1048576) (hr : Rd w w.heap.size A (os l)) (hs : Rd w w.heap.size D (os l)) :
    Calls Try.prog 56 #[.slice A l.length c, .slice D l.length d] w fun e w' => e = .returned (.bool true) ∧ Below w.heap.size w w' :=
  (sameouts_any A D c d l w hn hr hs).mono fun _ _ ⟨he, n, hw⟩ => ⟨he, by subst hw; exact below_drewN' (Below.refl _ _) n⟩

set_option maxRecDepth 100000 in
set_option maxHeartbeats 4000000 in
theorem dports_any (d : Dsk) (raw : Bool) (n pages port : Int) (v : Nat) (small : Bool) (a : Nat) (w : World) (ho : d.Ok) (hl : d.od.length ≤ 9223372036854775807)
    (hp1 : -9223372036854775808 ≤ pages) (hp2 : pages ≤ 9223372036854775807) (hq1 : -9223372036854775808 ≤ port) (hq2 : port ≤ 9223372036854775807) (hv : v < 4294967296) :
    Calls Try.prog 10 #[d.V, .bool raw, .int .i64 n, .int .i64 pages, .int .i64 port, .int .u32 v, .bool small, .int .u64 a] w fun e w' => e = .returned (.bool true) ∧ Below w.heap.size w w' := by
  have CS := Lib.hid (fun W => shaped9 d raw n W ho hl)
  have CW := Lib.hid (fun W => words9 n pages W hp1 hp2)
  obtain ⟨q, hq, hq0, hq5⟩ : ∃ q, port % 5 = q ∧ 0 ≤ q ∧ q < 5 := ⟨_, rfl, Int.emod_nonneg _ (by omega), Int.emod_lt_of_pos _ (by omega)⟩
  have CR := Lib.hid (fun W => (hq ▸ round_any port 5 W hq1 hq2 (by omega) (by omega)))
  obtain ⟨v5, hv5, hv51⟩ : ∃ v5 : Nat, (v : Int) % 5 = v5 ∧ v5 < 5 := ⟨v % 5, by omega, by omega⟩
  have HV5 := Lib.hid hv5
  obtain ⟨B0, bl0, fr0, st0, cm0, ob0, of0, od0⟩ := d
  rw [V_mk] at CS ⊢
  clear hq hv5 hp1 hp2 hq1 hq2 ho hl
  cases small
  all_goals
    go_enter Try.func10, Try.ntmps10
    go_wp2_with fail
    refine (CS.out _).mono ?_; rintro e w1 ⟨⟨B, bl, fr, st, cm, ob, of, od⟩, rfl, ho1, hod, hb1⟩
    have HO1 := Lib.hid ho1; clear ho1
    simp only [V_mk]
    have hz1 := hb1.size; apply cell_then (w.heap.size) hb1; (focus (go_size)); (focus (repeat' first | (with_reducible assumption) | (with_reducible exact arr_new _ _ _ _) | ((with_reducible apply arr_new_at); (focus (simp; done))) | (with_reducible apply arr_alloc) | (with_reducible apply arr_set) | (with_reducible apply arr_other) | (with_reducible apply arr_drew) | go_size | (simp; omega))); intro hc1_0; (try simp only [List.setIfInBounds_toArray, List.set_cons_zero, List.set_cons_succ] at hc1_0); have hf1_0 := (bone hb1 (w.heap.size) (by go_size)).2; have hl1_0 : w.heap.size < w1.heap.size := (Nat.lt_of_lt_of_le (by go_size) hz1); (try simp only [World.size_alloc, World.size_setCell, World.size_drew] at hz1); replace hb1 : Below w.heap.size w w1 := Below.then (by go_grown) hb1
    go_wp2_with fail
    refine (CW.out _).mono ?_; rintro e w2 ⟨A, c, N, us, rfl, hNc, hlu, hwu, hN1, hN6, hN, hown, hb2⟩
    have HN := Lib.hid (⟨hlu, hwu, hN, hN1, hN6⟩ : us.length = N ∧ Wd us ∧ N = 32 * pg N ∧ 1 ≤ pg N ∧ pg N ≤ 6)
    have hN2 : N ≤ 192 := by omega
    have HU := Lib.hid (row_nw hown)
    clear hlu hwu hN hN1 hN6 hown
    have hz2 := hb2.size; apply cell_then (w.heap.size) hb2; (focus (go_size)); (focus (repeat' first | (with_reducible assumption) | (with_reducible exact arr_new _ _ _ _) | ((with_reducible apply arr_new_at); (focus (simp; done))) | (with_reducible apply arr_alloc) | (with_reducible apply arr_set) | (with_reducible apply arr_other) | (with_reducible apply arr_drew) | go_size | (simp; omega))); intro hc2_0; (try simp only [List.setIfInBounds_toArray, List.set_cons_zero, List.set_cons_succ] at hc2_0); have hf2_0 := (bone hb2 (w.heap.size) (by go_size)).2; have hl2_0 : w.heap.size < w2.heap.size := (Nat.lt_of_lt_of_le (by go_size) hz2); (try simp only [World.size_alloc, World.size_setCell, World.size_drew] at hz2); replace hb2 : Below w.heap.size w w2 := Below.then (by go_grown) hb2
    go_wp2_with (go_at_call 26; refine (CR.out _).mono ?_; rintro e w' ⟨rfl, rfl⟩)
    first | rw [HV5.out] | skip
    refine (dout_at ⟨B, bl, fr, st, cm, ob, of, od⟩ A c us HN.out.1 _ _ a _ rfl _ HO1.out (by omega) hNc (HU.out.keep (by repeat' first | (with_reducible exact Keeps.refl _ _) | (with_reducible refine Keeps.alloc ?_ _) | (with_reducible refine Keeps.setCell ?_ ?_ _) | (with_reducible refine Keeps.drew ?_) | (with_reducible refine Keeps.drewN ?_ _) | go_size)).rd HN.out.2.1 (by omega)).mono ?_
    generalize hr : dOut ⟨B, bl, fr, st, cm, ob, of, od⟩ us _ _ a = r
    have HRR := Lib.hid hr
    have hfew : r.2.length ≤ 1 := hr ▸ dOut_few _ _ _ _ _
    clear hr
    obtain ⟨⟨B', bl', fr', st', cm', ob', of', od'⟩, l⟩ := r
    simp only [OutsPost, V_mk] at hfew ⊢
    rintro e w3 ⟨A3, c3, rfl, hc3, hn3, hb3⟩
    have HN3 := Lib.hid hn3; clear hn3
    have hz3 := hb3.size; apply cell_then (w.heap.size) hb3; (focus (go_size)); (focus (repeat' first | (with_reducible assumption) | (with_reducible exact arr_new _ _ _ _) | ((with_reducible apply arr_new_at); (focus (simp; done))) | (with_reducible apply arr_alloc) | (with_reducible apply arr_set) | (with_reducible apply arr_other) | (with_reducible apply arr_drew) | go_size | (simp; omega))); intro hc3_0; (try simp only [List.setIfInBounds_toArray, List.set_cons_zero, List.set_cons_succ] at hc3_0); have hf3_0 := (bone hb3 (w.heap.size) (by go_size)).2; have hl3_0 : w.heap.size < w3.heap.size := (Nat.lt_of_lt_of_le (by go_size) hz3); (try simp only [World.size_alloc, World.size_setCell, World.size_drew] at hz3); replace HU := Lib.hid (HU.out.keep (Keeps.below (by repeat' first | (with_reducible exact Keeps.refl _ _) | (with_reducible refine Keeps.alloc ?_ _) | (with_reducible refine Keeps.setCell ?_ ?_ _) | (with_reducible refine Keeps.drew ?_) | (with_reducible refine Keeps.drewN ?_ _) | go_size) hb3)); replace hb3 : Below w.heap.size w w3 := Below.then (by go_grown) hb3
    go_wp2_with fail
    refine (rdout_at ⟨B, bl, fr, st, cm, ob, of, od⟩ A c us HN.out.1 _ _ a _ HRR.out _ HO1.out (by omega) (HU.out.keep (by repeat' first | (with_reducible exact Keeps.refl _ _) | (with_reducible refine Keeps.alloc ?_ _) | (with_reducible refine Keeps.setCell ?_ ?_ _) | (with_reducible refine Keeps.drew ?_) | (with_reducible refine Keeps.drewN ?_ _) | go_size)).rd (by omega)).mono ?_
    simp only [OutsPost, V_mk]
    rintro e w4 ⟨A4, c4, rfl, hc4, hn4, hb4⟩
    have HN4 := Lib.hid hn4; clear hn4
    have hz4 := hb4.size; apply cell_then (w.heap.size) hb4; (focus (go_size)); (focus (repeat' first | (with_reducible assumption) | (with_reducible exact arr_new _ _ _ _) | ((with_reducible apply arr_new_at); (focus (simp; done))) | (with_reducible apply arr_alloc) | (with_reducible apply arr_set) | (with_reducible apply arr_other) | (with_reducible apply arr_drew) | go_size | (simp; omega))); intro hc4_0; (try simp only [List.setIfInBounds_toArray, List.set_cons_zero, List.set_cons_succ] at hc4_0); have hf4_0 := (bone hb4 (w.heap.size) (by go_size)).2; apply cell_then (w3.heap.size) hb4; (focus (go_size)); (focus (repeat' first | (with_reducible assumption) | (with_reducible exact arr_new _ _ _ _) | ((with_reducible apply arr_new_at); (focus (simp; done))) | (with_reducible apply arr_alloc) | (with_reducible apply arr_set) | (with_reducible apply arr_other) | (with_reducible apply arr_drew) | go_size | (simp; omega))); intro hc4_1; (try simp only [List.setIfInBounds_toArray, List.set_cons_zero, List.set_cons_succ] at hc4_1); have hf4_1 := (bone hb4 (w3.heap.size) (by go_size)).2; have hl4_0 : w.heap.size < w4.heap.size := (Nat.lt_of_lt_of_le (by go_size) hz4); have hl4_1 : w3.heap.size < w4.heap.size := (Nat.lt_of_lt_of_le (by go_size) hz4); (try simp only [World.size_alloc, World.size_setCell, World.size_drew] at hz4); replace HU := Lib.hid (HU.out.keep (Keeps.below (by repeat' first | (with_reducible exact Keeps.refl _ _) | (with_reducible refine Keeps.alloc ?_ _) | (with_reducible refine Keeps.setCell ?_ ?_ _) | (with_reducible refine Keeps.drew ?_) | (with_reducible refine Keeps.drewN ?_ _) | go_size) hb4)); replace HN3 := Lib.hid (HN3.out.keep (Keeps.below (by repeat' first | (with_reducible exact Keeps.refl _ _) | (with_reducible refine Keeps.alloc ?_ _) | (with_reducible refine Keeps.setCell ?_ ?_ _) | (with_reducible refine Keeps.drew ?_) | (with_reducible refine Keeps.drewN ?_ _) | go_size) hb4)); replace hb4 : Below w.heap.size w w4 := Below.then (by go_grown) hb4
    go_wp2_with fail
    refine (dreq_any ⟨B, bl, fr, st, cm, ob, of, od⟩ a _).mono ?_
    generalize hro : dReq ⟨B, bl, fr, st, cm, ob, of, od⟩ a = ro
    have HRO := Lib.hid hro; clear hro
    obtain ⟨⟨ok, oa, obl, oda⟩, oo⟩ := ro
    simp only [Outp.V]
    rintro e w5 ⟨rfl, hb5⟩
    have hz5 := hb5.size; apply cell_then (w.heap.size) hb5; (focus (go_size)); (focus (repeat' first | (with_reducible assumption) | (with_reducible exact arr_new _ _ _ _) | ((with_reducible apply arr_new_at); (focus (simp; done))) | (with_reducible apply arr_alloc) | (with_reducible apply arr_set) | (with_reducible apply arr_other) | (with_reducible apply arr_drew) | go_size | (simp; omega))); intro hc5_0; (try simp only [List.setIfInBounds_toArray, List.set_cons_zero, List.set_cons_succ] at hc5_0); have hf5_0 := (bone hb5 (w.heap.size) (by go_size)).2; apply cell_then (w3.heap.size) hb5; (focus (go_size)); (focus (repeat' first | (with_reducible assumption) | (with_reducible exact arr_new _ _ _ _) | ((with_reducible apply arr_new_at); (focus (simp; done))) | (with_reducible apply arr_alloc) | (with_reducible apply arr_set) | (with_reducible apply arr_other) | (with_reducible apply arr_drew) | go_size | (simp; omega))); intro hc5_1; (try simp only [List.setIfInBounds_toArray, List.set_cons_zero, List.set_cons_succ] at hc5_1); have hf5_1 := (bone hb5 (w3.heap.size) (by go_size)).2; apply cell_then (w4.heap.size) hb5; (focus (go_size)); (focus (repeat' first | (with_reducible assumption) | (with_reducible exact arr_new _ _ _ _) | ((with_reducible apply arr_new_at); (focus (simp; done))) | (with_reducible apply arr_alloc) | (with_reducible apply arr_set) | (with_reducible apply arr_other) | (with_reducible apply arr_drew) | go_size | (simp; omega))); intro hc5_2; (try simp only [List.setIfInBounds_toArray, List.set_cons_zero, List.set_cons_succ] at hc5_2); have hf5_2 := (bone hb5 (w4.heap.size) (by go_size)).2; have hl5_0 : w.heap.size < w5.heap.size := (Nat.lt_of_lt_of_le (by go_size) hz5); have hl5_1 : w3.heap.size < w5.heap.size := (Nat.lt_of_lt_of_le (by go_size) hz5); have hl5_2 : w4.heap.size < w5.heap.size := (Nat.lt_of_lt_of_le (by go_size) hz5); (try simp only [World.size_alloc, World.size_setCell, World.size_drew] at hz5); replace HN3 := Lib.hid (HN3.out.keep (Keeps.below (by repeat' first | (with_reducible exact Keeps.refl _ _) | (with_reducible refine Keeps.alloc ?_ _) | (with_reducible refine Keeps.setCell ?_ ?_ _) | (with_reducible refine Keeps.drew ?_) | (with_reducible refine Keeps.drewN ?_ _) | go_size) hb5)); replace HN4 := Lib.hid (HN4.out.keep (Keeps.below (by repeat' first | (with_reducible exact Keeps.refl _ _) | (with_reducible refine Keeps.alloc ?_ _) | (with_reducible refine Keeps.setCell ?_ ?_ _) | (with_reducible refine Keeps.drew ?_) | (with_reducible refine Keeps.drewN ?_ _) | go_size) hb5)); replace hb5 : Below w.heap.size w w5 := Below.then (by go_grown) hb5
    go_wp2_with fail
    refine (rdreq_any ⟨B, bl, fr, st, cm, ob, of, od⟩ a _).mono ?_
    rw [HRO.out]
    simp only [Outp.V]
    rintro e w6 ⟨rfl, hb6⟩
    have hz6 := hb6.size; apply cell_then (w.heap.size) hb6; (focus (go_size)); (focus (repeat' first | (with_reducible assumption) | (with_reducible exact arr_new _ _ _ _) | ((with_reducible apply arr_new_at); (focus (simp; done))) | (with_reducible apply arr_alloc) | (with_reducible apply arr_set) | (with_reducible apply arr_other) | (with_reducible apply arr_drew) | go_size | (simp; omega))); intro hc6_0; (try simp only [List.setIfInBounds_toArray, List.set_cons_zero, List.set_cons_succ] at hc6_0); have hf6_0 := (bone hb6 (w.heap.size) (by go_size)).2; apply cell_then (w3.heap.size) hb6; (focus (go_size)); (focus (repeat' first | (with_reducible assumption) | (with_reducible exact arr_new _ _ _ _) | ((with_reducible apply arr_new_at); (focus (simp; done))) | (with_reducible apply arr_alloc) | (with_reducible apply arr_set) | (with_reducible apply arr_other) | (with_reducible apply arr_drew) | go_size | (simp; omega))); intro hc6_1; (try simp only [List.setIfInBounds_toArray, List.set_cons_zero, List.set_cons_succ] at hc6_1); have hf6_1 := (bone hb6 (w3.heap.size) (by go_size)).2; apply cell_then (w4.heap.size) hb6; (focus (go_size)); (focus (repeat' first | (with_reducible assumption) | (with_reducible exact arr_new _ _ _ _) | ((with_reducible apply arr_new_at); (focus (simp; done))) | (with_reducible apply arr_alloc) | (with_reducible apply arr_set) | (with_reducible apply arr_other) | (with_reducible apply arr_drew) | go_size | (simp; omega))); intro hc6_2; (try simp only [List.setIfInBounds_toArray, List.set_cons_zero, List.set_cons_succ] at hc6_2); have hf6_2 := (bone hb6 (w4.heap.size) (by go_size)).2; apply cell_then (w5.heap.size) hb6; (focus (go_size)); (focus (repeat' first | (with_reducible assumption) | (with_reducible exact arr_new _ _ _ _) | ((with_reducible apply arr_new_at); (focus (simp; done))) | (with_reducible apply arr_alloc) | (with_reducible apply arr_set) | (with_reducible apply arr_other) | (with_reducible apply arr_drew) | go_size | (simp; omega))); intro hc6_3; (try simp only [List.setIfInBounds_toArray, List.set_cons_zero, List.set_cons_succ] at hc6_3); have hf6_3 := (bone hb6 (w5.heap.size) (by go_size)).2; have hl6_0 : w.heap.size < w6.heap.size := (Nat.lt_of_lt_of_le (by go_size) hz6); have hl6_1 : w3.heap.size < w6.heap.size := (Nat.lt_of_lt_of_le (by go_size) hz6); have hl6_2 : w4.heap.size < w6.heap.size := (Nat.lt_of_lt_of_le (by go_size) hz6); have hl6_3 : w5.heap.size < w6.heap.size := (Nat.lt_of_lt_of_le (by go_size) hz6); (try simp only [World.size_alloc, World.size_setCell, World.size_drew] at hz6); replace HN3 := Lib.hid (HN3.out.keep (Keeps.below (by repeat' first | (with_reducible exact Keeps.refl _ _) | (with_reducible refine Keeps.alloc ?_ _) | (with_reducible refine Keeps.setCell ?_ ?_ _) | (with_reducible refine Keeps.drew ?_) | (with_reducible refine Keeps.drewN ?_ _) | go_size) hb6)); replace HN4 := Lib.hid (HN4.out.keep (Keeps.below (by repeat' first | (with_reducible exact Keeps.refl _ _) | (with_reducible refine Keeps.alloc ?_ _) | (with_reducible refine Keeps.setCell ?_ ?_ _) | (with_reducible refine Keeps.drew ?_) | (with_reducible refine Keeps.drewN ?_ _) | go_size) hb6)); replace hb6 : Below w.heap.size w w6 := Below.then (by go_grown) hb6
    go_wp2_with fail
    have HS : (fun w' : World => (w.heap.size < w'.heap.size ∧ ∀ o, w'.cell? ⟨w.heap.size, o, none⟩ = (#[.int .u32 B, .int .u32 bl, .int .u32 fr, .int .i64 st, .int .i64 cm, .int .u32 ob, .int .u32 of, .string (str od)] : Array Value)[o]?) ∧ (w3.heap.size < w'.heap.size ∧ ∀ o, w'.cell? ⟨w3.heap.size, o, none⟩ = (#[.int .u32 B', .int .u32 bl', .int .u32 fr', .int .i64 st', .int .i64 cm', .int .u32 ob', .int .u32 of', .string (str od')] : Array Value)[o]?) ∧ (w4.heap.size < w'.heap.size ∧ ∀ o, w'.cell? ⟨w4.heap.size, o, none⟩ = (#[.int .u32 B', .int .u32 bl', .int .u32 fr', .int .i64 st', .int .i64 cm', .int .u32 ob', .int .u32 of', .string (str od')] : Array Value)[o]?) ∧ (w5.heap.size < w'.heap.size ∧ ∀ o, w'.cell? ⟨w5.heap.size, o, none⟩ = (#[.int .i64 ok, .int .u64 oa, .int .u32 obl, .string (str oda)] : Array Value)[o]?) ∧ (w6.heap.size < w'.heap.size ∧ ∀ o, w'.cell? ⟨w6.heap.size, o, none⟩ = (#[.int .i64 ok, .int .u64 oa, .int .u32 obl, .string (str oda)] : Array Value)[o]?) ∧ Nw w2.heap.size w' A3 (os l) ∧ Nw w3.heap.size w' A4 (os l) ∧ Below w.heap.size w w') (w6.alloc (Obj.cells #[.int .i64 ok, .int .u64 oa, .int .u32 obl, .string (str oda)] 60)) := by
      refine ⟨⟨by go_size, ?_⟩, ⟨by go_size, ?_⟩, ⟨by go_size, ?_⟩, ⟨by go_size, ?_⟩, ⟨by go_size, ?_⟩, HN3.out.keep (by repeat' first | (with_reducible exact Keeps.refl _ _) | (with_reducible refine Keeps.alloc ?_ _) | (with_reducible refine Keeps.setCell ?_ ?_ _) | (with_reducible refine Keeps.drew ?_) | (with_reducible refine Keeps.drewN ?_ _) | go_size), (HN4.out.keep (by repeat' first | (with_reducible exact Keeps.refl _ _) | (with_reducible refine Keeps.alloc ?_ _) | (with_reducible refine Keeps.setCell ?_ ?_ _) | (with_reducible refine Keeps.drew ?_) | (with_reducible refine Keeps.drewN ?_ _) | go_size)).mono (by go_size), by go_grown⟩
      all_goals (repeat' first | (with_reducible assumption) | (with_reducible exact arr_new _ _ _ _) | ((with_reducible apply arr_new_at); (focus (simp; done))) | (with_reducible apply arr_alloc) | (with_reducible apply arr_set) | (with_reducible apply arr_other) | (with_reducible apply arr_drew) | go_size | (simp; omega))
    obtain ⟨W, hW⟩ : ∃ W, W = w6.alloc (Obj.cells #[.int .i64 ok, .int .u64 oa, .int .u32 obl, .string (str oda)] 60) := ⟨_, rfl⟩
    rw [← hW] at HS ⊢
    clear hW
    go_region_held3 (fun w' => (w.heap.size < w'.heap.size ∧ ∀ o, w'.cell? ⟨w.heap.size, o, none⟩ = (#[.int .u32 B, .int .u32 bl, .int .u32 fr, .int .i64 st, .int .i64 cm, .int .u32 ob, .int .u32 of, .string (str od)] : Array Value)[o]?) ∧ (w3.heap.size < w'.heap.size ∧ ∀ o, w'.cell? ⟨w3.heap.size, o, none⟩ = (#[.int .u32 B', .int .u32 bl', .int .u32 fr', .int .i64 st', .int .i64 cm', .int .u32 ob', .int .u32 of', .string (str od')] : Array Value)[o]?) ∧ (w4.heap.size < w'.heap.size ∧ ∀ o, w'.cell? ⟨w4.heap.size, o, none⟩ = (#[.int .u32 B', .int .u32 bl', .int .u32 fr', .int .i64 st', .int .i64 cm', .int .u32 ob', .int .u32 of', .string (str od')] : Array Value)[o]?) ∧ (w5.heap.size < w'.heap.size ∧ ∀ o, w'.cell? ⟨w5.heap.size, o, none⟩ = (#[.int .i64 ok, .int .u64 oa, .int .u32 obl, .string (str oda)] : Array Value)[o]?) ∧ (w6.heap.size < w'.heap.size ∧ ∀ o, w'.cell? ⟨w6.heap.size, o, none⟩ = (#[.int .i64 ok, .int .u64 oa, .int .u32 obl, .string (str oda)] : Array Value)[o]?) ∧ Nw w2.heap.size w' A3 (os l) ∧ Nw w3.heap.size w' A4 (os l) ∧ Below w.heap.size w w')
      (first
        | exact ⟨HS.1, HS.2.1, HS.2.2.1, HS.2.2.2.1, HS.2.2.2.2.1, HS.2.2.2.2.2.1, HS.2.2.2.2.2.2.1, HS.2.2.2.2.2.2.2.drew⟩
        | (go_split_ands
           refine ⟨⟨?_, ?_⟩, ⟨?_, ?_⟩, ⟨?_, ?_⟩, ⟨?_, ?_⟩, ⟨?_, ?_⟩, ?_, ?_, ?_⟩
           all_goals first | exact lt_keep (by assumption) hbr | exact cell_keep (by assumption) (by assumption) hbr | exact nw_keep (by assumption) hbr | exact Below.then (by assumption) hbr))
      (first
        | (go_at_call 54; refine (din_any ⟨B, bl, fr, st, cm, ob, of, od⟩ _ _).mono ?_; rintro e wr ⟨rfl, hbr⟩)
        | (go_at_call 55; refine (rdin_any ⟨B, bl, fr, st, cm, ob, of, od⟩ _ _).mono ?_; rintro e wr ⟨rfl, hbr⟩)
        | (go_at_call 56; go_split_ands; refine (sameouts_b A3 A4 c3 c4 l _ (by omega) (Nw.rd (by assumption)) (Nw.rd (by assumption))).mono ?_; rintro e wr ⟨rfl, hbr⟩)
        | (go_at_call 57; refine (awake9 _).mono ?_; rintro e wr ⟨rfl, hbr⟩))
    all_goals
      go_wp2
      go_ret
      go_split_ands
      exact ⟨rfl, by assumption⟩
end Go.Proofs.Ytmefbkfapeijgaa
