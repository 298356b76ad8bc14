/- MemoryHashes, MemoryChanges: what the laws' calls do. -/
import Derived.Test.YtmefbkfapeijgaaLawC
import Derived.Test.YtmefbkfapeijgaaMemI
namespace Go.Proofs.Ytmefbkfapeijgaa
open Go.RowKit

theorem sameints_at {n : Nat} (A D : Option Addr) (c d : Nat) (xs : List Int) (hx : xs.length = n) (w : World) (hn : n ≤ 1048576) (hr : Rd w w.heap.size A (zs xs)) (hs : Rd w w.heap.size D (zs xs)) :
    Calls Try.prog 45 #[.slice A n c, .slice D n d] w fun e w' => e = .returned (.bool true) ∧ Below w.heap.size w w' := by
  subst hx; exact sameints_any A D c d xs w hn hr hs
theorem chg_self (xs : List Nat) : chg xs xs = [] := by
  unfold chg chgTo; simp

set_option maxRecDepth 100000 in
set_option maxHeartbeats 2000000 in
theorem hashes_any (A B D E : Option Addr) (c b d e : Nat) (xs us : List Nat) (raw : Bool) (ls ks : List Int) (pages other : Int) (w : World)
    (hp1 : -9223372036854775808 ≤ pages) (hp2 : pages ≤ 9223372036854775807) (ho1 : -9223372036854775808 ≤ other) (ho2 : other ≤ 9223372036854775807) (hc : xs.length ≤ c) (hb : us.length ≤ b)
    (hr : Rd w w.heap.size A (ws xs)) (hw : Wd xs) (hs : Rd w w.heap.size B (ws us)) (hu : Wd us) (hd : Rd w w.heap.size D (zs ls)) (he : Rd w w.heap.size E (zs ks)) :
    Calls Try.prog 7 #[.slice A xs.length c, .slice B us.length b, .bool raw, .slice D ls.length d, .slice E ks.length e, .int .i64 pages, .int .i64 other] w fun e w' => e = .returned (.bool true) ∧ Below w.heap.size w w' := by
  have C1 := Lib.hid (shaped_any A D c d xs raw ls pages w hp1 hp2 hc hr hw hd)
  have C2 := Lib.hid (fun W (h : Below w.heap.size w W) => shaped_any B E b e us raw ks other W ho1 ho2 hb (hs.upto h) hu (he.upto h))
  clear hr hw hs hu hd he hp1 hp2 ho1 ho2 hc hb
  go_enter Try.func7, Try.ntmps7
  go_wp2_with fail
  refine C1.out.mono ?_; rintro e w1 ⟨A1, c1, xs1, rfl, hc1, hsh1, hr1, hb1⟩
  have HB1 := Lib.hid hb1
  have HR1 := Lib.hid hr1
  have HX := Lib.hid hsh1.1
  have hn := hsh1.len
  clear hb1 hr1 hsh1
  go_wp2_with fail
  refine (C2.out _ HB1.out).mono ?_; rintro e w2 ⟨A2, c2, us1, rfl, hc2, hsh2, hr2, hb2⟩
  have HR2 := Lib.hid hr2
  have HU := Lib.hid hsh2.1
  have hm := hsh2.len
  have HRA := Lib.hid (HR1.out.upto hb2)
  clear hr2 hsh2
  go_wp2_with fail
  refine (memhash_any A1 c1 xs1 _ (by omega) HRA.out HX.out).mono ?_; rintro e w3 ⟨rfl, hb3⟩
  go_wp2_with fail
  refine (hashwords_any A1 c1 xs1 _ (by omega) (HRA.out.upto hb3)).mono ?_; rintro e w4 ⟨rfl, hb4⟩
  go_wp2_with fail
  refine (changed_any A1 A2 c1 c2 xs1 us1 _ (by omega) (by omega) hc1 hc2 ((HRA.out.upto hb3).upto hb4) ((HR2.out.upto hb3).upto hb4)).mono ?_; rintro e w5 ⟨A5, c5, rfl, ho5, hb5⟩
  have HO5 := Lib.hid ho5
  have hcl := chg_len xs1 us1
  have HCL := Lib.hid (rfl : (chg xs1 us1).length = (chg xs1 us1).length)
  clear ho5
  go_wp2_with fail
  refine (rchanged_any A1 A2 c1 c2 xs1 us1 _ (by omega) (by omega) hc1 hc2 (((HRA.out.upto hb3).upto hb4).upto hb5) (((HR2.out.upto hb3).upto hb4).upto hb5)).mono ?_; rintro e w6 ⟨A6, c6, rfl, ho6, hb6⟩
  have HO6 := Lib.hid ho6
  clear ho6
  go_wp2_with fail
  refine (sameints_at A5 A6 c5 c6 (chg xs1 us1) rfl _ (by omega) ((row_rd HO5.out).upto hb6) (row_rd HO6.out)).mono ?_; rintro e w7 ⟨rfl, hb7⟩
  go_wp2_with fail
  refine (changed_any A1 A1 c1 c1 xs1 xs1 _ (by omega) (by omega) hc1 hc1 (((((HRA.out.upto hb3).upto hb4).upto hb5).upto hb6).upto hb7) (((((HRA.out.upto hb3).upto hb4).upto hb5).upto hb6).upto hb7)).mono ?_
  rw [chg_self]; rintro e w8 ⟨A8, c8, rfl, ho8, hb8⟩
  clear ho8
  go_wp2_with fail
  refine (awake4 _).mono ?_; rintro e w9 ⟨rfl, hb9⟩
  go_wp2_with fail
  go_ret
  exact ⟨rfl, HB1.out.then (hb2.then (hb3.then (hb4.then (hb5.then (hb6.then (hb7.then (hb8.then hb9)))))))⟩
end Go.Proofs.Ytmefbkfapeijgaa
