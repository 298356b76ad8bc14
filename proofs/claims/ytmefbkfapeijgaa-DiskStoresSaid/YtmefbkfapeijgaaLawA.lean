/- MemoryAccesses: what the law's call does: it hands back true, and turns nothing that was there. -/
import Derived.Test.YtmefbkfapeijgaaShape
import Derived.Test.YtmefbkfapeijgaaMemB
namespace Go.Proofs.Ytmefbkfapeijgaa
open Go.RowKit

theorem same_at {n : Nat} (A D : Option Addr) (c d : Nat) (xs : List Nat) (hx : xs.length = n) (w : World) (hn : n ≤ 35184372087808) (hr : Rd w w.heap.size A (ws xs)) (hs : Rd w w.heap.size D (ws xs)) :
    Calls Try.prog 31 #[.slice A n c, .slice D n d] w fun e w' => e = .returned (.bool true) ∧ Below w.heap.size w w' := by
  subst hx
  refine (same_any A D c d xs xs w (by unfold maxLen; omega) (by unfold maxLen; omega) hr hs).mono ?_
  rintro e w' ⟨rfl, nq, rfl⟩
  exact ⟨by simp, below_drewN' (Below.refl _ _) _⟩

theorem rload_at {n : Nat} (A : Option Addr) (c addr : Nat) (size : Int) (xs : List Nat) (hx : xs.length = n) (w : World) (hn : n ≤ 35184372087808) (ha : addr < 4294967296) (hr : Rd w w.heap.size A (ws xs)) (hw : Wd xs) :
    Calls Try.prog 28 #[.slice A n c, .int .u32 addr, .int .i64 size] w fun e w' => e = .returned (.tuple #[.int .u32 (ldv xs addr size : Nat), .bool (win n addr size)]) ∧ w = w' := by
  subst hx; exact rload_any A c addr size xs w (by unfold maxLen; omega) ha hr hw
theorem rstore_at {n : Nat} (A : Option Addr) (c addr : Nat) (size : Int) (v : Nat) (xs : List Nat) (hx : xs.length = n) (w : World) (hn : n ≤ 35184372087808) (ha : addr < 4294967296) (hv : v < 4294967296) (hr : Rd w w.heap.size A (ws xs)) (hw : Wd xs) :
    Calls Try.prog 30 #[.slice A n c, .int .u32 addr, .int .i64 size, .int .u32 v] w fun e w' => ∃ A' c', e = .returned (.tuple #[.slice A' n c', .bool (win n addr size)]) ∧
      w'.ownsRow w.heap.size 24 1 (.slice A' n c') n (ws (stv xs addr size v)) ∧ Below w.heap.size w w' := by
  subst hx; exact rstore_any A c addr size v xs w hn ha hv hr hw
theorem newN_le (p : Int) : newN p ≤ 1024 := by unfold newN; split <;> omega
theorem _root_.Go.RowKit.Below.then {a b c : World} (h : Below a.heap.size a b) (k : Below b.heap.size b c) : Below a.heap.size a c := h.trans (k.mono h.size)

set_option maxHeartbeats 1000000 in
theorem accesses_any (A D : Option Addr) (c d : Nat) (xs : List Nat) (raw small : Bool) (ls : List Int) (pages size : Int) (addr v : Nat) (w : World)
    (hp1 : -9223372036854775808 ≤ pages) (hp2 : pages ≤ 9223372036854775807) (hs1 : -9223372036854775808 ≤ size) (hs2 : size ≤ 9223372036854775807) (ha : addr < 4294967296) (hv : v < 4294967296) (hc : xs.length ≤ c)
    (hr : Rd w w.heap.size A (ws xs)) (hw : Wd xs) (hd : Rd w w.heap.size D (zs ls)) :
    Calls Try.prog 3 #[.slice A xs.length c, .bool raw, .slice D ls.length d, .int .i64 pages, .int .u32 addr, .bool small, .int .i64 size, .int .u32 v] w fun e w' => e = .returned (.bool true) ∧ Below w.heap.size w w' := by
  have CSh := Lib.hid (shaped_any A D c d xs raw ls pages w hp1 hp2 hc hr hw hd)
  have CR := Lib.hid (fun W => round_any size 2 W hs1 hs2 (by omega) (by omega))
  clear hr hw hd hp1 hp2 hs1 hs2
  cases small with
  | true =>
    obtain ⟨a, hae, ha2⟩ : ∃ a : Nat, (addr : Int) % 800 = a ∧ a < 4294967296 := ⟨addr % 800, by omega, by omega⟩
    have Ha := Lib.hid hae
    clear hae ha
    obtain ⟨sz, hse, hs0, hs1⟩ : ∃ sz : Int, size % 2 = sz ∧ 0 ≤ sz ∧ sz < 2 := ⟨_, rfl, by omega, by omega⟩
    have CR2 := Lib.hid (fun W => hse ▸ CR.out W)
    clear CR hse
    go_enter Try.func3, Try.ntmps3
    go_wp2_with fail
    refine CSh.out.mono ?_; rintro e w1 ⟨A1, c1, us, rfl, _, hsh, hr1, hb1⟩
    have HR1 := Lib.hid hr1
    have HU := Lib.hid hsh.1
    have hl := hsh.len
    clear hsh hr1
    obtain ⟨n, hn⟩ : ∃ n, us.length = n := ⟨_, rfl⟩
    rw [hn] at hl ⊢
    have HN := Lib.hid hn
    clear hn
    go_wp2_with fail
    refine (CR2.out _).mono ?_; rintro e w' ⟨rfl, rfl⟩
    go_wp2_with fail
    rw [Ha.out]
    generalize 1 + 3 * sz = sz
    have hn1 : n ≤ maxLen := by unfold maxLen; omega
    refine (load_at A1 c1 _ _ us HN.out _ (by omega) ha2 HR1.out HU.out).mono ?_; rintro e w' ⟨rfl, rfl⟩
    go_wp2_with fail
    refine (rload_at A1 c1 _ _ us HN.out _ (by omega) ha2 HR1.out HU.out).mono ?_; rintro e w' ⟨rfl, rfl⟩
    go_wp2_with fail
    refine (store_at A1 c1 _ _ _ us HN.out _ (by omega) ha2 hv HR1.out HU.out).mono ?_; rintro e w2 ⟨A2, c2, rfl, ho2, hb2⟩
    have HO2 := Lib.hid ho2
    clear ho2
    go_wp2_with fail
    refine (rstore_at A1 c1 _ _ _ us HN.out _ (by omega) ha2 hv (HR1.out.upto hb2) HU.out).mono ?_; rintro e w3 ⟨A3, c3, rfl, ho3, hb3⟩
    have HO3 := Lib.hid ho3
    clear ho3
    go_wp2_with fail
    refine (same_at A2 A3 c2 c3 _ (by rw [stv_length, HN.out]) _ (by omega) (row_rd (row_below HO2.out hb3 (Nat.le_refl _))) (row_rd HO3.out)).mono ?_; rintro e w4 ⟨rfl, hb4⟩
    go_wp2_with fail
    refine (pages_any _ _ _ _ hn1).mono ?_; rintro e w' ⟨rfl, rfl⟩
    go_wp2_with fail
    refine (rpages_any _ _ _ _ hn1).mono ?_; rintro e w' ⟨rfl, rfl⟩
    go_wp2_with fail
    refine (new_any _ _).mono ?_; rintro e w5 ⟨A5, c5, rfl, ho5, hb5⟩
    have HO5 := Lib.hid ho5
    clear ho5
    go_wp2_with fail
    refine (rnew_any _ _).mono ?_; rintro e w6 ⟨A6, c6, rfl, ho6, hb6⟩
    have HO6 := Lib.hid ho6
    clear ho6
    go_wp2_with fail
    refine (same_at A5 A6 c5 c6 _ (by simp) _ (by have := newN_le pages; omega) (row_rd (row_below HO5.out hb6 (Nat.le_refl _))) (row_rd HO6.out)).mono ?_; rintro e w7 ⟨rfl, hb7⟩
    go_wp2_with fail
    refine (awake4 _).mono ?_; rintro e w8 ⟨rfl, hb8⟩
    go_wp2_with fail
    go_ret
    exact ⟨rfl, hb1.then (hb2.then (hb3.then (hb4.then (hb5.then (hb6.then (hb7.then hb8))))))⟩
  | false =>
    have ha2 := ha
    clear ha CR
    obtain ⟨a, hae⟩ : ∃ a, addr = a := ⟨_, rfl⟩
    subst hae
    obtain ⟨sz, hse⟩ : ∃ sz, size = sz := ⟨_, rfl⟩
    subst hse
    go_enter Try.func3, Try.ntmps3
    go_wp2_with fail
    refine CSh.out.mono ?_; rintro e w1 ⟨A1, c1, us, rfl, _, hsh, hr1, hb1⟩
    have HR1 := Lib.hid hr1
    have HU := Lib.hid hsh.1
    have hl := hsh.len
    clear hsh hr1
    obtain ⟨n, hn⟩ : ∃ n, us.length = n := ⟨_, rfl⟩
    rw [hn] at hl ⊢
    have HN := Lib.hid hn
    clear hn
    go_wp2_with fail
    have hn1 : n ≤ maxLen := by unfold maxLen; omega
    refine (load_at A1 c1 _ _ us HN.out _ (by omega) ha2 HR1.out HU.out).mono ?_; rintro e w' ⟨rfl, rfl⟩
    go_wp2_with fail
    refine (rload_at A1 c1 _ _ us HN.out _ (by omega) ha2 HR1.out HU.out).mono ?_; rintro e w' ⟨rfl, rfl⟩
    go_wp2_with fail
    refine (store_at A1 c1 _ _ _ us HN.out _ (by omega) ha2 hv HR1.out HU.out).mono ?_; rintro e w2 ⟨A2, c2, rfl, ho2, hb2⟩
    have HO2 := Lib.hid ho2
    clear ho2
    go_wp2_with fail
    refine (rstore_at A1 c1 _ _ _ us HN.out _ (by omega) ha2 hv (HR1.out.upto hb2) HU.out).mono ?_; rintro e w3 ⟨A3, c3, rfl, ho3, hb3⟩
    have HO3 := Lib.hid ho3
    clear ho3
    go_wp2_with fail
    refine (same_at A2 A3 c2 c3 _ (by rw [stv_length, HN.out]) _ (by omega) (row_rd (row_below HO2.out hb3 (Nat.le_refl _))) (row_rd HO3.out)).mono ?_; rintro e w4 ⟨rfl, hb4⟩
    go_wp2_with fail
    refine (pages_any _ _ _ _ hn1).mono ?_; rintro e w' ⟨rfl, rfl⟩
    go_wp2_with fail
    refine (rpages_any _ _ _ _ hn1).mono ?_; rintro e w' ⟨rfl, rfl⟩
    go_wp2_with fail
    refine (new_any _ _).mono ?_; rintro e w5 ⟨A5, c5, rfl, ho5, hb5⟩
    have HO5 := Lib.hid ho5
    clear ho5
    go_wp2_with fail
    refine (rnew_any _ _).mono ?_; rintro e w6 ⟨A6, c6, rfl, ho6, hb6⟩
    have HO6 := Lib.hid ho6
    clear ho6
    go_wp2_with fail
    refine (same_at A5 A6 c5 c6 _ (by simp) _ (by have := newN_le pages; omega) (row_rd (row_below HO5.out hb6 (Nat.le_refl _))) (row_rd HO6.out)).mono ?_; rintro e w7 ⟨rfl, hb7⟩
    go_wp2_with fail
    refine (awake4 _).mono ?_; rintro e w8 ⟨rfl, hb8⟩
    go_wp2_with fail
    go_ret
    exact ⟨rfl, hb1.then (hb2.then (hb3.then (hb4.then (hb5.then (hb6.then (hb7.then hb8))))))⟩
end Go.Proofs.Ytmefbkfapeijgaa
