/- MemoryChanges: what the law's call does. -/
import Derived.Test.YtmefbkfapeijgaaLawD
namespace Go.Proofs.Ytmefbkfapeijgaa
open Go.RowKit

theorem pc_set_other (us : List Nat) (i v k : Nat) (h : i / 32 ≠ k) : pc (us.set i v) k = pc us k := by
  apply List.ext_getElem?
  intro j
  unfold pc
  simp only [List.getElem?_take, List.getElem?_drop]
  split
  · rw [List.getElem?_set_ne (by omega)]
  · rfl
theorem pc_set_same (us : List Nat) (i v : Nat) (hi : i < us.length) (hv : us.getD i 0 ≠ v) : pc us (i / 32) ≠ pc (us.set i v) (i / 32) := by
  intro h
  have := congrArg (fun l => l[i % 32]?) h
  unfold pc at this
  simp only [List.getElem?_take, List.getElem?_drop] at this
  rw [if_pos (by omega), if_pos (by omega), show 32 * (i / 32) + i % 32 = i by omega] at this
  simp [hi] at this
  exact hv (by simp [hi, this])
theorem chgTo_set (us : List Nat) (i v k : Nat) (hi : i < us.length) (hv : us.getD i 0 ≠ v) : chgTo us (us.set i v) k = if i / 32 < k then [((i / 32 : Nat) : Int)] else [] := by
  induction k with
  | zero => rfl
  | succ k ih =>
    by_cases h : i / 32 = k
    · subst h
      rw [chgTo_other _ _ _ (pc_set_same us i v hi hv), ih, if_neg (by omega), if_pos (by omega)]; rfl
    · rw [chgTo_same _ _ _ (pc_set_other us i v k h).symm, ih]
      by_cases h2 : i / 32 < k
      · rw [if_pos h2, if_pos (by omega)]
      · rw [if_neg h2, if_neg (by omega)]
theorem chg_set (us : List Nat) (i v : Nat) (hn : us.length = 32 * pg us.length) (hi : i < us.length) (hv : us.getD i 0 ≠ v) : chg us (us.set i v) = [((i / 32 : Nat) : Int)] := by
  unfold chg
  rw [if_pos (by simp), chgTo_set us i v _ hi hv, if_pos (by omega)]
theorem set_self (us : List Nat) (i : Nat) (hi : i < us.length) : us.set i (us.getD i 0) = us := by
  apply List.ext_getElem?
  intro j
  by_cases h : i = j
  · subst h; simp [hi]
  · rw [List.getElem?_set_ne h]
theorem ldv4 (us : List Nat) (i : Nat) (hn : us.length = 32 * pg us.length) (hi : i < us.length) : ldv us (4 * i) 4 = us.getD i 0 := by
  unfold ldv; rw [win4 _ _ hn hi, show 4 * i / 4 = i by omega]; rfl

theorem changed_at {n m : Nat} (A D : Option Addr) (c d : Nat) (xs us : List Nat) (hx : xs.length = n) (hu : us.length = m) (w : World) (hn : n ≤ 1048576) (hm : m ≤ 1048576) (hc : n ≤ c) (hd : m ≤ d) (hr : Rd w w.heap.size A (ws xs)) (hs : Rd w w.heap.size D (ws us)) :
    Calls Try.prog 46 #[.slice A n c, .slice D m d] w (ChgOut (chg xs us) w) := by
  subst hx hu; exact changed_any A D c d xs us w hn hm hc hd hr hs
theorem memhash_at {n : Nat} (A : Option Addr) (c : Nat) (xs : List Nat) (hx : xs.length = n) (w : World) (hn : n ≤ 1048576) (hr : Rd w w.heap.size A (ws xs)) (hw : Wd xs) :
    Calls Try.prog 43 #[.slice A n c] w fun e w' => e = .returned (.int .u64 (hsh h0 (bytesOf xs))) ∧ Below w.heap.size w w' := by
  subst hx; exact memhash_any A c xs w hn hr hw

set_option maxRecDepth 100000 in
set_option maxHeartbeats 2000000 in
theorem changes_any (D : Option Addr) (d : Nat) (ls : List Int) (pages : Int) (a v : Nat) (w : World)
    (hp1 : -9223372036854775808 ≤ pages) (hp2 : pages ≤ 9223372036854775807) (ha : a < 4294967296) (hv : v < 4294967296) (hd : Rd w w.heap.size D (zs ls)) :
    Calls Try.prog 8 #[.slice D ls.length d, .int .i64 pages, .int .u32 a, .int .u32 v] w fun e w' => e = .returned (.bool true) ∧ Below w.heap.size w w' := by
  have CSh := Lib.hid (shaped_nil D d ls pages w hp1 hp2 hd)
  clear hd hp1 hp2
  go_enter Try.func8, Try.ntmps8
  go_wp2_with fail
  refine CSh.out.mono ?_; rintro e w1 ⟨A1, c1, n, us, rfl, hcc, hlu, hwu, hpn, hn1, hn2, hr1, hb1⟩
  have HR := Lib.hid hr1
  have HLU := Lib.hid hlu
  have HPN := Lib.hid hpn
  clear hr1 hlu hpn
  go_wp2_with fail
  obtain ⟨r, hr, hrn⟩ : ∃ r, a % (4 * n) = r ∧ r < 4 * n := ⟨_, rfl, Nat.mod_lt _ (by omega)⟩
  obtain ⟨i, hi⟩ : ∃ i, i = r / 4 := ⟨_, rfl⟩
  obtain ⟨p, hp⟩ : ∃ p, p = 4 * i := ⟨_, rfl⟩
  have hpe : ((a : Int) % (4 * (n : Int))).tdiv 4 % 4294967296 * 4 % 4294967296 = (p : Int) := by
    rw [show (a : Int) % (4 * (n : Int)) = ((a % (4 * n) : Nat) : Int) by simp, hr, Int.tdiv_eq_ediv_of_nonneg (by omega)]
    omega
  rw [hpe]
  have hin : i < n := by omega
  have hpl : p + 4 ≤ 4 * n := by omega
  have HPI := Lib.hid hp
  clear hpe hr hi hp hrn r
  have Wp := Lib.hid (show win n p 4 = true by rw [HPI.out]; exact win4 n i HPN.out hin)
  have S1 := Lib.hid (show stv us p 4 v = us.set i v by rw [HPI.out]; exact stv4 us i v (by rw [HLU.out]; exact HPN.out) (by rw [HLU.out]; exact hin))
  have L1 := Lib.hid (show ldv us p 4 = us.getD i 0 by rw [HPI.out]; exact ldv4 us i (by rw [HLU.out]; exact HPN.out) (by rw [HLU.out]; exact hin))
  refine (load_at A1 c1 p 4 us HLU.out _ (by omega) (by omega) HR.out hwu).mono ?_
  rw [Wp.out, L1.out]; rintro e w' ⟨rfl, rfl⟩
  by_cases he : us.getD i 0 = v
  · have HS := Lib.hid (show us.set i v = us by rw [← he]; exact set_self us i (by rw [HLU.out]; exact hin))
    rw [he]
    clear he
    go_wp2_with fail
    refine (store_at A1 c1 p 4 v us HLU.out _ (by omega) (by omega) hv HR.out hwu).mono ?_
    rw [Wp.out, S1.out, HS.out]; rintro e w2 ⟨A2, c2, rfl, ho2, hb2⟩
    have HO2 := Lib.hid ho2
    have hc2 := row_cap ho2
    clear ho2
    go_wp2_with fail
    refine (changed_at A1 A2 c1 c2 us us HLU.out HLU.out _ (by omega) (by omega) hcc hc2 (HR.out.upto hb2) (row_rd HO2.out)).mono ?_
    rw [chg_self]; rintro e w3 ⟨A3, c3, rfl, ho3, hb3⟩
    clear ho3
    go_wp2_with fail
    refine (memhash_at A1 c1 us HLU.out _ (by omega) ((HR.out.upto hb2).upto hb3) hwu).mono ?_; rintro e w4 ⟨rfl, hb4⟩
    go_wp2_with fail
    refine (memhash_at A2 c2 us HLU.out _ (by omega) (((row_rd HO2.out).upto hb3).upto hb4) hwu).mono ?_; rintro e w5 ⟨rfl, hb5⟩
    go_wp2_with fail
    refine (awake4 _).mono ?_; rintro e w6 ⟨rfl, hb6⟩
    go_wp2_with fail
    go_ret
    exact ⟨rfl, hb1.then (hb2.then (hb3.then (hb4.then (hb5.then hb6))))⟩
  · have g1 : (((us.getD i 0 : Nat) : Int) == (v : Int)) = false := by rw [beq_eq_false_iff_ne]; omega
    have HC := Lib.hid (chg_set us i v (by rw [HLU.out]; exact HPN.out) (by rw [HLU.out]; exact hin) he)
    have hpd : (p : Int) / 128 = ((i / 32 : Nat) : Int) := by have := HPI.out; omega
    have hid : i / 32 < 4294967296 := by omega
    obtain ⟨x, hx⟩ : ∃ x, us.getD i 0 = x := ⟨_, rfl⟩
    rw [hx] at g1 ⊢
    obtain ⟨j, hj⟩ : ∃ j, i / 32 = j := ⟨_, rfl⟩
    rw [hj] at HC hpd hid
    clear hx he hj
    go_wp2_with fail
    refine (store_at A1 c1 p 4 v us HLU.out _ (by omega) (by omega) hv HR.out hwu).mono ?_
    rw [Wp.out, S1.out]; rintro e w2 ⟨A2, c2, rfl, ho2, hb2⟩
    have HO2 := Lib.hid ho2
    have hc2 := row_cap ho2
    clear ho2
    go_wp2_with fail
    refine (changed_at A1 A2 c1 c2 us (us.set i v) HLU.out (by rw [List.length_set]; exact HLU.out) _ (by omega) (by omega) hcc hc2 (HR.out.upto hb2) (row_rd HO2.out)).mono ?_
    rw [HC.out]; rintro e w3 ⟨A3, c3, rfl, ho3, hb3⟩
    obtain ⟨b, off, rfl, _, hcell⟩ := (row_rd ho3).at_ 0 (by simp)
    have hcell : w3.cell? ⟨b, off, none⟩ = some (.int .i64 (j : Int)) := hcell
    clear ho3
    go_wp2_with fail
    refine (awake4 _).mono ?_; rintro e w6 ⟨rfl, hb6⟩
    go_wp2_with fail
    go_ret
    exact ⟨rfl, hb1.then (hb2.then (hb3.then hb6))⟩
end Go.Proofs.Ytmefbkfapeijgaa
