/- MemoryPages: what the law's call does. -/
import Derived.Test.YtmefbkfapeijgaaLawB
import Derived.Test.YtmefbkfapeijgaaMemG
import Derived.Test.YtmefbkfapeijgaaData
namespace Go.Proofs.Ytmefbkfapeijgaa
open Go.RowKit

theorem row_cap {w : World} {B : Nat} {e : TypeId} {s n c : Nat} {A : Option Addr} {cs : List Value} (h : w.ownsRow B e s (.slice A n c) n cs) : n ≤ c := by
  obtain ⟨_, _, hv, h1, _⟩ := row_shape h
  injection hv with _ _ hv
  rw [hv]; exact h1
theorem page_at {n : Nat} (A : Option Addr) (c : Nat) (f : Int) (xs : List Nat) (hx : xs.length = n) (w : World) (hn : n ≤ maxLen) (hc : n ≤ c) (hr : Rd w w.heap.size A (ws xs)) (hw : Wd xs) :
    Calls Try.prog 38 #[.slice A n c, .int .i64 f] w fun e w' => e = .returned (.tuple #[.string (str (pgB xs f)), .bool (pgin n f)]) ∧ Below w.heap.size w w' := by
  subst hx; exact page_any A c f xs w hn hc hr hw
/-- A page that was replaced is read as it was written. -/
theorem pgB_of (xs us : List Nat) (f : Int) (l : List UInt8) (h : spin xs.length f l.length = true) (hl : us.length = xs.length) (hy : bytesOf us = spB xs f l) : pgB us f = l ∧ pgin us.length f = true := by
  have hp : pgin xs.length f = true := by simp [spin] at h; exact h.1
  have h128 : l.length = 128 := by simp [spin] at h; exact h.2
  obtain ⟨h0, h1, h2, h3⟩ := pgin_le hp
  refine ⟨?_, by rw [hl]; exact hp⟩
  unfold pgB
  rw [hl, hp, if_pos rfl, bytesOf_piece, hy]
  unfold spB
  rw [h, if_pos rfl]
  unfold sp
  have e : ((bytesOf xs).take (128 * f.toNat)).length = 128 * f.toNat := by rw [List.length_take, bytesOf_length]; omega
  rw [show 4 * (32 * f.toNat) = ((bytesOf xs).take (128 * f.toNat)).length by rw [e]; omega, List.drop_left, show 4 * 32 = l.length by omega, List.take_left]

set_option maxRecDepth 100000 in
set_option maxHeartbeats 4000000 in
theorem pagesx (A D : Option Addr) (c d : Nat) (xs : List Nat) (raw : Bool) (ls : List Int) (pages f n : Int) (l : List UInt8) (w : World)
    (hp1 : -9223372036854775808 ≤ pages) (hp2 : pages ≤ 9223372036854775807) (hf1 : -9223372036854775808 ≤ f) (hf2 : f ≤ 9223372036854775807) (hl : l.length ≤ 9223372036854775807) (hc : xs.length ≤ c)
    (hr : Rd w w.heap.size A (ws xs)) (hw : Wd xs) (hd : Rd w w.heap.size D (zs ls)) :
    Calls Try.prog 6 #[.slice A xs.length c, .bool raw, .slice D ls.length d, .int .i64 pages, .int .i64 f, .int .i64 n, .string (str l)] w fun e w' => e = .returned (.bool true) ∧ Below w.heap.size w w' := by
  have CSh := Lib.hid (shaped_any A D c d xs raw ls pages w hp1 hp2 hc hr hw hd)
  have CR := Lib.hid (fun W => round_any f 7 W hf1 hf2 (by omega) (by omega))
  have CD := Lib.hid (fun W => data_any n 128 W (by omega))
  clear hr hw hd hp1 hp2 hf1 hf2 hc
  have hx7 := Int.emod_nonneg f (show (7 : Int) ≠ 0 by omega)
  have hx8 := Int.emod_lt_of_pos f (show (0 : Int) < 7 by omega)
  obtain ⟨f7, hf7⟩ : ∃ f7, f % 7 = f7 := ⟨_, rfl⟩
  rw [hf7] at CR
  clear hf7 hx7 hx8
  cases e1 : (bits BinOp.and IntKind.i64 n 1 == 1) with
  | true =>
    cases e2 : (bits BinOp.and IntKind.i64 n 2 == 2) with
    | true =>
      go_enter Try.func6, Try.ntmps6
      go_wp2_with fail
      refine CSh.out.mono ?_; rintro e w1 ⟨A1, c1, us, rfl, hcc, hsh, hr1, hb1⟩
      have HR0 := Lib.hid hr1
      have HU := Lib.hid hsh.1
      have HB1 := Lib.hid hb1
      have hn := hsh.len
      clear hsh hr1 hb1
      go_wp2_with fail
      refine (CD.out _).mono ?_; rintro e w2 ⟨rfl, hbd⟩
      have HR1 := Lib.hid (HR0.out.upto hbd)
      go_wp2_with fail
      refine (CR.out _).mono ?_; rintro e w' ⟨rfl, rfl⟩
      go_wp2_with fail
      have hm0 : us.length ≤ maxLen := by unfold maxLen; omega
      refine (page_any A1 c1 f7 us _ hm0 hcc HR1.out HU.out).mono ?_; rintro e w2 ⟨rfl, hb2⟩
      go_wp2_with fail
      refine (rpage_any A1 c1 f7 us _ hm0 (HR1.out.upto hb2)).mono ?_; rintro e w3 ⟨rfl, hb3⟩
      go_wp2_with fail
      refine (setpage_any A1 c1 f7 (dat n 128) us _ (by omega) ((HR1.out.upto hb2).upto hb3) HU.out).mono ?_; rintro e w4 ⟨A2, c2, us2, rfl, ho4, hw4, hby4, hb4⟩
      have HO4 := Lib.hid ho4
      have HW4 := Lib.hid hw4
      have HY4 := Lib.hid hby4
      have hc2 := row_cap ho4
      clear ho4 hw4 hby4
      go_wp2_with fail
      refine (rsetpage_any A1 c1 f7 (dat n 128) us _ (by omega) (by simp) (((HR1.out.upto hb2).upto hb3).upto hb4) HU.out).mono ?_; rintro e w5 ⟨A3, c3, us3, rfl, ho5, hw5, hby5, hb5⟩
      have hEq : us3 = us2 := bytesOf_inj hw5 HW4.out (hby5.trans HY4.out.symm)
      subst hEq
      have HO5 := Lib.hid ho5
      have HL := Lib.hid (show us3.length = us.length by have := ho5.1; simp at this; omega)
      clear ho5 hw5 hby5
      go_wp2_with fail
      refine (same_at A2 A3 c2 c3 us3 HL.out _ (by omega) ((row_rd HO4.out).upto hb5) (row_rd HO5.out)).mono ?_; rintro e w6 ⟨rfl, hb6⟩
      go_wp2_with fail
      refine (page_at A2 c2 f7 us3 HL.out _ hm0 hc2 (((row_rd HO4.out).upto hb5).upto hb6) HW4.out).mono ?_; rintro e w7 ⟨rfl, hb7⟩
      cases hsp : spin us.length f7 128 with
      | true =>
        obtain ⟨k1, k2⟩ := pgB_of us us3 f7 (dat n 128) (by rw [dat_length]; exact hsp) HL.out HY4.out
        have k3 : pgin us.length f7 = true := by rw [← HL.out]; exact k2
        rw [k1, k3]
        go_wp2_with fail
        refine (awake4 _).mono ?_; rintro e w8 ⟨rfl, hb8⟩
        go_wp2_with fail
        go_ret
        exact ⟨rfl, HB1.out.then (hbd.then (hb2.then (hb3.then (hb4.then (hb5.then (hb6.then (hb7.then hb8)))))))⟩
      | false =>
        go_wp2_with fail
        refine (awake4 _).mono ?_; rintro e w8 ⟨rfl, hb8⟩
        go_wp2_with fail
        go_ret
        exact ⟨rfl, HB1.out.then (hbd.then (hb2.then (hb3.then (hb4.then (hb5.then (hb6.then (hb7.then hb8)))))))⟩
    | false =>
      go_enter Try.func6, Try.ntmps6
      go_wp2_with fail
      refine CSh.out.mono ?_; rintro e w1 ⟨A1, c1, us, rfl, hcc, hsh, hr1, hb1⟩
      have HR0 := Lib.hid hr1
      have HU := Lib.hid hsh.1
      have HB1 := Lib.hid hb1
      have hn := hsh.len
      clear hsh hr1 hb1
      go_wp2_with fail
      refine (CD.out _).mono ?_; rintro e w2 ⟨rfl, hbd⟩
      have HR1 := Lib.hid (HR0.out.upto hbd)
      go_wp2_with fail
      have hm0 : us.length ≤ maxLen := by unfold maxLen; omega
      refine (page_any A1 c1 f us _ hm0 hcc HR1.out HU.out).mono ?_; rintro e w2 ⟨rfl, hb2⟩
      go_wp2_with fail
      refine (rpage_any A1 c1 f us _ hm0 (HR1.out.upto hb2)).mono ?_; rintro e w3 ⟨rfl, hb3⟩
      go_wp2_with fail
      refine (setpage_any A1 c1 f (dat n 128) us _ (by omega) ((HR1.out.upto hb2).upto hb3) HU.out).mono ?_; rintro e w4 ⟨A2, c2, us2, rfl, ho4, hw4, hby4, hb4⟩
      have HO4 := Lib.hid ho4
      have HW4 := Lib.hid hw4
      have HY4 := Lib.hid hby4
      have hc2 := row_cap ho4
      clear ho4 hw4 hby4
      go_wp2_with fail
      refine (rsetpage_any A1 c1 f (dat n 128) us _ (by omega) (by simp) (((HR1.out.upto hb2).upto hb3).upto hb4) HU.out).mono ?_; rintro e w5 ⟨A3, c3, us3, rfl, ho5, hw5, hby5, hb5⟩
      have hEq : us3 = us2 := bytesOf_inj hw5 HW4.out (hby5.trans HY4.out.symm)
      subst hEq
      have HO5 := Lib.hid ho5
      have HL := Lib.hid (show us3.length = us.length by have := ho5.1; simp at this; omega)
      clear ho5 hw5 hby5
      go_wp2_with fail
      refine (same_at A2 A3 c2 c3 us3 HL.out _ (by omega) ((row_rd HO4.out).upto hb5) (row_rd HO5.out)).mono ?_; rintro e w6 ⟨rfl, hb6⟩
      go_wp2_with fail
      refine (page_at A2 c2 f us3 HL.out _ hm0 hc2 (((row_rd HO4.out).upto hb5).upto hb6) HW4.out).mono ?_; rintro e w7 ⟨rfl, hb7⟩
      cases hsp : spin us.length f 128 with
      | true =>
        obtain ⟨k1, k2⟩ := pgB_of us us3 f (dat n 128) (by rw [dat_length]; exact hsp) HL.out HY4.out
        have k3 : pgin us.length f = true := by rw [← HL.out]; exact k2
        rw [k1, k3]
        go_wp2_with fail
        refine (awake4 _).mono ?_; rintro e w8 ⟨rfl, hb8⟩
        go_wp2_with fail
        go_ret
        exact ⟨rfl, HB1.out.then (hbd.then (hb2.then (hb3.then (hb4.then (hb5.then (hb6.then (hb7.then hb8)))))))⟩
      | false =>
        go_wp2_with fail
        refine (awake4 _).mono ?_; rintro e w8 ⟨rfl, hb8⟩
        go_wp2_with fail
        go_ret
        exact ⟨rfl, HB1.out.then (hbd.then (hb2.then (hb3.then (hb4.then (hb5.then (hb6.then (hb7.then hb8)))))))⟩
  | false =>
    by_cases h3 : l.length ≤ 300
    · have h3' : ¬ (300 : Int) < (l.length : Int) := by omega
      cases e2 : (bits BinOp.and IntKind.i64 n 2 == 2) with
      | true =>
        go_enter Try.func6, Try.ntmps6
        go_wp2_with fail
        refine CSh.out.mono ?_; rintro e w1 ⟨A1, c1, us, rfl, hcc, hsh, hr1, hb1⟩
        have HR0 := Lib.hid hr1
        have HU := Lib.hid hsh.1
        have HB1 := Lib.hid hb1
        have hn := hsh.len
        clear hsh hr1 hb1
        have HR1 := HR0
        go_wp2_with fail
        refine (CR.out _).mono ?_; rintro e w' ⟨rfl, rfl⟩
        go_wp2_with fail
        have hm0 : us.length ≤ maxLen := by unfold maxLen; omega
        refine (page_any A1 c1 f7 us _ hm0 hcc HR1.out HU.out).mono ?_; rintro e w2 ⟨rfl, hb2⟩
        go_wp2_with fail
        refine (rpage_any A1 c1 f7 us _ hm0 (HR1.out.upto hb2)).mono ?_; rintro e w3 ⟨rfl, hb3⟩
        go_wp2_with fail
        refine (setpage_any A1 c1 f7 l us _ (by omega) ((HR1.out.upto hb2).upto hb3) HU.out).mono ?_; rintro e w4 ⟨A2, c2, us2, rfl, ho4, hw4, hby4, hb4⟩
        have HO4 := Lib.hid ho4
        have HW4 := Lib.hid hw4
        have HY4 := Lib.hid hby4
        have hc2 := row_cap ho4
        clear ho4 hw4 hby4
        go_wp2_with fail
        refine (rsetpage_any A1 c1 f7 l us _ (by omega) (by omega) (((HR1.out.upto hb2).upto hb3).upto hb4) HU.out).mono ?_; rintro e w5 ⟨A3, c3, us3, rfl, ho5, hw5, hby5, hb5⟩
        have hEq : us3 = us2 := bytesOf_inj hw5 HW4.out (hby5.trans HY4.out.symm)
        subst hEq
        have HO5 := Lib.hid ho5
        have HL := Lib.hid (show us3.length = us.length by have := ho5.1; simp at this; omega)
        clear ho5 hw5 hby5
        go_wp2_with fail
        refine (same_at A2 A3 c2 c3 us3 HL.out _ (by omega) ((row_rd HO4.out).upto hb5) (row_rd HO5.out)).mono ?_; rintro e w6 ⟨rfl, hb6⟩
        go_wp2_with fail
        refine (page_at A2 c2 f7 us3 HL.out _ hm0 hc2 (((row_rd HO4.out).upto hb5).upto hb6) HW4.out).mono ?_; rintro e w7 ⟨rfl, hb7⟩
        cases hsp : spin us.length f7 (List.length l) with
        | true =>
          obtain ⟨k1, k2⟩ := pgB_of us us3 f7 l hsp HL.out HY4.out
          have k3 : pgin us.length f7 = true := by rw [← HL.out]; exact k2
          rw [k1, k3]
          go_wp2_with fail
          refine (awake4 _).mono ?_; rintro e w8 ⟨rfl, hb8⟩
          go_wp2_with fail
          go_ret
          exact ⟨rfl, HB1.out.then (hb2.then (hb3.then (hb4.then (hb5.then (hb6.then (hb7.then hb8))))))⟩
        | false =>
          go_wp2_with fail
          refine (awake4 _).mono ?_; rintro e w8 ⟨rfl, hb8⟩
          go_wp2_with fail
          go_ret
          exact ⟨rfl, HB1.out.then (hb2.then (hb3.then (hb4.then (hb5.then (hb6.then (hb7.then hb8))))))⟩
      | false =>
        go_enter Try.func6, Try.ntmps6
        go_wp2_with fail
        refine CSh.out.mono ?_; rintro e w1 ⟨A1, c1, us, rfl, hcc, hsh, hr1, hb1⟩
        have HR0 := Lib.hid hr1
        have HU := Lib.hid hsh.1
        have HB1 := Lib.hid hb1
        have hn := hsh.len
        clear hsh hr1 hb1
        have HR1 := HR0
        go_wp2_with fail
        have hm0 : us.length ≤ maxLen := by unfold maxLen; omega
        refine (page_any A1 c1 f us _ hm0 hcc HR1.out HU.out).mono ?_; rintro e w2 ⟨rfl, hb2⟩
        go_wp2_with fail
        refine (rpage_any A1 c1 f us _ hm0 (HR1.out.upto hb2)).mono ?_; rintro e w3 ⟨rfl, hb3⟩
        go_wp2_with fail
        refine (setpage_any A1 c1 f l us _ (by omega) ((HR1.out.upto hb2).upto hb3) HU.out).mono ?_; rintro e w4 ⟨A2, c2, us2, rfl, ho4, hw4, hby4, hb4⟩
        have HO4 := Lib.hid ho4
        have HW4 := Lib.hid hw4
        have HY4 := Lib.hid hby4
        have hc2 := row_cap ho4
        clear ho4 hw4 hby4
        go_wp2_with fail
        refine (rsetpage_any A1 c1 f l us _ (by omega) (by omega) (((HR1.out.upto hb2).upto hb3).upto hb4) HU.out).mono ?_; rintro e w5 ⟨A3, c3, us3, rfl, ho5, hw5, hby5, hb5⟩
        have hEq : us3 = us2 := bytesOf_inj hw5 HW4.out (hby5.trans HY4.out.symm)
        subst hEq
        have HO5 := Lib.hid ho5
        have HL := Lib.hid (show us3.length = us.length by have := ho5.1; simp at this; omega)
        clear ho5 hw5 hby5
        go_wp2_with fail
        refine (same_at A2 A3 c2 c3 us3 HL.out _ (by omega) ((row_rd HO4.out).upto hb5) (row_rd HO5.out)).mono ?_; rintro e w6 ⟨rfl, hb6⟩
        go_wp2_with fail
        refine (page_at A2 c2 f us3 HL.out _ hm0 hc2 (((row_rd HO4.out).upto hb5).upto hb6) HW4.out).mono ?_; rintro e w7 ⟨rfl, hb7⟩
        cases hsp : spin us.length f (List.length l) with
        | true =>
          obtain ⟨k1, k2⟩ := pgB_of us us3 f l hsp HL.out HY4.out
          have k3 : pgin us.length f = true := by rw [← HL.out]; exact k2
          rw [k1, k3]
          go_wp2_with fail
          refine (awake4 _).mono ?_; rintro e w8 ⟨rfl, hb8⟩
          go_wp2_with fail
          go_ret
          exact ⟨rfl, HB1.out.then (hb2.then (hb3.then (hb4.then (hb5.then (hb6.then (hb7.then hb8))))))⟩
        | false =>
          go_wp2_with fail
          refine (awake4 _).mono ?_; rintro e w8 ⟨rfl, hb8⟩
          go_wp2_with fail
          go_ret
          exact ⟨rfl, HB1.out.then (hb2.then (hb3.then (hb4.then (hb5.then (hb6.then (hb7.then hb8))))))⟩
    · have h3' : (300 : Int) < (l.length : Int) := by omega
      go_enter Try.func6, Try.ntmps6
      go_wp2_with fail
      refine CSh.out.mono ?_; rintro e w1 ⟨A1, c1, us, rfl, hcc, hsh, hr1, hb1⟩
      have HR0 := Lib.hid hr1
      have HU := Lib.hid hsh.1
      have HB1 := Lib.hid hb1
      have hn := hsh.len
      clear hsh hr1 hb1
      go_wp2_with fail
      refine (awake4 _).mono ?_; rintro e w8 ⟨rfl, hb8⟩
      go_wp2_with fail
      go_ret
      exact ⟨rfl, HB1.out.then hb8⟩
end Go.Proofs.Ytmefbkfapeijgaa
