/- Paging: the law about marking entries. -/
import Derived.Test.YtmefbkfapeijgaaPagG
namespace Go.Proofs.Ytmefbkfapeijgaa
open Go.RowKit

theorem or8 (q : Nat) : (q ||| 8) % 8 = q % 8 ∧ (q ||| 8) / 256 = q / 256 := by
  refine ⟨?_, ?_⟩
  · rw [show 8 = 2 ^ 3 from rfl, Nat.or_mod_two_pow]; simp
  · rw [show 256 = 2 ^ 8 from rfl, ← Nat.shiftRight_eq_div_pow, ← Nat.shiftRight_eq_div_pow, Nat.shiftRight_or_distrib]; simp
theorem or16 (q : Nat) : (q ||| 16) % 8 = q % 8 ∧ (q ||| 16) / 256 = q / 256 := by
  refine ⟨?_, ?_⟩
  · rw [show 8 = 2 ^ 3 from rfl, Nat.or_mod_two_pow]; simp
  · rw [show 256 = 2 ^ 8 from rfl, ← Nat.shiftRight_eq_div_pow, ← Nat.shiftRight_eq_div_pow, Nat.shiftRight_or_distrib]; simp
theorem tv_low (q : Nat) (a : Int) : tv q a % 8 = q % 8 ∧ tv q a / 256 = q / 256 := by
  unfold tv
  split
  · rw [(or16 _).1, (or16 _).2]; exact or8 q
  · exact or8 q
theorem per_tv (q : Nat) (a b : Int) : per (tv q a) b = per q b := by
  have := (tv_low q a).1
  generalize tv q a = p at this ⊢
  unfold per
  rw [show p % 2 = q % 2 by omega, show p / 2 % 2 = q / 2 % 2 by omega, show p / 4 % 2 = q / 4 % 2 by omega]
theorem get8_tv (q : Nat) (a : Int) : get8 (tv q a) 8 = get8 q 8 := by
  have := (tv_low q a).2
  unfold get8
  rw [show (2 : Nat) ^ 8 = 256 from rfl, this]
theorem tv_tv (q : Nat) (a : Int) : tv (tv q a) a = tv q a := by
  unfold tv
  split
  · apply Nat.eq_of_testBit_eq; intro i; simp only [Nat.testBit_or]; cases q.testBit i <;> cases Nat.testBit 8 i <;> cases Nat.testBit 16 i <;> rfl
  · apply Nat.eq_of_testBit_eq; intro i; simp only [Nat.testBit_or]; cases q.testBit i <;> cases Nat.testBit 8 i <;> rfl
theorem pte_touch (xs : List Nat) (e r v : Nat) (a : Int) : pte (tchW xs e a) r v = pte xs r v ∨ pte (tchW xs e a) r v = tv (pte xs r v) a := by
  unfold pte tchW
  split
  · rename_i h
    have := (win_lt h).1
    by_cases hi : e / 4 = 32 * r + v / 128
    · right
      rw [hi] at this ⊢
      rw [List.getD_eq_getElem?_getD, List.getElem?_set_self this]
      rfl
    · left
      rw [List.getD_eq_getElem?_getD, List.getElem?_set_ne hi, List.getD_eq_getElem?_getD]
  · left; rfl
theorem wlk_touch (xs : List Nat) (e r v : Nat) (a b : Int) : wlkV (tchW xs e a) r v b = wlkV xs r v b := by
  unfold wlkV wlk wok
  rw [tchW_length]
  rcases pte_touch xs e r v a with h | h
  · rw [h]
  · rw [h, per_tv, get8_tv]
theorem tchW_twice (xs : List Nat) (e : Nat) (a : Int) : tchW (tchW xs e a) e a = tchW xs e a := by
  by_cases h : win xs.length e 4 = true
  · have h1 := (win_lt h).1
    have e1 : tchW xs e a = xs.set (e / 4) (tv (xs.getD (e / 4) 0) a) := by unfold tchW; rw [if_pos h]
    rw [e1]
    unfold tchW
    rw [List.length_set, if_pos h, List.set_set, List.getD_eq_getElem?_getD, List.getElem?_set_self h1]
    show xs.set (e / 4) (tv (tv _ a) a) = _
    rw [tv_tv]
  · have e1 : tchW xs e a = xs := by unfold tchW; rw [if_neg h]
    rw [e1, e1]

set_option maxRecDepth 100000 in
set_option maxHeartbeats 2000000 in
theorem touches_any (D : Option Addr) (d : Nat) (ls : List Int) (pages : Int) (entry root va : Nat) (one two : Int) (w : World)
    (hp1 : -9223372036854775808 ≤ pages) (hp2 : pages ≤ 9223372036854775807) (h2 : entry < 4294967296) (h3 : root < 4294967296) (h4 : va < 4294967296) (hd : Rd w w.heap.size D (zs ls)) :
    Calls Try.prog 18 #[.slice D ls.length d, .int .i64 pages, .int .u32 entry, .int .u32 root, .int .u32 va, .int .i64 one, .int .i64 two] w fun e w' => e = .returned (.bool true) ∧ Below w.heap.size w w' := by
  have CT := Lib.hid (tables_len D d ls pages w hp1 hp2 hd)
  clear hd hp1 hp2
  go_enter Try.func18, Try.ntmps18
  go_wp2_with fail
  refine CT.out.mono ?_; rintro e w1 ⟨A1, c1, n, us, rfl, hcc, hlu, hwu, hn1, hn8, hn, hne, hr1, hb1⟩
  have HLU := Lib.hid hlu
  have HR := Lib.hid hr1
  have HWU := Lib.hid hwu
  have hn0 : 1 ≤ n := by omega
  clear hlu hr1 hwu hne hn1 hn8
  obtain ⟨e, he, he9⟩ : ∃ e, entry % (4 * n) = e ∧ e < 4 * n := ⟨_, rfl, Nat.mod_lt _ (by omega)⟩
  obtain ⟨r, hr, hr9⟩ : ∃ r, root % 9 = r ∧ r < 9 := ⟨_, rfl, Nat.mod_lt _ (by omega)⟩
  obtain ⟨v, hv, hv9⟩ : ∃ v, va % 4096 = v ∧ v < 4096 := ⟨_, rfl, Nat.mod_lt _ (by omega)⟩
  have ge : (entry : Int) % (4 * (n : Int)) = (e : Int) := by rw [← he]; exact (by simp)
  have gr : (root : Int) % 9 = (r : Int) := by omega
  have gv : (va : Int) % 4096 = (v : Int) := by omega
  have HXL := Lib.hid (show (tchW us e one).length = n by rw [tchW_length]; exact HLU.out)
  have HXW := Lib.hid (HWU.out.tchW e one)
  have HV := Lib.hid (fun r v b => wlk_touch us e r v one b)
  have H2 := Lib.hid (tchW_twice us e one)
  clear he hr hv
  go_wp2_with fail
  rw [ge]
  refine (touch_at A1 c1 e one us HLU.out _ (by omega) (by omega) HR.out HWU.out).mono ?_
  generalize tchW us e one = xs at HXL HXW HV H2 ⊢
  rintro _ w2 ⟨A2, c2, rfl, ho2, hb2⟩
  have HX := Lib.hid (row_rd ho2)
  clear ho2
  have hb12 := hb1.then hb2
  have HU := Lib.hid (HR.out.upto hb2)
  go_wp2_with fail
  go_loopw [17] (fun i wr => ∃ k : Nat, 1 ≤ k ∧ k ≤ 4 ∧ i = .int .i64 k ∧ Below w2.heap.size w2 wr) (fun i _ => 4 - (intOf i).toNat)
  case atStart => exact ⟨1, by omega, by omega, rfl, Below.refl _ _⟩
  case round =>
    obtain ⟨k, hk1, hk4, rfl, hb⟩ := hrel
    have HXr := Lib.hid (HX.out.upto hb)
    have HUr := Lib.hid (HU.out.upto hb)
    by_cases h : k ≤ 3
    · obtain ⟨x, y, z, hT⟩ := wlkV_trn us r v (k : Int)
      have HT := Lib.hid hT
      have HVk := Lib.hid ((HV.out r v (k : Int)).trans hT)
      clear hT
      go_wp2_with fail
      refine (walk_at A2 c2 r v k xs HXL.out _ (by omega) (by omega) (by omega) HXr.out HXW.out).mono ?_
      rw [HVk.out]; rintro e w3 ⟨rfl, hb3⟩
      simp only [trn]
      go_wp2_with fail
      refine (walk_at A1 c1 r v k us HLU.out _ (by omega) (by omega) (by omega) (HUr.out.upto hb3) HWU.out).mono ?_
      rw [HT.out]; rintro e w4 ⟨rfl, hb4⟩
      simp only [trn]
      go_wp2_with fail
      go_roundw
      case rel => exact ⟨k + 1, by omega, by omega, by go_num, hb.then (hb3.then hb4)⟩
      case measure => simp [intOf]; omega
    · obtain ⟨x, y, z, hT⟩ := wlkV_trn us root va two
      have HT := Lib.hid hT
      have HVk := Lib.hid ((HV.out root va two).trans hT)
      clear hT
      go_wp2_with fail
      refine (touch_at A2 c2 e one xs HXL.out _ (by omega) (by omega) HXr.out HXW.out).mono ?_
      rw [H2.out]; rintro _ w3 ⟨A3, c3, rfl, ho3, hb3⟩
      have HY := Lib.hid (row_rd ho3)
      clear ho3
      go_wp2_with fail
      refine (same_at A3 A2 c3 c2 xs HXL.out _ (by omega) HY.out (HXr.out.upto hb3)).mono ?_
      rintro _ w4 ⟨rfl, hb4⟩
      go_wp2_with fail
      refine (walk_at A2 c2 root va two xs HXL.out _ (by omega) (by omega) (by omega) ((HXr.out.upto hb3).upto hb4) HXW.out).mono ?_
      rw [HVk.out]; rintro e w5 ⟨rfl, hb5⟩
      simp only [trn]
      go_wp2_with fail
      refine (walk_at A1 c1 root va two us HLU.out _ (by omega) (by omega) (by omega) (((HUr.out.upto hb3).upto hb4).upto hb5) HWU.out).mono ?_
      rw [HT.out]; rintro e w6 ⟨rfl, hb6⟩
      simp only [trn]
      go_wp2_with fail
      refine (awake5 _).mono ?_; rintro e w7 ⟨rfl, hb7⟩
      go_wp2_with fail
      go_ret
      exact ⟨rfl, hb12.then (hb.then (hb3.then (hb4.then (hb5.then (hb6.then hb7)))))⟩
end Go.Proofs.Ytmefbkfapeijgaa
