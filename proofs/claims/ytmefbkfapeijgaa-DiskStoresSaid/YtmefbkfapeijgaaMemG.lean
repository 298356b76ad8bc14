/- Filling a page byte by byte, and the reference's replacement of a page. -/
import Derived.Test.YtmefbkfapeijgaaMemF
namespace Go.Proofs.Ytmefbkfapeijgaa
open Go.RowKit

/-- What filling a page leaves. -/
def FillOut (g n c B : Nat) (by_ : List UInt8) (w : World) (e : Ending) (w' : World) : Prop :=
  e = .returned (.tuple #[]) ∧ ∃ us, w'.ownsRow B 24 1 (.slice (some ⟨g, 0, none⟩) n c) n (ws us) ∧ Wd us ∧ bytesOf us = by_ ∧ w.grownBy w' (some g)

theorem take_snoc' (l : List UInt8) (k : Nat) (hk : k < l.length) : l.take (k + 1) = l.take k ++ [l[k]] := by rw [List.take_succ_eq_append_getElem hk]
theorem fill_step (xs us : List Nat) (l : List UInt8) (q k : Nat) (hk : k < l.length) (hk2 : k < 128) (h2 : 32 * q + 32 ≤ xs.length) (hwin : win us.length (q * 128 + k) 1 = true)
    (hy : bytesOf us = sp (bytesOf xs) (128 * q) (l.take k)) : bytesOf (stv us (q * 128 + k) 1 (l[k]).toNat) = sp (bytesOf xs) (128 * q) (l.take (k + 1)) := by
  have hlt : (l.take k).length = k := by simp; omega
  rw [bytesOf_stv1 _ _ _ hwin, hy, show q * 128 + k = 128 * q + (l.take k).length by rw [hlt]; omega, sp_snoc, take_snoc' l k hk]
  · congr 3; apply UInt8.toNat.inj; simp
  · rw [hlt, bytesOf_length]; simp; omega

theorem put_at {n : Nat} (B g c addr : Nat) (size : Int) (v : Nat) (xs : List Nat) (hx : xs.length = n) (w : World) (ha : addr < 4294967296) (hv : v < 4294967296) (ho : w.ownsRow B 24 1 (.slice (some ⟨g, 0, none⟩) n c) n (ws xs)) (hw : Wd xs) (hwin : win n addr size = true) :
    Calls Try.prog 95 #[.slice (some ⟨g, 0, none⟩) n c, .int .u32 addr, .int .i64 size, .int .u32 v] w fun e w' => e = .returned (.tuple #[]) ∧
      w'.ownsRow B 24 1 (.slice (some ⟨g, 0, none⟩) n c) n (ws (stv xs addr size v)) ∧ w.grownBy w' (some g) := by
  subst hx; exact put_any B g c addr size v xs w ha hv ho hw hwin

set_option maxRecDepth 100000 in
set_option maxHeartbeats 1000000 in
theorem fill_any (B g c q : Nat) (l : List UInt8) (xs : List Nat) (w : World) (hp : pgin xs.length q = true) (ho : w.ownsRow B 24 1 (.slice (some ⟨g, 0, none⟩) xs.length c) xs.length (ws xs)) (hw : Wd xs) (hl : l.length ≤ 1048576) :
    Calls Try.prog 100 #[.slice (some ⟨g, 0, none⟩) xs.length c, .int .i64 q, .string (str l)] w (FillOut g xs.length c B (sp (bytesOf xs) (128 * q) (l.take 128)) w) := by
  obtain ⟨_, h1, h2, h3⟩ := pgin_le hp
  have hq : q < 32 := by omega
  simp only [Int.toNat_natCast] at h2
  have hpg : q < pg xs.length := by simp [pgin] at hp; omega
  have HO := Lib.hid ho
  clear ho h1
  go_enter Try.func100, Try.ntmps100
  go_wp2
  go_loopw [6] (fun i wr => ∃ k : Nat, k ≤ l.length ∧ k ≤ 128 ∧ i = .int .i64 k ∧ ∃ us, wr.ownsRow B 24 1 (.slice (some ⟨g, 0, none⟩) xs.length c) xs.length (ws us) ∧ Wd us ∧ bytesOf us = sp (bytesOf xs) (128 * q) (l.take k) ∧ w.grownBy wr (some g)) (fun i _ => 128 - (intOf i).toNat)
  case atStart => exact ⟨0, Nat.zero_le _, by omega, rfl, xs, HO.out, hw, by simp [sp_nil], World.grownBy.refl w _⟩
  case round =>
    obtain ⟨k, hk, hk2, rfl, us, ho, hw, hby, hg⟩ := hrel
    have hlu : us.length = xs.length := by have := ho.1; simp at this; omega
    have HLU := Lib.hid hlu
    have HOr := Lib.hid ho
    have HG := Lib.hid hg
    have HY := Lib.hid hby
    clear ho hg hby hlu
    by_cases hlt : k < l.length
    · by_cases h128 : k < 128
      · have g2 : decide ((k : Int) < 128) = true := by simp; omega
        have HWin := Lib.hid (show win us.length (q * 128 + k) 1 = true by rw [HLU.out]; simp [win]; omega)
        have HS := Lib.hid (fill_step xs us l q k hlt h128 h2 HWin.out HY.out)
        go_wp2_with fail
        rw [show ((q : Int) * 128 + (k : Int)) = ((q * 128 + k : Nat) : Int) by omega]
        have hb8 := (l[k]).toNat_lt
        rw [show ((((str l)[k]'(by simpa using hlt)).toNat : Nat) : Int) % 4294967296 = ((l[k].toNat : Nat) : Int) by rw [str_get]; omega]
        refine (put_at B g c (q * 128 + k) 1 _ us HLU.out _ (by omega) (by omega) HOr.out hw (by rw [← HLU.out]; exact HWin.out)).mono ?_
        rintro e w2 ⟨rfl, ho2, hg2⟩
        have HO2 := Lib.hid ho2
        have HG2 := Lib.hid hg2
        clear ho2 hg2
        go_wp2_with fail
        go_roundw
        case rel => exact ⟨k + 1, by omega, by omega, by go_num, _, HO2.out, hw.stv _ _ _ (by omega), HS.out, grown_trans HG.out HG2.out⟩
        case measure => simp [intOf]; omega
      · obtain rfl : k = 128 := by omega
        have g2 : decide ((128 : Int) < 128) = false := by decide
        go_wp2
        go_end0
        exact ⟨rfl, us, HOr.out, hw, HY.out, HG.out⟩
    · have hk3 : k = l.length := by omega
      subst hk3
      have HT := Lib.hid (show l.take 128 = l.take l.length by rw [List.take_of_length_le hk2, List.take_of_length_le (Nat.le_refl _)])
      go_wp2
      go_end0
      exact ⟨rfl, us, HOr.out, hw, by rw [HT.out]; exact HY.out, HG.out⟩

set_option maxRecDepth 100000 in
set_option maxHeartbeats 1000000 in
theorem rsetpage_any (A : Option Addr) (c : Nat) (f : Int) (l : List UInt8) (xs : List Nat) (w : World) (hn : xs.length ≤ 35184372087808) (hll : l.length ≤ 1048576) (hr : Rd w w.heap.size A (ws xs)) (hw : Wd xs) :
    Calls Try.prog 42 #[.slice A xs.length c, .int .i64 f, .string (str l)] w (PgOut xs.length (spin xs.length f l.length) (spB xs f l) w) := by
  have hm : xs.length ≤ maxLen := by unfold maxLen; omega
  have HR := Lib.hid hr
  have HW := Lib.hid hw
  clear hr hw
  cases hp : pgin xs.length f with
  | false =>
    have HS := Lib.hid (show spin xs.length f l.length = false by simp [spin, hp])
    have HB := Lib.hid (show spB xs f l = bytesOf xs by unfold spB; rw [HS.out]; rfl)
    by_cases h0 : 0 ≤ f
    · have g0 : decide (f < 0) = false := by simp; omega
      have g1 : decide ((pg xs.length : Int) ≤ f) = true := by simp [pgin] at hp ⊢; omega
      go_enter Try.func42, Try.ntmps42
      go_wp2_with (first | (go_at_call 94; refine (copy_any _ _ _ _ hn HR.out).mono ?_; rintro e w1 ⟨A', c', rfl, ho, hb⟩) | (go_at_call 33; refine (rpages_any _ _ _ _ hm).mono ?_; rintro e w' ⟨rfl, rfl⟩))
      go_ret2
      exact ⟨A', c', xs, by rw [HS.out]; rfl, ho, HW.out, HB.out.symm, hb⟩
    · have g0 : decide (f < 0) = true := by simp; omega
      go_enter Try.func42, Try.ntmps42
      go_wp2_with (first | (go_at_call 94; refine (copy_any _ _ _ _ hn HR.out).mono ?_; rintro e w1 ⟨A', c', rfl, ho, hb⟩) | (go_at_call 33; refine (rpages_any _ _ _ _ hm).mono ?_; rintro e w' ⟨rfl, rfl⟩))
      go_ret2
      exact ⟨A', c', xs, by rw [HS.out]; rfl, ho, HW.out, HB.out.symm, hb⟩
  | true =>
    obtain ⟨h0, h1, h2, h3⟩ := pgin_le hp
    have g0 : decide (f < 0) = false := by simp; omega
    have g1 : decide ((pg xs.length : Int) ≤ f) = false := by simp [pgin] at hp ⊢; omega
    obtain ⟨q, rfl⟩ := Int.eq_ofNat_of_zero_le h0
    have g2 : decide (pg xs.length ≤ q) = false := by simp at g1 ⊢; omega
    have HP := Lib.hid hp
    by_cases hl : l.length = 128
    · have HS := Lib.hid (show spin xs.length q l.length = true by simp [spin, hp, hl])
      have HB := Lib.hid (show spB xs q l = sp (bytesOf xs) (128 * q) (l.take 128) by unfold spB; rw [HS.out, List.take_of_length_le (by omega)]; rfl)
      have g3 : ((l.length : Int) != 128) = false := by simp; omega
      clear hl hp
      go_enter Try.func42, Try.ntmps42
      go_wp2_with (first | (go_at_call 94; refine (copy_any _ _ _ _ hn HR.out).mono ?_; rintro e w1 ⟨A', c', rfl, ho, hb⟩; obtain ⟨g, rfl, hg1, hg2⟩ := row_get ho (by omega); have HO := Lib.hid ho; clear ho) | (go_at_call 33; refine (rpages_any _ _ _ _ hm).mono ?_; rintro e w' ⟨rfl, rfl⟩) | (go_at_call 100; refine (fill_any _ g c' q l xs _ HP.out HO.out HW.out hll).mono ?_; rintro e w2 ⟨rfl, us, ho2, hw2, hby2, hg3⟩; have HO2 := Lib.hid ho2; have HY := Lib.hid hby2; have HG := Lib.hid hg3; clear ho2 hby2 hg3))
      go_ret2
      exact ⟨some ⟨g, 0, none⟩, c', us, by rw [HS.out]; rfl, HO2.out, hw2, by rw [HB.out]; exact HY.out, hb.trans (below_of_grown HG.out hb.size (fun k h => by rw [← Option.some.inj h]; exact hg1))⟩
    · have HS := Lib.hid (show spin xs.length q l.length = false by simp [spin, hl])
      have HB := Lib.hid (show spB xs q l = bytesOf xs by unfold spB; rw [HS.out]; rfl)
      have g3 : ((l.length : Int) != 128) = true := by rw [bne_iff_ne]; omega
      clear hl hp
      go_enter Try.func42, Try.ntmps42
      go_wp2_with (first | (go_at_call 94; refine (copy_any _ _ _ _ hn HR.out).mono ?_; rintro e w1 ⟨A', c', rfl, ho, hb⟩) | (go_at_call 33; refine (rpages_any _ _ _ _ hm).mono ?_; rintro e w' ⟨rfl, rfl⟩))
      go_ret2
      exact ⟨A', c', xs, by rw [HS.out]; rfl, ho, HW.out, HB.out.symm, hb⟩
end Go.Proofs.Ytmefbkfapeijgaa
