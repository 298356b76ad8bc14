/- MemoryCopies: what the law's call does. -/
import Derived.Test.YtmefbkfapeijgaaLawE
namespace Go.Proofs.Ytmefbkfapeijgaa
open Go.RowKit

theorem shaped_len (D : Option Addr) (d : Nat) (ls : List Int) (pages : Int) (n P : Nat) (w : World) (hp1 : -9223372036854775808 ≤ pages) (hp2 : pages ≤ 9223372036854775807) (hd : Rd w w.heap.size D (zs ls)) (hP : P = 1 + (pages % 6).toNat) (hn : n = 32 * P) :
    Calls Try.prog 25 #[.slice none 0 0, .bool false, .slice D ls.length d, .int .i64 pages] w fun e w' => ∃ A' c' us, e = .returned (.slice A' n c') ∧ n ≤ c' ∧ List.length us = n ∧ Wd us ∧ Rd w' w'.heap.size A' (ws us) ∧ Below w.heap.size w w' := by
  refine (shaped_any none D 0 d [] false ls pages w hp1 hp2 (Nat.le_refl _) Rd.nil (fun x hx => by cases hx) hd).mono ?_
  rintro e w' ⟨A', c', us, rfl, hc, hs, hr, hb⟩
  rcases hs.2 with ⟨h, _⟩ | ⟨hl, _⟩
  · cases h
  · have e : us.length = n := by omega
    exact ⟨A', c', us, by rw [e], by omega, e, hs.1, hr, hb⟩

theorem pc_bytes (xs : List Nat) (j : Nat) : bytesOf (pc xs j) = ((bytesOf xs).drop (128 * j)).take 128 := by
  unfold pc; rw [bytesOf_piece, show 4 * (32 * j) = 128 * j by omega]
theorem sp_drop_other {α : Type} (L : List α) (k : Nat) (cs : List α) (j m : Nat) (h : k + cs.length ≤ L.length) (hj : j + m ≤ k ∨ k + cs.length ≤ j) : ((sp L k cs).drop j).take m = (L.drop j).take m := by
  apply List.ext_getElem?
  intro i
  simp only [List.getElem?_take, List.getElem?_drop]
  split
  · rw [sp_get _ _ _ h, if_neg (by omega)]
  · rfl
theorem sp_drop_same {α : Type} (L : List α) (k : Nat) (cs : List α) (h : k + cs.length ≤ L.length) : ((sp L k cs).drop k).take cs.length = cs := by
  apply List.ext_getElem?
  intro i
  simp only [List.getElem?_take, List.getElem?_drop]
  split
  · rw [sp_get _ _ _ h, if_pos (by omega)]; congr 1; omega
  · rw [List.getElem?_eq_none (by omega)]
/-- What replacing a page does to the pages. -/
theorem pc_setpage (as_ bs us : List Nat) (n P p : Nat) (hn : n = 32 * P) (hP : P ≤ 32) (ha : as_.length = n) (hb : bs.length = n) (_hu : us.length = n) (wa : Wd as_) (wb : Wd bs) (wu : Wd us) (hp : p < P)
    (hy : bytesOf us = spB bs p (pgB as_ p)) : spin n p (pgB as_ p).length = true ∧ pc us p = pc as_ p ∧ ∀ j, j ≠ p → pc us j = pc bs j := by
  have hpg : pg n = P := by unfold pg; rw [if_pos (by omega)]; omega
  have hin : pgin n (p : Int) = true := by simp [pgin, hpg]; omega
  have hB : pgB as_ p = bytesOf (pc as_ p) := by unfold pgB pc; rw [ha, hin]; rfl
  have hl : (pgB as_ p).length = 128 := by rw [hB, bytesOf_length, pc_length _ _ (by omega)]
  have hs : spin n p (pgB as_ p).length = true := by simp [spin, hin, hl]
  have hby : bytesOf us = sp (bytesOf bs) (128 * p) (pgB as_ p) := by rw [hy]; unfold spB; rw [hb, hs]; rfl
  have hlb : (bytesOf bs).length = 4 * n := by rw [bytesOf_length, hb]
  refine ⟨hs, ?_, fun j hj => ?_⟩
  · refine bytesOf_inj (wu.piece _ _) (wa.piece _ _) ?_
    rw [pc_bytes, hby, ← hB]
    have := sp_drop_same (bytesOf bs) (128 * p) (pgB as_ p) (by omega)
    rw [hl] at this
    exact this
  · refine bytesOf_inj (wu.piece _ _) (wb.piece _ _) ?_
    rw [pc_bytes, pc_bytes, hby, sp_drop_other _ _ _ _ _ (by omega) (by omega)]
theorem eq_of_pages (as_ bs : List Nat) (n P : Nat) (hn : n = 32 * P) (ha : as_.length = n) (hb : bs.length = n) (h : ∀ j, j < P → pc bs j = pc as_ j) : bs = as_ := by
  apply List.ext_getElem?
  intro i
  by_cases hi : i < n
  · have := congrArg (fun l => l[i % 32]?) (h (i / 32) (by omega))
    unfold pc at this
    simp only [List.getElem?_take, List.getElem?_drop] at this
    rw [if_pos (by omega), if_pos (by omega), show 32 * (i / 32) + i % 32 = i by omega] at this
    exact this
  · rw [List.getElem?_eq_none (by omega), List.getElem?_eq_none (by omega)]
/-- The order in which the pages are copied. -/
def ppg (P o i : Nat) : Nat := if P % 5 = 0 then i else (i * 5 + o) % P
theorem ppg_all : ∀ P, P < 7 → ∀ o, o < P → ∀ j, j < P → ∃ i, i < P ∧ ppg P o i = j := by decide
theorem ppg_lt (P o i : Nat) (hi : i < P) : ppg P o i < P := by
  unfold ppg; split
  · exact hi
  · exact Nat.mod_lt _ (by omega)

theorem setpage_at {n : Nat} (A : Option Addr) (c : Nat) (f : Int) (l : List UInt8) (xs : List Nat) (hx : xs.length = n) (w : World) (hn : n ≤ 35184372087808) (hr : Rd w w.heap.size A (ws xs)) (hw : Wd xs) :
    Calls Try.prog 41 #[.slice A n c, .int .i64 f, .string (str l)] w (PgOut n (spin n f l.length) (spB xs f l) w) := by
  subst hx; exact setpage_any A c f l xs w hn hr hw

set_option maxRecDepth 100000 in
set_option maxHeartbeats 2000000 in
theorem copies_any (D E : Option Addr) (d e : Nat) (ls ks : List Int) (pages order : Int) (w : World)
    (hp1 : -9223372036854775808 ≤ pages) (hp2 : pages ≤ 9223372036854775807) (ho1 : -9223372036854775808 ≤ order) (ho2 : order ≤ 9223372036854775807) (hd : Rd w w.heap.size D (zs ls)) (he : Rd w w.heap.size E (zs ks)) :
    Calls Try.prog 9 #[.slice D ls.length d, .slice E ks.length e, .int .i64 pages, .int .i64 order] w fun e w' => e = .returned (.bool true) ∧ Below w.heap.size w w' := by
  have hm0 := Int.emod_nonneg pages (show (6 : Int) ≠ 0 by omega)
  have hm1 := Int.emod_lt_of_pos pages (show (0 : Int) < 6 by omega)
  obtain ⟨P, hP⟩ : ∃ P, P = 1 + (pages % 6).toNat := ⟨_, rfl⟩
  obtain ⟨n, hn⟩ : ∃ n, n = 32 * P := ⟨_, rfl⟩
  have hP1 : 1 ≤ P := by omega
  have hP2 : P ≤ 6 := by omega
  have hn2 : n ≤ 192 := by omega
  have C1 := Lib.hid (shaped_len D d ls pages n P w hp1 hp2 hd hP hn)
  have C2 := Lib.hid (fun W (h : Below w.heap.size w W) => shaped_len E e ks pages n P W hp1 hp2 (he.upto h) hP hn)
  have CP := Lib.hid (fun (A : Option Addr) (c : Nat) (W : World) => show Calls Try.prog 32 #[.slice A n c] W fun e w' => e = .returned (.int .i64 P) ∧ W = w' from
    (pages_any A n c W (by unfold maxLen; omega)).mono fun e w' ⟨h1, h2⟩ => ⟨by rw [h1, show pg n = P by unfold pg; rw [if_pos (by omega)]; omega], h2⟩)
  obtain ⟨o, hoe, hoP⟩ : ∃ o : Nat, order % (P : Int) = o ∧ o < P := ⟨(order % (P : Int)).toNat, by have := Int.emod_nonneg order (show (P : Int) ≠ 0 by omega); omega, by have := Int.emod_nonneg order (show (P : Int) ≠ 0 by omega); have := Int.emod_lt_of_pos order (show (0 : Int) < P by omega); omega⟩
  have CR := Lib.hid (fun W => hoe ▸ round_any order P W ho1 ho2 (by omega) (by omega))
  have HN := Lib.hid hn
  have HAll := Lib.hid (ppg_all P (by omega) o hoP)
  clear hd he hp1 hp2 ho1 ho2 hoe hm0 hm1 hP hn
  go_enter Try.func9, Try.ntmps9
  go_wp2_with fail
  refine C1.out.mono ?_; rintro e w1 ⟨A1, c1, as_, rfl, hc1, hla, hwa, hr1, hb1⟩
  have HB1 := Lib.hid hb1
  have HR1 := Lib.hid hr1
  have HWA := Lib.hid hwa
  have HLA := Lib.hid hla
  clear hb1 hr1 hwa hla
  go_wp2_with fail
  refine (C2.out _ HB1.out).mono ?_; rintro e w2 ⟨A2, c2, bs0, rfl, hc2, hlb, hwb, hr2, hb2⟩
  have HB2 := Lib.hid (HB1.out.then hb2)
  have HRA := Lib.hid (HR1.out.upto hb2)
  have HR2 := Lib.hid hr2
  have HWB := Lib.hid hwb
  have HLB := Lib.hid hlb
  clear hb2 hr2 hwb hlb
  go_wp2_with fail
  refine (CP.out _ _ _).mono ?_; rintro e w' ⟨rfl, rfl⟩
  go_wp2_with fail
  go_loopw [10, 12] (fun v i wr => ∃ k : Nat, k ≤ P ∧ i = .int .i64 k ∧ ∃ Ab cb bs, v = .slice Ab n cb ∧ n ≤ cb ∧ List.length bs = n ∧ Wd bs ∧ Rd wr wr.heap.size Ab (ws bs) ∧ Rd wr wr.heap.size A1 (ws as_) ∧ (∀ j, j < k → pc bs (ppg P o j) = pc as_ (ppg P o j)) ∧ Below w.heap.size w wr) (fun _ i _ => P - (intOf i).toNat)
  case atStart => exact ⟨0, Nat.zero_le _, rfl, _, _, bs0, rfl, hc2, HLB.out, HWB.out, HR2.out, HRA.out, fun j hj => absurd hj (by omega), HB2.out⟩
  case round =>
    obtain ⟨k, hk, rfl, Ab, cb, bs, rfl, hcb, hlb, hwb, hrb, hra, hpp, hb⟩ := hrel
    have HRb := Lib.hid hrb
    have HRa := Lib.hid hra
    have HPP := Lib.hid hpp
    have HB := Lib.hid hb
    have HWb := Lib.hid hwb
    have HLb := Lib.hid hlb
    clear hrb hra hpp hb hwb hlb
    by_cases hlt : k < P
    · obtain ⟨q, hq⟩ : ∃ q, q = (k * 5 + o) % P := ⟨_, rfl⟩
      have CR2 := Lib.hid (fun W => show Calls Try.prog 26 #[.int .i64 ((k : Int) * 5 + (o : Int)), .int .i64 P] W fun e w' => e = .returned (.int .i64 (q : Int)) ∧ W = w' from
        (round_any ((k : Int) * 5 + (o : Int)) P W (by omega) (by omega) (by omega) (by omega)).mono fun e w' ⟨h1, h2⟩ => ⟨by rw [h1, hq]; simp, h2⟩)
      have HQ := Lib.hid hq
      clear hq
      cases h5 : (((P : Int) % 5) == 0) with
      | true =>
        have HPQ := Lib.hid (show ppg P o k = k by unfold ppg; rw [if_pos (by simp at h5; omega)])
        go_wp2_with fail
        refine (CR.out _).mono ?_; rintro e w' ⟨rfl, rfl⟩
        go_wp2_with fail
        refine (CR2.out _).mono ?_; rintro e w' ⟨rfl, rfl⟩
        go_wp2_with fail
        refine (page_at A1 c1 k as_ HLA.out _ (by unfold maxLen; omega) hc1 HRa.out HWA.out).mono ?_; rintro e w3 ⟨rfl, hb3⟩
        have HIn := Lib.hid (show pgin n (k : Int) = true by have := HN.out; simp [pgin, show pg n = P by unfold pg; rw [if_pos (by omega)]; omega]; omega)
        rw [HIn.out]
        go_wp2_with fail
        refine (setpage_at Ab cb k (pgB as_ k) bs HLb.out _ (by omega) (HRb.out.upto hb3) HWb.out).mono ?_; rintro e w4 ⟨A4, c4, us, rfl, ho4, hw4, hby4, hb4⟩
        have hlu : us.length = n := by have := ho4.1; simp at this; omega
        have T := Lib.hid (pc_setpage as_ bs us n P k HN.out (by omega) HLA.out HLb.out hlu HWA.out HWb.out hw4 (by omega) hby4)
        have HO4 := Lib.hid ho4
        have hc4 := row_cap ho4
        have HW4 := Lib.hid hw4
        have HL4 := Lib.hid hlu
        rw [T.out.1]
        clear ho4 hw4 hby4 hlu
        go_wp2_with fail
        go_roundw
        case rel => exact ⟨k + 1, by omega, by go_num, A4, c4, us, rfl, hc4, HL4.out, HW4.out, row_rd HO4.out, (HRa.out.upto hb3).upto hb4, fun j hj => by
          by_cases h : ppg P o j = k
          · rw [h]; exact T.out.2.1
          · rw [T.out.2.2 _ h]
            have hjk : j ≠ k := fun e => h (by rw [e]; exact HPQ.out)
            exact HPP.out j (by omega), HB.out.then (hb3.then hb4)⟩
        case measure => simp [intOf]; omega
      | false =>
        have HPQ := Lib.hid (show ppg P o k = q by unfold ppg; rw [if_neg (by simp at h5; omega)]; exact HQ.out.symm)
        have hqP : q < P := by rw [HQ.out]; exact Nat.mod_lt _ (by omega)
        go_wp2_with fail
        refine (CR.out _).mono ?_; rintro e w' ⟨rfl, rfl⟩
        go_wp2_with fail
        refine (CR2.out _).mono ?_; rintro e w' ⟨rfl, rfl⟩
        go_wp2_with fail
        refine (page_at A1 c1 q as_ HLA.out _ (by unfold maxLen; omega) hc1 HRa.out HWA.out).mono ?_; rintro e w3 ⟨rfl, hb3⟩
        have HIn := Lib.hid (show pgin n (q : Int) = true by have := HN.out; simp [pgin, show pg n = P by unfold pg; rw [if_pos (by omega)]; omega]; omega)
        rw [HIn.out]
        go_wp2_with fail
        refine (setpage_at Ab cb q (pgB as_ q) bs HLb.out _ (by omega) (HRb.out.upto hb3) HWb.out).mono ?_; rintro e w4 ⟨A4, c4, us, rfl, ho4, hw4, hby4, hb4⟩
        have hlu : us.length = n := by have := ho4.1; simp at this; omega
        have T := Lib.hid (pc_setpage as_ bs us n P q HN.out (by omega) HLA.out HLb.out hlu HWA.out HWb.out hw4 (by omega) hby4)
        have HO4 := Lib.hid ho4
        have hc4 := row_cap ho4
        have HW4 := Lib.hid hw4
        have HL4 := Lib.hid hlu
        rw [T.out.1]
        clear ho4 hw4 hby4 hlu
        go_wp2_with fail
        go_roundw
        case rel => exact ⟨k + 1, by omega, by go_num, A4, c4, us, rfl, hc4, HL4.out, HW4.out, row_rd HO4.out, (HRa.out.upto hb3).upto hb4, fun j hj => by
          by_cases h : ppg P o j = q
          · rw [h]; exact T.out.2.1
          · rw [T.out.2.2 _ h]
            have hjk : j ≠ k := fun e => h (by rw [e]; exact HPQ.out)
            exact HPP.out j (by omega), HB.out.then (hb3.then hb4)⟩
        case measure => simp [intOf]; omega
    · obtain rfl : k = P := by omega
      have hEq : bs = as_ := eq_of_pages as_ bs n k HN.out HLA.out HLb.out (fun j hj => by obtain ⟨i, h1, h2⟩ := HAll.out j hj; rw [← h2]; exact HPP.out i h1)
      subst hEq
      go_wp2_with fail
      refine (same_at A1 Ab c1 cb bs HLb.out _ (by omega) HRa.out HRb.out).mono ?_; rintro e w3 ⟨rfl, hb3⟩
      go_wp2_with fail
      refine (memhash_at A1 c1 bs HLb.out _ (by omega) (HRa.out.upto hb3) HWb.out).mono ?_; rintro e w4 ⟨rfl, hb4⟩
      go_wp2_with fail
      refine (memhash_at Ab cb bs HLb.out _ (by omega) ((HRb.out.upto hb3).upto hb4) HWb.out).mono ?_; rintro e w5 ⟨rfl, hb5⟩
      go_wp2_with fail
      refine (changed_at A1 Ab c1 cb bs bs HLb.out HLb.out _ (by omega) (by omega) hc1 hcb (((HRa.out.upto hb3).upto hb4).upto hb5) (((HRb.out.upto hb3).upto hb4).upto hb5)).mono ?_
      rw [chg_self]; rintro e w6 ⟨A6, c6, rfl, ho6, hb6⟩
      clear ho6
      go_wp2_with fail
      refine (awake4 _).mono ?_; rintro e w7 ⟨rfl, hb7⟩
      go_wp2_with fail
      go_ret
      exact ⟨rfl, HB.out.then (hb3.then (hb4.then (hb5.then (hb6.then hb7))))⟩
end Go.Proofs.Ytmefbkfapeijgaa
