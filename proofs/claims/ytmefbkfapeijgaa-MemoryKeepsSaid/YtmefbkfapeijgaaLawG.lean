/- MemoryKeeps: what the law's call does. -/
import Derived.Test.YtmefbkfapeijgaaLawF
namespace Go.Proofs.Ytmefbkfapeijgaa
open Go.RowKit

theorem run_string_rd {P : Program} {w : World} {B : Nat} {src dst e : TypeId} {A : Option Addr} {n c : Nat} {l : List UInt8} (hs : P.underlying src = some (.slice e)) (he : P.underlying e = some (.int .u8)) (hd : P.underlying dst = some .string)
    (hr : Rd w B A (bc l)) (hn : l.length = n) (h0 : 0 < n) : (convert src dst (.slice A n c)).run P w = .ok (.string (str l)) w := by
  subst hn
  obtain ⟨b, off, rfl, _, hc⟩ := hr (by simpa using h0)
  refine run_convert_bytes_back w src dst e ⟨b, off, none⟩ c l hs he hd fun j hj => ?_
  have := hc j (by simpa using hj)
  rw [show (⟨b, off, none⟩ : Addr).add j = ⟨b, off + j, none⟩ by by_cases h : j = 0 <;> simp [Addr.add, h], this]
  simp [bc, hj]
theorem bytesOf_stv (us : List Nat) (a v : Nat) (sz : Nat) (hs : sz = 1 ∨ sz = 4) (h : win us.length a sz = true) : bytesOf (stv us a sz v) = sp (bytesOf us) a ((b4 v).take sz) := by
  rcases hs with rfl | rfl
  · exact bytesOf_stv1 us a v h
  · exact bytesOf_stv4 us a v h
theorem bc_rep (n : Nat) : bc (bytesOf (List.replicate n 0)) = List.replicate (4 * n) (.int .u8 0) := by
  induction n with
  | zero => rfl
  | succ n ih =>
    rw [List.replicate_succ, bytesOf_cons, bc_append, ih, show 4 * (n + 1) = 4 + 4 * n by omega, ← List.replicate_append_replicate]; rfl
theorem bc_sp (l : List UInt8) (k : Nat) (m : List UInt8) : bc (sp l k m) = sp (bc l) k (bc m) := by simp [bc, sp, List.map_take, List.map_drop]
theorem sp_set {α : Type} (L : List α) (k : Nat) (cs : List α) (x : α) (h : k + cs.length < L.length) : (sp L k cs).set (k + cs.length) x = sp L k (cs ++ [x]) := by
  rw [← sp_snoc _ _ _ _ (by simp; omega)]
  apply List.ext_getElem?
  intro j
  have hl := sp_length L k cs (by omega)
  rw [sp_get _ _ _ (by simp; omega)]
  by_cases hj : k + cs.length = j
  · subst hj
    rw [if_pos (by simp)]
    simp [hl, h]
  · rw [List.getElem?_set_ne hj, if_neg (by simp; omega)]
/-- The table's byte. -/
theorem tab_step (us : List Nat) (a v sz j : Nat) (hs : sz = 1 ∨ sz = 4) (hj : j < sz) (ha : a + sz ≤ 4 * us.length) :
    (bc (sp (bytesOf us) a ((b4 v).take j))).set (a + j) (.int .u8 ((v : Int) / 2 ^ (8 * j) % 256)) = bc (sp (bytesOf us) a ((b4 v).take (j + 1))) := by
  have h4 : j < 4 := by omega
  have hl : ((b4 v).take j).length = j := by rw [List.length_take]; show min j 4 = j; omega
  have hlb : (bc (bytesOf us)).length = 4 * us.length := by rw [bc_length, bytesOf_length]
  rw [bc_sp, show a + j = a + (bc ((b4 v).take j)).length by rw [bc_length, hl], sp_set _ _ _ _ (by rw [bc_length, hl, hlb]; omega), bc_sp, low_step v j h4, bc_append]
  simp [bc]

theorem row_ne {w : World} {B n c tb : Nat} {e : TypeId} {s : Nat} {A : Option Addr} {cs : List Value} (h : w.ownsRow B e s (.slice A n c) n cs) (ht : tb < B) : A.map (·.block) = none ∨ A.map (·.block) ≠ some tb := by
  rcases row_blk h with rfl | ⟨g, rfl, hg, _⟩
  · exact .inl rfl
  · refine .inr (fun h => ?_)
    simp at h; omega

set_option maxRecDepth 100000 in
set_option maxHeartbeats 8000000 in
theorem keeps_any (D : Option Addr) (d : Nat) (ls : List Int) (pages : Int) (w : World)
    (hp1 : -9223372036854775808 ≤ pages) (hp2 : pages ≤ 9223372036854775807) (hd : Rd w w.heap.size D (zs ls)) :
    Calls Try.prog 5 #[.int .i64 pages, .slice D ls.length d] w fun e w' => e = .returned (.bool true) ∧ Below w.heap.size w w' := by
  obtain ⟨i0, hi, hz0, hz1, hz2⟩ := info_parts Try.infoU8
  by_cases h60 : ls.length ≤ 60
  · have g60 : ¬ (60 : Int) < (ls.length : Int) := by omega
    have hm0 := Int.emod_nonneg pages (show (4 : Int) ≠ 0 by omega)
    have hm1 := Int.emod_lt_of_pos pages (show (0 : Int) < 4 by omega)
    obtain ⟨q, hq⟩ : ∃ q : Nat, pages % 4 = q ∧ q < 4 := ⟨(pages % 4).toNat, by omega, by omega⟩
    have CR := Lib.hid (fun W => hq.1 ▸ round_any pages 4 W hp1 hp2 (by omega) (by omega))
    obtain ⟨P, hP⟩ : ∃ P, P = 1 + q := ⟨_, rfl⟩
    have hP1 : 1 ≤ P := by omega
    have hP2 : P ≤ 4 := by omega
    have CN := Lib.hid (fun W => show Calls Try.prog 34 #[.int .i64 P] W fun e w' => ∃ A c, e = .returned (.slice A (32 * P) c) ∧ w'.ownsRow W.heap.size 24 1 (.slice A (32 * P) c) (32 * P) (ws (List.replicate (32 * P) 0)) ∧ Below W.heap.size W w' from by
      have e : newN (P : Int) = 32 * P := by unfold newN; rw [if_pos (by omega)]; omega
      have := new_any (P : Int) W
      rw [e] at this; exact this)
    have HD := Lib.hid hd
    obtain ⟨n, hn⟩ : ∃ n, n = 32 * P := ⟨_, rfl⟩
    rw [← hn] at CN
    have HN := Lib.hid hn
    have hq2 := hq.2
    have HPQ := Lib.hid (show (1 : Int) + (q : Int) = (P : Int) by omega)
    have hpg := Lib.hid (show pg n = P by unfold pg; rw [if_pos (by omega)]; omega)
    have hnn : n ≤ 128 := by omega
    have hnP : n = 32 * P := hn
    clear hq hm0 hm1 hp1 hp2 hd hn hP hnP
    go_enter Try.func5, Try.ntmps5
    go_wp2_with fail
    refine (CR.out _).mono ?_; rintro e w' ⟨rfl, rfl⟩
    go_wp2_with fail
    rw [HPQ.out]
    refine (CN.out _).mono ?_; rintro e w1 ⟨A1, c1, rfl, ho1, hb1⟩
    have HO1 := Lib.hid ho1
    have HB1 := Lib.hid hb1
    have hs1 := hb1.size
    clear ho1 hb1
    go_wp2_with (at_make; go_must (refine wpList_make_rd _ rfl _ _ _ rfl w.heap.size _ i0 _ 1 Try.underlying37 hi hz0 hz1 hz2 rfl _ rfl rfl (by omega) (by omega) (by unfold maxLen; omega) hs1 ?_); intro w2 ho2 hg2)
    have h128 : ((P : Int) * 128).toNat = 4 * n := by have := HN.out; omega
    rw [h128, show List.replicate (4 * n) (Value.int IntKind.u8 0) = bc (bytesOf (List.replicate n 0)) from (bc_rep n).symm] at ho2
    have hPn : P * 128 = 4 * n := by have := HN.out; omega
    have hb2 := below_of_grown (B := w1.heap.size) hg2 (Nat.le_refl _) (fun k h => by cases h)
    have HRm0 := Lib.hid ((row_rd HO1.out).upto hb2)
    have HB2 := Lib.hid (HB1.out.then hb2)
    have hne0 : A1.map (·.block) = none ∨ A1.map (·.block) ≠ some w1.heap.size := by
      rcases row_blk HO1.out with rfl | ⟨g, rfl, _, hg⟩
      · exact .inl rfl
      · refine .inr (fun h => ?_)
        simp at h; omega
    have htb0 : w1.heap.size < w2.heap.size := by
      obtain ⟨g, h, _, hlt⟩ := row_get ho2 (by omega)
      injection h with h
      injection h with h
      omega
    obtain ⟨tb, htbe⟩ : ∃ tb, w1.heap.size = tb := ⟨_, rfl⟩
    obtain ⟨TL, hTL⟩ : ∃ TL, 4 * n = TL := ⟨_, rfl⟩
    have hPT : P * 128 = TL := by omega
    rw [hPT, htbe]
    rw [hTL, htbe] at ho2
    rw [htbe] at hne0 htb0 hs1
    have HT0 := Lib.hid ho2
    have HTL := Lib.hid hTL
    have hTL1 : 1 ≤ TL := by omega
    have hTL2 : TL ≤ 512 := by omega
    have hTLn : TL ≤ 4 * n ∧ 4 * n ≤ TL := by omega
    have htw := hs1
    clear ho2 hg2 hb2 h128 hPn hPT hTL htbe hi hz0 hz1 hz2 hs1
    go_loopw [6, 8] (fun v i wr => ∃ k : Nat, k ≤ ls.length ∧ i = .int .i64 k ∧ ∃ Am cm us, v = .slice Am n cm ∧ n ≤ cm ∧ List.length us = n ∧ Wd us ∧ Rd wr wr.heap.size Am (ws us) ∧ (Am.map (·.block) = none ∨ Am.map (·.block) ≠ some tb) ∧
      wr.ownsRow w.heap.size 5 1 (.slice (some ⟨tb, 0, none⟩) TL TL) TL (bc (bytesOf us)) ∧ Below w.heap.size w wr ∧ tb < wr.heap.size) (fun _ i _ => ls.length - (intOf i).toNat)
    case atStart => exact ⟨0, Nat.zero_le _, rfl, A1, c1, _, rfl, row_cap HO1.out, by simp, Wd.rep _, HRm0.out, hne0, HT0.out, HB2.out, htb0⟩
    case round =>
      obtain ⟨k, hk, rfl, Am, cm, us, rfl, hcm, hlu, hwu, hrm, hne, ht, hb, htb⟩ := hrel
      have HRm := Lib.hid hrm
      have HT := Lib.hid ht
      have HB := Lib.hid hb
      have HLU := Lib.hid hlu
      have HWu := Lib.hid hwu
      have HNE := Lib.hid hne
      by_cases hlt : k < ls.length
      · obtain ⟨b, off, rfl, hbb, hcell⟩ := (HD.out.below hb (Nat.le_refl _)).at_ k (by simpa using hlt)
        rw [zs_get _ _ hlt] at hcell
        generalize ls.getD k 0 = l at hcell
        clear hrm ht hb hlu hwu hne
        obtain ⟨y7, e7, h7a, h7b⟩ : ∃ y, mix l 7 = y ∧ 0 ≤ y ∧ y ≤ 9223372036854775807 := ⟨_, rfl, mix_range _ _⟩
        obtain ⟨y8, e8, h8a, h8b⟩ : ∃ y, mix l 8 = y ∧ 0 ≤ y ∧ y ≤ 9223372036854775807 := ⟨_, rfl, mix_range _ _⟩
        have C7 := Lib.hid (fun W => e7 ▸ mix_any l 7 W)
        have C8 := Lib.hid (fun W => e8 ▸ mix_any l 8 W)
        obtain ⟨x1, e1, h1a, h1b⟩ : ∃ y, y8 % (TL : Int) = y ∧ 0 ≤ y ∧ y < TL := ⟨_, rfl, Int.emod_nonneg _ (by omega), Int.emod_lt_of_pos _ (by omega)⟩
        have C1 := Lib.hid (fun W => e1 ▸ round_any y8 TL W (by omega) (by omega) (by omega) (by omega))
        clear e7 e8 e1 h8a h8b
        obtain ⟨x, rfl⟩ := Int.eq_ofNat_of_zero_le h1a
        have hxT : x < TL := by omega
        obtain ⟨v, hve, hv⟩ : ∃ v : Nat, bits BinOp.and IntKind.i64 y7 4294967295 % 4294967296 = (v : Int) ∧ v < 4294967296 := ⟨(bits BinOp.and IntKind.i64 y7 4294967295 % 4294967296).toNat, by omega, by omega⟩
        have HV := Lib.hid hve
        clear hve h7a h7b h1a h1b
        cases e1 : (bits BinOp.and IntKind.i64 l 1 == 1) with
        | true =>
          go_wp2_with fail
          refine (C7.out _).mono ?_; rintro e w' ⟨rfl, rfl⟩
          go_wp2_with fail
          rw [HV.out]
          refine (C8.out _).mono ?_; rintro e w' ⟨rfl, rfl⟩
          go_wp2_with fail
          refine (C1.out _).mono ?_; rintro e w' ⟨rfl, rfl⟩
          go_wp2_with fail
          obtain ⟨a4, ha4, ha5, ha6⟩ : ∃ a4 : Nat, (x : Int) / 4 * 4 = (a4 : Int) ∧ a4 % 4 = 0 ∧ a4 < TL := ⟨x / 4 * 4, by omega, by omega, by omega⟩
          rw [ha4]
          clear ha4
          go_wp2_with fail
          refine (store_at Am cm a4 4 v us HLU.out _ (by omega) (by omega) hv HRm.out HWu.out).mono ?_
          have HWin := Lib.hid (show win n a4 4 = true by rw [show (4 : Int) = ((4 : Nat) : Int) from rfl]; simp [win, hpg.out]; have := HN.out; omega)
          rw [HWin.out]; rintro e w3 ⟨A3, c3, rfl, ho3, hb3⟩
          have HO3 := Lib.hid ho3
          have hc3 := row_cap ho3
          have HT3 := Lib.hid (row_below HT.out hb3 (Nat.le_refl _))
          have HB3 := Lib.hid (HB.out.then hb3)
          have HDB := Lib.hid hb3
          have hsz3 := hb3.size
          have HSt := Lib.hid (show bytesOf (stv us a4 4 v) = sp (bytesOf us) a4 ((b4 v).take 4) from bytesOf_stv us a4 v 4 (by omega) (by rw [HLU.out]; exact HWin.out))
          clear ho3 hb3
          go_wp2_with fail
          go_loopw [14] (fun i wi => ∃ j : Nat, j ≤ 4 ∧ i = .int .i64 j ∧ wi.ownsRow w.heap.size 5 1 (.slice (some ⟨tb, 0, none⟩) TL TL) TL (bc (sp (bytesOf us) a4 ((b4 v).take j))) ∧ w3.grownBy wi (some tb)) (fun i _ => 4 - (intOf i).toNat)
          case atStart => exact ⟨0, Nat.zero_le _, rfl, by simpa [sp_nil] using HT3.out, World.grownBy.refl _ _⟩
          case round =>
            obtain ⟨j, hj, rfl, hti, hgi⟩ := hrel
            have HTi := Lib.hid hti
            have HGi := Lib.hid hgi
            by_cases hjlt : j < 4
            · obtain ⟨ov, hcx⟩ : ∃ ov, wr.cell? ⟨tb, a4 + j, none⟩ = some ov := ⟨_, (hti.cellAt (a4 + j) (by omega)).trans (List.getElem?_eq_getElem (by have := hti.1; omega))⟩
              have hfx := hti.frozenAt (a4 + j)
              have HS := Lib.hid (tab_step us a4 v 4 j (by omega) hjlt (by rw [HLU.out]; omega))
              clear hti hgi
              go_wp2
              go_roundw
              case rel => exact ⟨j + 1, by omega, by go_num, by rw [← HS.out]; exact (HTi.out.stored (a4 + j) _).1, grown_trans HGi.out (grown_setCell _ _ _ _)⟩
              case measure => simp [intOf]; omega
            · obtain rfl : j = 4 := by omega
              clear hti hgi
              go_wp2_with fail
              go_roundw
              case rel => exact ⟨k + 1, by omega, by go_num, A3, c3, stv us a4 4 v, rfl, hc3, by rw [stv_length]; exact HLU.out, HWu.out.stv _ _ _ hv, ((row_rd HO3.out).grown HGi.out (Nat.le_refl _) (row_ne HO3.out htb)).more HGi.out.size, row_ne HO3.out htb, by rw [HSt.out]; exact HTi.out, HB3.out.trans (below_of_grown HGi.out HB3.out.size (fun g h => by rw [← Option.some.inj h]; exact htw)), by have := HGi.out.size; omega⟩
              case measure => simp [intOf]; omega
        | false =>
          go_wp2_with fail
          refine (C7.out _).mono ?_; rintro e w' ⟨rfl, rfl⟩
          go_wp2_with fail
          rw [HV.out]
          refine (C8.out _).mono ?_; rintro e w' ⟨rfl, rfl⟩
          go_wp2_with fail
          refine (C1.out _).mono ?_; rintro e w' ⟨rfl, rfl⟩
          go_wp2_with fail
          refine (store_at Am cm x 1 v us HLU.out _ (by omega) (by omega) hv HRm.out HWu.out).mono ?_
          have HWin := Lib.hid (show win n x 1 = true by rw [show (1 : Int) = ((1 : Nat) : Int) from rfl]; simp [win, hpg.out]; have := HN.out; omega)
          rw [HWin.out]; rintro e w3 ⟨A3, c3, rfl, ho3, hb3⟩
          have HO3 := Lib.hid ho3
          have hc3 := row_cap ho3
          have HT3 := Lib.hid (row_below HT.out hb3 (Nat.le_refl _))
          have HB3 := Lib.hid (HB.out.then hb3)
          have HDB := Lib.hid hb3
          have hsz3 := hb3.size
          have HSt := Lib.hid (show bytesOf (stv us x 1 v) = sp (bytesOf us) x ((b4 v).take 1) from bytesOf_stv us x v 1 (by omega) (by rw [HLU.out]; exact HWin.out))
          clear ho3 hb3
          go_wp2_with fail
          go_loopw [14] (fun i wi => ∃ j : Nat, j ≤ 1 ∧ i = .int .i64 j ∧ wi.ownsRow w.heap.size 5 1 (.slice (some ⟨tb, 0, none⟩) TL TL) TL (bc (sp (bytesOf us) x ((b4 v).take j))) ∧ w3.grownBy wi (some tb)) (fun i _ => 1 - (intOf i).toNat)
          case atStart => exact ⟨0, Nat.zero_le _, rfl, by simpa [sp_nil] using HT3.out, World.grownBy.refl _ _⟩
          case round =>
            obtain ⟨j, hj, rfl, hti, hgi⟩ := hrel
            have HTi := Lib.hid hti
            have HGi := Lib.hid hgi
            by_cases hjlt : j < 1
            · obtain ⟨ov, hcx⟩ : ∃ ov, wr.cell? ⟨tb, x + j, none⟩ = some ov := ⟨_, (hti.cellAt (x + j) (by omega)).trans (List.getElem?_eq_getElem (by have := hti.1; omega))⟩
              have hfx := hti.frozenAt (x + j)
              have HS := Lib.hid (tab_step us x v 1 j (by omega) hjlt (by rw [HLU.out]; omega))
              clear hti hgi
              go_wp2
              go_roundw
              case rel => exact ⟨j + 1, by omega, by go_num, by rw [← HS.out]; exact (HTi.out.stored (x + j) _).1, grown_trans HGi.out (grown_setCell _ _ _ _)⟩
              case measure => simp [intOf]; omega
            · obtain rfl : j = 1 := by omega
              clear hti hgi
              go_wp2_with fail
              go_roundw
              case rel => exact ⟨k + 1, by omega, by go_num, A3, c3, stv us x 1 v, rfl, hc3, by rw [stv_length]; exact HLU.out, HWu.out.stv _ _ _ hv, ((row_rd HO3.out).grown HGi.out (Nat.le_refl _) (row_ne HO3.out htb)).more HGi.out.size, row_ne HO3.out htb, by rw [HSt.out]; exact HTi.out, HB3.out.trans (below_of_grown HGi.out HB3.out.size (fun g h => by rw [← Option.some.inj h]; exact htw)), by have := HGi.out.size; omega⟩
              case measure => simp [intOf]; omega
      · obtain rfl : k = ls.length := by omega
        clear hrm ht hb hlu hwu hne
        go_wp2_with fail
        go_loopw [15] (fun i wi => ∃ j : Nat, j ≤ P ∧ i = .int .i64 j ∧ Rd wi wi.heap.size Am (ws us) ∧ wi.ownsRow w.heap.size 5 1 (.slice (some ⟨tb, 0, none⟩) TL TL) TL (bc (bytesOf us)) ∧ Below w.heap.size w wi) (fun i _ => P - (intOf i).toNat)
        case atStart => exact ⟨0, Nat.zero_le _, rfl, HRm.out, HT.out, HB.out⟩
        case round =>
          obtain ⟨j, hj, rfl, hri, hti, hbi⟩ := hrel
          have HRi := Lib.hid hri
          have HTi := Lib.hid hti
          have HBi := Lib.hid hbi
          clear hri hti hbi
          by_cases hjlt : j < P
          · go_wp2_with fail
            refine (page_at Am cm j us HLU.out _ (by unfold maxLen; omega) hcm HRi.out HWu.out).mono ?_
            have HIn := Lib.hid (show pgin n (j : Int) = true by simp [pgin, hpg.out]; omega)
            have HPB := Lib.hid (show pgB us j = ((bytesOf us).drop (j * 128)).take 128 by unfold pgB; rw [HLU.out, HIn.out, if_pos rfl, bytesOf_piece, Int.toNat_natCast, show 4 * (32 * j) = j * 128 by omega])
            rw [HIn.out, HPB.out]; rintro e w3 ⟨rfl, hb3⟩
            have HT3 := Lib.hid (row_below HTi.out hb3 (Nat.le_refl _))
            have HR3 := Lib.hid (HRi.out.upto hb3)
            have HB3 := Lib.hid (HBi.out.then hb3)
            clear hb3
            have hpc := ((row_rd HT3.out).piece (j * 128) 128 (by have := HN.out; rw [bc_length, bytesOf_length, HLU.out]; omega)).cast (show _ = bc (((bytesOf us).drop (j * 128)).take 128) by simp [bc, List.map_take, List.map_drop])
            rw [show Option.map (·.add (j * 128)) (some (⟨tb, 0, none⟩ : Addr)) = some ⟨tb, j * 128, none⟩ by by_cases h : j * 128 = 0 <;> simp [Addr.add, h]] at hpc
            have hcv := run_string_rd (P := Try.prog) (src := 37) (dst := 9) (n := (j + 1) * 128 - j * 128) (c := TL - j * 128) Try.underlying37 Try.underlying5 Try.underlying9 hpc (by have := HN.out; rw [List.length_take, List.length_drop, bytesOf_length, HLU.out]; omega) (by omega)
            clear hpc
            have hjb : (j + 1) * 128 ≤ TL := by have := HN.out; omega
            go_wp2_with fail
            go_roundw
            case rel => exact ⟨j + 1, by omega, by go_num, HR3.out, HT3.out, HB3.out⟩
            case measure => simp [intOf]; omega
          · obtain rfl : j = P := by omega
            go_wp2_with fail
            refine (pages_any Am n cm _ (by unfold maxLen; omega)).mono ?_
            rw [hpg.out]; rintro e w' ⟨rfl, rfl⟩
            go_wp2_with fail
            refine (awake4 _).mono ?_; rintro e w7 ⟨rfl, hb7⟩
            go_wp2_with fail
            go_ret
            exact ⟨rfl, HBi.out.then hb7⟩
  · have g60 : (60 : Int) < (ls.length : Int) := by omega
    go_enter Try.func5, Try.ntmps5
    go_wp2_with fail
    refine (awake4 _).mono ?_; rintro e w7 ⟨rfl, hb7⟩
    go_wp2_with fail
    go_ret
    exact ⟨rfl, hb7⟩
end Go.Proofs.Ytmefbkfapeijgaa
