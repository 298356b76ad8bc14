/- The law that the disk stores what was written: writing. -/
import Derived.Test.YtmefbkfapeijgaaDskO
import Derived.Deep.RegionHeld3
namespace Go.Proofs.Ytmefbkfapeijgaa
open Go.RowKit

set_option maxRecDepth 100000 in
set_option maxHeartbeats 4000000 in
theorem dstores_w (n pages : Int) (block frame : Nat) (D : Option Addr) (dc : Nat) (ls : List Int) (w : World) (hp1 : -9223372036854775808 ≤ pages) (hp2 : pages ≤ 9223372036854775807) (hls : ∀ x ∈ ls, -9223372036854775808 ≤ x ∧ x ≤ 9223372036854775807) (hd : Rd w w.heap.size D (zs ls)) :
    Calls Try.prog 17 #[.int .i64 n, .int .i64 pages, .int .u32 block, .int .u32 frame, .slice D ls.length dc, .bool false] w fun e w' => e = .returned (.bool true) ∧ Below w.heap.size w w' := by
  have CW := Lib.hid (fun W => words9 n pages W hp1 hp2)
  have HD := Lib.hid hd
  have HLS := Lib.hid hls
  clear hp1 hp2 hd hls
  by_cases hlen : 20 < ls.length
  · have g : decide ((20 : Int) < ls.length) = true := by simp; omega
    go_enter Try.func17, Try.ntmps17
    go_wp2_with (go_at_call 57; refine (awake9 _).mono ?_; rintro e w1 ⟨rfl, hb1⟩; have hz1 := hb1.size; (try simp at hz1); replace hb1 : Below w.heap.size w w1 := Below.then (by (repeat' first | (with_reducible exact Below.refl _ _) | (with_reducible assumption) | (with_reducible refine Below.alloc ?_ ?_ _) | (with_reducible refine Below.drew ?_) | (with_reducible refine below_drewN' ?_ _) | (with_reducible refine Below.setCell ?_ ?_ _) | (first | (with_reducible exact Nat.le_refl _) | (with_reducible assumption) | omega | (simp; omega) | (simp; done)))) hb1)
    ((try simp only [Exit.inBlock, Exit.then]); first | (refine bodyPost_ret (results_tmp rfl _ _ _) rfl ?_) | go_ret2 | go_ret3 | (refine bodyPost_ret (by simp [results, Try.results17, go_sem]; try with_reducible rfl) rfl ?_))
    exact ⟨rfl, by (repeat' first | (with_reducible exact Below.refl _ _) | (with_reducible assumption) | (with_reducible refine Below.alloc ?_ ?_ _) | (with_reducible refine Below.drew ?_) | (with_reducible refine below_drewN' ?_ _) | (with_reducible refine Below.setCell ?_ ?_ _) | (first | (with_reducible exact Nat.le_refl _) | (with_reducible assumption) | omega | (simp; omega) | (simp; done)))⟩
  have g : decide ((20 : Int) < ls.length) = false := by simp; omega
  obtain ⟨b, hb, hbq⟩ : ∃ b : Nat, (block : Int) % 4 = b ∧ b < 4 := ⟨block % 4, by omega, by omega⟩
  have HB := Lib.hid hb
  have hl20 : ls.length ≤ 20 := by omega
  clear hlen hb
  go_enter Try.func17, Try.ntmps17
  go_wp2_with fail
  refine (CW.out _).mono ?_; rintro e w1 ⟨A, c, N, us, rfl, hNc, hlu, hwu, hN1, hN6, hN, hown, hb1⟩
  obtain ⟨gm, rfl, hg1, hg2⟩ := row_get hown (by omega)
  have HN := Lib.hid (⟨hN, hN1, hN6⟩ : N = 32 * pg N ∧ 1 ≤ pg N ∧ pg N ≤ 6)
  have hN2 : N ≤ 192 := by omega
  have hN3 : 0 < N := by omega
  have hpg : ((pg N : Int) == 0) = false := by simp; omega
  obtain ⟨f, hf, hf1⟩ : ∃ f : Nat, (frame : Int) % (pg N : Int) = f ∧ f < pg N := ⟨frame % pg N, by omega, Nat.mod_lt _ (by omega)⟩
  have hpm : (pg N : Int) % 4294967296 = pg N := by omega
  have hf32 : f < 6 := by omega
  have HF := Lib.hid hf
  have HL := Lib.hid hlu
  have HWU := Lib.hid hwu
  have HU := Lib.hid (row_nw hown)
  have HO := Lib.hid hown
  clear hlu hwu hN hN1 hN6 hown hf
  have hz1 := hb1.size
  go_wp2_with (go_at_call 33; refine (rpages_any _ _ _ _ (by unfold maxLen; omega)).mono ?_; rintro e w' ⟨rfl, rfl⟩)
  have hp := pgB_lenO us f (by rw [HL.out]; exact hf1)
  rw [HF.out, HB.out, show wrap64 (f : Int) = f by simp [wrap64]; omega]
  have HR1 := Lib.hid (HU.out.rd)
  have HB1 := Lib.hid hb1
  clear hb1 HU hpg hpm HF HB
  refine (rpage_f _ c f us HL.out hf1 _ (by omega) (HR1.out.upto (by (repeat' first | (with_reducible exact Below.refl _ _) | (with_reducible assumption) | (with_reducible refine Below.alloc ?_ ?_ _) | (with_reducible refine Below.drew ?_) | (with_reducible refine below_drewN' ?_ _) | (with_reducible refine Below.setCell ?_ ?_ _) | (first | (with_reducible exact Nat.le_refl _) | (with_reducible assumption) | omega | (simp; omega) | (simp; done)))))).mono ?_; rintro e w2 ⟨rfl, hb2⟩
  (first | (have hz2 := hb2.size; apply bk_then (w1.heap.size) hb2; (focus (repeat' first | (with_reducible assumption) | ((with_reducible apply Bk.new); (first | done | (focus (simp; done)))) | (with_reducible apply Bk.alloc) | (with_reducible apply Bk.set) | (with_reducible apply Bk.other) | (with_reducible apply Bk.drew) | (with_reducible apply Bk.drewN) | (first | (with_reducible exact Nat.le_refl _) | (with_reducible assumption) | omega | (simp; omega) | (simp; done)) | (simp; omega))); intro hk2_0; have hc2_0 := hk2_0.arr; have hf2_0 := hk2_0.frz; have hl2_0 := hk2_0.lt; (try simp at hz2); replace hb2 : Below w1.heap.size w1 w2 := Below.then (by (repeat' first | (with_reducible exact Below.refl _ _) | (with_reducible assumption) | (with_reducible refine Below.alloc ?_ ?_ _) | (with_reducible refine Below.drew ?_) | (with_reducible refine below_drewN' ?_ _) | (with_reducible refine Below.setCell ?_ ?_ _) | (first | (with_reducible exact Nat.le_refl _) | (with_reducible assumption) | omega | (simp; omega) | (simp; done)))) hb2))
  go_wp2_with fail
  refine (dout_at ⟨4, 0, 0, 0, 0, 0, 0, []⟩ _ c us HL.out 4 b 0 (⟨4, b, 0, 0, 0, 0, 0, []⟩, []) (by simp [dOut]) _ (by simp [Dsk.Ok]) (by omega) hNc (HR1.out.upto (by (repeat' first | (with_reducible exact Below.refl _ _) | (with_reducible assumption) | (with_reducible refine Below.alloc ?_ ?_ _) | (with_reducible refine Below.drew ?_) | (with_reducible refine below_drewN' ?_ _) | (with_reducible refine Below.setCell ?_ ?_ _) | (first | (with_reducible exact Nat.le_refl _) | (with_reducible assumption) | omega | (simp; omega) | (simp; done))))) HWU.out (by omega)).mono ?_
  simp only [OutsPost, V_mk]; rintro e w3 ⟨A3, c3, rfl, _, _, hb3⟩
  (first | (have hz3 := hb3.size; apply bk_then (w1.heap.size) hb3; (focus (repeat' first | (with_reducible assumption) | ((with_reducible apply Bk.new); (first | done | (focus (simp; done)))) | (with_reducible apply Bk.alloc) | (with_reducible apply Bk.set) | (with_reducible apply Bk.other) | (with_reducible apply Bk.drew) | (with_reducible apply Bk.drewN) | (first | (with_reducible exact Nat.le_refl _) | (with_reducible assumption) | omega | (simp; omega) | (simp; done)) | (simp; omega))); intro hk3_0; (try simp only [List.setIfInBounds_toArray, List.set_cons_zero, List.set_cons_succ] at hk3_0); have hc3_0 := hk3_0.arr; have hf3_0 := hk3_0.frz; have hl3_0 := hk3_0.lt; (try simp at hz3); replace hb3 : Below w1.heap.size w1 w3 := Below.then (by (repeat' first | (with_reducible exact Below.refl _ _) | (with_reducible assumption) | (with_reducible refine Below.alloc ?_ ?_ _) | (with_reducible refine Below.drew ?_) | (with_reducible refine below_drewN' ?_ _) | (with_reducible refine Below.setCell ?_ ?_ _) | (first | (with_reducible exact Nat.le_refl _) | (with_reducible assumption) | omega | (simp; omega) | (simp; done)))) hb3))
  go_wp2_with fail
  refine (dout_at ⟨4, b, 0, 0, 0, 0, 0, []⟩ _ c us HL.out 5 f 0 (⟨4, b, f, 0, 0, 0, 0, []⟩, []) (by simp [dOut]) _ (by simp [Dsk.Ok]; omega) (by omega) hNc (HR1.out.upto (by (repeat' first | (with_reducible exact Below.refl _ _) | (with_reducible assumption) | (with_reducible refine Below.alloc ?_ ?_ _) | (with_reducible refine Below.drew ?_) | (with_reducible refine below_drewN' ?_ _) | (with_reducible refine Below.setCell ?_ ?_ _) | (first | (with_reducible exact Nat.le_refl _) | (with_reducible assumption) | omega | (simp; omega) | (simp; done))))) HWU.out (by omega)).mono ?_
  simp only [OutsPost, V_mk]; rintro e w4 ⟨A4, c4, rfl, _, _, hb4⟩
  (first | (have hz4 := hb4.size; apply bk_then (w1.heap.size) hb4; (focus (repeat' first | (with_reducible assumption) | ((with_reducible apply Bk.new); (first | done | (focus (simp; done)))) | (with_reducible apply Bk.alloc) | (with_reducible apply Bk.set) | (with_reducible apply Bk.other) | (with_reducible apply Bk.drew) | (with_reducible apply Bk.drewN) | (first | (with_reducible exact Nat.le_refl _) | (with_reducible assumption) | omega | (simp; omega) | (simp; done)) | (simp; omega))); intro hk4_0; (try simp only [List.setIfInBounds_toArray, List.set_cons_zero, List.set_cons_succ] at hk4_0); have hc4_0 := hk4_0.arr; have hf4_0 := hk4_0.frz; have hl4_0 := hk4_0.lt; (try simp at hz4); replace hb4 : Below w1.heap.size w1 w4 := Below.then (by (repeat' first | (with_reducible exact Below.refl _ _) | (with_reducible assumption) | (with_reducible refine Below.alloc ?_ ?_ _) | (with_reducible refine Below.drew ?_) | (with_reducible refine below_drewN' ?_ _) | (with_reducible refine Below.setCell ?_ ?_ _) | (first | (with_reducible exact Nat.le_refl _) | (with_reducible assumption) | omega | (simp; omega) | (simp; done)))) hb4))
  go_wp2_with fail
  have HR3 : dOut ⟨4, b, f, 0, 0, 0, 0, []⟩ us 6 2 3 = (⟨4, b, f, 1, 2, b, f, (pgB us f)⟩, [⟨4, 3, b, (pgB us f)⟩]) := by simp [dOut, dIss, HL.out]; omega
  refine (dout_at ⟨4, b, f, 0, 0, 0, 0, []⟩ _ c us HL.out 6 2 3 _ HR3 _ (by simp [Dsk.Ok]; omega) (by omega) hNc (HR1.out.upto (by (repeat' first | (with_reducible exact Below.refl _ _) | (with_reducible assumption) | (with_reducible refine Below.alloc ?_ ?_ _) | (with_reducible refine Below.drew ?_) | (with_reducible refine below_drewN' ?_ _) | (with_reducible refine Below.setCell ?_ ?_ _) | (first | (with_reducible exact Nat.le_refl _) | (with_reducible assumption) | omega | (simp; omega) | (simp; done))))) HWU.out (by omega)).mono ?_
  simp only [OutsPost, V_mk]; rintro e w5 ⟨A5, c5, rfl, _, hn5, hb5⟩
  obtain ⟨bo, oo, rfl, h1, h2, hcc⟩ := hn5 (by simp [os, Outp.cells])
  have hbo : w1.heap.size ≠ bo := by have := hb4.size; simp at h1; omega
  have k0 := hcc 0 (by simp [os, Outp.cells])
  have k1 := hcc 1 (by simp [os, Outp.cells])
  have k2 := hcc 2 (by simp [os, Outp.cells])
  have k3 := hcc 3 (by simp [os, Outp.cells])
  simp only [os, Outp.cells, List.flatMap_cons, List.flatMap_nil, List.append_nil, List.getElem?_cons_zero, List.getElem?_cons_succ, Nat.add_zero] at k0 k1 k2 k3
  clear hcc hn5
  (first | (have hz5 := hb5.size; apply bk_then (w1.heap.size) hb5; (focus (repeat' first | (with_reducible assumption) | ((with_reducible apply Bk.new); (first | done | (focus (simp; done)))) | (with_reducible apply Bk.alloc) | (with_reducible apply Bk.set) | (with_reducible apply Bk.other) | (with_reducible apply Bk.drew) | (with_reducible apply Bk.drewN) | (first | (with_reducible exact Nat.le_refl _) | (with_reducible assumption) | omega | (simp; omega) | (simp; done)) | (simp; omega))); intro hk5_0; (try simp only [List.setIfInBounds_toArray, List.set_cons_zero, List.set_cons_succ] at hk5_0); have hc5_0 := hk5_0.arr; have hf5_0 := hk5_0.frz; have hl5_0 := hk5_0.lt; (try simp at hz5); replace hb5 : Below w1.heap.size w1 w5 := Below.then (by (repeat' first | (with_reducible exact Below.refl _ _) | (with_reducible assumption) | (with_reducible refine Below.alloc ?_ ?_ _) | (with_reducible refine Below.drew ?_) | (with_reducible refine below_drewN' ?_ _) | (with_reducible refine Below.setCell ?_ ?_ _) | (first | (with_reducible exact Nat.le_refl _) | (with_reducible assumption) | omega | (simp; omega) | (simp; done)))) hb5))
  go_wp2_with fail
  go_quiet (fail)
  go_wp2_with fail
  have hb5' := Lib.hid hb5
  clear hk2_0 hc2_0 hf2_0 hl2_0 hk3_0 hc3_0 hf3_0 hl3_0 hk4_0 hc4_0 hf4_0 hl4_0 hb2 hb3 hb4 h1 h2
  go_loopw [20] (fun s20 wr => ∃ (k bl fr : Nat) (us1 : List Nat), k ≤ ls.length ∧ s20 = .int .i64 k ∧ bl < 4294967296 ∧ fr < 4294967296 ∧ Bk wr w1.heap.size #[.int .u32 4, .int .u32 bl, .int .u32 fr, .int .i64 1, .int .i64 2, .int .u32 b, .int .u32 f, .string (str (pgB us f))] 53 ∧ Bk wr w5.heap.size #[.int .i64 4, .int .u64 3, .int .u32 b, .string (str (pgB us f))] 60 ∧ wr.ownsRow w.heap.size 24 1 (.slice (some ⟨gm, 0, none⟩) N c) N (ws us1) ∧ Wd us1 ∧ Below w.heap.size w wr) (fun s20 _ => ls.length - (intOf s20).toNat)
  case atStart =>
    refine ⟨0, b, f, us, Nat.zero_le _, rfl, by omega, by omega, ?_, ?_, ?_, HWU.out, ?_⟩
    · apply bk_cast
      (focus (repeat' first | (with_reducible assumption) | ((with_reducible apply Bk.new); (first | done | (focus (simp; done)))) | (with_reducible apply Bk.alloc) | (with_reducible apply Bk.set) | (with_reducible apply Bk.other) | (with_reducible apply Bk.drew) | (with_reducible apply Bk.drewN) | (first | (with_reducible exact Nat.le_refl _) | (with_reducible assumption) | omega | (simp; omega) | (simp; done)) | (simp; omega)))
      first | rfl | simp only [List.setIfInBounds_toArray, List.set_cons_zero, List.set_cons_succ]
    · apply bk_cast
      (focus (repeat' first | (with_reducible assumption) | ((with_reducible apply Bk.new); (first | done | (focus (simp; done)))) | (with_reducible apply Bk.alloc) | (with_reducible apply Bk.set) | (with_reducible apply Bk.other) | (with_reducible apply Bk.drew) | (with_reducible apply Bk.drewN) | (first | (with_reducible exact Nat.le_refl _) | (with_reducible assumption) | omega | (simp; omega) | (simp; done)) | (simp; omega)))
      first | rfl | simp only [List.setIfInBounds_toArray, List.set_cons_zero, List.set_cons_succ]
    · refine row_at_keep HO.out ?_
      refine Below.block ?_ gm hg2
      (repeat' first | (with_reducible exact Below.refl _ _) | (with_reducible assumption) | (with_reducible refine Below.alloc ?_ ?_ _) | (with_reducible refine Below.drew ?_) | (with_reducible refine below_drewN' ?_ _) | (with_reducible refine Below.setCell ?_ ?_ _) | (first | (with_reducible exact Nat.le_refl _) | (with_reducible assumption) | omega | (simp; omega) | (simp; done)))
    · refine HB1.out.trans (Below.mono ?_ hz1)
      (repeat' first | (with_reducible exact Below.refl _ _) | (with_reducible assumption) | (with_reducible refine Below.alloc ?_ ?_ _) | (with_reducible refine Below.drew ?_) | (with_reducible refine below_drewN' ?_ _) | (with_reducible refine Below.setCell ?_ ?_ _) | (first | (with_reducible exact Nat.le_refl _) | (with_reducible assumption) | omega | (simp; omega) | (simp; done)))
  case round =>
    obtain ⟨k, bl, fr, us1, hk, rfl, hbl, hfr, hkd, hkw, ho, hw1, hb⟩ := hrel
    have hzr := hb.size
    have hld := hkd.lt
    have hlw := hkw.lt
    have hl1 : List.length us1 = N := by have := ho.1; simpa using this
    by_cases hlt : k < ls.length
    · obtain ⟨z, hz⟩ : ∃ z, ls.getD k 0 = z := ⟨_, rfl⟩
      have hzl := HLS.out z (by rw [← hz, List.getD_eq_getElem?_getD, List.getElem?_eq_getElem hlt]; exact List.getElem_mem _)
      obtain ⟨bD, off, rfl, hblD, hcl⟩ := HD.out (by simp; omega)
      have hcx : wr.cell? ⟨bD, off + k, none⟩ = some (.int .i64 z) := by rw [hb.cell (p := ⟨bD, off + k, none⟩) hblD, hcl k (by simpa using hlt), zs_get ls k hlt, hz]
      obtain ⟨q, hq, hq0, hq5⟩ : ∃ q, z % 3 = q ∧ 0 ≤ q ∧ q < 3 := ⟨_, rfl, Int.emod_nonneg _ (by omega), Int.emod_lt_of_pos _ (by omega)⟩
      have CR := Lib.hid (fun W => (hq ▸ round_any z 3 W hzl.1 hzl.2 (by omega) (by omega)))
      obtain ⟨xi, hxi, hx0, hxN⟩ : ∃ y, z % (N : Int) = y ∧ 0 ≤ y ∧ y < N := ⟨_, rfl, Int.emod_nonneg _ (by omega), Int.emod_lt_of_pos _ (by omega)⟩
      have CN := Lib.hid (fun W => flip (hxi ▸ round_any z N W hzl.1 hzl.2 (by omega) (by omega)))
      obtain ⟨x, rfl⟩ := Int.eq_ofNat_of_zero_le hx0
      have hxm : x < N := by omega
      have hcm := (ho.cellAt x (by omega)).trans (ws_get us1 x (by omega))
      have hfm := ho.frozenAt x
      generalize us1.getD x 0 = ox at hcm
      obtain ⟨v, hv, hv2⟩ : ∃ v : Nat, bits BinOp.and IntKind.i64 z 4294967295 % 4294967296 = (v : Int) ∧ v < 4294967296 := ⟨(bits BinOp.and IntKind.i64 z 4294967295 % 4294967296).toNat, by omega, by omega⟩
      have Hv := Lib.hid hv
      have HOr := Lib.hid ho
      clear hv hcl hz hq hxi ho
      go_wp2_with fail
      refine wp_region_still_tail 15 (by kernel_rfl) (by kernel_rfl) ?_
      simp only [List.take_succ_cons, List.take_zero, List.drop_succ_cons, List.drop_zero]
      iterate 7 still_step
      still_call (CN.out _)
      iterate 7 still_step
      refine wpStill_nil ?_
      change wpList _ _ _ _ _ wr.drew
      go_wp2_with fail
      rw [Hv.out]
      obtain ⟨wq, hwq⟩ : ∃ wq, wq = (wr.setCell ⟨gm, x, none⟩ (.int .u32 v)).drew := ⟨_, rfl⟩
      rw [← hwq]
      have hz5 : w1.heap.size ≤ w5.heap.size := hb5'.out.size
      have hoq : wq.ownsRow w.heap.size 24 1 (.slice (some ⟨gm, 0, none⟩) N c) N (ws (us1.set x v)) := by rw [hwq]; exact World.ownsRow.drew (by rw [← ws_set]; exact (HOr.out.stored x _).1)
      have hwq1 := hw1.set x v hv2
      have hlq : (us1.set x v).length = N := by simpa using hl1
      generalize us1.set x v = us2 at hoq hwq1 hlq
      have hkq := (show Bk wq w1.heap.size _ _ by rw [hwq]; exact (Bk.other (by simp; omega) hkd _).drew)
      have hkwq := (show Bk wq w5.heap.size _ _ by rw [hwq]; exact (Bk.other (by simp; omega) hkw _).drew)
      have hcxq : wq.cell? ⟨bD, off + k, none⟩ = some (.int .i64 z) := by rw [hwq]; exact (World.cell?_of_block (w := wr) (Below.heap_setCell wr _ _ bD (by simp; omega))).trans hcx
      have hbq : Below w.heap.size w wq := by rw [hwq]; exact (hb.setCell (p := ⟨gm, x, none⟩) hg1 _).drew
      clear hwq hkd hkw hcx hb HOr hw1 hl1 us1
      have hcq := hkq.arr; have hfq := hkq.frz; have hlnq := hkq.lt; have hlwq := hkwq.lt
      have hzq := hbq.size
      have hbDq : bD < wq.heap.size := by omega
      have i0 : (0 : Int) ≤ (k : Int) := by omega
      have i1 : (k : Int) < (ls.length : Int) := by omega
      have HRq := Lib.hid (row_rd hoq)
      have HOq := Lib.hid hoq; have HBq := Lib.hid hbq; clear hoq hbq hcm hfm Hv
      obtain ⟨vv, hvv, hvv4⟩ : ∃ vv : Nat, IntKind.u32.wrap (bits BinOp.and IntKind.i64 z 3) = (vv : Int) ∧ vv < 4294967296 := ⟨(IntKind.u32.wrap (bits BinOp.and IntKind.i64 z 3)).toNat, by rw [IntKind.wrap_u32]; omega, by rw [IntKind.wrap_u32]; omega⟩
      obtain ⟨bl', fr', hbl', hfr', hdo⟩ := dOut_busy bl fr 2 b f (pgB us f) us2 (4 + q) vv 4 hvv4 hbl hfr
      have e4 : IntKind.i64.wrap (4 + q) = 4 + q := by rw [IntKind.wrap_i64]; omega
      have CO : ∀ W, Rd W W.heap.size (some ⟨gm, 0, none⟩) (ws us2) → Calls Try.prog 50 #[.agg #[.int .u32 4, .int .u32 bl, .int .u32 fr, .int .i64 1, .int .i64 2, .int .u32 b, .int .u32 f, .string (str (pgB us f))], .slice (some ⟨gm, 0, none⟩) N c, .int .i64 (IntKind.i64.wrap (4 + q)), .int .u32 (IntKind.u32.wrap (bits BinOp.and IntKind.i64 z 3)), .int .u64 4] W (OutsPost (dbu bl' fr' 2 b f (pgB us f), []) W) := fun W hR => by
        rw [e4, hvv]; exact dout_at (dbu bl fr 2 b f (pgB us f)) _ c us2 hlq (4 + q) vv 4 _ hdo W (by simp [Dsk.Ok, dbu]; omega) (by omega) hNc hR hwq1 (by omega)
      replace CO := Lib.hid CO
      clear e4 hdo hvv
      go_cut [21, 22] (fun s21 s22 wx => ∃ (x2 : Nat) (A6 : Option Addr) (c6 : Nat), s21 = .pointer (some ⟨x2, 0, none⟩) ∧ s22 = .slice A6 0 c6 ∧ Bk wx x2 #[.int .u32 4, .int .u32 bl', .int .u32 fr', .int .i64 1, .int .i64 2, .int .u32 b, .int .u32 f, .string (str (pgB us f))] 53 ∧ Below w1.heap.size wq wx ∧ Bk wx w1.heap.size #[.int .u32 4, .int .u32 bl, .int .u32 fr, .int .i64 1, .int .i64 2, .int .u32 b, .int .u32 f, .string (str (pgB us f))] 53 ∧ Bk wx w5.heap.size #[.int .i64 4, .int .u64 3, .int .u32 b, .string (str (pgB us f))] 60 ∧ x2 ≠ w5.heap.size)
      case first =>
        have HS : (fun w' : World => (w1.heap.size < w'.heap.size ∧ ∀ o, w'.cell? ⟨w1.heap.size, o, none⟩ = (#[.int .u32 4, .int .u32 bl, .int .u32 fr, .int .i64 1, .int .i64 2, .int .u32 b, .int .u32 f, .string (str (pgB us f))] : Array Value)[o]?) ∧ (bD < w'.heap.size ∧ w'.cell? ⟨bD, off + k, none⟩ = some (.int .i64 z))) wq := ⟨⟨hlnq, hcq⟩, ⟨hbDq, hcxq⟩⟩
        have HSD : (fun w' : World => (w1.heap.size < w'.heap.size ∧ ∀ o, w'.cell? ⟨w1.heap.size, o, none⟩ = (#[.int .u32 4, .int .u32 bl, .int .u32 fr, .int .i64 1, .int .i64 2, .int .u32 b, .int .u32 f, .string (str (pgB us f))] : Array Value)[o]?) ∧ (bD < w'.heap.size ∧ w'.cell? ⟨bD, off + k, none⟩ = some (.int .i64 z))) wq.drew := HS
        have HSA : ∀ (W : World) (ob : Obj), (fun w' : World => (w1.heap.size < w'.heap.size ∧ ∀ o, w'.cell? ⟨w1.heap.size, o, none⟩ = (#[.int .u32 4, .int .u32 bl, .int .u32 fr, .int .i64 1, .int .i64 2, .int .u32 b, .int .u32 f, .string (str (pgB us f))] : Array Value)[o]?) ∧ (bD < w'.heap.size ∧ w'.cell? ⟨bD, off + k, none⟩ = some (.int .i64 z))) W → (fun w' : World => (w1.heap.size < w'.heap.size ∧ ∀ o, w'.cell? ⟨w1.heap.size, o, none⟩ = (#[.int .u32 4, .int .u32 bl, .int .u32 fr, .int .i64 1, .int .i64 2, .int .u32 b, .int .u32 f, .string (str (pgB us f))] : Array Value)[o]?) ∧ (bD < w'.heap.size ∧ w'.cell? ⟨bD, off + k, none⟩ = some (.int .i64 z))) (W.alloc ob) := fun W ob h => ⟨⟨by have := h.1.1; simp; omega, arr_alloc h.1.1 h.1.2 ob⟩, ⟨by have := h.2.1; simp; omega, one_alloc h.2.1 h.2.2 ob⟩⟩
        have HSS : ∀ (W : World) (p : Addr) (u : Value), p.block ≠ w1.heap.size → p.block ≠ bD → (fun w' : World => (w1.heap.size < w'.heap.size ∧ ∀ o, w'.cell? ⟨w1.heap.size, o, none⟩ = (#[.int .u32 4, .int .u32 bl, .int .u32 fr, .int .i64 1, .int .i64 2, .int .u32 b, .int .u32 f, .string (str (pgB us f))] : Array Value)[o]?) ∧ (bD < w'.heap.size ∧ w'.cell? ⟨bD, off + k, none⟩ = some (.int .i64 z))) W → (fun w' : World => (w1.heap.size < w'.heap.size ∧ ∀ o, w'.cell? ⟨w1.heap.size, o, none⟩ = (#[.int .u32 4, .int .u32 bl, .int .u32 fr, .int .i64 1, .int .i64 2, .int .u32 b, .int .u32 f, .string (str (pgB us f))] : Array Value)[o]?) ∧ (bD < w'.heap.size ∧ w'.cell? ⟨bD, off + k, none⟩ = some (.int .i64 z))) (W.setCell p u) := fun W p u h1 h2 h => ⟨⟨by have := h.1.1; simpa [World.setCell] using this, arr_other h1 h.1.2 u⟩, ⟨by have := h.2.1; simpa [World.setCell] using this, (World.cell?_of_block (w := W) (Below.heap_setCell W p u bD (fun e => h2 e.symm))).trans h.2.2⟩⟩
        have HSR : ∀ W : World, (fun w' : World => (w1.heap.size < w'.heap.size ∧ ∀ o, w'.cell? ⟨w1.heap.size, o, none⟩ = (#[.int .u32 4, .int .u32 bl, .int .u32 fr, .int .i64 1, .int .i64 2, .int .u32 b, .int .u32 f, .string (str (pgB us f))] : Array Value)[o]?) ∧ (bD < w'.heap.size ∧ w'.cell? ⟨bD, off + k, none⟩ = some (.int .i64 z))) W → (fun w' : World => (w1.heap.size < w'.heap.size ∧ ∀ o, w'.cell? ⟨w1.heap.size, o, none⟩ = (#[.int .u32 4, .int .u32 bl, .int .u32 fr, .int .i64 1, .int .i64 2, .int .u32 b, .int .u32 f, .string (str (pgB us f))] : Array Value)[o]?) ∧ (bD < w'.heap.size ∧ w'.cell? ⟨bD, off + k, none⟩ = some (.int .i64 z))) W.drew := fun W h => h
        simp only [] at HS HSD HSA HSS HSR
        go_region_held3 (fun w' : World => (w1.heap.size < w'.heap.size ∧ ∀ o, w'.cell? ⟨w1.heap.size, o, none⟩ = (#[.int .u32 4, .int .u32 bl, .int .u32 fr, .int .i64 1, .int .i64 2, .int .u32 b, .int .u32 f, .string (str (pgB us f))] : Array Value)[o]?) ∧ (bD < w'.heap.size ∧ w'.cell? ⟨bD, off + k, none⟩ = some (.int .i64 z)))
          (first
            | (with_reducible exact HS)
            | (with_reducible exact HSD)
            | (with_reducible exact HS6)
            | (repeat' first | (with_reducible exact HS) | (with_reducible exact HS6) | (with_reducible refine HSR _ ?_) | (with_reducible refine HSA _ _ ?_) | (with_reducible refine HSS _ _ _ ?_ ?_ ?_) | (first | (with_reducible exact Nat.le_refl _) | (with_reducible assumption) | omega | (simp; omega) | (simp; done))))
          (first
            | (go_at_call 26; refine (CR.out _).mono ?_; rintro e w' ⟨rfl, rfl⟩)
            | (go_at_call 50; refine (CO.out _ (HRq.out.upto (by (repeat' first | (with_reducible exact Below.refl _ _) | (with_reducible assumption) | (with_reducible refine Below.alloc ?_ ?_ _) | (with_reducible refine Below.drew ?_) | (with_reducible refine below_drewN' ?_ _) | (with_reducible refine Below.setCell ?_ ?_ _) | (first | (with_reducible exact Nat.le_refl _) | (with_reducible assumption) | omega | (simp; omega) | (simp; done)))))).mono ?_; simp only [OutsPost, dbu, V_mk]; rintro e w6 ⟨A6, c6, rfl, _, _, hb6⟩; (first | (have hz6 := hb6.size; apply bk_then (w1.heap.size) hb6; (focus (repeat' first | (with_reducible assumption) | ((with_reducible apply Bk.new); (first | done | (focus (simp; done)))) | (with_reducible apply Bk.alloc) | (with_reducible apply Bk.set) | (with_reducible apply Bk.other) | (with_reducible apply Bk.drew) | (with_reducible apply Bk.drewN) | (first | (with_reducible exact Nat.le_refl _) | (with_reducible assumption) | omega | (simp; omega) | (simp; done)) | (simp; omega))); intro hk6_0; have hc6_0 := hk6_0.arr; have hf6_0 := hk6_0.frz; have hl6_0 := hk6_0.lt; apply bk_then (w5.heap.size) hb6; (focus (repeat' first | (with_reducible assumption) | ((with_reducible apply Bk.new); (first | done | (focus (simp; done)))) | (with_reducible apply Bk.alloc) | (with_reducible apply Bk.set) | (with_reducible apply Bk.other) | (with_reducible apply Bk.drew) | (with_reducible apply Bk.drewN) | (first | (with_reducible exact Nat.le_refl _) | (with_reducible assumption) | omega | (simp; omega) | (simp; done)) | (simp; omega))); intro hk6_1; have hc6_1 := hk6_1.arr; have hf6_1 := hk6_1.frz; have hl6_1 := hk6_1.lt; apply bk_then (wq.heap.size) hb6; (focus (repeat' first | (with_reducible assumption) | ((with_reducible apply Bk.new); (first | done | (focus (simp; done)))) | (with_reducible apply Bk.alloc) | (with_reducible apply Bk.set) | (with_reducible apply Bk.other) | (with_reducible apply Bk.drew) | (with_reducible apply Bk.drewN) | (first | (with_reducible exact Nat.le_refl _) | (with_reducible assumption) | omega | (simp; omega) | (simp; done)) | (simp; omega))); intro hk6_2; have hc6_2 := hk6_2.arr; have hf6_2 := hk6_2.frz; have hl6_2 := hk6_2.lt; (try simp at hz6); replace hb6 : Below w1.heap.size wq w6 := Below.trans (by (repeat' first | (with_reducible exact Below.refl _ _) | (with_reducible assumption) | (with_reducible refine Below.alloc ?_ ?_ _) | (with_reducible refine Below.drew ?_) | (with_reducible refine below_drewN' ?_ _) | (with_reducible refine Below.setCell ?_ ?_ _) | (first | (with_reducible exact Nat.le_refl _) | (with_reducible assumption) | omega | (simp; omega) | (simp; done)))) (Below.mono hb6 (by (first | (with_reducible exact Nat.le_refl _) | (with_reducible assumption) | omega | (simp; omega) | (simp; done))))) | (have hz6 := hb6.size; apply bk_then (w1.heap.size) hb6; (focus (repeat' first | (with_reducible assumption) | ((with_reducible apply Bk.new); (first | done | (focus (simp; done)))) | (with_reducible apply Bk.alloc) | (with_reducible apply Bk.set) | (with_reducible apply Bk.other) | (with_reducible apply Bk.drew) | (with_reducible apply Bk.drewN) | (first | (with_reducible exact Nat.le_refl _) | (with_reducible assumption) | omega | (simp; omega) | (simp; done)) | (simp; omega))); intro hk6_0; have hc6_0 := hk6_0.arr; have hf6_0 := hk6_0.frz; have hl6_0 := hk6_0.lt; apply bk_then (w5.heap.size) hb6; (focus (repeat' first | (with_reducible assumption) | ((with_reducible apply Bk.new); (first | done | (focus (simp; done)))) | (with_reducible apply Bk.alloc) | (with_reducible apply Bk.set) | (with_reducible apply Bk.other) | (with_reducible apply Bk.drew) | (with_reducible apply Bk.drewN) | (first | (with_reducible exact Nat.le_refl _) | (with_reducible assumption) | omega | (simp; omega) | (simp; done)) | (simp; omega))); intro hk6_1; have hc6_1 := hk6_1.arr; have hf6_1 := hk6_1.frz; have hl6_1 := hk6_1.lt; (try simp at hz6); replace hb6 : Below w1.heap.size wq w6 := Below.trans (by (repeat' first | (with_reducible exact Below.refl _ _) | (with_reducible assumption) | (with_reducible refine Below.alloc ?_ ?_ _) | (with_reducible refine Below.drew ?_) | (with_reducible refine below_drewN' ?_ _) | (with_reducible refine Below.setCell ?_ ?_ _) | (first | (with_reducible exact Nat.le_refl _) | (with_reducible assumption) | omega | (simp; omega) | (simp; done)))) (Below.mono hb6 (by (first | (with_reducible exact Nat.le_refl _) | (with_reducible assumption) | omega | (simp; omega) | (simp; done)))))); have hz6' : w6.cell? ⟨bD, off + k, none⟩ = some (.int .i64 z) := (hb6.cell (p := ⟨bD, off + k, none⟩) (show bD < w1.heap.size by omega)).trans hcxq; have hbD6 : bD < w6.heap.size := (by omega); have HS6 : (fun w' : World => (w1.heap.size < w'.heap.size ∧ ∀ o, w'.cell? ⟨w1.heap.size, o, none⟩ = (#[.int .u32 4, .int .u32 bl, .int .u32 fr, .int .i64 1, .int .i64 2, .int .u32 b, .int .u32 f, .string (str (pgB us f))] : Array Value)[o]?) ∧ (bD < w'.heap.size ∧ w'.cell? ⟨bD, off + k, none⟩ = some (.int .i64 z))) w6 := ⟨⟨hl6_0, hc6_0⟩, ⟨hbD6, hz6'⟩⟩; simp only [] at HS6))
        all_goals
          go_wp2_with fail
          go_meet
          refine ⟨_, _, _, rfl, rfl, ?_, by (repeat' first | (with_reducible exact Below.refl _ _) | (with_reducible assumption) | (with_reducible refine Below.alloc ?_ ?_ _) | (with_reducible refine Below.drew ?_) | (with_reducible refine below_drewN' ?_ _) | (with_reducible refine Below.setCell ?_ ?_ _) | (first | (with_reducible exact Nat.le_refl _) | (with_reducible assumption) | omega | (simp; omega) | (simp; done))), ?_, ?_, by (first | (with_reducible exact Nat.le_refl _) | (with_reducible assumption) | omega | (simp; omega) | (simp; done))⟩
          all_goals
            apply bk_cast
            (focus (repeat' first | (with_reducible assumption) | ((with_reducible apply Bk.new); (first | done | (focus (simp; done)))) | (with_reducible apply Bk.alloc) | (with_reducible apply Bk.set) | (with_reducible apply Bk.other) | (with_reducible apply Bk.drew) | (with_reducible apply Bk.drewN) | (first | (with_reducible exact Nat.le_refl _) | (with_reducible assumption) | omega | (simp; omega) | (simp; done)) | (simp; omega)))
            first | rfl | simp only [List.setIfInBounds_toArray, List.set_cons_zero, List.set_cons_succ]
      case rest =>
        obtain ⟨x2, A6, c6, rfl, rfl, hkx, hb6, hkd6, hkw6, hx2⟩ := hcut
        have hcx2 := hkx.arr; have hfx2 := hkx.frz; have hlx2 := hkx.lt
        have hcd6 := hkd6.arr; have hfd6 := hkd6.frz; have hld6 := hkd6.lt
        clear hkq hcq hfq hlnq hkwq
        go_wp2_with fail
        go_roundw
        case rel =>
          refine ⟨k + 1, bl', fr', us2, by omega, by go_num, hbl', hfr', ?_, ?_, row_at_keep HOq.out ?_, hwq1, HBq.out.trans (Below.mono ?_ hz1)⟩
          · apply bk_cast
            (focus (repeat' first | (with_reducible assumption) | ((with_reducible apply Bk.new); (first | done | (focus (simp; done)))) | (with_reducible apply Bk.alloc) | (with_reducible apply Bk.set) | (with_reducible apply Bk.other) | (with_reducible apply Bk.drew) | (with_reducible apply Bk.drewN) | (first | (with_reducible exact Nat.le_refl _) | (with_reducible assumption) | omega | (simp; omega) | (simp; done)) | (simp; omega)))
            first | rfl | simp only [List.setIfInBounds_toArray, List.set_cons_zero, List.set_cons_succ]
          · apply bk_cast
            (focus (repeat' first | (with_reducible assumption) | ((with_reducible apply Bk.new); (first | done | (focus (simp; done)))) | (with_reducible apply Bk.alloc) | (with_reducible apply Bk.set) | (with_reducible apply Bk.other) | (with_reducible apply Bk.drew) | (with_reducible apply Bk.drewN) | (first | (with_reducible exact Nat.le_refl _) | (with_reducible assumption) | omega | (simp; omega) | (simp; done)) | (simp; omega)))
            first | rfl | simp only [List.setIfInBounds_toArray, List.set_cons_zero, List.set_cons_succ]
          · refine Below.block ?_ gm hg2
            (repeat' first | (with_reducible exact Below.refl _ _) | (with_reducible assumption) | (with_reducible refine Below.alloc ?_ ?_ _) | (with_reducible refine Below.drew ?_) | (with_reducible refine below_drewN' ?_ _) | (with_reducible refine Below.setCell ?_ ?_ _) | (first | (with_reducible exact Nat.le_refl _) | (with_reducible assumption) | omega | (simp; omega) | (simp; done)))
          · (repeat' first | (with_reducible exact Below.refl _ _) | (with_reducible assumption) | (with_reducible refine Below.alloc ?_ ?_ _) | (with_reducible refine Below.drew ?_) | (with_reducible refine below_drewN' ?_ _) | (with_reducible refine Below.setCell ?_ ?_ _) | (first | (with_reducible exact Nat.le_refl _) | (with_reducible assumption) | omega | (simp; omega) | (simp; done)))
        case measure => simp [intOf]; omega
    · have hcd := hkd.arr; have hfd := hkd.frz; have hcw := hkw.arr; have hfw := hkw.frz
      have HO9 := Lib.hid ho; clear ho
      have hz5 : w1.heap.size ≤ w5.heap.size := hb5'.out.size
      go_wp2_with fail
      refine (dreqW_any 4 bl fr b f 3 (pgB us f) _).mono ?_; rintro e w6 ⟨rfl, hb6⟩
      (first | (have hz6 := hb6.size; apply bk_then (w1.heap.size) hb6; (focus (repeat' first | (with_reducible assumption) | ((with_reducible apply Bk.new); (first | done | (focus (simp; done)))) | (with_reducible apply Bk.alloc) | (with_reducible apply Bk.set) | (with_reducible apply Bk.other) | (with_reducible apply Bk.drew) | (with_reducible apply Bk.drewN) | (first | (with_reducible exact Nat.le_refl _) | (with_reducible assumption) | omega | (simp; omega) | (simp; done)) | (simp; omega))); intro hk6_0; have hc6_0 := hk6_0.arr; have hf6_0 := hk6_0.frz; have hl6_0 := hk6_0.lt; apply bk_then (w5.heap.size) hb6; (focus (repeat' first | (with_reducible assumption) | ((with_reducible apply Bk.new); (first | done | (focus (simp; done)))) | (with_reducible apply Bk.alloc) | (with_reducible apply Bk.set) | (with_reducible apply Bk.other) | (with_reducible apply Bk.drew) | (with_reducible apply Bk.drewN) | (first | (with_reducible exact Nat.le_refl _) | (with_reducible assumption) | omega | (simp; omega) | (simp; done)) | (simp; omega))); intro hk6_1; have hc6_1 := hk6_1.arr; have hf6_1 := hk6_1.frz; have hl6_1 := hk6_1.lt; (try simp at hz6); replace hb6 : Below w1.heap.size wr w6 := Below.trans (by (repeat' first | (with_reducible exact Below.refl _ _) | (with_reducible assumption) | (with_reducible refine Below.alloc ?_ ?_ _) | (with_reducible refine Below.drew ?_) | (with_reducible refine below_drewN' ?_ _) | (with_reducible refine Below.setCell ?_ ?_ _) | (first | (with_reducible exact Nat.le_refl _) | (with_reducible assumption) | omega | (simp; omega) | (simp; done)))) (Below.mono hb6 (by (first | (with_reducible exact Nat.le_refl _) | (with_reducible assumption) | omega | (simp; omega) | (simp; done))))))
      go_wp2_with fail
      have hby1 : cBy (dbu bl fr 2 b f (pgB us f)) us1 4 1 [] = bytesOf us1 := by unfold cBy; rw [if_neg]; simp [cOk, cRd, dbu]
      refine (dcomplete_at (dbu bl fr 2 b f (pgB us f)) _ c us1 hl1 4 1 [] _ (by simp [Dsk.Ok, dbu]; omega) (by omega) (row_rd (row_at_keep HO9.out ((show Below w1.heap.size wr _ by (repeat' first | (with_reducible exact Below.refl _ _) | (with_reducible assumption) | (with_reducible refine Below.alloc ?_ ?_ _) | (with_reducible refine Below.drew ?_) | (with_reducible refine below_drewN' ?_ _) | (with_reducible refine Below.setCell ?_ ?_ _) | (first | (with_reducible exact Nat.le_refl _) | (with_reducible assumption) | omega | (simp; omega) | (simp; done)))).block gm hg2))) hw1 (by omega) ⟨4, bl, fr, 2, 0, 0, 0, []⟩ (by simp [cDsk, cOk, cRd, dbu]) true (by simp [cOk, cRd, dbu]) _ hby1).mono ?_
      simp only [CmpOut, V_mk]; rintro e w8 ⟨A8, c8, us8, rfl, hwu8, hlu8, hby8, hn8, hb8⟩
      obtain rfl : us8 = us1 := bytesOf_inj hwu8 hw1 hby8
      have HN8 := Lib.hid hn8; clear hn8 hby8 hby1
      (first | (have hz8 := hb8.size; apply bk_then (w1.heap.size) hb8; (focus (repeat' first | (with_reducible assumption) | ((with_reducible apply Bk.new); (first | done | (focus (simp; done)))) | (with_reducible apply Bk.alloc) | (with_reducible apply Bk.set) | (with_reducible apply Bk.other) | (with_reducible apply Bk.drew) | (with_reducible apply Bk.drewN) | (first | (with_reducible exact Nat.le_refl _) | (with_reducible assumption) | omega | (simp; omega) | (simp; done)) | (simp; omega))); intro hk8_0; (try simp only [List.setIfInBounds_toArray, List.set_cons_zero, List.set_cons_succ] at hk8_0); have hc8_0 := hk8_0.arr; have hf8_0 := hk8_0.frz; have hl8_0 := hk8_0.lt; (try simp at hz8); replace hb8 : Below w1.heap.size wr w8 := Below.trans (by (repeat' first | (with_reducible exact Below.refl _ _) | (with_reducible assumption) | (with_reducible refine Below.alloc ?_ ?_ _) | (with_reducible refine Below.drew ?_) | (with_reducible refine below_drewN' ?_ _) | (with_reducible refine Below.setCell ?_ ?_ _) | (first | (with_reducible exact Nat.le_refl _) | (with_reducible assumption) | omega | (simp; omega) | (simp; done)))) (Below.mono hb8 (by (first | (with_reducible exact Nat.le_refl _) | (with_reducible assumption) | omega | (simp; omega) | (simp; done))))))
      go_wp2_with fail
      refine (rpage_f A8 c8 f us8 hlu8 hf1 _ (by omega) (HN8.out.keep (by repeat' first | (with_reducible exact Keeps.refl _ _) | (with_reducible refine Keeps.alloc ?_ _) | (with_reducible refine Keeps.setCell ?_ ?_ _) | (with_reducible refine Keeps.drew ?_) | (with_reducible refine Keeps.drewN ?_ _) | (first | (with_reducible exact Nat.le_refl _) | (with_reducible assumption) | omega | (simp; omega) | (simp; done)))).rd).mono ?_; rintro e w9 ⟨rfl, hb9⟩
      (first | (have hz9 := hb9.size; apply bk_then (w1.heap.size) hb9; (focus (repeat' first | (with_reducible assumption) | ((with_reducible apply Bk.new); (first | done | (focus (simp; done)))) | (with_reducible apply Bk.alloc) | (with_reducible apply Bk.set) | (with_reducible apply Bk.other) | (with_reducible apply Bk.drew) | (with_reducible apply Bk.drewN) | (first | (with_reducible exact Nat.le_refl _) | (with_reducible assumption) | omega | (simp; omega) | (simp; done)) | (simp; omega))); intro hk9_0; (try simp only [List.setIfInBounds_toArray, List.set_cons_zero, List.set_cons_succ] at hk9_0); have hc9_0 := hk9_0.arr; have hf9_0 := hk9_0.frz; have hl9_0 := hk9_0.lt; (try simp at hz9); replace HN8 := Lib.hid (HN8.out.keep (Keeps.below (by repeat' first | (with_reducible exact Keeps.refl _ _) | (with_reducible refine Keeps.alloc ?_ _) | (with_reducible refine Keeps.setCell ?_ ?_ _) | (with_reducible refine Keeps.drew ?_) | (with_reducible refine Keeps.drewN ?_ _) | (first | (with_reducible exact Nat.le_refl _) | (with_reducible assumption) | omega | (simp; omega) | (simp; done))) hb9)); replace hb9 : Below w1.heap.size wr w9 := Below.trans (by (repeat' first | (with_reducible exact Below.refl _ _) | (with_reducible assumption) | (with_reducible refine Below.alloc ?_ ?_ _) | (with_reducible refine Below.drew ?_) | (with_reducible refine below_drewN' ?_ _) | (with_reducible refine Below.setCell ?_ ?_ _) | (first | (with_reducible exact Nat.le_refl _) | (with_reducible assumption) | omega | (simp; omega) | (simp; done)))) (Below.mono hb9 (by (first | (with_reducible exact Nat.le_refl _) | (with_reducible assumption) | omega | (simp; omega) | (simp; done))))))
      go_wp2_with fail
      refine (samew_b A8 _ c8 c us8 hlu8 _ (by omega) (HN8.out.keep (by repeat' first | (with_reducible exact Keeps.refl _ _) | (with_reducible refine Keeps.alloc ?_ _) | (with_reducible refine Keeps.setCell ?_ ?_ _) | (with_reducible refine Keeps.drew ?_) | (with_reducible refine Keeps.drewN ?_ _) | (first | (with_reducible exact Nat.le_refl _) | (with_reducible assumption) | omega | (simp; omega) | (simp; done)))).rd (row_rd (row_at_keep HO9.out ((show Below w1.heap.size wr _ by (repeat' first | (with_reducible exact Below.refl _ _) | (with_reducible assumption) | (with_reducible refine Below.alloc ?_ ?_ _) | (with_reducible refine Below.drew ?_) | (with_reducible refine below_drewN' ?_ _) | (with_reducible refine Below.setCell ?_ ?_ _) | (first | (with_reducible exact Nat.le_refl _) | (with_reducible assumption) | omega | (simp; omega) | (simp; done)))).block gm hg2)))).mono ?_; rintro e w10 ⟨rfl, hb10⟩
      (first | (have hz10 := hb10.size; (try simp at hz10); replace hb10 : Below w1.heap.size wr w10 := Below.trans (by (repeat' first | (with_reducible exact Below.refl _ _) | (with_reducible assumption) | (with_reducible refine Below.alloc ?_ ?_ _) | (with_reducible refine Below.drew ?_) | (with_reducible refine below_drewN' ?_ _) | (with_reducible refine Below.setCell ?_ ?_ _) | (first | (with_reducible exact Nat.le_refl _) | (with_reducible assumption) | omega | (simp; omega) | (simp; done)))) (Below.mono hb10 (by (first | (with_reducible exact Nat.le_refl _) | (with_reducible assumption) | omega | (simp; omega) | (simp; done))))))
      go_wp2_with fail
      refine (awake9 _).mono ?_; rintro e w11 ⟨rfl, hb11⟩
      (first | (have hz11 := hb11.size; (try simp at hz11); replace hb11 : Below w1.heap.size wr w11 := Below.trans (by (repeat' first | (with_reducible exact Below.refl _ _) | (with_reducible assumption) | (with_reducible refine Below.alloc ?_ ?_ _) | (with_reducible refine Below.drew ?_) | (with_reducible refine below_drewN' ?_ _) | (with_reducible refine Below.setCell ?_ ?_ _) | (first | (with_reducible exact Nat.le_refl _) | (with_reducible assumption) | omega | (simp; omega) | (simp; done)))) (Below.mono hb11 (by (first | (with_reducible exact Nat.le_refl _) | (with_reducible assumption) | omega | (simp; omega) | (simp; done))))))
      go_wp2_with fail
      go_ret
      exact ⟨rfl, hb.trans (hb11.mono hz1)⟩
end Go.Proofs.Ytmefbkfapeijgaa
