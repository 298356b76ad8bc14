/- The memory and the controller that the laws of the disk make out of their numbers. -/
import Derived.Test.YtmefbkfapeijgaaDskE
import Derived.Test.YtmefbkfapeijgaaDskF
import Derived.Test.YtmefbkfapeijgaaData
namespace Go.Proofs.Ytmefbkfapeijgaa
open Go.RowKit

/-- What 'words' makes: a memory of a few pages. -/
def WordsOut (w : World) (e : Ending) (w' : World) : Prop :=
  ∃ A c n us, e = .returned (.slice A n c) ∧ n ≤ c ∧ List.length us = n ∧ Wd us ∧ 1 ≤ pg n ∧ pg n ≤ 6 ∧ n = 32 * pg n ∧ w'.ownsRow w.heap.size 24 1 (.slice A n c) n (ws us) ∧ Below w.heap.size w w'

set_option maxRecDepth 100000 in
set_option maxHeartbeats 1000000 in
theorem words9 (n pages : Int) (w : World) (hp1 : -9223372036854775808 ≤ pages) (hp2 : pages ≤ 9223372036854775807) :
    Calls Try.prog 49 #[.int .i64 n, .int .i64 pages] w (WordsOut w) := by
  have hm0 := Int.emod_nonneg pages (show (6 : Int) ≠ 0 by omega)
  have hm1 := Int.emod_lt_of_pos pages (show (0 : Int) < 6 by omega)
  obtain ⟨q, hq⟩ : ∃ q, q = pages % 6 := ⟨_, rfl⟩
  rw [← hq] at hm0 hm1
  have HR := Lib.hid (fun W => (by rw [hq]; exact round_any _ _ W hp1 hp2 (by omega) (by omega) : Calls Try.prog 26 #[.int .i64 pages, .int .i64 6] W fun e w' => e = .returned (.int .i64 q) ∧ W = w'))
  clear hq hp1 hp2
  have e2 : newN (1 + q) = 32 * (1 + q.toNat) := by unfold newN; rw [if_pos (by omega)]; omega
  obtain ⟨m, hm⟩ : ∃ m, m = 32 * (1 + q.toNat) := ⟨_, rfl⟩
  have hm2 : 1 ≤ m := by omega
  have hm3 : m ≤ 192 := by omega
  have E2 := Lib.hid (e2.trans hm.symm)
  have HM := Lib.hid hm
  clear e2 hm
  go_enter Try.func49, Try.ntmps49
  go_wp2_with (first | (go_at_call 26; refine (HR.out _).mono ?_; rintro e w' ⟨rfl, rfl⟩) | (go_at_call 35; refine (rnew_any _ _).mono ?_; rintro e w1 ⟨A1, c1, rfl, ho, hb⟩; rw [E2.out] at ho ⊢; obtain ⟨g, rfl, hg1, hg2⟩ := row_get ho (by omega)))
  have hc1 : m ≤ c1 := by
    obtain ⟨_, _, hv, h1, _⟩ := row_shape ho
    injection hv with _ _ hv
    rw [hv]; exact h1
  have HO := Lib.hid ho
  have HB := Lib.hid hb
  clear ho hb
  go_loopw [6] (fun i wr => ∃ k : Nat, k ≤ m ∧ i = .int .i64 k ∧ ∃ us, wr.ownsRow w.heap.size 24 1 (.slice (some ⟨g, 0, none⟩) m c1) m (ws us) ∧ Wd us ∧ Below w.heap.size w wr) (fun i _ => m - (intOf i).toNat)
  case atStart => exact ⟨0, Nat.zero_le _, rfl, _, HO.out, Wd.rep _, HB.out⟩
  case round =>
    obtain ⟨k, hk, rfl, us, ho, hw, hb⟩ := hrel
    have hlu : us.length = m := by have := ho.1; simpa using this
    by_cases hlt : k < m
    · obtain ⟨y, e5, h5a, h5b⟩ : ∃ y, mix n k = y ∧ 0 ≤ y ∧ y ≤ 9223372036854775807 := ⟨_, rfl, mix_range _ _⟩
      have C5 := Lib.hid (fun W => (e5 ▸ mix_any n k W))
      clear e5 h5a h5b
      have hcx := (ho.cellAt k (by omega)).trans (ws_get us k (by omega))
      have hfx := ho.frozenAt k
      generalize us.getD k 0 = ox at hcx
      have HOr := Lib.hid ho
      have HBr := Lib.hid hb
      clear ho hlu hb
      obtain ⟨v, hv, hv2⟩ : ∃ v : Nat, bits BinOp.and IntKind.i64 y 4294967295 % 4294967296 = (v : Int) ∧ v < 4294967296 := ⟨(bits BinOp.and IntKind.i64 y 4294967295 % 4294967296).toNat, by omega, by omega⟩
      have Hv := Lib.hid hv
      clear hv
      go_wp2_with (go_at_call 37; refine (C5.out _).mono ?_; rintro e w' ⟨rfl, rfl⟩)
      rw [Hv.out]
      go_roundw
      case rel => exact ⟨k + 1, by omega, by go_num, us.set k v, (by rw [← ws_set]; exact (HOr.out.stored k _).1), hw.set _ _ hv2, (HBr.out).setCell (p := ⟨g, k, none⟩) hg1 _⟩
      case measure => simp [intOf]; omega
    · go_wp2
      go_ret
      exact ⟨_, _, _, us, rfl, hc1, hlu, hw, by rw [HM.out]; unfold pg; rw [if_pos (by omega)]; omega, by rw [HM.out]; unfold pg; rw [if_pos (by omega)]; omega, by rw [HM.out]; unfold pg; rw [if_pos (by omega)]; omega, ho, hb⟩

/-- A controller with data of few bytes. -/
def DskOut (w : World) (e : Ending) (w' : World) : Prop := ∃ d : Dsk, e = .returned d.V ∧ d.Ok ∧ d.od.length ≤ 300 ∧ Below w.heap.size w w'
theorem dsk_ex {w w' : World} {b x1 x2 st cm x3 x4 : Int} {s : ByteArray} (h0 : 0 ≤ b ∧ b < 4294967296) (h1 : 0 ≤ x1 ∧ x1 < 4294967296) (h2 : 0 ≤ x2 ∧ x2 < 4294967296) (h3 : 0 ≤ x3 ∧ x3 < 4294967296) (h4 : 0 ≤ x4 ∧ x4 < 4294967296)
    (hs : s.size ≤ 300) (hb : Below w.heap.size w w') : DskOut w (.returned (.agg #[.int .u32 b, .int .u32 x1, .int .u32 x2, .int .i64 st, .int .i64 cm, .int .u32 x3, .int .u32 x4, .string s])) w' := by
  refine ⟨⟨b.toNat, x1.toNat, x2.toNat, st, cm, x3.toNat, x4.toNat, s.data.toList⟩, ?_, ?_, ?_, hb⟩
  · rw [V_mk, Int.toNat_of_nonneg h0.1, Int.toNat_of_nonneg h1.1, Int.toNat_of_nonneg h2.1, Int.toNat_of_nonneg h3.1, Int.toNat_of_nonneg h4.1]; rfl
  · refine ⟨?_, ?_, ?_, ?_, ?_⟩ <;> simp only [] <;> omega
  · simpa using hs
set_option maxRecDepth 100000 in
set_option maxHeartbeats 2000000 in
theorem shaped9 (d : Dsk) (raw : Bool) (n : Int) (w : World) (ho : d.Ok) (hl : d.od.length ≤ 9223372036854775807) :
    Calls Try.prog 48 #[d.V, .bool raw, .int .i64 n] w (DskOut w) := by
  obtain ⟨h1, h2, h3, h4, h5⟩ := ho
  obtain ⟨y, e5, h5a, h5b⟩ : ∃ y, mix n 11 = y ∧ 0 ≤ y ∧ y ≤ 9223372036854775807 := ⟨_, rfl, mix_range _ _⟩
  have C5 := Lib.hid (fun W => (e5 ▸ mix_any n 11 W))
  have CD := Lib.hid (fun W => (data_any y 128 W (by omega)))
  clear e5
  obtain ⟨B, bl, fr, st, cm, ob, of, od⟩ := d
  simp only [] at h1 h2 h3 h4 h5 hl
  rw [V_mk]
  by_cases hr : raw = true ∧ od.length ≤ 300
  · obtain ⟨rfl, hle⟩ := hr
    have g : decide ((od.length : Int) ≤ 300) = true := by simp; omega
    go_enter Try.func48, Try.ntmps48
    go_wp2
    all_goals
      ((try simp only [Exit.inBlock, Exit.then]); first | (refine bodyPost_ret (results_tmp rfl _ _ _) rfl ?_) | go_ret2 | go_ret3 | (refine bodyPost_ret (by simp [results, Try.results48, go_sem]; try with_reducible rfl) rfl ?_))
      exact ⟨⟨B, bl, fr, st, cm, ob, of, od⟩, rfl, ⟨h1, h2, h3, h4, h5⟩, hle, by (repeat' first | (with_reducible exact Below.refl _ _) | (with_reducible assumption) | (with_reducible refine Below.alloc ?_ ?_ _) | (with_reducible refine Below.drew ?_) | (with_reducible refine below_drewN' ?_ _) | (with_reducible refine Below.setCell ?_ ?_ _) | (first | (with_reducible exact Nat.le_refl _) | (with_reducible assumption) | omega | (simp; omega) | (simp; done)))⟩
  · have hg : raw = false ∨ (raw = true ∧ decide ((od.length : Int) ≤ 300) = false) := by cases raw <;> simp_all; omega
    clear hr
    rcases hg with rfl | ⟨rfl, hg⟩
    all_goals
      go_enter Try.func48, Try.ntmps48
      go_wp2_with (first | (go_at_call 37; refine (C5.out _).mono ?_; rintro e w' ⟨rfl, rfl⟩) | (go_at_call 39; refine (CD.out _).mono ?_; rintro e w1 ⟨rfl, hb1⟩; have hz1 := hb1.size; apply bk_then (w.heap.size) hb1; (focus (repeat' first | (with_reducible assumption) | ((with_reducible apply Bk.new); (focus (simp; done))) | (with_reducible apply Bk.alloc) | (with_reducible apply Bk.set) | (with_reducible apply Bk.other) | (with_reducible apply Bk.drew) | (first | (with_reducible exact Nat.le_refl _) | (with_reducible assumption) | omega | (simp; omega) | (simp; done)) | (simp; omega))); intro hk1_0; have hc1_0 := hk1_0.arr; have hf1_0 := hk1_0.frz; have hl1_0 := hk1_0.lt; apply bk_then (w.heap.size + 1) hb1; (focus (repeat' first | (with_reducible assumption) | ((with_reducible apply Bk.new); (focus (simp; done))) | (with_reducible apply Bk.alloc) | (with_reducible apply Bk.set) | (with_reducible apply Bk.other) | (with_reducible apply Bk.drew) | (first | (with_reducible exact Nat.le_refl _) | (with_reducible assumption) | omega | (simp; omega) | (simp; done)) | (simp; omega))); intro hk1_1; have hc1_1 := hk1_1.arr; have hf1_1 := hk1_1.frz; have hl1_1 := hk1_1.lt; (try simp at hz1); replace hb1 : Below w.heap.size w w1 := Below.then (by (repeat' first | (with_reducible exact Below.refl _ _) | (with_reducible assumption) | (with_reducible refine Below.alloc ?_ ?_ _) | (with_reducible refine Below.drew ?_) | (with_reducible refine below_drewN' ?_ _) | (with_reducible refine Below.setCell ?_ ?_ _) | (first | (with_reducible exact Nat.le_refl _) | (with_reducible assumption) | omega | (simp; omega) | (simp; done)))) hb1))
      all_goals first
        | (((try simp only [Exit.inBlock, Exit.then]); first | (refine bodyPost_ret (results_tmp rfl _ _ _) rfl ?_) | go_ret2 | go_ret3 | (refine bodyPost_ret (by simp [results, Try.results48, go_sem]; try with_reducible rfl) rfl ?_)); exact dsk_ex (by omega) (by omega) (by omega) (by omega) (by omega) (by first | decide | simp) (by (repeat' first | (with_reducible exact Below.refl _ _) | (with_reducible assumption) | (with_reducible refine Below.alloc ?_ ?_ _) | (with_reducible refine Below.drew ?_) | (with_reducible refine below_drewN' ?_ _) | (with_reducible refine Below.setCell ?_ ?_ _) | (first | (with_reducible exact Nat.le_refl _) | (with_reducible assumption) | omega | (simp; omega) | (simp; done)))))
        | (refine bodyPost_ret (by simp [results, Try.results48, go_sem, hc1_1]; try with_reducible rfl) rfl ?_; exact dsk_ex (by omega) (by omega) (by omega) (by omega) (by omega) (by first | decide | simp) (by (repeat' first | (with_reducible exact Below.refl _ _) | (with_reducible assumption) | (with_reducible refine Below.alloc ?_ ?_ _) | (with_reducible refine Below.drew ?_) | (with_reducible refine below_drewN' ?_ _) | (with_reducible refine Below.setCell ?_ ?_ _) | (first | (with_reducible exact Nat.le_refl _) | (with_reducible assumption) | omega | (simp; omega) | (simp; done)))))
        | skip

theorem new1_any (w : World) : Calls Try.prog 35 #[.int .i64 1] w fun e w' => ∃ A c, e = .returned (.slice A 32 c) ∧ 32 ≤ c ∧ w'.ownsRow w.heap.size 24 1 (.slice A 32 c) 32 (ws (List.replicate 32 0)) ∧ Below w.heap.size w w' :=
  (rnew_any 1 w).mono fun e w' ⟨A, c, he, ho, hb⟩ => ⟨A, c, he, by obtain ⟨_, _, hv, h1, _⟩ := row_shape ho; injection hv with _ _ hv; rw [hv]; exact h1, ho, hb⟩
theorem o1_any (A : Option Addr) (c : Nat) (w : World) (hc : 32 ≤ c) (hr : Rd w w.heap.size A (ws (List.replicate 32 0))) :
    Calls Try.prog 50 #[.agg #[.int .u32 64, .int .u32 64, .int .u32 0, .int .i64 0, .int .i64 0, .int .u32 0, .int .u32 0, .string { data := #[] }], .slice A 32 c, .int .i64 6, .int .u32 2, .int .u64 0] w fun e w' =>
      ∃ A' c', e = .returned (.tuple #[.agg #[.int .u32 64, .int .u32 64, .int .u32 0, .int .i64 3, .int .i64 0, .int .u32 0, .int .u32 0, .string { data := #[] }], .slice A' 0 c']) ∧ Below w.heap.size w w' :=
  (dout_any ⟨64, 64, 0, 0, 0, 0, 0, []⟩ A c (List.replicate 32 0) 6 2 0 w (by simp [Dsk.Ok]) (by simp) (by simpa using hc) hr (Wd.rep _) (by omega)).mono fun e w' ⟨A', c', he, _, _, hb⟩ => ⟨A', c', he, hb⟩
theorem o2_any (A : Option Addr) (c : Nat) (w : World) (hc : 32 ≤ c) (hr : Rd w w.heap.size A (ws (List.replicate 32 0))) :
    Calls Try.prog 50 #[.agg #[.int .u32 64, .int .u32 63, .int .u32 0, .int .i64 0, .int .i64 0, .int .u32 0, .int .u32 0, .string { data := #[] }], .slice A 32 c, .int .i64 6, .int .u32 1, .int .u64 7] w fun e w' =>
      ∃ b off c', e = .returned (.tuple #[.agg #[.int .u32 64, .int .u32 63, .int .u32 0, .int .i64 1, .int .i64 1, .int .u32 63, .int .u32 0, .string { data := #[] }], .slice (some ⟨b, off, none⟩) 1 c']) ∧ w.heap.size ≤ b ∧ b < w'.heap.size ∧
        w'.cell? ⟨b, off, none⟩ = some (.int .i64 3) ∧ w'.cell? ⟨b, off + 1, none⟩ = some (.int .u64 7) ∧ w'.cell? ⟨b, off + 2, none⟩ = some (.int .u32 63) ∧ w'.cell? ⟨b, off + 3, none⟩ = some (.string { data := #[] }) ∧ Below w.heap.size w w' :=
  (dout_any ⟨64, 63, 0, 0, 0, 0, 0, []⟩ A c (List.replicate 32 0) 6 1 7 w (by simp [Dsk.Ok]) (by simp) (by simpa using hc) hr (Wd.rep _) (by omega)).mono fun e w' ⟨A', c', he, _, hn, hb⟩ => by
    obtain ⟨b, off, rfl, h1, h2, h3⟩ := hn (by decide)
    exact ⟨b, off, c', he, h1, h2, h3 0 (by decide), h3 1 (by decide), h3 2 (by decide), h3 3 (by decide), hb⟩
set_option maxRecDepth 100000 in
set_option maxHeartbeats 2000000 in
theorem awake9 (w : World) : Calls Try.prog 57 #[] w fun e w' => e = .returned (.bool true) ∧ Below w.heap.size w w' := by
  go_enter Try.func57, Try.ntmps57
  go_wp2_with fail
  refine (new1_any _).mono ?_; rintro e w1 ⟨A1, c1, rfl, hc1, ho1, hb1⟩
  have HO1 := Lib.hid (row_rd ho1); clear ho1
  go_wp2_with fail
  refine (o1_any _ _ _ hc1 HO1.out).mono ?_; rintro e w2 ⟨A2, c2, rfl, hb2⟩
  have hb12 := hb1.then hb2
  have hz12 := hb2.size
  have hz0 := hb12.size
  go_wp2_with fail
  refine (new1_any _).mono ?_; rintro e w3 ⟨A3, c3, rfl, hc3, ho3, hb3⟩
  have HO3 := Lib.hid (row_rd ho3); clear ho3
  have hz3 := hb3.size; apply bk_then (w2.heap.size) hb3; (focus (repeat' first | (with_reducible assumption) | ((with_reducible apply Bk.new); (focus (simp; done))) | (with_reducible apply Bk.alloc) | (with_reducible apply Bk.set) | (with_reducible apply Bk.other) | (with_reducible apply Bk.drew) | (first | (with_reducible exact Nat.le_refl _) | (with_reducible assumption) | omega | (simp; omega) | (simp; done)) | (simp; omega))); intro hk3_0; have hc3_0 := hk3_0.arr; have hf3_0 := hk3_0.frz; have hl3_0 := hk3_0.lt; (try simp at hz3); replace hb3 : Below w.heap.size w w3 := Below.then (by (repeat' first | (with_reducible exact Below.refl _ _) | (with_reducible assumption) | (with_reducible refine Below.alloc ?_ ?_ _) | (with_reducible refine Below.drew ?_) | (with_reducible refine below_drewN' ?_ _) | (with_reducible refine Below.setCell ?_ ?_ _) | (first | (with_reducible exact Nat.le_refl _) | (with_reducible assumption) | omega | (simp; omega) | (simp; done)))) hb3
  go_wp2_with fail
  refine (o2_any _ _ _ hc3 HO3.out).mono ?_; rintro e w4 ⟨b, off, c4, rfl, hbb, hbl, g0, g1, g2, g3, hb4⟩
  have hz4 := hb4.size; apply bk_then (w2.heap.size) hb4; (focus (repeat' first | (with_reducible assumption) | ((with_reducible apply Bk.new); (focus (simp; done))) | (with_reducible apply Bk.alloc) | (with_reducible apply Bk.set) | (with_reducible apply Bk.other) | (with_reducible apply Bk.drew) | (first | (with_reducible exact Nat.le_refl _) | (with_reducible assumption) | omega | (simp; omega) | (simp; done)) | (simp; omega))); intro hk4_0; have hc4_0 := hk4_0.arr; have hf4_0 := hk4_0.frz; have hl4_0 := hk4_0.lt; (try simp at hz4); replace hb4 : Below w.heap.size w w4 := Below.then (by (repeat' first | (with_reducible exact Below.refl _ _) | (with_reducible assumption) | (with_reducible refine Below.alloc ?_ ?_ _) | (with_reducible refine Below.drew ?_) | (with_reducible refine below_drewN' ?_ _) | (with_reducible refine Below.setCell ?_ ?_ _) | (first | (with_reducible exact Nat.le_refl _) | (with_reducible assumption) | omega | (simp; omega) | (simp; done)))) hb4
  have hne : w2.heap.size ≠ b := by omega
  go_wp2
  go_outline
  go_ret
  exact ⟨rfl, by (repeat' first | (with_reducible exact Below.refl _ _) | (with_reducible assumption) | (with_reducible refine Below.alloc ?_ ?_ _) | (with_reducible refine Below.drew ?_) | (with_reducible refine below_drewN' ?_ _) | (with_reducible refine Below.setCell ?_ ?_ _) | (first | (with_reducible exact Nat.le_refl _) | (with_reducible assumption) | omega | (simp; omega) | (simp; done)))⟩
end Go.Proofs.Ytmefbkfapeijgaa
