/- The disk controller: writing a port, the reference. -/
import Derived.Test.YtmefbkfapeijgaaDskD
namespace Go.Proofs.Ytmefbkfapeijgaa
open Go.RowKit

theorem rdreqR_any (B bl fr ob of a : Nat) (od : ByteArray) (w : World) :
    Calls Try.prog 53 #[.agg #[.int .u32 B, .int .u32 bl, .int .u32 fr, .int .i64 1, .int .i64 1, .int .u32 ob, .int .u32 of, .string od], .int .u64 a] w fun e w' => e = .returned (.tuple #[.agg #[.int .i64 3, .int .u64 a, .int .u32 ob, .string { data := #[] }], .bool true]) ∧ Below w.heap.size w w' :=
  rdreq_any ⟨B, bl, fr, 1, 1, ob, of, od.data.toList⟩ a w
theorem rdreqW_any (B bl fr ob of a : Nat) (od : List UInt8) (w : World) :
    Calls Try.prog 53 #[.agg #[.int .u32 B, .int .u32 bl, .int .u32 fr, .int .i64 1, .int .i64 2, .int .u32 ob, .int .u32 of, .string (str od)], .int .u64 a] w fun e w' => e = .returned (.tuple #[.agg #[.int .i64 4, .int .u64 a, .int .u32 ob, .string (str od)], .bool true]) ∧ Below w.heap.size w w' :=
  rdreq_any ⟨B, bl, fr, 1, 2, ob, of, od⟩ a w
set_option maxRecDepth 100000 in
set_option maxHeartbeats 4000000 in
theorem rdout_any (d : Dsk) (A : Option Addr) (c : Nat) (xs : List Nat) (port : Int) (v a : Nat) (w : World) (ho : d.Ok) (hn : xs.length ≤ 1048576) (hr : Rd w w.heap.size A (ws xs)) (hv : v < 4294967296) :
    Calls Try.prog 51 #[d.V, .slice A xs.length c, .int .i64 port, .int .u32 v, .int .u64 a] w (OutsPost (dOut d xs port v a) w) := by
  have hm : xs.length ≤ maxLen := by unfold maxLen; omega
  obtain ⟨_, _, hfr, _, _⟩ := ho
  have HR := Lib.hid hr
  obtain ⟨B, bl, fr, st, cm, ob, of, od⟩ := d
  simp only [] at hfr
  clear hr
  rw [V_mk]
  by_cases hi : port = 6 ∧ v = 1
  · obtain ⟨rfl, rfl⟩ := hi
    go_enter Try.func51, Try.ntmps51
    go_wp2_with (first | (go_at_call 105; refine (r7page_any _ _ _ _ _ hm hfr).mono ?_; rintro e w' ⟨rfl, rfl⟩) | (go_at_call 53; refine (rdreqR_any _ _ _ _ _ _ _ _).mono ?_; rintro e w2 ⟨rfl, hb2⟩; have hz2 := hb2.size; apply bk_then (w.heap.size) hb2; (focus (repeat' first | (with_reducible assumption) | ((with_reducible apply Bk.new); (focus (simp; done))) | (with_reducible apply Bk.alloc) | (with_reducible apply Bk.set) | (with_reducible apply Bk.other) | (with_reducible apply Bk.drew) | (first | (with_reducible exact Nat.le_refl _) | (with_reducible assumption) | omega | (simp; omega) | (simp; done)) | (simp; omega))); intro hk2_0; have hc2_0 := hk2_0.arr; have hf2_0 := hk2_0.frz; have hl2_0 := hk2_0.lt; apply bk_then (w.heap.size + 1) hb2; (focus (repeat' first | (with_reducible assumption) | ((with_reducible apply Bk.new); (focus (simp; done))) | (with_reducible apply Bk.alloc) | (with_reducible apply Bk.set) | (with_reducible apply Bk.other) | (with_reducible apply Bk.drew) | (first | (with_reducible exact Nat.le_refl _) | (with_reducible assumption) | omega | (simp; omega) | (simp; done)) | (simp; omega))); intro hk2_1; have hc2_1 := hk2_1.arr; have hf2_1 := hk2_1.frz; have hl2_1 := hk2_1.lt; (try simp at hz2); replace hb2 : Below w.heap.size w w2 := Below.then (by (repeat' first | (with_reducible exact Below.refl _ _) | (with_reducible assumption) | (with_reducible refine Below.alloc ?_ ?_ _) | (with_reducible refine Below.drew ?_) | (with_reducible refine below_drewN' ?_ _) | (with_reducible refine Below.setCell ?_ ?_ _) | (first | (with_reducible exact Nat.le_refl _) | (with_reducible assumption) | omega | (simp; omega) | (simp; done)))) hb2))
    all_goals first
      | (((try simp only [Exit.inBlock, Exit.then]); first | (refine bodyPost_ret (results_tmp rfl _ _ _) rfl ?_) | go_ret2 | go_ret3 | (refine bodyPost_ret (by simp [results, Try.results51, go_sem]; try with_reducible rfl) rfl ?_)); exact ⟨none, 0, by simp_all [dOut, dIss, V_mk], by simp_all [dOut, dIss], fun h => by simp_all [dOut, dIss, os], by (repeat' first | (with_reducible exact Below.refl _ _) | (with_reducible assumption) | (with_reducible refine Below.alloc ?_ ?_ _) | (with_reducible refine Below.drew ?_) | (with_reducible refine below_drewN' ?_ _) | (with_reducible refine Below.setCell ?_ ?_ _) | (first | (with_reducible exact Nat.le_refl _) | (with_reducible assumption) | omega | (simp; omega) | (simp; done)))⟩)
      | (have HD := Lib.hid (show dOut ⟨B, bl, fr, st, cm, ob, of, od⟩ xs 6 1 a = (⟨B, bl, fr, 1, 1, bl, fr, []⟩, [⟨3, a, bl, []⟩]) by simp_all [dOut, dIss])
         go_region
         simp only [Exit.then]; rename_i hK; refine hK _ _ (wp_ret ?_); refine bodyPost_ret (v := .tuple #[.agg #[.int .u32 B, .int .u32 bl, .int .u32 fr, .int .i64 1, .int .i64 1, .int .u32 bl, .int .u32 fr, .string ({ data := #[] })], .slice (some ⟨w2.heap.size + 1, 0, none⟩) 1 1]) (by simp [results, Try.results51, go_sem, hc2_1, hl2_1, hl2_0]) rfl ?_
         rw [HD.out]
         exact ⟨_, _, rfl, Nat.le_refl _, (Nw.new_at (by simp) _ _ (by omega)).drew, by (repeat' first | (with_reducible exact Below.refl _ _) | (with_reducible assumption) | (with_reducible refine Below.alloc ?_ ?_ _) | (with_reducible refine Below.drew ?_) | (with_reducible refine below_drewN' ?_ _) | (with_reducible refine Below.setCell ?_ ?_ _) | (first | (with_reducible exact Nat.le_refl _) | (with_reducible assumption) | omega | (simp; omega) | (simp; done)))⟩)
      | skip
  · by_cases hj : port = 6 ∧ v = 2
    · obtain ⟨rfl, rfl⟩ := hj
      clear hi
      go_enter Try.func51, Try.ntmps51
      go_wp2_with (first | (go_at_call 105; refine (r7page_any _ _ _ _ _ hm hfr).mono ?_; rintro e w' ⟨rfl, rfl⟩) | (go_at_call 40; refine (rpage_any _ _ _ _ _ hm (HR.out.upto (by (repeat' first | (with_reducible exact Below.refl _ _) | (with_reducible assumption) | (with_reducible refine Below.alloc ?_ ?_ _) | (with_reducible refine Below.drew ?_) | (with_reducible refine below_drewN' ?_ _) | (with_reducible refine Below.setCell ?_ ?_ _) | (first | (with_reducible exact Nat.le_refl _) | (with_reducible assumption) | omega | (simp; omega) | (simp; done)))))).mono ?_; rintro e w1 ⟨rfl, hb1⟩; have hz1 := hb1.size; apply bk_then (w.heap.size) hb1; (focus (repeat' first | (with_reducible assumption) | ((with_reducible apply Bk.new); (focus (simp; done))) | (with_reducible apply Bk.alloc) | (with_reducible apply Bk.set) | (with_reducible apply Bk.other) | (with_reducible apply Bk.drew) | (first | (with_reducible exact Nat.le_refl _) | (with_reducible assumption) | omega | (simp; omega) | (simp; done)) | (simp; omega))); intro hk1_0; have hc1_0 := hk1_0.arr; have hf1_0 := hk1_0.frz; have hl1_0 := hk1_0.lt; apply bk_then (w.heap.size + 1) hb1; (focus (repeat' first | (with_reducible assumption) | ((with_reducible apply Bk.new); (focus (simp; done))) | (with_reducible apply Bk.alloc) | (with_reducible apply Bk.set) | (with_reducible apply Bk.other) | (with_reducible apply Bk.drew) | (first | (with_reducible exact Nat.le_refl _) | (with_reducible assumption) | omega | (simp; omega) | (simp; done)) | (simp; omega))); intro hk1_1; have hc1_1 := hk1_1.arr; have hf1_1 := hk1_1.frz; have hl1_1 := hk1_1.lt; (try simp at hz1); replace hb1 : Below w.heap.size w w1 := Below.then (by (repeat' first | (with_reducible exact Below.refl _ _) | (with_reducible assumption) | (with_reducible refine Below.alloc ?_ ?_ _) | (with_reducible refine Below.drew ?_) | (with_reducible refine below_drewN' ?_ _) | (with_reducible refine Below.setCell ?_ ?_ _) | (first | (with_reducible exact Nat.le_refl _) | (with_reducible assumption) | omega | (simp; omega) | (simp; done)))) hb1) | (go_at_call 53; refine (rdreqW_any _ _ _ _ _ _ _ _).mono ?_; rintro e w2 ⟨rfl, hb2⟩; have hz2 := hb2.size; apply bk_then (w.heap.size) hb2; (focus (repeat' first | (with_reducible assumption) | ((with_reducible apply Bk.new); (focus (simp; done))) | (with_reducible apply Bk.alloc) | (with_reducible apply Bk.set) | (with_reducible apply Bk.other) | (with_reducible apply Bk.drew) | (first | (with_reducible exact Nat.le_refl _) | (with_reducible assumption) | omega | (simp; omega) | (simp; done)) | (simp; omega))); intro hk2_0; have hc2_0 := hk2_0.arr; have hf2_0 := hk2_0.frz; have hl2_0 := hk2_0.lt; apply bk_then (w.heap.size + 1) hb2; (focus (repeat' first | (with_reducible assumption) | ((with_reducible apply Bk.new); (focus (simp; done))) | (with_reducible apply Bk.alloc) | (with_reducible apply Bk.set) | (with_reducible apply Bk.other) | (with_reducible apply Bk.drew) | (first | (with_reducible exact Nat.le_refl _) | (with_reducible assumption) | omega | (simp; omega) | (simp; done)) | (simp; omega))); intro hk2_1; have hc2_1 := hk2_1.arr; have hf2_1 := hk2_1.frz; have hl2_1 := hk2_1.lt; (try simp at hz2); replace hb2 : Below w.heap.size w w2 := Below.then (by (repeat' first | (with_reducible exact Below.refl _ _) | (with_reducible assumption) | (with_reducible refine Below.alloc ?_ ?_ _) | (with_reducible refine Below.drew ?_) | (with_reducible refine below_drewN' ?_ _) | (with_reducible refine Below.setCell ?_ ?_ _) | (first | (with_reducible exact Nat.le_refl _) | (with_reducible assumption) | omega | (simp; omega) | (simp; done)))) hb2))
      all_goals first
        | (((try simp only [Exit.inBlock, Exit.then]); first | (refine bodyPost_ret (results_tmp rfl _ _ _) rfl ?_) | go_ret2 | go_ret3 | (refine bodyPost_ret (by simp [results, Try.results51, go_sem]; try with_reducible rfl) rfl ?_)); exact ⟨none, 0, by simp_all [dOut, dIss, V_mk], by simp_all [dOut, dIss], fun h => by simp_all [dOut, dIss, os], by (repeat' first | (with_reducible exact Below.refl _ _) | (with_reducible assumption) | (with_reducible refine Below.alloc ?_ ?_ _) | (with_reducible refine Below.drew ?_) | (with_reducible refine below_drewN' ?_ _) | (with_reducible refine Below.setCell ?_ ?_ _) | (first | (with_reducible exact Nat.le_refl _) | (with_reducible assumption) | omega | (simp; omega) | (simp; done)))⟩)
        | (have HD := Lib.hid (show dOut ⟨B, bl, fr, st, cm, ob, of, od⟩ xs 6 2 a = (⟨B, bl, fr, 1, 2, bl, fr, pgB xs fr⟩, [⟨4, a, bl, pgB xs fr⟩]) by simp_all [dOut, dIss])
           go_region
           simp only [Exit.then]; rename_i hK; refine hK _ _ (wp_ret ?_); refine bodyPost_ret (v := .tuple #[.agg #[.int .u32 B, .int .u32 bl, .int .u32 fr, .int .i64 1, .int .i64 2, .int .u32 bl, .int .u32 fr, .string (str (pgB xs fr))], .slice (some ⟨w2.heap.size + 1, 0, none⟩) 1 1]) (by simp [results, Try.results51, go_sem, hc2_1, hl2_1, hl2_0]) rfl ?_
           rw [HD.out]
           exact ⟨_, _, rfl, Nat.le_refl _, (Nw.new_at (by simp) _ _ (by omega)).drew, by (repeat' first | (with_reducible exact Below.refl _ _) | (with_reducible assumption) | (with_reducible refine Below.alloc ?_ ?_ _) | (with_reducible refine Below.drew ?_) | (with_reducible refine below_drewN' ?_ _) | (with_reducible refine Below.setCell ?_ ?_ _) | (first | (with_reducible exact Nat.le_refl _) | (with_reducible assumption) | omega | (simp; omega) | (simp; done)))⟩)
        | skip
    · have H6 : port = 6 → ¬ v = 1 ∧ ¬ v = 2 := by intro h; constructor <;> intro h2 <;> first | exact hi ⟨h, h2⟩ | exact hj ⟨h, h2⟩
      clear hi hj
      by_cases h6 : port = 6
      · obtain ⟨h1, h2⟩ := H6 h6
        have g1 : ((v : Int) == 1) = false := by simp; omega
        have g2 : ((v : Int) == 2) = false := by simp; omega
        clear H6
        subst h6
        go_enter Try.func51, Try.ntmps51
        go_wp2
        all_goals
          ((try simp only [Exit.inBlock, Exit.then]); first | (refine bodyPost_ret (results_tmp rfl _ _ _) rfl ?_) | go_ret2 | go_ret3 | (refine bodyPost_ret (by simp [results, Try.results51, go_sem]; try with_reducible rfl) rfl ?_))
          exact ⟨none, 0, by simp_all [dOut, V_mk], by simp_all [dOut], fun h => by simp_all [dOut, os], by (repeat' first | (with_reducible exact Below.refl _ _) | (with_reducible assumption) | (with_reducible refine Below.alloc ?_ ?_ _) | (with_reducible refine Below.drew ?_) | (with_reducible refine below_drewN' ?_ _) | (with_reducible refine Below.setCell ?_ ?_ _) | (first | (with_reducible exact Nat.le_refl _) | (with_reducible assumption) | omega | (simp; omega) | (simp; done)))⟩
      · have g6 : (port != 6) = true := by simpa using h6
        clear H6
        go_enter Try.func51, Try.ntmps51
        go_wp2
        all_goals
          ((try simp only [Exit.inBlock, Exit.then]); first | (refine bodyPost_ret (results_tmp rfl _ _ _) rfl ?_) | go_ret2 | go_ret3 | (refine bodyPost_ret (by simp [results, Try.results51, go_sem]; try with_reducible rfl) rfl ?_))
          exact ⟨none, 0, by simp_all [dOut, V_mk], by simp_all [dOut], fun h => by simp_all [dOut, os], by (repeat' first | (with_reducible exact Below.refl _ _) | (with_reducible assumption) | (with_reducible refine Below.alloc ?_ ?_ _) | (with_reducible refine Below.drew ?_) | (with_reducible refine below_drewN' ?_ _) | (with_reducible refine Below.setCell ?_ ?_ _) | (first | (with_reducible exact Nat.le_refl _) | (with_reducible assumption) | omega | (simp; omega) | (simp; done)))⟩
end Go.Proofs.Ytmefbkfapeijgaa
