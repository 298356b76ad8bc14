/- The disk controller: writing a port, the reference. -/
import Derived.Test.YtmefbkfapeijgaaDskD
namespace Go.Proofs.Ytmefbkfapeijgaa
open Go.RowKit

theorem rdreqR_any (B bl fr ob of a : Nat) (od : ByteArray) (w : World) :
    Calls Try.prog 53 #[.agg #[.int .u32 B, .int .u32 bl, .int .u32 fr, .int .i64 1, .int .i64 1, .int .u32 ob, .int .u32 of, .string od], .int .u64 a] w fun e w' => e = .returned (.tuple #[.agg #[.int .i64 3, .int .u64 a, .int .u32 ob, .string { data := #[] }], .bool true]) ∧ Below w.heap.size w w' :=
  rdreq_any ⟨B, bl, fr, 1, 1, ob, of, od.data.toList⟩ a w
theorem rdreqW_any (B bl fr ob of a : Nat) (od : List UInt8) (w : World) :
    Calls Try.prog 53 #[.agg #[.int .u32 B, .int .u32 bl, .int .u32 fr, .int .i64 1, .int .i64 2, .int .u32 ob, .int .u32 of, .string (str od)], .int .u64 a] w fun e w' => e = .returned (.tuple #[.agg #[.int .i64 4, .int .u64 a, .int .u32 ob, .string (str od)], .bool true]) ∧ Below w.heap.size w w' :=
  rdreq_any ⟨B, bl, fr, 1, 2, ob, of, od⟩ a w
set_option maxRecDepth 100000 in
set_option maxHeartbeats 4000000 in
theorem rdout_any (d : Dsk) (A : Option Addr) (c : Nat) (xs : List Nat) (port : Int) (v a : Nat) (w : World) (ho : d.Ok) (hn : xs.length ≤ 1048576) (hr : Rd w w.heap.size A (ws xs)) (hv : v < 4294967296) :
    Calls Try.prog 51 #[d.V, .slice A xs.length c, .int .i64 port, .int .u32 v, .int .u64 a] w (OutsPost (dOut d xs port v a) w) := by
  have hm : xs.length ≤ maxLen := by unfold maxLen; omega
  obtain ⟨_, _, hfr, _, _⟩ := ho
  have HR := Lib.hid hr
  obtain ⟨B, bl, fr, st, cm, ob, of, od⟩ := d
  simp only [] at hfr
  clear hr
  rw [V_mk]
  by_cases hi : port = 6 ∧ v = 1
  · obtain ⟨rfl, rfl⟩ := hi
    go_enter Try.func51, Try.ntmps51
    go_wp2_with (first | (go_at_call 105; refine (r7page_any _ _ _ _ _ hm hfr).mono ?_; rintro e w' ⟨rfl, rfl⟩) | (go_at_call 53; refine (rdreqR_any _ _ _ _ _ _ _ _).mono ?_; rintro e w2 ⟨rfl, hb2⟩; have hz2 := hb2.size; apply cell_then (w.heap.size) hb2; (focus (go_size)); (focus (repeat' first | (with_reducible assumption) | (with_reducible exact arr_new _ _ _ _) | ((with_reducible apply arr_new_at); (focus (simp; done))) | (with_reducible apply arr_alloc) | (with_reducible apply arr_set) | (with_reducible apply arr_other) | (with_reducible apply arr_drew) | go_size | (simp; omega))); intro hc2_0; (try simp only [List.setIfInBounds_toArray, List.set_cons_zero, List.set_cons_succ] at hc2_0); have hf2_0 := (bone hb2 (w.heap.size) (by go_size)).2; apply cell_then (w.heap.size + 1) hb2; (focus (go_size)); (focus (repeat' first | (with_reducible assumption) | (with_reducible exact arr_new _ _ _ _) | ((with_reducible apply arr_new_at); (focus (simp; done))) | (with_reducible apply arr_alloc) | (with_reducible apply arr_set) | (with_reducible apply arr_other) | (with_reducible apply arr_drew) | go_size | (simp; omega))); intro hc2_1; (try simp only [List.setIfInBounds_toArray, List.set_cons_zero, List.set_cons_succ] at hc2_1); have hf2_1 := (bone hb2 (w.heap.size + 1) (by go_size)).2; have hl2_0 : w.heap.size < w2.heap.size := (Nat.lt_of_lt_of_le (by go_size) hz2); have hl2_1 : w.heap.size + 1 < w2.heap.size := (Nat.lt_of_lt_of_le (by go_size) hz2); (try simp only [World.size_alloc, World.size_setCell, World.size_drew] at hz2); replace hb2 : Below w.heap.size w w2 := Below.then (by go_grown) hb2))
    all_goals first
      | (go_returns; exact ⟨none, 0, by simp_all [dOut, dIss, V_mk], by simp_all [dOut, dIss], fun h => by simp_all [dOut, dIss, os], by go_grown⟩)
      | (have HD := Lib.hid (show dOut ⟨B, bl, fr, st, cm, ob, of, od⟩ xs 6 1 a = (⟨B, bl, fr, 1, 1, bl, fr, []⟩, [⟨3, a, bl, []⟩]) by simp_all [dOut, dIss])
         go_region
         simp only [Exit.then]; rename_i hK; refine hK _ _ (wp_ret ?_); refine bodyPost_ret (v := .tuple #[.agg #[.int .u32 B, .int .u32 bl, .int .u32 fr, .int .i64 1, .int .i64 1, .int .u32 bl, .int .u32 fr, .string ({ data := #[] })], .slice (some ⟨w2.heap.size + 1, 0, none⟩) 1 1]) (by simp [results, Try.results51, go_sem, hc2_1, hl2_1, hl2_0]) rfl ?_
         rw [HD.out]
         exact ⟨_, _, rfl, Nat.le_refl _, (Nw.new_at (by simp) _ _ (by omega)).drew, by go_grown⟩)
      | skip
  · by_cases hj : port = 6 ∧ v = 2
    · obtain ⟨rfl, rfl⟩ := hj
      clear hi
      go_enter Try.func51, Try.ntmps51
      go_wp2_with (first | (go_at_call 105; refine (r7page_any _ _ _ _ _ hm hfr).mono ?_; rintro e w' ⟨rfl, rfl⟩) | (go_at_call 40; refine (rpage_any _ _ _ _ _ hm (HR.out.upto (by go_grown))).mono ?_; rintro e w1 ⟨rfl, hb1⟩; have hz1 := hb1.size; apply cell_then (w.heap.size) hb1; (focus (go_size)); (focus (repeat' first | (with_reducible assumption) | (with_reducible exact arr_new _ _ _ _) | ((with_reducible apply arr_new_at); (focus (simp; done))) | (with_reducible apply arr_alloc) | (with_reducible apply arr_set) | (with_reducible apply arr_other) | (with_reducible apply arr_drew) | go_size | (simp; omega))); intro hc1_0; (try simp only [List.setIfInBounds_toArray, List.set_cons_zero, List.set_cons_succ] at hc1_0); have hf1_0 := (bone hb1 (w.heap.size) (by go_size)).2; apply cell_then (w.heap.size + 1) hb1; (focus (go_size)); (focus (repeat' first | (with_reducible assumption) | (with_reducible exact arr_new _ _ _ _) | ((with_reducible apply arr_new_at); (focus (simp; done))) | (with_reducible apply arr_alloc) | (with_reducible apply arr_set) | (with_reducible apply arr_other) | (with_reducible apply arr_drew) | go_size | (simp; omega))); intro hc1_1; (try simp only [List.setIfInBounds_toArray, List.set_cons_zero, List.set_cons_succ] at hc1_1); have hf1_1 := (bone hb1 (w.heap.size + 1) (by go_size)).2; have hl1_0 : w.heap.size < w1.heap.size := (Nat.lt_of_lt_of_le (by go_size) hz1); have hl1_1 : w.heap.size + 1 < w1.heap.size := (Nat.lt_of_lt_of_le (by go_size) hz1); (try simp only [World.size_alloc, World.size_setCell, World.size_drew] at hz1); replace hb1 : Below w.heap.size w w1 := Below.then (by go_grown) hb1) | (go_at_call 53; refine (rdreqW_any _ _ _ _ _ _ _ _).mono ?_; rintro e w2 ⟨rfl, hb2⟩; have hz2 := hb2.size; apply cell_then (w.heap.size) hb2; (focus (go_size)); (focus (repeat' first | (with_reducible assumption) | (with_reducible exact arr_new _ _ _ _) | ((with_reducible apply arr_new_at); (focus (simp; done))) | (with_reducible apply arr_alloc) | (with_reducible apply arr_set) | (with_reducible apply arr_other) | (with_reducible apply arr_drew) | go_size | (simp; omega))); intro hc2_0; (try simp only [List.setIfInBounds_toArray, List.set_cons_zero, List.set_cons_succ] at hc2_0); have hf2_0 := (bone hb2 (w.heap.size) (by go_size)).2; apply cell_then (w.heap.size + 1) hb2; (focus (go_size)); (focus (repeat' first | (with_reducible assumption) | (with_reducible exact arr_new _ _ _ _) | ((with_reducible apply arr_new_at); (focus (simp; done))) | (with_reducible apply arr_alloc) | (with_reducible apply arr_set) | (with_reducible apply arr_other) | (with_reducible apply arr_drew) | go_size | (simp; omega))); intro hc2_1; (try simp only [List.setIfInBounds_toArray, List.set_cons_zero, List.set_cons_succ] at hc2_1); have hf2_1 := (bone hb2 (w.heap.size + 1) (by go_size)).2; have hl2_0 : w.heap.size < w2.heap.size := (Nat.lt_of_lt_of_le (by go_size) hz2); have hl2_1 : w.heap.size + 1 < w2.heap.size := (Nat.lt_of_lt_of_le (by go_size) hz2); (try simp only [World.size_alloc, World.size_setCell, World.size_drew] at hz2); replace hb2 : Below w.heap.size w w2 := Below.then (by go_grown) hb2))
      all_goals first
        | (go_returns; exact ⟨none, 0, by simp_all [dOut, dIss, V_mk], by simp_all [dOut, dIss], fun h => by simp_all [dOut, dIss, os], by go_grown⟩)
        | (have HD := Lib.hid (show dOut ⟨B, bl, fr, st, cm, ob, of, od⟩ xs 6 2 a = (⟨B, bl, fr, 1, 2, bl, fr, pgB xs fr⟩, [⟨4, a, bl, pgB xs fr⟩]) by simp_all [dOut, dIss])
           go_region
           simp only [Exit.then]; rename_i hK; refine hK _ _ (wp_ret ?_); refine bodyPost_ret (v := .tuple #[.agg #[.int .u32 B, .int .u32 bl, .int .u32 fr, .int .i64 1, .int .i64 2, .int .u32 bl, .int .u32 fr, .string (str (pgB xs fr))], .slice (some ⟨w2.heap.size + 1, 0, none⟩) 1 1]) (by simp [results, Try.results51, go_sem, hc1_1, hc2_1, hl2_1, hl2_0]) rfl ?_
           rw [HD.out]
           exact ⟨_, _, rfl, Nat.le_refl _, (Nw.new_at (by simp) _ _ (by omega)).drew, by go_grown⟩)
        | skip
    · have H6 : port = 6 → ¬ v = 1 ∧ ¬ v = 2 := by intro h; constructor <;> intro h2 <;> first | exact hi ⟨h, h2⟩ | exact hj ⟨h, h2⟩
      clear hi hj
      by_cases h6 : port = 6
      · obtain ⟨h1, h2⟩ := H6 h6
        have g1 : ((v : Int) == 1) = false := by simp; omega
        have g2 : ((v : Int) == 2) = false := by simp; omega
        clear H6
        subst h6
        go_enter Try.func51, Try.ntmps51
        go_wp2
        all_goals
          go_returns
          exact ⟨none, 0, by simp_all [dOut, dIss, V_mk], by simp_all [dOut, dIss], fun h => by simp_all [dOut, dIss, os], by go_grown⟩
      · have g6 : (port != 6) = true := by simpa using h6
        clear H6
        go_enter Try.func51, Try.ntmps51
        go_wp2
        all_goals
          go_returns
          exact ⟨none, 0, by simp_all [dOut, dIss, V_mk], by simp_all [dOut, dIss], fun h => by simp_all [dOut, dIss, os], by go_grown⟩
end Go.Proofs.Ytmefbkfapeijgaa
