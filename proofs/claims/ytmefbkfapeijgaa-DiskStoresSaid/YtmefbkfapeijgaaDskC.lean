/- The disk controller: writing a port. -/
import Derived.Test.YtmefbkfapeijgaaDskB
import Derived.Test.YtmefbkfapeijgaaMemE
namespace Go.Proofs.Ytmefbkfapeijgaa
open Go.RowKit

/-- What writing a port makes. -/
def dIss (d : Dsk) (xs : List Nat) (cm : Int) (a : Nat) : Dsk × List Outp :=
  if d.st ≠ 0 then (d, []) else if d.B ≤ d.bl ∨ pg xs.length ≤ d.fr then ({ d with st := 3 }, [])
  else ({ d with st := 1, cm := cm, ob := d.bl, of := d.fr, od := if cm = 2 then pgB xs d.fr else [] }, [⟨if cm = 2 then 4 else 3, a, d.bl, if cm = 2 then pgB xs d.fr else []⟩])
def dOut (d : Dsk) (xs : List Nat) (port : Int) (v a : Nat) : Dsk × List Outp :=
  if port = 4 then ({ d with bl := v }, []) else if port = 5 then ({ d with fr := v }, []) else if port ≠ 6 then (d, [])
  else if v = 1 ∨ v = 2 then dIss d xs v a
  else if v = 0 ∧ (d.st = 2 ∨ d.st = 3) then ({ d with st := 0 }, []) else (d, [])
/-- Outputs as cells. -/
def Outp.cells (o : Outp) : List Value := [.int .i64 o.k, .int .u64 o.at_, .int .u32 o.bl, .string (str o.da)]
def os (l : List Outp) : List Value := l.flatMap Outp.cells
def OutsPost (r : Dsk × List Outp) (w : World) (e : Ending) (w' : World) : Prop :=
  ∃ A c, e = .returned (.tuple #[r.1.V, .slice A r.2.length c]) ∧ r.2.length ≤ c ∧ Nw w.heap.size w' A (os r.2) ∧ Below w.heap.size w w'

set_option maxRecDepth 100000 in
set_option maxHeartbeats 400000 in
theorem dispage_any (A : Option Addr) (n c f : Nat) (w : World) (hn : n ≤ maxLen) (hf : f < 4294967296) :
    Calls Try.prog 112 #[.slice A n c, .int .u32 f] w fun e w' => e = .returned (.bool (decide (f < pg n))) ∧ w = w' := by
  have := pg_le n
  go_enter Try.func112, Try.ntmps112
  go_wp2_with (go_at_call 32; refine (pages_any _ _ _ _ hn).mono ?_; rintro e w' ⟨rfl, rfl⟩)
  go_ret
  exact ⟨rfl, rfl⟩
set_option maxRecDepth 100000 in
set_option maxHeartbeats 400000 in
theorem r7page_any (A : Option Addr) (n c f : Nat) (w : World) (hn : n ≤ maxLen) (hf : f < 4294967296) :
    Calls Try.prog 105 #[.slice A n c, .int .u32 f] w fun e w' => e = .returned (.bool (decide (f < pg n))) ∧ w = w' := by
  have := pg_le n
  go_enter Try.func105, Try.ntmps105
  go_wp2_with (go_at_call 33; refine (rpages_any _ _ _ _ hn).mono ?_; rintro e w' ⟨rfl, rfl⟩)
  go_ret
  exact ⟨rfl, rfl⟩

theorem dreqR_any (B bl fr ob of a : Nat) (od : ByteArray) (w : World) :
    Calls Try.prog 52 #[.agg #[.int .u32 B, .int .u32 bl, .int .u32 fr, .int .i64 1, .int .i64 1, .int .u32 ob, .int .u32 of, .string od], .int .u64 a] w fun e w' => e = .returned (.tuple #[.agg #[.int .i64 3, .int .u64 a, .int .u32 ob, .string { data := #[] }], .bool true]) ∧ Below w.heap.size w w' :=
  dreq_any ⟨B, bl, fr, 1, 1, ob, of, od.data.toList⟩ a w
theorem dreqW_any (B bl fr ob of a : Nat) (od : List UInt8) (w : World) :
    Calls Try.prog 52 #[.agg #[.int .u32 B, .int .u32 bl, .int .u32 fr, .int .i64 1, .int .i64 2, .int .u32 ob, .int .u32 of, .string (str od)], .int .u64 a] w fun e w' => e = .returned (.tuple #[.agg #[.int .i64 4, .int .u64 a, .int .u32 ob, .string (str od)], .bool true]) ∧ Below w.heap.size w w' :=
  dreq_any ⟨B, bl, fr, 1, 2, ob, of, od⟩ a w
set_option maxRecDepth 100000 in
set_option maxHeartbeats 2000000 in
theorem dissue_any (d : Dsk) (A : Option Addr) (c : Nat) (xs : List Nat) (cm : Int) (a : Nat) (w : World) (ho : d.Ok) (hn : xs.length ≤ 1048576) (hc : xs.length ≤ c) (hr : Rd w w.heap.size A (ws xs)) (hw : Wd xs) (hcm : cm = 1 ∨ cm = 2) :
    Calls Try.prog 104 #[d.V, .slice A xs.length c, .int .i64 cm, .int .u64 a] w (OutsPost (dIss d xs cm a) w) := by
  have hm : xs.length ≤ maxLen := by unfold maxLen; omega
  obtain ⟨_, _, hfr, _, _⟩ := ho
  have HR := Lib.hid hr
  have HW := Lib.hid hw
  obtain ⟨B, bl, fr, st, cm', ob, of, od⟩ := d
  simp only [] at hfr
  clear hr hw
  rw [V_mk]
  rcases hcm with rfl | rfl
  · go_enter Try.func104, Try.ntmps104
    go_wp2_with (first | (go_at_call 112; refine (dispage_any _ _ _ _ _ hm hfr).mono ?_; rintro e w' ⟨rfl, rfl⟩) | (go_at_call 52; refine (dreqR_any _ _ _ _ _ _ _ _).mono ?_; rintro e w2 ⟨rfl, hb2⟩; have hz2 := hb2.size; apply bk_then (w.heap.size) hb2; (focus (repeat' first | (with_reducible assumption) | ((with_reducible apply Bk.new); (focus (simp; done))) | (with_reducible apply Bk.alloc) | (with_reducible apply Bk.set) | (with_reducible apply Bk.other) | (with_reducible apply Bk.drew) | (first | (with_reducible exact Nat.le_refl _) | (with_reducible assumption) | omega | (simp; omega) | (simp; done)) | (simp; omega))); intro hk2_0; have hc2_0 := hk2_0.arr; have hf2_0 := hk2_0.frz; have hl2_0 := hk2_0.lt; apply bk_then (w.heap.size + 1) hb2; (focus (repeat' first | (with_reducible assumption) | ((with_reducible apply Bk.new); (focus (simp; done))) | (with_reducible apply Bk.alloc) | (with_reducible apply Bk.set) | (with_reducible apply Bk.other) | (with_reducible apply Bk.drew) | (first | (with_reducible exact Nat.le_refl _) | (with_reducible assumption) | omega | (simp; omega) | (simp; done)) | (simp; omega))); intro hk2_1; have hc2_1 := hk2_1.arr; have hf2_1 := hk2_1.frz; have hl2_1 := hk2_1.lt; (try simp at hz2); replace hb2 : Below w.heap.size w w2 := Below.then (by (repeat' first | (with_reducible exact Below.refl _ _) | (with_reducible assumption) | (with_reducible refine Below.alloc ?_ ?_ _) | (with_reducible refine Below.drew ?_) | (with_reducible refine below_drewN' ?_ _) | (with_reducible refine Below.setCell ?_ ?_ _) | (first | (with_reducible exact Nat.le_refl _) | (with_reducible assumption) | omega | (simp; omega) | (simp; done)))) hb2))
    case _ => ((try simp only [Exit.inBlock, Exit.then]); first | (refine bodyPost_ret (results_tmp rfl _ _ _) rfl ?_) | go_ret2 | go_ret3 | (refine bodyPost_ret (by simp [results, Try.results104, go_sem]; try with_reducible rfl) rfl ?_)); exact ⟨none, 0, by simp_all [dIss, V_mk], by simp_all [dIss], fun h => by simp_all [dIss, os], by (repeat' first | (with_reducible exact Below.refl _ _) | (with_reducible assumption) | (with_reducible refine Below.alloc ?_ ?_ _) | (with_reducible refine Below.drew ?_) | (with_reducible refine below_drewN' ?_ _) | (with_reducible refine Below.setCell ?_ ?_ _) | (first | (with_reducible exact Nat.le_refl _) | (with_reducible assumption) | omega | (simp; omega) | (simp; done)))⟩
    case _ => ((try simp only [Exit.inBlock, Exit.then]); first | (refine bodyPost_ret (results_tmp rfl _ _ _) rfl ?_) | go_ret2 | go_ret3 | (refine bodyPost_ret (by simp [results, Try.results104, go_sem]; try with_reducible rfl) rfl ?_)); exact ⟨none, 0, by simp_all [dIss, V_mk], by simp_all [dIss], fun h => by simp_all [dIss, os], by (repeat' first | (with_reducible exact Below.refl _ _) | (with_reducible assumption) | (with_reducible refine Below.alloc ?_ ?_ _) | (with_reducible refine Below.drew ?_) | (with_reducible refine below_drewN' ?_ _) | (with_reducible refine Below.setCell ?_ ?_ _) | (first | (with_reducible exact Nat.le_refl _) | (with_reducible assumption) | omega | (simp; omega) | (simp; done)))⟩
    case _ => 
      have HD := Lib.hid (show dIss ⟨B, bl, fr, st, cm', ob, of, od⟩ xs 1 a = (⟨B, bl, fr, 1, 1, bl, fr, []⟩, [⟨3, a, bl, []⟩]) by simp_all [dIss])
      go_region
      simp only [Exit.then]; rename_i hK; refine hK _ _ (wp_ret ?_); refine bodyPost_ret (v := .tuple #[.agg #[.int .u32 B, .int .u32 bl, .int .u32 fr, .int .i64 1, .int .i64 1, .int .u32 bl, .int .u32 fr, .string ({ data := #[] })], .slice (some ⟨w2.heap.size + 1, 0, none⟩) 1 1]) (by simp [results, Try.results104, go_sem, hc2_1, hl2_1, hl2_0]) rfl ?_
      rw [HD.out]
      exact ⟨_, _, rfl, Nat.le_refl _, (Nw.new_at (by simp) _ _ (by omega)).drew, by (repeat' first | (with_reducible exact Below.refl _ _) | (with_reducible assumption) | (with_reducible refine Below.alloc ?_ ?_ _) | (with_reducible refine Below.drew ?_) | (with_reducible refine below_drewN' ?_ _) | (with_reducible refine Below.setCell ?_ ?_ _) | (first | (with_reducible exact Nat.le_refl _) | (with_reducible assumption) | omega | (simp; omega) | (simp; done)))⟩
    case _ => ((try simp only [Exit.inBlock, Exit.then]); first | (refine bodyPost_ret (results_tmp rfl _ _ _) rfl ?_) | go_ret2 | go_ret3 | (refine bodyPost_ret (by simp [results, Try.results104, go_sem]; try with_reducible rfl) rfl ?_)); exact ⟨none, 0, by simp_all [dIss, V_mk], by simp_all [dIss], fun h => by simp_all [dIss, os], by (repeat' first | (with_reducible exact Below.refl _ _) | (with_reducible assumption) | (with_reducible refine Below.alloc ?_ ?_ _) | (with_reducible refine Below.drew ?_) | (with_reducible refine below_drewN' ?_ _) | (with_reducible refine Below.setCell ?_ ?_ _) | (first | (with_reducible exact Nat.le_refl _) | (with_reducible assumption) | omega | (simp; omega) | (simp; done)))⟩
  · go_enter Try.func104, Try.ntmps104
    go_wp2_with (first | (go_at_call 112; refine (dispage_any _ _ _ _ _ hm hfr).mono ?_; rintro e w' ⟨rfl, rfl⟩) | (go_at_call 38; refine (page_any _ _ _ _ _ hm hc (HR.out.upto (by (repeat' first | (with_reducible exact Below.refl _ _) | (with_reducible assumption) | (with_reducible refine Below.alloc ?_ ?_ _) | (with_reducible refine Below.drew ?_) | (with_reducible refine below_drewN' ?_ _) | (with_reducible refine Below.setCell ?_ ?_ _) | (first | (with_reducible exact Nat.le_refl _) | (with_reducible assumption) | omega | (simp; omega) | (simp; done))))) HW.out).mono ?_; rintro e w1 ⟨rfl, hb1⟩; have hz1 := hb1.size; apply bk_then (w.heap.size) hb1; (focus (repeat' first | (with_reducible assumption) | ((with_reducible apply Bk.new); (focus (simp; done))) | (with_reducible apply Bk.alloc) | (with_reducible apply Bk.set) | (with_reducible apply Bk.other) | (with_reducible apply Bk.drew) | (first | (with_reducible exact Nat.le_refl _) | (with_reducible assumption) | omega | (simp; omega) | (simp; done)) | (simp; omega))); intro hk1_0; have hc1_0 := hk1_0.arr; have hf1_0 := hk1_0.frz; have hl1_0 := hk1_0.lt; apply bk_then (w.heap.size + 1) hb1; (focus (repeat' first | (with_reducible assumption) | ((with_reducible apply Bk.new); (focus (simp; done))) | (with_reducible apply Bk.alloc) | (with_reducible apply Bk.set) | (with_reducible apply Bk.other) | (with_reducible apply Bk.drew) | (first | (with_reducible exact Nat.le_refl _) | (with_reducible assumption) | omega | (simp; omega) | (simp; done)) | (simp; omega))); intro hk1_1; have hc1_1 := hk1_1.arr; have hf1_1 := hk1_1.frz; have hl1_1 := hk1_1.lt; (try simp at hz1); replace hb1 : Below w.heap.size w w1 := Below.then (by (repeat' first | (with_reducible exact Below.refl _ _) | (with_reducible assumption) | (with_reducible refine Below.alloc ?_ ?_ _) | (with_reducible refine Below.drew ?_) | (with_reducible refine below_drewN' ?_ _) | (with_reducible refine Below.setCell ?_ ?_ _) | (first | (with_reducible exact Nat.le_refl _) | (with_reducible assumption) | omega | (simp; omega) | (simp; done)))) hb1) | (go_at_call 52; refine (dreqW_any _ _ _ _ _ _ _ _).mono ?_; rintro e w2 ⟨rfl, hb2⟩; have hz2 := hb2.size; apply bk_then (w.heap.size) hb2; (focus (repeat' first | (with_reducible assumption) | ((with_reducible apply Bk.new); (focus (simp; done))) | (with_reducible apply Bk.alloc) | (with_reducible apply Bk.set) | (with_reducible apply Bk.other) | (with_reducible apply Bk.drew) | (first | (with_reducible exact Nat.le_refl _) | (with_reducible assumption) | omega | (simp; omega) | (simp; done)) | (simp; omega))); intro hk2_0; simp only [List.setIfInBounds_toArray, List.set_cons_zero, List.set_cons_succ] at hk2_0; have hc2_0 := hk2_0.arr; have hf2_0 := hk2_0.frz; have hl2_0 := hk2_0.lt; apply bk_then (w.heap.size + 1) hb2; (focus (repeat' first | (with_reducible assumption) | ((with_reducible apply Bk.new); (focus (simp; done))) | (with_reducible apply Bk.alloc) | (with_reducible apply Bk.set) | (with_reducible apply Bk.other) | (with_reducible apply Bk.drew) | (first | (with_reducible exact Nat.le_refl _) | (with_reducible assumption) | omega | (simp; omega) | (simp; done)) | (simp; omega))); intro hk2_1; have hc2_1 := hk2_1.arr; have hf2_1 := hk2_1.frz; have hl2_1 := hk2_1.lt; (try simp at hz2); replace hb2 : Below w.heap.size w w2 := Below.then (by (repeat' first | (with_reducible exact Below.refl _ _) | (with_reducible assumption) | (with_reducible refine Below.alloc ?_ ?_ _) | (with_reducible refine Below.drew ?_) | (with_reducible refine below_drewN' ?_ _) | (with_reducible refine Below.setCell ?_ ?_ _) | (first | (with_reducible exact Nat.le_refl _) | (with_reducible assumption) | omega | (simp; omega) | (simp; done)))) hb2))
    case _ => ((try simp only [Exit.inBlock, Exit.then]); first | (refine bodyPost_ret (results_tmp rfl _ _ _) rfl ?_) | go_ret2 | go_ret3 | (refine bodyPost_ret (by simp [results, Try.results104, go_sem]; try with_reducible rfl) rfl ?_)); exact ⟨none, 0, by simp_all [dIss, V_mk], by simp_all [dIss], fun h => by simp_all [dIss, os], by (repeat' first | (with_reducible exact Below.refl _ _) | (with_reducible assumption) | (with_reducible refine Below.alloc ?_ ?_ _) | (with_reducible refine Below.drew ?_) | (with_reducible refine below_drewN' ?_ _) | (with_reducible refine Below.setCell ?_ ?_ _) | (first | (with_reducible exact Nat.le_refl _) | (with_reducible assumption) | omega | (simp; omega) | (simp; done)))⟩
    case _ => ((try simp only [Exit.inBlock, Exit.then]); first | (refine bodyPost_ret (results_tmp rfl _ _ _) rfl ?_) | go_ret2 | go_ret3 | (refine bodyPost_ret (by simp [results, Try.results104, go_sem]; try with_reducible rfl) rfl ?_)); exact ⟨none, 0, by simp_all [dIss, V_mk], by simp_all [dIss], fun h => by simp_all [dIss, os], by (repeat' first | (with_reducible exact Below.refl _ _) | (with_reducible assumption) | (with_reducible refine Below.alloc ?_ ?_ _) | (with_reducible refine Below.drew ?_) | (with_reducible refine below_drewN' ?_ _) | (with_reducible refine Below.setCell ?_ ?_ _) | (first | (with_reducible exact Nat.le_refl _) | (with_reducible assumption) | omega | (simp; omega) | (simp; done)))⟩
    case _ => 
      have HD := Lib.hid (show dIss ⟨B, bl, fr, st, cm', ob, of, od⟩ xs 2 a = (⟨B, bl, fr, 1, 2, bl, fr, pgB xs fr⟩, [⟨4, a, bl, pgB xs fr⟩]) by simp_all [dIss])
      go_region
      simp only [Exit.then]; rename_i hK; refine hK _ _ (wp_ret ?_); refine bodyPost_ret (v := .tuple #[.agg #[.int .u32 B, .int .u32 bl, .int .u32 fr, .int .i64 1, .int .i64 2, .int .u32 bl, .int .u32 fr, .string (str (pgB xs fr))], .slice (some ⟨w2.heap.size + 1, 0, none⟩) 1 1]) (by simp [results, Try.results104, go_sem, hc2_1, hl2_1, hl2_0]) rfl ?_
      rw [HD.out]
      exact ⟨_, _, rfl, Nat.le_refl _, (Nw.new_at (by simp) _ _ (by omega)).drew, by (repeat' first | (with_reducible exact Below.refl _ _) | (with_reducible assumption) | (with_reducible refine Below.alloc ?_ ?_ _) | (with_reducible refine Below.drew ?_) | (with_reducible refine below_drewN' ?_ _) | (with_reducible refine Below.setCell ?_ ?_ _) | (first | (with_reducible exact Nat.le_refl _) | (with_reducible assumption) | omega | (simp; omega) | (simp; done)))⟩
    case _ => ((try simp only [Exit.inBlock, Exit.then]); first | (refine bodyPost_ret (results_tmp rfl _ _ _) rfl ?_) | go_ret2 | go_ret3 | (refine bodyPost_ret (by simp [results, Try.results104, go_sem]; try with_reducible rfl) rfl ?_)); exact ⟨none, 0, by simp_all [dIss, V_mk], by simp_all [dIss], fun h => by simp_all [dIss, os], by (repeat' first | (with_reducible exact Below.refl _ _) | (with_reducible assumption) | (with_reducible refine Below.alloc ?_ ?_ _) | (with_reducible refine Below.drew ?_) | (with_reducible refine below_drewN' ?_ _) | (with_reducible refine Below.setCell ?_ ?_ _) | (first | (with_reducible exact Nat.le_refl _) | (with_reducible assumption) | omega | (simp; omega) | (simp; done)))⟩
end Go.Proofs.Ytmefbkfapeijgaa
