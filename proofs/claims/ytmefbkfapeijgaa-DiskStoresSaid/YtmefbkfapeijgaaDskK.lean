/- The disk controller: completing a command, the reference, whole. -/
import Derived.Test.YtmefbkfapeijgaaDskJ
namespace Go.Proofs.Ytmefbkfapeijgaa
open Go.RowKit

theorem bkb_then (b : Nat) {C : Nat} {w w' : World} {P : Prop} {cs : Array Value} {t : TypeId} (hb : Below C w w') (h : Bk w b cs t) (hl : b < C) (K : Bk w' b cs t → P) : P := K ((hb.block b hl).trans h)
set_option maxRecDepth 100000 in
set_option maxHeartbeats 2000000 in
theorem rcomplete_any (d : Dsk) (A : Option Addr) (c : Nat) (xs : List Nat) (ek : Int) (en : Nat) (ed : List UInt8) (w : World) (ho : d.Ok) (hn : xs.length ≤ 1048576) (hn0 : 0 < xs.length) (hle : ed.length ≤ 1048576) (hr : Rd w w.heap.size A (ws xs)) (hw : Wd xs) :
    Calls Try.prog 84 #[d.V, .slice A xs.length c, .agg #[.int .i64 ek, .int .u32 en, .string (str ed)]] w (CmpOut (cDsk d xs.length ek en ed) xs.length (cOk d xs.length ek en ed) (cBy d xs ek en ed) w) := by
  have HR := Lib.hid hr
  have HF := Lib.hid (fun g c B0 W h1 h2 h3 => rfinish_any d g c B0 xs ek en ed W ho hn hle hw h1 h2 h3)
  generalize cDsk d xs.length ek en ed = d2 at HF
  generalize cOk d xs.length ek en ed = ok at HF
  generalize cBy d xs ek en ed = by_ at HF
  obtain ⟨B, bl, fr, st, cm, ob, of, od⟩ := d
  obtain ⟨B', bl', fr', st', cm', ob', of', od'⟩ := d2
  clear hr hw ho
  rw [V_mk] at HF ⊢
  go_enter Try.func84, Try.ntmps84
  go_wp2_with fail
  refine (copy_any A c xs _ (by omega) (HR.out.upto (by (repeat' first | (with_reducible exact Below.refl _ _) | (with_reducible assumption) | (with_reducible refine Below.alloc ?_ ?_ _) | (with_reducible refine Below.drew ?_) | (with_reducible refine below_drewN' ?_ _) | (with_reducible refine Below.setCell ?_ ?_ _) | (first | (with_reducible exact Nat.le_refl _) | (with_reducible assumption) | omega | (simp; omega) | (simp; done)))))).mono ?_; rintro e w1 ⟨A1, c1, rfl, hn1, hb1⟩
  obtain ⟨g, rfl, hg1, hg2⟩ := row_get hn1 hn0
  replace hn1 := Lib.hid hn1
  have hz1 := hb1.size; apply bk_then (w.heap.size) hb1; (focus (repeat' first | (with_reducible assumption) | ((with_reducible apply Bk.new); (focus (simp; done))) | (with_reducible apply Bk.alloc) | (with_reducible apply Bk.set) | (with_reducible apply Bk.other) | (with_reducible apply Bk.drew) | (first | (with_reducible exact Nat.le_refl _) | (with_reducible assumption) | omega | (simp; omega) | (simp; done)) | (simp; omega))); intro hk1_0; have hc1_0 := hk1_0.arr; have hf1_0 := hk1_0.frz; have hl1_0 := hk1_0.lt; apply bk_then (w.heap.size + 1) hb1; (focus (repeat' first | (with_reducible assumption) | ((with_reducible apply Bk.new); (focus (simp; done))) | (with_reducible apply Bk.alloc) | (with_reducible apply Bk.set) | (with_reducible apply Bk.other) | (with_reducible apply Bk.drew) | (first | (with_reducible exact Nat.le_refl _) | (with_reducible assumption) | omega | (simp; omega) | (simp; done)) | (simp; omega))); intro hk1_1; have hc1_1 := hk1_1.arr; have hf1_1 := hk1_1.frz; have hl1_1 := hk1_1.lt; apply bk_then (w.heap.size + 1 + 1) hb1; (focus (repeat' first | (with_reducible assumption) | ((with_reducible apply Bk.new); (focus (simp; done))) | (with_reducible apply Bk.alloc) | (with_reducible apply Bk.set) | (with_reducible apply Bk.other) | (with_reducible apply Bk.drew) | (first | (with_reducible exact Nat.le_refl _) | (with_reducible assumption) | omega | (simp; omega) | (simp; done)) | (simp; omega))); intro hk1_2; have hc1_2 := hk1_2.arr; have hf1_2 := hk1_2.frz; have hl1_2 := hk1_2.lt; (try simp at hz1); replace hb1 : Below w.heap.size w w1 := Below.then (by (repeat' first | (with_reducible exact Below.refl _ _) | (with_reducible assumption) | (with_reducible refine Below.alloc ?_ ?_ _) | (with_reducible refine Below.drew ?_) | (with_reducible refine below_drewN' ?_ _) | (with_reducible refine Below.setCell ?_ ?_ _) | (first | (with_reducible exact Nat.le_refl _) | (with_reducible assumption) | omega | (simp; omega) | (simp; done)))) hb1
  go_wp2_with fail
  refine (HF.out g c1 _ _ hg1 hg2 hn1.out).mono ?_
  simp only [FinOut, V_mk]
  rintro e w2 ⟨rfl, us, hr2, hwu, hby, hb2⟩
  have hlu := Lib.hid (show List.length us = xs.length by have := hr2.1; simpa using this)
  replace hr2 := Lib.hid hr2
  apply bkb_then (w.heap.size) hb2; (focus (repeat' first | (with_reducible assumption) | ((with_reducible apply Bk.new); (focus (simp; done))) | (with_reducible apply Bk.alloc) | (with_reducible apply Bk.set) | (with_reducible apply Bk.other) | (with_reducible apply Bk.drew) | (first | (with_reducible exact Nat.le_refl _) | (with_reducible assumption) | omega | (simp; omega) | (simp; done)) | (simp; omega))); (focus (first | (with_reducible exact Nat.le_refl _) | (with_reducible assumption) | omega | (simp; omega) | (simp; done))); intro hk20; have hc20 := hk20.arr; have hf20 := hk20.frz; have hl20 := hk20.lt
  apply bkb_then (w.heap.size + 1 + 1) hb2; (focus (repeat' first | (with_reducible assumption) | ((with_reducible apply Bk.new); (focus (simp; done))) | (with_reducible apply Bk.alloc) | (with_reducible apply Bk.set) | (with_reducible apply Bk.other) | (with_reducible apply Bk.drew) | (first | (with_reducible exact Nat.le_refl _) | (with_reducible assumption) | omega | (simp; omega) | (simp; done)) | (simp; omega))); (focus (first | (with_reducible exact Nat.le_refl _) | (with_reducible assumption) | omega | (simp; omega) | (simp; done))); intro hk22; have hc22 := hk22.arr; have hf22 := hk22.frz; have hl22 := hk22.lt
  replace hb2 : Below w.heap.size w w2 := hb1.trans (hb2.mono (by (first | (with_reducible exact Nat.le_refl _) | (with_reducible assumption) | omega | (simp; omega) | (simp; done))))
  go_wp2_with fail
  refine bodyPost_ret (by simp [results, Try.results84, go_sem, hc22, hl22]; try with_reducible rfl) rfl ?_
  exact ⟨_, c1, us, rfl, hwu, hlu.out, hby, ((row_nw hr2.out).keep (by repeat' first | (with_reducible exact Keeps.refl _ _) | (with_reducible refine Keeps.alloc ?_ _) | (with_reducible refine Keeps.setCell ?_ ?_ _) | (with_reducible refine Keeps.drew ?_) | (with_reducible refine Keeps.drewN ?_ _) | (first | (with_reducible exact Nat.le_refl _) | (with_reducible assumption) | omega | (simp; omega) | (simp; done)))).mono (by (first | (with_reducible exact Nat.le_refl _) | (with_reducible assumption) | omega | (simp; omega) | (simp; done))), by (repeat' first | (with_reducible exact Below.refl _ _) | (with_reducible assumption) | (with_reducible refine Below.alloc ?_ ?_ _) | (with_reducible refine Below.drew ?_) | (with_reducible refine below_drewN' ?_ _) | (with_reducible refine Below.setCell ?_ ?_ _) | (first | (with_reducible exact Nat.le_refl _) | (with_reducible assumption) | omega | (simp; omega) | (simp; done)))⟩
end Go.Proofs.Ytmefbkfapeijgaa
