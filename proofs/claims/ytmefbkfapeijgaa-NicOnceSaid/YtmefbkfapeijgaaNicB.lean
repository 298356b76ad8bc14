/- The network card: sending. -/
import Derived.Test.YtmefbkfapeijgaaNicA
import Derived.Test.YtmefbkfapeijgaaMemG
namespace Go.Proofs.Ytmefbkfapeijgaa
open Go.RowKit

/-- What sending puts out; what writing a port makes. -/
def nSend (n : Nic) (xs : List Nat) (a : Nat) : List Outp := if 1 ≤ n.ln ∧ n.ln ≤ 128 ∧ n.fr < pg xs.length then [⟨2, a, 0, (pgB xs n.fr).take n.ln⟩] else []
def nOut (n : Nic) (xs : List Nat) (port : Int) (v a : Nat) : Nic × List Outp :=
  if port = 7 then ({ n with fr := v }, []) else if port = 8 then ({ n with ln := v }, []) else if port ≠ 9 then (n, [])
  else if v = 1 then (n, nSend n xs a) else if v = 2 ∧ n.fr < pg xs.length ∧ n.po = false ∧ n.re = false then ({ n with po := true, bu := n.fr }, [])
  else if v = 0 then ({ n with re := false, go := 0 }, []) else (n, [])
theorem cast2 (n : Nat) : ((n : Int) = 2) = (n = 2) := by simp only [eq_iff_iff]; omega
theorem cast1' (n : Nat) : ((n : Int) = 1) = (n = 1) := by simp only [eq_iff_iff]; omega
def SendPost (l : List Outp) (w : World) (e : Ending) (w' : World) : Prop :=
  ∃ A c, e = .returned (.slice A l.length c) ∧ l.length ≤ c ∧ Nw w.heap.size w' A (os l) ∧ Below w.heap.size w w'
def NOutPost (r : Nic × List Outp) (w : World) (e : Ending) (w' : World) : Prop :=
  ∃ A c, e = .returned (.tuple #[r.1.V, .slice A r.2.length c]) ∧ r.2.length ≤ c ∧ Nw w.heap.size w' A (os r.2) ∧ Below w.heap.size w w'

theorem pgB_length (xs : List Nat) (f : Nat) (h : f < pg xs.length) : (pgB xs f).length = 128 := by
  have hp : pgin xs.length f = true := by simp [pgin]; omega
  obtain ⟨_, _, h2, _⟩ := pgin_le hp
  unfold pgB; rw [hp, if_pos rfl, bytesOf_length]; simp; omega
set_option maxRecDepth 100000 in
set_option maxHeartbeats 2000000 in
theorem nsend_any (n : Nic) (A : Option Addr) (c : Nat) (xs : List Nat) (a : Nat) (w : World) (ho : n.Ok) (hn : xs.length ≤ 1048576) (hc : xs.length ≤ c) (hr : Rd w w.heap.size A (ws xs)) (hw : Wd xs) :
    Calls Try.prog 106 #[n.V, .slice A xs.length c, .int .u64 a] w (SendPost (nSend n xs a) w) := by
  have hm : xs.length ≤ maxLen := by unfold maxLen; omega
  obtain ⟨hfr, hln, _, _⟩ := ho
  have HR := Lib.hid hr
  have HW := Lib.hid hw
  obtain ⟨fr, ln, po, bu, re, go⟩ := n
  simp only [] at hfr hln
  clear hr hw
  rw [N_mk]
  by_cases hg : 1 ≤ ln ∧ ln ≤ 128 ∧ fr < pg xs.length
  · have HD := Lib.hid (show nSend ⟨fr, ln, po, bu, re, go⟩ xs a = [⟨2, a, 0, (pgB xs fr).take ln⟩] by simp [nSend, hg])
    obtain ⟨h1, h2, h3⟩ := hg
    have hl := pgB_length xs fr h3
    have HC := Lib.hid (str_cut (pgB xs fr) 0 ln ((pgB xs fr).take ln) (by simp))
    have gx : decide (fr < pg xs.length) = true := by simpa using h3
    go_enter Try.func106, Try.ntmps106
    go_wp2_with (first | (go_at_call 107; refine (nispage_any _ _ _ _ _ hm hfr).mono ?_; rintro e w' ⟨rfl, rfl⟩) | (go_at_call 38; refine (page_any _ _ _ _ _ hm hc (HR.out.upto (by (repeat' first | (with_reducible exact Below.refl _ _) | (with_reducible assumption) | (with_reducible refine Below.alloc ?_ ?_ _) | (with_reducible refine Below.drew ?_) | (with_reducible refine below_drewN' ?_ _) | (with_reducible refine Below.setCell ?_ ?_ _) | (first | (with_reducible exact Nat.le_refl _) | (with_reducible assumption) | omega | (simp; omega) | (simp; done))))) HW.out).mono ?_; rintro e w1 ⟨rfl, hb1⟩; have hz1 := hb1.size; apply bk_then (w.heap.size) hb1; (focus (repeat' first | (with_reducible assumption) | ((with_reducible apply Bk.new); (focus (simp; done))) | (with_reducible apply Bk.alloc) | (with_reducible apply Bk.set) | (with_reducible apply Bk.other) | (with_reducible apply Bk.drew) | (first | (with_reducible exact Nat.le_refl _) | (with_reducible assumption) | omega | (simp; omega) | (simp; done)) | (simp; omega))); intro hk1_0; have hc1_0 := hk1_0.arr; have hf1_0 := hk1_0.frz; have hl1_0 := hk1_0.lt; (try simp at hz1); replace hb1 : Below w.heap.size w w1 := Below.then (by (repeat' first | (with_reducible exact Below.refl _ _) | (with_reducible assumption) | (with_reducible refine Below.alloc ?_ ?_ _) | (with_reducible refine Below.drew ?_) | (with_reducible refine below_drewN' ?_ _) | (with_reducible refine Below.setCell ?_ ?_ _) | (first | (with_reducible exact Nat.le_refl _) | (with_reducible assumption) | omega | (simp; omega) | (simp; done)))) hb1))
    rw [HC.out]
    ((try simp only [Exit.inBlock, Exit.then]); first | (refine bodyPost_ret (results_tmp rfl _ _ _) rfl ?_) | go_ret2 | go_ret3 | (refine bodyPost_ret (by simp [results, Try.results106, go_sem]; try with_reducible rfl) rfl ?_))
    rw [HD.out]
    exact ⟨_, _, rfl, Nat.le_refl _, Nw.new_at rfl _ _ (by (first | (with_reducible exact Nat.le_refl _) | (with_reducible assumption) | omega | (simp; omega) | (simp; done))), by (repeat' first | (with_reducible exact Below.refl _ _) | (with_reducible assumption) | (with_reducible refine Below.alloc ?_ ?_ _) | (with_reducible refine Below.drew ?_) | (with_reducible refine below_drewN' ?_ _) | (with_reducible refine Below.setCell ?_ ?_ _) | (first | (with_reducible exact Nat.le_refl _) | (with_reducible assumption) | omega | (simp; omega) | (simp; done)))⟩
  · have HD := Lib.hid (show nSend ⟨fr, ln, po, bu, re, go⟩ xs a = [] by simp [nSend, hg])
    have HX := Lib.hid hg
    clear hg
    go_enter Try.func106, Try.ntmps106
    go_wp2_with (first | (go_at_call 107; refine (nispage_any _ _ _ _ _ hm hfr).mono ?_; rintro e w' ⟨rfl, rfl⟩) | (go_at_call 38; refine (page_any _ _ _ _ _ hm hc (HR.out.upto (by (repeat' first | (with_reducible exact Below.refl _ _) | (with_reducible assumption) | (with_reducible refine Below.alloc ?_ ?_ _) | (with_reducible refine Below.drew ?_) | (with_reducible refine below_drewN' ?_ _) | (with_reducible refine Below.setCell ?_ ?_ _) | (first | (with_reducible exact Nat.le_refl _) | (with_reducible assumption) | omega | (simp; omega) | (simp; done))))) HW.out).mono ?_; rintro e w1 ⟨rfl, hb1⟩; have hz1 := hb1.size; apply bk_then (w.heap.size) hb1; (focus (repeat' first | (with_reducible assumption) | ((with_reducible apply Bk.new); (focus (simp; done))) | (with_reducible apply Bk.alloc) | (with_reducible apply Bk.set) | (with_reducible apply Bk.other) | (with_reducible apply Bk.drew) | (first | (with_reducible exact Nat.le_refl _) | (with_reducible assumption) | omega | (simp; omega) | (simp; done)) | (simp; omega))); intro hk1_0; have hc1_0 := hk1_0.arr; have hf1_0 := hk1_0.frz; have hl1_0 := hk1_0.lt; (try simp at hz1); replace hb1 : Below w.heap.size w w1 := Below.then (by (repeat' first | (with_reducible exact Below.refl _ _) | (with_reducible assumption) | (with_reducible refine Below.alloc ?_ ?_ _) | (with_reducible refine Below.drew ?_) | (with_reducible refine below_drewN' ?_ _) | (with_reducible refine Below.setCell ?_ ?_ _) | (first | (with_reducible exact Nat.le_refl _) | (with_reducible assumption) | omega | (simp; omega) | (simp; done)))) hb1))
    all_goals first
      | (exfalso; have := HX.out; simp_all; omega)
      | (((try simp only [Exit.inBlock, Exit.then]); first | (refine bodyPost_ret (results_tmp rfl _ _ _) rfl ?_) | go_ret2 | go_ret3 | (refine bodyPost_ret (by simp [results, Try.results106, go_sem]; try with_reducible rfl) rfl ?_)); rw [HD.out]; exact ⟨none, 0, rfl, by simp, Nw.nil, by (repeat' first | (with_reducible exact Below.refl _ _) | (with_reducible assumption) | (with_reducible refine Below.alloc ?_ ?_ _) | (with_reducible refine Below.drew ?_) | (with_reducible refine below_drewN' ?_ _) | (with_reducible refine Below.setCell ?_ ?_ _) | (first | (with_reducible exact Nat.le_refl _) | (with_reducible assumption) | omega | (simp; omega) | (simp; done)))⟩)
      | skip
set_option maxRecDepth 100000 in
set_option maxHeartbeats 2000000 in
theorem nout_any (n : Nic) (A : Option Addr) (c : Nat) (xs : List Nat) (port : Int) (v a : Nat) (w : World) (ho : n.Ok) (hn : xs.length ≤ 1048576) (hc : xs.length ≤ c) (hr : Rd w w.heap.size A (ws xs)) (hw : Wd xs) (hv : v < 4294967296) :
    Calls Try.prog 60 #[n.V, .slice A xs.length c, .int .i64 port, .int .u32 v, .int .u64 a] w (NOutPost (nOut n xs port v a) w) := by
  have hm : xs.length ≤ maxLen := by unfold maxLen; omega
  have HR := Lib.hid hr
  by_cases hi : port = 9 ∧ v = 1
  · obtain ⟨rfl, rfl⟩ := hi
    have HI := fun W (hW : Below w.heap.size w W) => nsend_any n A c xs a W ho hn hc (HR.out.upto hW) hw
    have HD : nOut n xs 9 1 a = (n, nSend n xs a) := by simp [nOut]
    rw [HD]
    generalize nSend n xs a = l at HI
    have HI := Lib.hid HI
    obtain ⟨fr, ln, po, bu, re, go⟩ := n
    clear hr hw ho HD
    rw [N_mk] at HI ⊢
    go_enter Try.func60, Try.ntmps60
    go_wp2_with fail
    go_region_with (go_at_call 106; refine (HI.out _ (by (repeat' first | (with_reducible exact Below.refl _ _) | (with_reducible assumption) | (with_reducible refine Below.alloc ?_ ?_ _) | (with_reducible refine Below.drew ?_) | (with_reducible refine below_drewN' ?_ _) | (with_reducible refine Below.setCell ?_ ?_ _) | (first | (with_reducible exact Nat.le_refl _) | (with_reducible assumption) | omega | (simp; omega) | (simp; done))))).mono ?_; rintro e w1 ⟨A1, c1, rfl, hc1, hr1, hb1⟩; have HR1 := Lib.hid hr1; clear hr1; have hz1 := hb1.size; apply bk_then (w.heap.size) hb1; (focus (repeat' first | (with_reducible assumption) | ((with_reducible apply Bk.new); (focus (simp; done))) | (with_reducible apply Bk.alloc) | (with_reducible apply Bk.set) | (with_reducible apply Bk.other) | (with_reducible apply Bk.drew) | (first | (with_reducible exact Nat.le_refl _) | (with_reducible assumption) | omega | (simp; omega) | (simp; done)) | (simp; omega))); intro hk1_0; have hc1_0 := hk1_0.arr; have hf1_0 := hk1_0.frz; have hl1_0 := hk1_0.lt; apply bk_then (w.heap.size + 1) hb1; (focus (repeat' first | (with_reducible assumption) | ((with_reducible apply Bk.new); (focus (simp; done))) | (with_reducible apply Bk.alloc) | (with_reducible apply Bk.set) | (with_reducible apply Bk.other) | (with_reducible apply Bk.drew) | (first | (with_reducible exact Nat.le_refl _) | (with_reducible assumption) | omega | (simp; omega) | (simp; done)) | (simp; omega))); intro hk1_1; have hc1_1 := hk1_1.arr; have hf1_1 := hk1_1.frz; have hl1_1 := hk1_1.lt; (try simp at hz1); replace hb1 : Below w.heap.size w w1 := Below.then (by (repeat' first | (with_reducible exact Below.refl _ _) | (with_reducible assumption) | (with_reducible refine Below.alloc ?_ ?_ _) | (with_reducible refine Below.drew ?_) | (with_reducible refine below_drewN' ?_ _) | (with_reducible refine Below.setCell ?_ ?_ _) | (first | (with_reducible exact Nat.le_refl _) | (with_reducible assumption) | omega | (simp; omega) | (simp; done)))) hb1)
    all_goals
      go_wp2
      refine bodyPost_ret (by simp [results, Try.results60, go_sem, hc1_1]; try with_reducible rfl) rfl ?_
      exact ⟨_, _, rfl, hc1, (HR1.out.keep (by repeat' first | (with_reducible exact Keeps.refl _ _) | (with_reducible refine Keeps.alloc ?_ _) | (with_reducible refine Keeps.setCell ?_ ?_ _) | (with_reducible refine Keeps.drew ?_) | (with_reducible refine Keeps.drewN ?_ _) | (first | (with_reducible exact Nat.le_refl _) | (with_reducible assumption) | omega | (simp; omega) | (simp; done)))).mono (by (first | (with_reducible exact Nat.le_refl _) | (with_reducible assumption) | omega | (simp; omega) | (simp; done))), by (repeat' first | (with_reducible exact Below.refl _ _) | (with_reducible assumption) | (with_reducible refine Below.alloc ?_ ?_ _) | (with_reducible refine Below.drew ?_) | (with_reducible refine below_drewN' ?_ _) | (with_reducible refine Below.setCell ?_ ?_ _) | (first | (with_reducible exact Nat.le_refl _) | (with_reducible assumption) | omega | (simp; omega) | (simp; done)))⟩
  · obtain ⟨hfr, _, _, _⟩ := ho
    obtain ⟨fr, ln, po, bu, re, go⟩ := n
    simp only [] at hfr
    rw [N_mk]
    have H6 : port = 9 → ¬ v = 1 := by intro h h2; exact hi ⟨h, h2⟩
    clear hi hr hw
    by_cases hfp : fr < pg xs.length
    · have gx : decide (fr < pg xs.length) = true := by simpa using hfp
      cases po <;> cases re
      all_goals
        go_enter Try.func60, Try.ntmps60
        go_wp2_with (go_at_call 107; refine (nispage_any _ _ _ _ _ hm hfr).mono ?_; rintro e w' ⟨rfl, rfl⟩)
        all_goals first
          | (((try simp only [Exit.inBlock, Exit.then]); first | (refine bodyPost_ret (results_tmp rfl _ _ _) rfl ?_) | go_ret2 | go_ret3 | (refine bodyPost_ret (by simp [results, Try.results60, go_sem]; try with_reducible rfl) rfl ?_)); exact ⟨none, 0, by simp_all [cast1', cast2, nOut, N_mk], by simp_all [cast1', cast2, nOut], fun h => by simp_all [cast1', cast2, nOut, os], by (repeat' first | (with_reducible exact Below.refl _ _) | (with_reducible assumption) | (with_reducible refine Below.alloc ?_ ?_ _) | (with_reducible refine Below.drew ?_) | (with_reducible refine below_drewN' ?_ _) | (with_reducible refine Below.setCell ?_ ?_ _) | (first | (with_reducible exact Nat.le_refl _) | (with_reducible assumption) | omega | (simp; omega) | (simp; done)))⟩)
          | skip
    · have gx : decide (fr < pg xs.length) = false := by simpa using hfp
      have HX := Nat.not_lt.mp hfp
      clear hfp
      cases po <;> cases re
      all_goals
        go_enter Try.func60, Try.ntmps60
        go_wp2_with (go_at_call 107; refine (nispage_any _ _ _ _ _ hm hfr).mono ?_; rintro e w' ⟨rfl, rfl⟩)
        all_goals first
          | (((try simp only [Exit.inBlock, Exit.then]); first | (refine bodyPost_ret (results_tmp rfl _ _ _) rfl ?_) | go_ret2 | go_ret3 | (refine bodyPost_ret (by simp [results, Try.results60, go_sem]; try with_reducible rfl) rfl ?_)); exact ⟨none, 0, by simp_all [cast1', cast2, Nat.not_lt.mpr HX, nOut, N_mk], by simp_all [cast1', cast2, Nat.not_lt.mpr HX, nOut], fun h => by simp_all [cast1', cast2, Nat.not_lt.mpr HX, nOut, os], by (repeat' first | (with_reducible exact Below.refl _ _) | (with_reducible assumption) | (with_reducible refine Below.alloc ?_ ?_ _) | (with_reducible refine Below.drew ?_) | (with_reducible refine below_drewN' ?_ _) | (with_reducible refine Below.setCell ?_ ?_ _) | (first | (with_reducible exact Nat.le_refl _) | (with_reducible assumption) | omega | (simp; omega) | (simp; done)))⟩)
          | skip
end Go.Proofs.Ytmefbkfapeijgaa
