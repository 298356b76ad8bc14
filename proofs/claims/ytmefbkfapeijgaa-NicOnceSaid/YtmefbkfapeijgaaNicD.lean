/- The network card: receiving, the program and the reference. -/
import Derived.Test.YtmefbkfapeijgaaNicB
import Derived.Test.YtmefbkfapeijgaaDskK
namespace Go.Proofs.Ytmefbkfapeijgaa
open Go.RowKit

/-- Whether a frame is delivered; the card and the bytes behind it. -/
def rOk (n : Nic) (k fl : Nat) : Bool := n.po && decide (1 ≤ fl) && decide (fl ≤ 128) && decide (n.bu < pg k)
def rNic (n : Nic) (k fl : Nat) : Nic := if rOk n k fl then ⟨n.fr, n.ln, false, 0, true, fl⟩ else n
def rBy (n : Nic) (xs : List Nat) (l : List UInt8) : List UInt8 := if rOk n xs.length l.length then sp (bytesOf xs) (128 * n.bu) l else bytesOf xs
def RcvOut (n : Nic) (k : Nat) (ok : Bool) (by_ : List UInt8) (w : World) (e : Ending) (w' : World) : Prop :=
  ∃ A c us, e = .returned (.tuple #[n.V, .slice A k c, .bool ok]) ∧ Wd us ∧ List.length us = k ∧ bytesOf us = by_ ∧ Nw w.heap.size w' A (ws us) ∧ k ≤ c ∧ Below w.heap.size w w'
theorem row_cap {w : World} {B : Nat} {e : TypeId} {s n c : Nat} {A : Option Addr} {cs : List Value} (ho : w.ownsRow B e s (.slice A n c) n cs) : n ≤ c := by
  obtain ⟨_, _, hv, h1, _⟩ := row_shape ho; injection hv with _ _ hv; rw [hv]; exact h1
/-- A frame and the rest of its page, laid over the page, are the frame laid over it. -/
theorem sp_rest (L l : List UInt8) (k : Nat) (hl : l.length ≤ 128) (hk : k + 128 ≤ L.length) : sp L k (l ++ ((L.drop k).take 128).drop l.length) = sp L k l := by
  unfold sp
  have h1 : (l ++ ((L.drop k).take 128).drop l.length).length = 128 := by simp; omega
  have e1 : L.drop (k + 128) = (L.drop k).drop 128 := by rw [List.drop_drop]
  have e2 : L.drop (k + l.length) = (L.drop k).drop l.length := by rw [List.drop_drop]
  have h3 : 128 ≤ (L.drop k).length := by simp; omega
  rw [h1, List.append_assoc, e1, e2]
  congr 2
  generalize L.drop k = M at h3
  conv => rhs; rw [← List.take_append_drop 128 M]
  rw [List.drop_append_of_le_length (by simp; omega)]
theorem pgB_view (xs : List Nat) (f : Nat) (h : f < pg xs.length) : pgB xs f = ((bytesOf xs).drop (128 * f)).take 128 := by
  have hp : pgin xs.length f = true := by simp [pgin]; omega
  unfold pgB; rw [hp, if_pos rfl, bytesOf_piece]
  congr 2
  simp; omega
theorem spB_frame (xs : List Nat) (f : Nat) (l : List UInt8) (h : f < pg xs.length) (hl : l.length ≤ 128) : spB xs f (l ++ (pgB xs f).drop l.length) = sp (bytesOf xs) (128 * f) l := by
  have hp : pgin xs.length f = true := by simp [pgin]; omega
  obtain ⟨_, _, h2, _⟩ := pgin_le hp
  have hpl := pgB_length xs f h
  unfold spB
  rw [if_pos (by unfold spin; rw [hp]; simp; omega), pgB_view xs f h]
  simp only [Int.toNat_natCast]
  exact sp_rest _ _ _ hl (by rw [bytesOf_length]; omega)

theorem str_app (a b : List UInt8) : str a ++ str b = str (a ++ b) := by
  apply ByteArray.ext; simp [str]
theorem setpage_frame (A : Option Addr) (c : Nat) (f : Nat) (l : List UInt8) (xs : List Nat) (w : World) (hf : f < 4294967296) (hn : xs.length ≤ 1048576) (hp : (pgB xs f).length = 128) (hr : Rd w w.heap.size A (ws xs)) (hw : Wd xs) :
    Calls Try.prog 41 #[.slice A xs.length c, .int .i64 (IntKind.i64.wrap f), .string (str l ++ (str (pgB xs f)).extract l.length 128)] w (PgOut xs.length (spin xs.length f (l ++ (pgB xs f).drop l.length).length) (spB xs f (l ++ (pgB xs f).drop l.length)) w) := by
  rw [str_cut (pgB xs f) l.length 128 ((pgB xs f).drop l.length) (List.take_of_length_le (by simp; omega)), str_app, show IntKind.i64.wrap (f : Int) = f by rw [IntKind.wrap_i64]; omega]
  exact setpage_any A c f _ xs w (by omega) hr hw
set_option maxRecDepth 100000 in
set_option maxHeartbeats 2000000 in
theorem nreceive_any (n : Nic) (A : Option Addr) (c : Nat) (xs : List Nat) (l : List UInt8) (w : World) (ho : n.Ok) (hn : xs.length ≤ 1048576) (hc : xs.length ≤ c) (hll : l.length ≤ 9223372036854775807) (hr : Rd w w.heap.size A (ws xs)) (hw : Wd xs) :
    Calls Try.prog 65 #[n.V, .slice A xs.length c, .string (str l)] w (RcvOut (rNic n xs.length l.length) xs.length (rOk n xs.length l.length) (rBy n xs l) w) := by
  have hm : xs.length ≤ maxLen := by unfold maxLen; omega
  obtain ⟨_, _, hbu, _⟩ := ho
  have HR := Lib.hid hr
  have HW := Lib.hid hw
  obtain ⟨fr, ln, po, bu, re, go⟩ := n
  simp only [] at hbu
  clear hr hw
  rw [N_mk]
  by_cases hg : po = true ∧ 1 ≤ l.length ∧ l.length ≤ 128 ∧ bu < pg xs.length
  · obtain ⟨rfl, h1, h2, h3⟩ := hg
    have HO : rOk ⟨fr, ln, true, bu, re, go⟩ xs.length l.length = true := by simp [rOk, h1, h2, h3]
    have HD : rNic ⟨fr, ln, true, bu, re, go⟩ xs.length l.length = ⟨fr, ln, false, 0, true, l.length⟩ := by unfold rNic; rw [HO]; rfl
    have HB : rBy ⟨fr, ln, true, bu, re, go⟩ xs l = spB xs bu (l ++ (pgB xs bu).drop l.length) := by unfold rBy; rw [HO, spB_frame _ _ _ h3 h2]; rfl
    have HS := Lib.hid (show (bu : Int).toNat = bu from rfl)
    rw [HD, HO, HB]
    have hpl := pgB_length xs bu h3
    have HC := Lib.hid (str_cut (pgB xs bu) l.length 128 ((pgB xs bu).drop l.length) (List.take_of_length_le (by simp; omega)))
    have gx : decide (bu < pg xs.length) = true := by simpa using h3
    clear HO HD HB
    go_enter Try.func65, Try.ntmps65
    go_wp2_with (first | (go_at_call 107; refine (nispage_any _ _ _ _ _ hm hbu).mono ?_; rintro e w' ⟨rfl, rfl⟩) | (go_at_call 38; refine (page_any _ _ _ _ _ hm hc (HR.out.upto (by (repeat' first | (with_reducible exact Below.refl _ _) | (with_reducible assumption) | (with_reducible refine Below.alloc ?_ ?_ _) | (with_reducible refine Below.drew ?_) | (with_reducible refine below_drewN' ?_ _) | (with_reducible refine Below.setCell ?_ ?_ _) | (first | (with_reducible exact Nat.le_refl _) | (with_reducible assumption) | omega | (simp; omega) | (simp; done))))) HW.out).mono ?_; rintro e w1 ⟨rfl, hb1⟩; have hz1 := hb1.size; apply bk_then (w.heap.size) hb1; (focus (repeat' first | (with_reducible assumption) | ((with_reducible apply Bk.new); (focus (simp; done))) | (with_reducible apply Bk.alloc) | (with_reducible apply Bk.set) | (with_reducible apply Bk.other) | (with_reducible apply Bk.drew) | (first | (with_reducible exact Nat.le_refl _) | (with_reducible assumption) | omega | (simp; omega) | (simp; done)) | (simp; omega))); intro hk1_0; have hc1_0 := hk1_0.arr; have hf1_0 := hk1_0.frz; have hl1_0 := hk1_0.lt; apply bk_then (w.heap.size + 1) hb1; (focus (repeat' first | (with_reducible assumption) | ((with_reducible apply Bk.new); (focus (simp; done))) | (with_reducible apply Bk.alloc) | (with_reducible apply Bk.set) | (with_reducible apply Bk.other) | (with_reducible apply Bk.drew) | (first | (with_reducible exact Nat.le_refl _) | (with_reducible assumption) | omega | (simp; omega) | (simp; done)) | (simp; omega))); intro hk1_1; have hc1_1 := hk1_1.arr; have hf1_1 := hk1_1.frz; have hl1_1 := hk1_1.lt; (try simp at hz1); replace hb1 : Below w.heap.size w w1 := Below.then (by (repeat' first | (with_reducible exact Below.refl _ _) | (with_reducible assumption) | (with_reducible refine Below.alloc ?_ ?_ _) | (with_reducible refine Below.drew ?_) | (with_reducible refine below_drewN' ?_ _) | (with_reducible refine Below.setCell ?_ ?_ _) | (first | (with_reducible exact Nat.le_refl _) | (with_reducible assumption) | omega | (simp; omega) | (simp; done)))) hb1))
    go_region_with (go_at_call 41; refine (setpage_frame A c bu l xs _ hbu (by omega) hpl (HR.out.upto (by (repeat' first | (with_reducible exact Below.refl _ _) | (with_reducible assumption) | (with_reducible refine Below.alloc ?_ ?_ _) | (with_reducible refine Below.drew ?_) | (with_reducible refine below_drewN' ?_ _) | (with_reducible refine Below.setCell ?_ ?_ _) | (first | (with_reducible exact Nat.le_refl _) | (with_reducible assumption) | omega | (simp; omega) | (simp; done))))) HW.out).mono ?_; rintro e w2 ⟨A2, c2, us, rfl, hn2, hwu, hby, hb2⟩; have hlu := Lib.hid (show List.length us = xs.length by have := hn2.1; simpa using this); have hcp := row_cap hn2; replace hn2 := Lib.hid (row_nw hn2); replace hwu := Lib.hid hwu; replace hby := Lib.hid hby; have hz2 := hb2.size; apply bk_then (w.heap.size) hb2; (focus (repeat' first | (with_reducible assumption) | ((with_reducible apply Bk.new); (focus (simp; done))) | (with_reducible apply Bk.alloc) | (with_reducible apply Bk.set) | (with_reducible apply Bk.other) | (with_reducible apply Bk.drew) | (first | (with_reducible exact Nat.le_refl _) | (with_reducible assumption) | omega | (simp; omega) | (simp; done)) | (simp; omega))); intro hk2_0; have hc2_0 := hk2_0.arr; have hf2_0 := hk2_0.frz; have hl2_0 := hk2_0.lt; apply bk_then (w.heap.size + 1) hb2; (focus (repeat' first | (with_reducible assumption) | ((with_reducible apply Bk.new); (focus (simp; done))) | (with_reducible apply Bk.alloc) | (with_reducible apply Bk.set) | (with_reducible apply Bk.other) | (with_reducible apply Bk.drew) | (first | (with_reducible exact Nat.le_refl _) | (with_reducible assumption) | omega | (simp; omega) | (simp; done)) | (simp; omega))); intro hk2_1; have hc2_1 := hk2_1.arr; have hf2_1 := hk2_1.frz; have hl2_1 := hk2_1.lt; (try simp at hz2); replace hb2 : Below w.heap.size w w2 := Below.then (by (repeat' first | (with_reducible exact Below.refl _ _) | (with_reducible assumption) | (with_reducible refine Below.alloc ?_ ?_ _) | (with_reducible refine Below.drew ?_) | (with_reducible refine below_drewN' ?_ _) | (with_reducible refine Below.setCell ?_ ?_ _) | (first | (with_reducible exact Nat.le_refl _) | (with_reducible assumption) | omega | (simp; omega) | (simp; done)))) hb2)
    all_goals
      go_wp2
      refine bodyPost_ret (by simp [results, Try.results65, go_sem, hc2_1]; try with_reducible rfl) rfl ?_
      exact ⟨A2, c2, us, rfl, hwu.out, hlu.out, hby.out, (hn2.out.keep (by repeat' first | (with_reducible exact Keeps.refl _ _) | (with_reducible refine Keeps.alloc ?_ _) | (with_reducible refine Keeps.setCell ?_ ?_ _) | (with_reducible refine Keeps.drew ?_) | (with_reducible refine Keeps.drewN ?_ _) | (first | (with_reducible exact Nat.le_refl _) | (with_reducible assumption) | omega | (simp; omega) | (simp; done)))).mono (by (first | (with_reducible exact Nat.le_refl _) | (with_reducible assumption) | omega | (simp; omega) | (simp; done))), hcp, by (repeat' first | (with_reducible exact Below.refl _ _) | (with_reducible assumption) | (with_reducible refine Below.alloc ?_ ?_ _) | (with_reducible refine Below.drew ?_) | (with_reducible refine below_drewN' ?_ _) | (with_reducible refine Below.setCell ?_ ?_ _) | (first | (with_reducible exact Nat.le_refl _) | (with_reducible assumption) | omega | (simp; omega) | (simp; done)))⟩
  · have hX := Lib.hid hg
    clear hg
    have HO : rOk ⟨fr, ln, po, bu, re, go⟩ xs.length l.length = false := by
      rw [← Bool.not_eq_true]; intro h; simp only [rOk, Bool.and_eq_true, decide_eq_true_eq] at h; exact hX.out ⟨h.1.1.1, h.1.1.2, h.1.2, h.2⟩
    have HD : rNic ⟨fr, ln, po, bu, re, go⟩ xs.length l.length = ⟨fr, ln, po, bu, re, go⟩ := by unfold rNic; rw [HO]; rfl
    have HB : rBy ⟨fr, ln, po, bu, re, go⟩ xs l = bytesOf xs := by unfold rBy; rw [HO]; rfl
    rw [HD, HO, HB]
    have hg : po = false ∨ (po = true ∧ decide ((l.length : Int) < 1) = true) ∨ (po = true ∧ decide ((l.length : Int) < 1) = false ∧ decide ((128 : Int) < l.length) = true) ∨ (po = true ∧ decide ((l.length : Int) < 1) = false ∧ decide ((128 : Int) < l.length) = false ∧ decide (bu < pg xs.length) = false) := by
      cases po
      · exact .inl rfl
      · by_cases h1 : l.length < 1
        · exact .inr (.inl ⟨rfl, by simp; omega⟩)
        · by_cases h2 : 128 < l.length
          · exact .inr (.inr (.inl ⟨rfl, by simp; omega, by simp; omega⟩))
          · exact .inr (.inr (.inr ⟨rfl, by simp; omega, by simp; omega, by simp; exact Nat.not_lt.mp fun h => hX.out ⟨rfl, by omega, by omega, h⟩⟩))
    clear HO HD HB hX
    rcases hg with rfl | ⟨rfl, g1⟩ | ⟨rfl, g1, g2⟩ | ⟨rfl, g1, g2, g3⟩
    all_goals
      go_enter Try.func65, Try.ntmps65
      go_wp2_with (first | (go_at_call 107; refine (nispage_any _ _ _ _ _ hm hbu).mono ?_; rintro e w' ⟨rfl, rfl⟩))
      go_region_with (go_at_call 92; refine (clone_any _ _ _ _ (by omega) (HR.out.upto (by (repeat' first | (with_reducible exact Below.refl _ _) | (with_reducible assumption) | (with_reducible refine Below.alloc ?_ ?_ _) | (with_reducible refine Below.drew ?_) | (with_reducible refine below_drewN' ?_ _) | (with_reducible refine Below.setCell ?_ ?_ _) | (first | (with_reducible exact Nat.le_refl _) | (with_reducible assumption) | omega | (simp; omega) | (simp; done)))))).mono ?_; rintro e w1 ⟨A1, c1, rfl, hn1, hb1⟩; have hcp := row_cap hn1; replace hn1 := Lib.hid (row_nw hn1); have hz1 := hb1.size; apply bk_then (w.heap.size) hb1; (focus (repeat' first | (with_reducible assumption) | ((with_reducible apply Bk.new); (focus (simp; done))) | (with_reducible apply Bk.alloc) | (with_reducible apply Bk.set) | (with_reducible apply Bk.other) | (with_reducible apply Bk.drew) | (first | (with_reducible exact Nat.le_refl _) | (with_reducible assumption) | omega | (simp; omega) | (simp; done)) | (simp; omega))); intro hk1_0; have hc1_0 := hk1_0.arr; have hf1_0 := hk1_0.frz; have hl1_0 := hk1_0.lt; apply bk_then (w.heap.size + 1) hb1; (focus (repeat' first | (with_reducible assumption) | ((with_reducible apply Bk.new); (focus (simp; done))) | (with_reducible apply Bk.alloc) | (with_reducible apply Bk.set) | (with_reducible apply Bk.other) | (with_reducible apply Bk.drew) | (first | (with_reducible exact Nat.le_refl _) | (with_reducible assumption) | omega | (simp; omega) | (simp; done)) | (simp; omega))); intro hk1_1; have hc1_1 := hk1_1.arr; have hf1_1 := hk1_1.frz; have hl1_1 := hk1_1.lt; (try simp at hz1); replace hb1 : Below w.heap.size w w1 := Below.then (by (repeat' first | (with_reducible exact Below.refl _ _) | (with_reducible assumption) | (with_reducible refine Below.alloc ?_ ?_ _) | (with_reducible refine Below.drew ?_) | (with_reducible refine below_drewN' ?_ _) | (with_reducible refine Below.setCell ?_ ?_ _) | (first | (with_reducible exact Nat.le_refl _) | (with_reducible assumption) | omega | (simp; omega) | (simp; done)))) hb1)
      all_goals
        go_wp2
        refine bodyPost_ret (by simp [results, Try.results65, go_sem, hc1_1]; try with_reducible rfl) rfl ?_
        exact ⟨A1, c1, xs, rfl, HW.out, rfl, rfl, (hn1.out.keep (by repeat' first | (with_reducible exact Keeps.refl _ _) | (with_reducible refine Keeps.alloc ?_ _) | (with_reducible refine Keeps.setCell ?_ ?_ _) | (with_reducible refine Keeps.drew ?_) | (with_reducible refine Keeps.drewN ?_ _) | (first | (with_reducible exact Nat.le_refl _) | (with_reducible assumption) | omega | (simp; omega) | (simp; done)))).mono (by (first | (with_reducible exact Nat.le_refl _) | (with_reducible assumption) | omega | (simp; omega) | (simp; done))), hcp, by (repeat' first | (with_reducible exact Below.refl _ _) | (with_reducible assumption) | (with_reducible refine Below.alloc ?_ ?_ _) | (with_reducible refine Below.drew ?_) | (with_reducible refine below_drewN' ?_ _) | (with_reducible refine Below.setCell ?_ ?_ _) | (first | (with_reducible exact Nat.le_refl _) | (with_reducible assumption) | omega | (simp; omega) | (simp; done)))⟩
end Go.Proofs.Ytmefbkfapeijgaa
