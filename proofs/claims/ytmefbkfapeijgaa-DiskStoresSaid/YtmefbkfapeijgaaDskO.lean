/- The law that the disk stores what was written. -/
import Derived.Test.YtmefbkfapeijgaaDskM
import Derived.Test.YtmefbkfapeijgaaDskH
import Derived.Deep.DeepCutAuto
import Derived.StillTailTactics
namespace Go.Proofs.Ytmefbkfapeijgaa
open Go.RowKit

theorem pgB_back (xs us : List Nat) (f : Int) (l : List UInt8) (h : spin xs.length f l.length = true) (hl : us.length = xs.length) (hy : bytesOf us = spB xs f l) : pgB us f = l ∧ pgin us.length f = true := by
  have hp : pgin xs.length f = true := by simp [spin] at h; exact h.1
  have h128 : l.length = 128 := by simp [spin] at h; exact h.2
  obtain ⟨h0, h1, h2, h3⟩ := pgin_le hp
  refine ⟨?_, by rw [hl]; exact hp⟩
  unfold pgB
  rw [hl, hp, if_pos rfl, bytesOf_piece, hy]
  unfold spB
  rw [h, if_pos rfl]
  unfold sp
  have e : ((bytesOf xs).take (128 * f.toNat)).length = 128 * f.toNat := by rw [List.length_take, bytesOf_length]; omega
  rw [show 4 * (32 * f.toNat) = ((bytesOf xs).take (128 * f.toNat)).length by rw [e]; omega, List.drop_left, show 4 * 32 = l.length by omega, List.take_left]
theorem pgB_lenO (xs : List Nat) (f : Nat) (h : f < pg xs.length) : (pgB xs f).length = 128 := by
  have hp : pgin xs.length f = true := by simp [pgin]; omega
  obtain ⟨_, _, h2, _⟩ := pgin_le hp
  unfold pgB; rw [hp, if_pos rfl, bytesOf_length]; simp; omega
theorem one_alloc {w : World} {b o : Nat} {v : Value} (h : b < w.heap.size) (hc : w.cell? ⟨b, o, none⟩ = some v) (x : Obj) : (w.alloc x).cell? ⟨b, o, none⟩ = some v := (World.cell?_alloc_lt w x _ h).trans hc
/-- A command in progress: what writing a port makes of it. -/
def dbu (bl fr : Nat) (cm : Int) (b f : Nat) (od : List UInt8) : Dsk := ⟨4, bl, fr, 1, cm, b, f, od⟩
theorem dOut_busy (bl fr : Nat) (cm : Int) (b f : Nat) (od : List UInt8) (xs : List Nat) (port : Int) (v a : Nat) (hv : v < 4294967296) (hbl : bl < 4294967296) (hfr : fr < 4294967296) :
    ∃ bl' fr', bl' < 4294967296 ∧ fr' < 4294967296 ∧ dOut (dbu bl fr cm b f od) xs port v a = (dbu bl' fr' cm b f od, []) := by
  unfold dOut dIss dbu
  by_cases h4 : port = 4
  · exact ⟨v, fr, by omega, hfr, by simp [h4]⟩
  by_cases h5 : port = 5
  · exact ⟨bl, v, hbl, by omega, by simp [h5]⟩
  refine ⟨bl, fr, hbl, hfr, ?_⟩
  by_cases h6 : port = 6 <;> simp [h4, h5, h6]

theorem bk_cast {w : World} {b : Nat} {cs cs' : Array Value} {t : TypeId} (h : Bk w b cs t) (e : cs = cs') : Bk w b cs' t := e ▸ h
theorem rpage_f {n : Nat} (A : Option Addr) (c : Nat) (f : Nat) (xs : List Nat) (hx : xs.length = n) (hf : f < pg n) (w : World) (hn : n ≤ 1048576) (hr : Rd w w.heap.size A (ws xs)) :
    Calls Try.prog 40 #[.slice A n c, .int .i64 f] w fun e w' => e = .returned (.tuple #[.string (str (pgB xs f)), .bool true]) ∧ Below w.heap.size w w' := by
  subst hx
  refine (rpage_any A c f xs w (by unfold maxLen; omega) hr).mono fun e w' ⟨he, hb⟩ => ⟨?_, hb⟩
  rw [he]; congr 4; simp [pgin]; omega
end Go.Proofs.Ytmefbkfapeijgaa
