/- Two lists of outputs that read alike are the same. -/
import Derived.Test.YtmefbkfapeijgaaDskC
namespace Go.Proofs.Ytmefbkfapeijgaa
open Go.RowKit

theorem os_length (l : List Outp) : (os l).length = 4 * l.length := by
  induction l with
  | nil => rfl
  | cons o l ih => simp [os, Outp.cells] at ih ⊢; omega
theorem os_get (l : List Outp) (k : Nat) (h : k < l.length) : (os l)[4 * k]? = some (.int .i64 l[k].k) ∧ (os l)[4 * k + 1]? = some (.int .u64 l[k].at_) ∧ (os l)[4 * k + 2]? = some (.int .u32 l[k].bl) ∧ (os l)[4 * k + 3]? = some (.string (str l[k].da)) := by
  induction l generalizing k with
  | nil => simp at h
  | cons o l ih =>
    cases k with
    | zero => simp [os, Outp.cells]
    | succ k =>
      have := ih k (by simpa using h)
      simp only [os, List.flatMap_cons, Outp.cells, List.cons_append, List.nil_append, List.getElem_cons_succ] at this ⊢
      simpa [Nat.mul_succ] using this

set_option maxRecDepth 100000 in
set_option maxHeartbeats 1000000 in
theorem sameouts_any (A D : Option Addr) (c d : Nat) (l : List Outp) (w : World) (hn : l.length ≤ 1048576) (hr : Rd w w.heap.size A (os l)) (hs : Rd w w.heap.size D (os l)) :
    Calls Try.prog 56 #[.slice A l.length c, .slice D l.length d] w fun e w' => e = .returned (.bool true) ∧ ∃ n, w' = w.drewN n := by
  have HR := Lib.hid hr
  have HS := Lib.hid hs
  clear hr hs
  go_enter Try.func56, Try.ntmps56
  go_wp2
  go_loopw [5] (fun i wr => ∃ k : Nat, k ≤ l.length ∧ i = .int .i64 k ∧ ∃ n, wr = w.drewN n) (fun i _ => l.length - (intOf i).toNat)
  case atStart => exact ⟨0, Nat.zero_le _, rfl, 0, rfl⟩
  case round =>
    obtain ⟨k, hk, rfl, m, rfl⟩ := hrel
    by_cases hlt : k < l.length
    · obtain ⟨b, off, rfl, hb, hc⟩ := HR.out (by rw [os_length]; omega)
      obtain ⟨b', off', rfl, hb', hc'⟩ := HS.out (by rw [os_length]; omega)
      rw [os_length] at hc hc'
      have h0 := os_get l k hlt
      generalize l[k] = o at h0
      obtain ⟨ok, oa, ob, od⟩ := o
      have g0 := cl_at (n := off + k * 4) ((hc (4 * k) (by omega)).trans h0.1) (by omega)
      have g1 := cl_at (n := off + k * 4 + 1) ((hc (4 * k + 1) (by omega)).trans h0.2.1) (by omega)
      have g2 := cl_at (n := off + k * 4 + 2) ((hc (4 * k + 2) (by omega)).trans h0.2.2.1) (by omega)
      have g3 := cl_at (n := off + k * 4 + 3) ((hc (4 * k + 3) (by omega)).trans h0.2.2.2) (by omega)
      have f0 := cl_at (n := off' + k * 4) ((hc' (4 * k) (by omega)).trans h0.1) (by omega)
      have f1 := cl_at (n := off' + k * 4 + 1) ((hc' (4 * k + 1) (by omega)).trans h0.2.1) (by omega)
      have f2 := cl_at (n := off' + k * 4 + 2) ((hc' (4 * k + 2) (by omega)).trans h0.2.2.1) (by omega)
      have f3 := cl_at (n := off' + k * 4 + 3) ((hc' (4 * k + 3) (by omega)).trans h0.2.2.2) (by omega)
      clear hc hc' h0
      go_wp2
      go_quiet (fail)
      go_wp2
      go_outline
      go_roundw
      case rel => exact ⟨k + 1, by omega, by go_num, _, rfl⟩
      case measure => simp [intOf]; omega
    · go_wp2
      go_ret
      exact ⟨rfl, _, rfl⟩
end Go.Proofs.Ytmefbkfapeijgaa
