/- The network card: reading a port, what is pending, validity; the program's functions and the references'. -/
import Derived.Test.YtmefbkfapeijgaaDskC
namespace Go.Proofs.Ytmefbkfapeijgaa
open Go.RowKit

/-- A card. -/
structure Nic where
  (fr ln : Nat) (po : Bool) (bu : Nat) (re : Bool) (go : Nat)
/-- Its numbers are words. -/
def Nic.Ok (n : Nic) : Prop := n.fr < 4294967296 ∧ n.ln < 4294967296 ∧ n.bu < 4294967296 ∧ n.go < 4294967296
def Nic.V (n : Nic) : Value := .agg #[.int .u32 n.fr, .int .u32 n.ln, .bool n.po, .int .u32 n.bu, .bool n.re, .int .u32 n.go]
theorem N_mk (fr ln : Nat) (po : Bool) (bu : Nat) (re : Bool) (go : Nat) : Nic.V ⟨fr, ln, po, bu, re, go⟩ = .agg #[.int .u32 fr, .int .u32 ln, .bool po, .int .u32 bu, .bool re, .int .u32 go] := rfl
def nIn (n : Nic) (port : Int) : Int := if port = 7 then n.fr else if port = 8 then n.go else if port = 9 then (if n.po then 1 else 0) + (if n.re then 2 else 0) else 0
def nMay (n : Nic) (k : Int) : Bool := !(n.po && n.re) && (if n.po then decide ((n.bu : Int) < k) else decide (n.bu = 0)) && (if n.re then decide (1 ≤ n.go) && decide (n.go ≤ 128) else decide (n.go = 0))

set_option maxRecDepth 100000 in
set_option maxHeartbeats 400000 in
theorem nin_any (n : Nic) (port : Int) (w : World) :
    Calls Try.prog 62 #[n.V, .int .i64 port] w fun e w' => e = .returned (.int .u32 (nIn n port)) ∧ Below w.heap.size w w' := by
  obtain ⟨fr, ln, po, bu, re, go⟩ := n
  rw [N_mk]
  cases po <;> cases re
  all_goals
    go_enter Try.func62, Try.ntmps62
    go_wp2
    all_goals
      ((try simp only [Exit.inBlock, Exit.then]); first | (refine bodyPost_ret (results_tmp rfl _ _ _) rfl ?_) | go_ret2 | go_ret3 | (refine bodyPost_ret (by simp [results, Try.results62, go_sem]; try with_reducible rfl) rfl ?_))
      exact ⟨by simp_all [nIn], by (repeat' first | (with_reducible exact Below.refl _ _) | (with_reducible assumption) | (with_reducible refine Below.alloc ?_ ?_ _) | (with_reducible refine Below.drew ?_) | (with_reducible refine below_drewN' ?_ _) | (with_reducible refine Below.setCell ?_ ?_ _) | (first | (with_reducible exact Nat.le_refl _) | (with_reducible assumption) | omega | (simp; omega) | (simp; done)))⟩
set_option maxRecDepth 100000 in
set_option maxHeartbeats 400000 in
theorem rnin_any (n : Nic) (port : Int) (w : World) :
    Calls Try.prog 63 #[n.V, .int .i64 port] w fun e w' => e = .returned (.int .u32 (nIn n port)) ∧ Below w.heap.size w w' := by
  obtain ⟨fr, ln, po, bu, re, go⟩ := n
  rw [N_mk]
  cases po <;> cases re
  all_goals
    go_enter Try.func63, Try.ntmps63
    go_wp2
    all_goals
      ((try simp only [Exit.inBlock, Exit.then]); first | (refine bodyPost_ret (results_tmp rfl _ _ _) rfl ?_) | go_ret2 | go_ret3 | (refine bodyPost_ret (by simp [results, Try.results63, go_sem]; try with_reducible rfl) rfl ?_))
      exact ⟨by simp_all [nIn], by (repeat' first | (with_reducible exact Below.refl _ _) | (with_reducible assumption) | (with_reducible refine Below.alloc ?_ ?_ _) | (with_reducible refine Below.drew ?_) | (with_reducible refine below_drewN' ?_ _) | (with_reducible refine Below.setCell ?_ ?_ _) | (first | (with_reducible exact Nat.le_refl _) | (with_reducible assumption) | omega | (simp; omega) | (simp; done)))⟩
set_option maxRecDepth 100000 in
set_option maxHeartbeats 400000 in
theorem npend_any (n : Nic) (w : World) :
    Calls Try.prog 66 #[n.V] w fun e w' => e = .returned (.bool n.re) ∧ Below w.heap.size w w' := by
  obtain ⟨fr, ln, po, bu, re, go⟩ := n
  rw [N_mk]
  go_enter Try.func66, Try.ntmps66
  go_wp2
  ((try simp only [Exit.inBlock, Exit.then]); first | (refine bodyPost_ret (results_tmp rfl _ _ _) rfl ?_) | go_ret2 | go_ret3 | (refine bodyPost_ret (by simp [results, Try.results66, go_sem]; try with_reducible rfl) rfl ?_))
  exact ⟨rfl, by (repeat' first | (with_reducible exact Below.refl _ _) | (with_reducible assumption) | (with_reducible refine Below.alloc ?_ ?_ _) | (with_reducible refine Below.drew ?_) | (with_reducible refine below_drewN' ?_ _) | (with_reducible refine Below.setCell ?_ ?_ _) | (first | (with_reducible exact Nat.le_refl _) | (with_reducible assumption) | omega | (simp; omega) | (simp; done)))⟩
set_option maxRecDepth 100000 in
set_option maxHeartbeats 400000 in
theorem rnpend_any (n : Nic) (w : World) :
    Calls Try.prog 75 #[n.V] w fun e w' => e = .returned (.bool n.re) ∧ Below w.heap.size w w' := by
  obtain ⟨fr, ln, po, bu, re, go⟩ := n
  rw [N_mk]
  go_enter Try.func75, Try.ntmps75
  go_wp2
  ((try simp only [Exit.inBlock, Exit.then]); first | (refine bodyPost_ret (results_tmp rfl _ _ _) rfl ?_) | go_ret2 | go_ret3 | (refine bodyPost_ret (by simp [results, Try.results75, go_sem]; try with_reducible rfl) rfl ?_))
  exact ⟨rfl, by (repeat' first | (with_reducible exact Below.refl _ _) | (with_reducible assumption) | (with_reducible refine Below.alloc ?_ ?_ _) | (with_reducible refine Below.drew ?_) | (with_reducible refine below_drewN' ?_ _) | (with_reducible refine Below.setCell ?_ ?_ _) | (first | (with_reducible exact Nat.le_refl _) | (with_reducible assumption) | omega | (simp; omega) | (simp; done)))⟩
set_option maxRecDepth 100000 in
set_option maxHeartbeats 1000000 in
theorem nmay_any (n : Nic) (k : Int) (w : World) (ho : n.Ok) :
    Calls Try.prog 76 #[n.V, .int .i64 k] w fun e w' => e = .returned (.bool (nMay n k)) ∧ Below w.heap.size w w' := by
  obtain ⟨_, _, hbu, _⟩ := ho
  obtain ⟨fr, ln, po, bu, re, go⟩ := n
  simp only [] at hbu
  rw [N_mk]
  cases po <;> cases re
  all_goals
    go_enter Try.func76, Try.ntmps76
    go_wp2
    all_goals
      ((try simp only [Exit.inBlock, Exit.then]); first | (refine bodyPost_ret (results_tmp rfl _ _ _) rfl ?_) | go_ret2 | go_ret3 | (refine bodyPost_ret (by simp [results, Try.results76, go_sem]; try with_reducible rfl) rfl ?_))
      exact ⟨ret_bool (by grind [nMay]), by (repeat' first | (with_reducible exact Below.refl _ _) | (with_reducible assumption) | (with_reducible refine Below.alloc ?_ ?_ _) | (with_reducible refine Below.drew ?_) | (with_reducible refine below_drewN' ?_ _) | (with_reducible refine Below.setCell ?_ ?_ _) | (first | (with_reducible exact Nat.le_refl _) | (with_reducible assumption) | omega | (simp; omega) | (simp; done)))⟩
set_option maxRecDepth 100000 in
set_option maxHeartbeats 1000000 in
theorem rnmay_any (n : Nic) (k : Int) (w : World) (ho : n.Ok) :
    Calls Try.prog 77 #[n.V, .int .i64 k] w fun e w' => e = .returned (.bool (nMay n k)) ∧ Below w.heap.size w w' := by
  obtain ⟨_, _, hbu, _⟩ := ho
  obtain ⟨fr, ln, po, bu, re, go⟩ := n
  simp only [] at hbu
  rw [N_mk]
  cases po <;> cases re
  all_goals
    go_enter Try.func77, Try.ntmps77
    go_wp2
    all_goals
      ((try simp only [Exit.inBlock, Exit.then]); first | (refine bodyPost_ret (results_tmp rfl _ _ _) rfl ?_) | go_ret2 | go_ret3 | (refine bodyPost_ret (by simp [results, Try.results77, go_sem]; try with_reducible rfl) rfl ?_))
      exact ⟨ret_bool (by grind [nMay]), by (repeat' first | (with_reducible exact Below.refl _ _) | (with_reducible assumption) | (with_reducible refine Below.alloc ?_ ?_ _) | (with_reducible refine Below.drew ?_) | (with_reducible refine below_drewN' ?_ _) | (with_reducible refine Below.setCell ?_ ?_ _) | (first | (with_reducible exact Nat.le_refl _) | (with_reducible assumption) | omega | (simp; omega) | (simp; done)))⟩
set_option maxRecDepth 100000 in
set_option maxHeartbeats 400000 in
theorem nispage_any (A : Option Addr) (n c f : Nat) (w : World) (hn : n ≤ maxLen) (hf : f < 4294967296) :
    Calls Try.prog 107 #[.slice A n c, .int .u32 f] w fun e w' => e = .returned (.bool (decide (f < pg n))) ∧ w = w' := by
  have := pg_le n
  go_enter Try.func107, Try.ntmps107
  go_wp2_with (go_at_call 32; refine (pages_any _ _ _ _ hn).mono ?_; rintro e w' ⟨rfl, rfl⟩)
  go_ret
  exact ⟨rfl, rfl⟩
end Go.Proofs.Ytmefbkfapeijgaa
