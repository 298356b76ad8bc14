/- The disk controller: reading a port, what is pending, the request, validity; the program's functions and the references'. -/
import Derived.Test.YtmefbkfapeijgaaAid
namespace Go.Proofs.Ytmefbkfapeijgaa
open Go.RowKit

/-- A controller. -/
structure Dsk where
  (B bl fr : Nat) (st cm : Int) (ob of : Nat) (od : List UInt8)
/-- Its numbers are words. -/
def Dsk.Ok (d : Dsk) : Prop := d.B < 4294967296 ∧ d.bl < 4294967296 ∧ d.fr < 4294967296 ∧ d.ob < 4294967296 ∧ d.of < 4294967296
def Dsk.V (d : Dsk) : Value := .agg #[.int .u32 d.B, .int .u32 d.bl, .int .u32 d.fr, .int .i64 d.st, .int .i64 d.cm, .int .u32 d.ob, .int .u32 d.of, .string (str d.od)]
theorem V_mk (B bl fr : Nat) (st cm : Int) (ob of : Nat) (od : List UInt8) : Dsk.V ⟨B, bl, fr, st, cm, ob, of, od⟩ = .agg #[.int .u32 B, .int .u32 bl, .int .u32 fr, .int .i64 st, .int .i64 cm, .int .u32 ob, .int .u32 of, .string (str od)] := rfl
def dIn (d : Dsk) (port : Int) : Int := if port = 4 then d.bl else if port = 5 then d.fr else if port = 6 then d.st % 4294967296 else 0
def dPend (d : Dsk) : Bool := d.st == 2 || d.st == 3
/-- An output. -/
structure Outp where
  (k : Int) (at_ : Nat) (bl : Nat) (da : List UInt8)
def Outp.V (o : Outp) : Value := .agg #[.int .i64 o.k, .int .u64 o.at_, .int .u32 o.bl, .string (str o.da)]
def dReq (d : Dsk) (a : Nat) : Outp × Bool := if d.st = 1 ∧ d.cm = 1 then (⟨3, a, d.ob, []⟩, true) else if d.st = 1 ∧ d.cm = 2 then (⟨4, a, d.ob, d.od⟩, true) else (⟨0, 0, 0, []⟩, false)
def dMay (d : Dsk) (n : Int) : Bool := decide (d.B ≤ 64) && (if d.st = 1 then decide (d.ob < d.B) && decide ((d.of : Int) < n) && (decide (d.cm = 1) && decide (d.od = []) || decide (d.cm = 2) && decide (d.od.length = 128))
  else decide (d.st = 0 ∨ d.st = 2 ∨ d.st = 3) && decide (d.cm = 0) && decide (d.ob = 0) && decide (d.of = 0) && decide (d.od = []))

set_option maxRecDepth 100000 in
set_option maxHeartbeats 400000 in
theorem din_any (d : Dsk) (port : Int) (w : World) :
    Calls Try.prog 54 #[d.V, .int .i64 port] w fun e w' => e = .returned (.int .u32 (dIn d port)) ∧ Below w.heap.size w w' := by
  obtain ⟨B, bl, fr, st, cm, ob, of, od⟩ := d
  unfold Dsk.V
  go_enter Try.func54, Try.ntmps54
  go_wp2
  all_goals
    ((try simp only [Exit.inBlock, Exit.then]); first | (refine bodyPost_ret (results_tmp rfl _ _ _) rfl ?_) | go_ret2 | go_ret3 | (refine bodyPost_ret (by simp [results, Try.results54, go_sem]; try with_reducible rfl) rfl ?_))
    exact ⟨by simp_all [dIn], by (repeat' first | (with_reducible exact Below.refl _ _) | (with_reducible assumption) | (with_reducible refine Below.alloc ?_ ?_ _) | (with_reducible refine Below.drew ?_) | (with_reducible refine below_drewN' ?_ _) | (with_reducible refine Below.setCell ?_ ?_ _) | (first | (with_reducible exact Nat.le_refl _) | (with_reducible assumption) | omega | (simp; omega) | (simp; done)))⟩
set_option maxRecDepth 100000 in
set_option maxHeartbeats 400000 in
theorem rdin_any (d : Dsk) (port : Int) (w : World) :
    Calls Try.prog 55 #[d.V, .int .i64 port] w fun e w' => e = .returned (.int .u32 (dIn d port)) ∧ Below w.heap.size w w' := by
  obtain ⟨B, bl, fr, st, cm, ob, of, od⟩ := d
  unfold Dsk.V
  go_enter Try.func55, Try.ntmps55
  go_wp2
  all_goals
    ((try simp only [Exit.inBlock, Exit.then]); first | (refine bodyPost_ret (results_tmp rfl _ _ _) rfl ?_) | go_ret2 | go_ret3 | (refine bodyPost_ret (by simp [results, Try.results55, go_sem]; try with_reducible rfl) rfl ?_))
    exact ⟨by simp_all [dIn], by (repeat' first | (with_reducible exact Below.refl _ _) | (with_reducible assumption) | (with_reducible refine Below.alloc ?_ ?_ _) | (with_reducible refine Below.drew ?_) | (with_reducible refine below_drewN' ?_ _) | (with_reducible refine Below.setCell ?_ ?_ _) | (first | (with_reducible exact Nat.le_refl _) | (with_reducible assumption) | omega | (simp; omega) | (simp; done)))⟩
set_option maxRecDepth 100000 in
set_option maxHeartbeats 400000 in
theorem dpend_any (d : Dsk) (w : World) :
    Calls Try.prog 85 #[d.V] w fun e w' => e = .returned (.bool (dPend d)) ∧ Below w.heap.size w w' := by
  obtain ⟨B, bl, fr, st, cm, ob, of, od⟩ := d
  unfold Dsk.V
  go_enter Try.func85, Try.ntmps85
  go_wp2
  all_goals
    ((try simp only [Exit.inBlock, Exit.then]); first | (refine bodyPost_ret (results_tmp rfl _ _ _) rfl ?_) | go_ret2 | go_ret3 | (refine bodyPost_ret (by simp [results, Try.results85, go_sem]; try with_reducible rfl) rfl ?_))
    exact ⟨by simp_all [dPend], by (repeat' first | (with_reducible exact Below.refl _ _) | (with_reducible assumption) | (with_reducible refine Below.alloc ?_ ?_ _) | (with_reducible refine Below.drew ?_) | (with_reducible refine below_drewN' ?_ _) | (with_reducible refine Below.setCell ?_ ?_ _) | (first | (with_reducible exact Nat.le_refl _) | (with_reducible assumption) | omega | (simp; omega) | (simp; done)))⟩
set_option maxRecDepth 100000 in
set_option maxHeartbeats 400000 in
theorem rdpend_any (d : Dsk) (w : World) :
    Calls Try.prog 86 #[d.V] w fun e w' => e = .returned (.bool (dPend d)) ∧ Below w.heap.size w w' := by
  obtain ⟨B, bl, fr, st, cm, ob, of, od⟩ := d
  unfold Dsk.V
  go_enter Try.func86, Try.ntmps86
  go_wp2
  all_goals
    ((try simp only [Exit.inBlock, Exit.then]); first | (refine bodyPost_ret (results_tmp rfl _ _ _) rfl ?_) | go_ret2 | go_ret3 | (refine bodyPost_ret (by simp [results, Try.results86, go_sem]; try with_reducible rfl) rfl ?_))
    exact ⟨by simp_all [dPend], by (repeat' first | (with_reducible exact Below.refl _ _) | (with_reducible assumption) | (with_reducible refine Below.alloc ?_ ?_ _) | (with_reducible refine Below.drew ?_) | (with_reducible refine below_drewN' ?_ _) | (with_reducible refine Below.setCell ?_ ?_ _) | (first | (with_reducible exact Nat.le_refl _) | (with_reducible assumption) | omega | (simp; omega) | (simp; done)))⟩
set_option maxRecDepth 100000 in
set_option maxHeartbeats 400000 in
theorem dreq_any (d : Dsk) (a : Nat) (w : World) :
    Calls Try.prog 52 #[d.V, .int .u64 a] w fun e w' => e = .returned (.tuple #[(dReq d a).1.V, .bool (dReq d a).2]) ∧ Below w.heap.size w w' := by
  obtain ⟨B, bl, fr, st, cm, ob, of, od⟩ := d
  unfold Dsk.V
  go_enter Try.func52, Try.ntmps52
  go_wp2
  all_goals
    ((try simp only [Exit.inBlock, Exit.then]); first | (refine bodyPost_ret (results_tmp rfl _ _ _) rfl ?_) | go_ret2 | go_ret3 | (refine bodyPost_ret (by simp [results, Try.results52, go_sem]; try with_reducible rfl) rfl ?_))
    exact ⟨by simp_all [dReq, Outp.V, str], by (repeat' first | (with_reducible exact Below.refl _ _) | (with_reducible assumption) | (with_reducible refine Below.alloc ?_ ?_ _) | (with_reducible refine Below.drew ?_) | (with_reducible refine below_drewN' ?_ _) | (with_reducible refine Below.setCell ?_ ?_ _) | (first | (with_reducible exact Nat.le_refl _) | (with_reducible assumption) | omega | (simp; omega) | (simp; done)))⟩
set_option maxRecDepth 100000 in
set_option maxHeartbeats 400000 in
theorem rdreq_any (d : Dsk) (a : Nat) (w : World) :
    Calls Try.prog 53 #[d.V, .int .u64 a] w fun e w' => e = .returned (.tuple #[(dReq d a).1.V, .bool (dReq d a).2]) ∧ Below w.heap.size w w' := by
  obtain ⟨B, bl, fr, st, cm, ob, of, od⟩ := d
  unfold Dsk.V
  go_enter Try.func53, Try.ntmps53
  go_wp2
  all_goals
    ((try simp only [Exit.inBlock, Exit.then]); first | (refine bodyPost_ret (results_tmp rfl _ _ _) rfl ?_) | go_ret2 | go_ret3 | (refine bodyPost_ret (by simp [results, Try.results53, go_sem]; try with_reducible rfl) rfl ?_))
    exact ⟨by simp_all [dReq, Outp.V, str], by (repeat' first | (with_reducible exact Below.refl _ _) | (with_reducible assumption) | (with_reducible refine Below.alloc ?_ ?_ _) | (with_reducible refine Below.drew ?_) | (with_reducible refine below_drewN' ?_ _) | (with_reducible refine Below.setCell ?_ ?_ _) | (first | (with_reducible exact Nat.le_refl _) | (with_reducible assumption) | omega | (simp; omega) | (simp; done)))⟩
end Go.Proofs.Ytmefbkfapeijgaa
