/- CpuReturns, CpuTraps. -/
import Derived.Test.YtckdamhnmcmbbaaCpuF
namespace Go.Proofs.Ytckdamhnmcmbbaa
open Go Go.RowKit
set_option linter.unusedSimpArgs false
set_option linter.unusedVariables false

theorem renA_scal {m : List Em} {k n0 : Nat} : ∀ {x : AV}, scalA x = true → renA m k n0 x = x
  | .s x, h => by cases x <;> simp [scalA, SV.scal] at h <;> rfl
  | .agg l, h => by show AV.agg (l.map (renS m k n0)) = _; rw [ren_scal h]
theorem ren_agg {m : List Em} {k n0 : Nat} {l : List SV} (h : allScal l = true) : renT m k n0 (.a (.agg l)) = .a (.agg l) := by
  show TV.a (AV.agg (l.map (renS m k n0))) = _
  rw [ren_scal h]
theorem cpu_scal (x : List Nat) (pc : Nat) (c : List Nat) : allScal (cpuC x pc c) = true := allScal_append (wsv_scal x) (wsv_scal c)
theorem wr_scal (x : List Nat) (pc : Nat) (c : List Nat) (csr : Int) (v : Nat) : allScal (wrC x pc c csr v) = true := by
  unfold wrC
  repeat' split
  all_goals exact cpu_scal _ _ _
def ks25 : List SK := [.int, .int, .int, .int, .int, .int, .int, .int, .int, .int, .int, .int, .int, .int, .int, .int, .int, .int, .int, .int, .int, .int, .int, .int, .int]
theorem cpu_refl (x : List Nat) (pc : Nat) (c : List Nat) (hx : x.length = 16) (hc : c.length = 8) : eqCells ks25 (cpuC x pc c) (cpuC x pc c) = some true := by
  obtain ⟨x0, x1, x2, x3, x4, x5, x6, x7, x8, x9, x10, x11, x12, x13, x14, x15, rfl⟩ := len16 hx
  obtain ⟨c0, c1, c2, c3, c4, c5, c6, c7, rfl⟩ := len8 hc
  simp [cpuC, wsv, ks25, eqCells, eqS, kEq]
theorem trap_refl (x : List Nat) (pc : Nat) (c : List Nat) (cause : Int) (bad : Nat) (hx : x.length = 16) (hc : c.length = 8) : eqCells ks25 (trapC x pc c cause bad) (trapC x pc c cause bad) = some true := cpu_refl _ _ _ hx rfl
theorem ret_refl (x : List Nat) (pc : Nat) (c : List Nat) (hx : x.length = 16) (hc : c.length = 8) : eqCells ks25 (retC x pc c) (retC x pc c) = some true := cpu_refl _ _ _ hx (by simpa using hc)
theorem wr_refl (x : List Nat) (pc : Nat) (c : List Nat) (csr : Int) (v : Nat) (hx : x.length = 16) (hc : c.length = 8) : eqCells ks25 (wrC x pc c csr v) (wrC x pc c csr v) = some true := by
  unfold wrC
  repeat' split
  all_goals exact cpu_refl _ _ _ hx (by simpa using hc)
end Go.Proofs.Ytckdamhnmcmbbaa
