/- The closed facts of the program that every row asks, each by itself. -/
import Derived.Test.YtflaceijiphfdaaGreatRows
import Derived.ProofKit
namespace Go.Proofs.YtflaceijiphfdaaGreat
theorem factP1 : (laidOutB Tryz.checked.prog) = true := by kernel_rfl
theorem factP2 : (mapsRowed Tryz.checked.prog) = true := by kernel_rfl
theorem factP6 : ((Tryz.checked.prog.stops == [])) = true := by kernel_rfl
theorem factP8 : ((Tryz.checked.prog.stopKnobs == [])) = true := by kernel_rfl
theorem factP24 : (Tryz.checked.prog.stopsHeard) = true := by kernel_rfl
theorem factP25 : (Tryz.checked.prog.mayEnter) = true := by kernel_rfl
theorem factP22 : ((Rows.engineSelfRow.plainKeys == Tryz.checked.prog.plainKeys)) = true := by kernel_rfl
theorem factP26 : ((Rows.engineSelfRow.lifted == Tryz.checked.prog.liftsFinal)) = true := by kernel_rfl
theorem factP27 : ((Tryz.checked.prog.make == some Rows.engineSelfRow.make)) = true := by kernel_rfl
theorem ownKnobP : ownKnob Tryz.prog.godebug = none := by kernel_rfl
theorem laidOutP : laidOutB Tryz.prog = true := by kernel_rfl
theorem andT {a b : Bool} (h : a = true) (k : b = true) : (a && b) = true := by rw [h, k]; rfl
end Go.Proofs.YtflaceijiphfdaaGreat
