/- The closed facts of the program that every row asks, each by itself. -/
import Derived.Test.YtcaddlighhiepaaRows
import Derived.ProofKit
namespace Go.Proofs.Ytcaddlighhiepaa
theorem factP1 : (laidOutB Try.checked.prog) = true := by kernel_rfl
theorem factP2 : (mapsRowed Try.checked.prog) = true := by kernel_rfl
theorem factP6 : ((Try.checked.prog.stops == [])) = true := by kernel_rfl
theorem factP8 : ((Try.checked.prog.stopKnobs == [])) = true := by kernel_rfl
theorem factP24 : (Try.checked.prog.stopsHeard) = true := by kernel_rfl
theorem factP25 : (Try.checked.prog.mayEnter) = true := by kernel_rfl
theorem factP22 : ((Rows.cacheTellsRow.plainKeys == Try.checked.prog.plainKeys)) = true := by kernel_rfl
theorem factP26 : ((Rows.cacheTellsRow.lifted == Try.checked.prog.liftsFinal)) = true := by kernel_rfl
theorem factP27 : ((Try.checked.prog.make == some Rows.cacheTellsRow.make)) = true := by kernel_rfl
theorem ownKnobP : ownKnob Try.prog.godebug = none := by kernel_rfl
theorem laidOutP : laidOutB Try.prog = true := by kernel_rfl
theorem andT {a b : Bool} (h : a = true) (k : b = true) : (a && b) = true := by rw [h, k]; rfl
end Go.Proofs.Ytcaddlighhiepaa
