/- The closed facts that the row of EngineSteps asks, each by itself. -/
import Derived.Test.YtpgkkfajljekpabGreatFactsP
namespace Go.Proofs.YtpgkkfajljekpabGreat.engineSteps
theorem fact0 : (Rows.engineStepsRow.wf (OpenSpec.ofChange Rows.engineStepsSpec)) = true := by kernel_rfl
theorem fact3 : (Tryz.f3.params.all (Tryz.checked.prog.readableRec ·)) = true := by kernel_rfl
theorem fact4 : (namedTie Tryz.checked.prog Rows.engineStepsRow.named Rows.engineStepsSpec.vars) = true := by kernel_rfl
theorem fact5 : ((Rows.engineStepsRow.stops == [])) = true := by kernel_rfl
theorem fact7 : ((Rows.engineStepsRow.knobs == [])) = true := by kernel_rfl
theorem fact9 : ((Rows.engineStepsRow.inPlace == Tryz.checked.prog.inPlace 3)) = true := by kernel_rfl
theorem fact10 : ((Rows.engineStepsRow.unfollowed == Tryz.checked.prog.unfollowed 3)) = true := by kernel_rfl
theorem fact11 : ((Rows.engineStepsRow.recurses == Tryz.checked.prog.recurses 3)) = true := by kernel_rfl
theorem fact12 : ((Rows.engineStepsRow.named == Tryz.checked.prog.varsNamed 3)) = true := by kernel_rfl
theorem fact13 : ((Rows.engineStepsRow.maps == (Tryz.f3.params.toList ++ Rows.engineStepsSpec.plain.varTypes Tryz.checked.prog).any (Tryz.checked.prog.mapsRec ·))) = true := by kernel_rfl
theorem fact14 : ((Rows.engineStepsRow.ifaces == (Tryz.f3.params.toList ++ Rows.engineStepsSpec.plain.varTypes Tryz.checked.prog).any (Tryz.checked.prog.ifacesRec ·))) = true := by kernel_rfl
theorem fact15 : ((Rows.engineStepsRow.mapsOut == Tryz.checked.prog.mapsAmong Tryz.f3.resultTypes.toList)) = true := by kernel_rfl
theorem fact16 : ((Rows.engineStepsRow.loops == (Tryz.f3.params.toList ++ Rows.engineStepsSpec.plain.varTypes Tryz.checked.prog).any (Tryz.checked.prog.loopsFrom ·))) = true := by kernel_rfl
theorem fact17 : ((Rows.engineStepsRow.wideKeys == (Tryz.f3.params.toList ++ Rows.engineStepsSpec.plain.varTypes Tryz.checked.prog ++ Tryz.f3.resultTypes.toList).any (Tryz.checked.prog.wideKeysFrom ·))) = true := by kernel_rfl
theorem fact18 : (Rows.engineStepsSpec.vars.all (Tryz.checked.prog.varReadable ·)) = true := by kernel_rfl
theorem fact19 : (Tryz.f3.resultTypes.all (fun t => Tryz.checked.prog.readableRec t && decide (t < Tryz.checked.prog.types.size))) = true := by kernel_rfl
theorem fact20 : ((Rows.engineStepsRow.ifacesOut == Tryz.f3.resultTypes.toList.any (Tryz.checked.prog.ifacesRec ·))) = true := by kernel_rfl
theorem fact21 : ((Rows.engineStepsRow.loopsOut == Tryz.f3.resultTypes.toList.any (Tryz.checked.prog.loopsFrom ·))) = true := by kernel_rfl
theorem fact22 : ((Rows.engineStepsRow.plainKeys == Tryz.checked.prog.plainKeys)) = true := factP22
theorem fact23 : (Rows.engineStepsRow.shortTexts.isNone) = true := by kernel_rfl
theorem fact26 : ((Rows.engineStepsRow.lifted == Tryz.checked.prog.liftsFinal)) = true := factP26
theorem fact27 : ((Tryz.checked.prog.make == some Rows.engineStepsRow.make)) = true := factP27
theorem fact28 : ((Rows.engineStepsRow.kinds == (if Rows.engineStepsRow.domain.isEmpty then [] else Tryz.f3.params.toList.map fun t => match Tryz.checked.prog.underlying t with | some (.int k) => some k | _ => none))) = true := by kernel_rfl
theorem fact29 : ((Rows.engineStepsRow.pinned == Rows.engineStepsRow.pinnedBy)) = true := by kernel_rfl
theorem fact30 : ((Rows.engineStepsRow.veiled == (Tryz.f3.params.toList ++ Rows.engineStepsSpec.plain.varTypes Tryz.checked.prog ++ Tryz.f3.resultTypes.toList).any (Tryz.checked.prog.veiledRec ·))) = true := by kernel_rfl
theorem fact31 : (Rows.engineStepsRow.veiledFits Tryz.checked.prog Tryz.f3.params.toList (Tryz.f3.params.toList ++ Rows.engineStepsSpec.plain.varTypes Tryz.checked.prog ++ Tryz.f3.resultTypes.toList)) = true := by kernel_rfl
set_option maxRecDepth 100000 in
theorem closed : joinedFacts Tryz.checked.prog 3 Tryz.f3 Rows.engineStepsSpec Rows.engineStepsRow = true := by
  unfold joinedFacts
  exact andT (andT (andT (andT (andT (andT (andT (andT (andT (andT (andT (andT (andT (andT (andT (andT (andT (andT (andT (andT (andT (andT (andT (andT (andT (andT (andT (andT (andT (andT (andT (fact0) factP1) factP2) fact3) fact4) fact5) factP6) fact7) factP8) fact9) fact10) fact11) fact12) fact13) fact14) fact15) fact16) fact17) fact18) fact19) fact20) fact21) fact22) fact23) factP24) factP25) fact26) fact27) fact28) fact29) fact30) fact31
theorem named : Tryz.checked.prog.funcNamed Rows.engineStepsRow.func = some 3 := by kernel_rfl
end Go.Proofs.YtpgkkfajljekpabGreat.engineSteps
