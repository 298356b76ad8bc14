/- The closed facts that the row of CpuTransfers asks, each by itself. -/
import Derived.Test.YtckdamhnmcmbbaaFactsP
namespace Go.Proofs.Ytckdamhnmcmbbaa.cpuTransfers
theorem fact0 : (Rows.cpuTransfersRow.wf (OpenSpec.ofChange Rows.cpuTransfersSpec)) = true := by kernel_rfl
theorem fact3 : (Try.f10.params.all (Try.checked.prog.readableRec ·)) = true := by kernel_rfl
theorem fact4 : (namedTie Try.checked.prog Rows.cpuTransfersRow.named Rows.cpuTransfersSpec.vars) = true := by kernel_rfl
theorem fact5 : ((Rows.cpuTransfersRow.stops == [])) = true := by kernel_rfl
theorem fact7 : ((Rows.cpuTransfersRow.knobs == [])) = true := by kernel_rfl
theorem fact9 : ((Rows.cpuTransfersRow.inPlace == Try.checked.prog.inPlace 10)) = true := by kernel_rfl
theorem fact10 : ((Rows.cpuTransfersRow.unfollowed == Try.checked.prog.unfollowed 10)) = true := by kernel_rfl
theorem fact11 : ((Rows.cpuTransfersRow.recurses == Try.checked.prog.recurses 10)) = true := by kernel_rfl
theorem fact12 : ((Rows.cpuTransfersRow.named == Try.checked.prog.varsNamed 10)) = true := by kernel_rfl
theorem fact13 : ((Rows.cpuTransfersRow.maps == (Try.f10.params.toList ++ Rows.cpuTransfersSpec.plain.varTypes Try.checked.prog).any (Try.checked.prog.mapsRec ·))) = true := by kernel_rfl
theorem fact14 : ((Rows.cpuTransfersRow.ifaces == (Try.f10.params.toList ++ Rows.cpuTransfersSpec.plain.varTypes Try.checked.prog).any (Try.checked.prog.ifacesRec ·))) = true := by kernel_rfl
theorem fact15 : ((Rows.cpuTransfersRow.mapsOut == Try.checked.prog.mapsAmong Try.f10.resultTypes.toList)) = true := by kernel_rfl
theorem fact16 : ((Rows.cpuTransfersRow.loops == (Try.f10.params.toList ++ Rows.cpuTransfersSpec.plain.varTypes Try.checked.prog).any (Try.checked.prog.loopsFrom ·))) = true := by kernel_rfl
theorem fact17 : ((Rows.cpuTransfersRow.wideKeys == (Try.f10.params.toList ++ Rows.cpuTransfersSpec.plain.varTypes Try.checked.prog ++ Try.f10.resultTypes.toList).any (Try.checked.prog.wideKeysFrom ·))) = true := by kernel_rfl
theorem fact18 : (Rows.cpuTransfersSpec.vars.all (Try.checked.prog.varReadable ·)) = true := by kernel_rfl
theorem fact19 : (Try.f10.resultTypes.all (fun t => Try.checked.prog.readableRec t && decide (t < Try.checked.prog.types.size))) = true := by kernel_rfl
theorem fact20 : ((Rows.cpuTransfersRow.ifacesOut == Try.f10.resultTypes.toList.any (Try.checked.prog.ifacesRec ·))) = true := by kernel_rfl
theorem fact21 : ((Rows.cpuTransfersRow.loopsOut == Try.f10.resultTypes.toList.any (Try.checked.prog.loopsFrom ·))) = true := by kernel_rfl
theorem fact22 : ((Rows.cpuTransfersRow.plainKeys == Try.checked.prog.plainKeys)) = true := factP22
theorem fact23 : (Rows.cpuTransfersRow.shortTexts.isNone) = true := by kernel_rfl
theorem fact26 : ((Rows.cpuTransfersRow.lifted == Try.checked.prog.liftsFinal)) = true := factP26
theorem fact27 : ((Try.checked.prog.make == some Rows.cpuTransfersRow.make)) = true := factP27
theorem fact28 : ((Rows.cpuTransfersRow.kinds == (if Rows.cpuTransfersRow.domain.isEmpty then [] else Try.f10.params.toList.map fun t => match Try.checked.prog.underlying t with | some (.int k) => some k | _ => none))) = true := by kernel_rfl
theorem fact29 : ((Rows.cpuTransfersRow.pinned == Rows.cpuTransfersRow.pinnedBy)) = true := by kernel_rfl
theorem fact30 : ((Rows.cpuTransfersRow.veiled == (Try.f10.params.toList ++ Rows.cpuTransfersSpec.plain.varTypes Try.checked.prog ++ Try.f10.resultTypes.toList).any (Try.checked.prog.veiledRec ·))) = true := by kernel_rfl
theorem fact31 : (Rows.cpuTransfersRow.veiledFits Try.checked.prog Try.f10.params.toList (Try.f10.params.toList ++ Rows.cpuTransfersSpec.plain.varTypes Try.checked.prog ++ Try.f10.resultTypes.toList)) = true := by kernel_rfl
set_option maxRecDepth 100000 in
theorem closed : joinedFacts Try.checked.prog 10 Try.f10 Rows.cpuTransfersSpec Rows.cpuTransfersRow = true := by
  unfold joinedFacts
  exact andT (andT (andT (andT (andT (andT (andT (andT (andT (andT (andT (andT (andT (andT (andT (andT (andT (andT (andT (andT (andT (andT (andT (andT (andT (andT (andT (andT (andT (andT (andT (fact0) factP1) factP2) fact3) fact4) fact5) factP6) fact7) factP8) fact9) fact10) fact11) fact12) fact13) fact14) fact15) fact16) fact17) fact18) fact19) fact20) fact21) fact22) fact23) factP24) factP25) fact26) fact27) fact28) fact29) fact30) fact31
theorem named : Try.checked.prog.funcNamed Rows.cpuTransfersRow.func = some 10 := by kernel_rfl
end Go.Proofs.Ytckdamhnmcmbbaa.cpuTransfers
