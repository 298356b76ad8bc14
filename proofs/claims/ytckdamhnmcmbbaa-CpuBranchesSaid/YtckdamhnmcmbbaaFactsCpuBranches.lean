/- The closed facts that the row of CpuBranches asks, each by itself. -/
import Derived.Test.YtckdamhnmcmbbaaFactsP
namespace Go.Proofs.Ytckdamhnmcmbbaa.cpuBranches
theorem fact0 : (Rows.cpuBranchesRow.wf (OpenSpec.ofChange Rows.cpuBranchesSpec)) = true := by kernel_rfl
theorem fact3 : (Try.f9.params.all (Try.checked.prog.readableRec ·)) = true := by kernel_rfl
theorem fact4 : (namedTie Try.checked.prog Rows.cpuBranchesRow.named Rows.cpuBranchesSpec.vars) = true := by kernel_rfl
theorem fact5 : ((Rows.cpuBranchesRow.stops == [])) = true := by kernel_rfl
theorem fact7 : ((Rows.cpuBranchesRow.knobs == [])) = true := by kernel_rfl
theorem fact9 : ((Rows.cpuBranchesRow.inPlace == Try.checked.prog.inPlace 9)) = true := by kernel_rfl
theorem fact10 : ((Rows.cpuBranchesRow.unfollowed == Try.checked.prog.unfollowed 9)) = true := by kernel_rfl
theorem fact11 : ((Rows.cpuBranchesRow.recurses == Try.checked.prog.recurses 9)) = true := by kernel_rfl
theorem fact12 : ((Rows.cpuBranchesRow.named == Try.checked.prog.varsNamed 9)) = true := by kernel_rfl
theorem fact13 : ((Rows.cpuBranchesRow.maps == (Try.f9.params.toList ++ Rows.cpuBranchesSpec.plain.varTypes Try.checked.prog).any (Try.checked.prog.mapsRec ·))) = true := by kernel_rfl
theorem fact14 : ((Rows.cpuBranchesRow.ifaces == (Try.f9.params.toList ++ Rows.cpuBranchesSpec.plain.varTypes Try.checked.prog).any (Try.checked.prog.ifacesRec ·))) = true := by kernel_rfl
theorem fact15 : ((Rows.cpuBranchesRow.mapsOut == Try.checked.prog.mapsAmong Try.f9.resultTypes.toList)) = true := by kernel_rfl
theorem fact16 : ((Rows.cpuBranchesRow.loops == (Try.f9.params.toList ++ Rows.cpuBranchesSpec.plain.varTypes Try.checked.prog).any (Try.checked.prog.loopsFrom ·))) = true := by kernel_rfl
theorem fact17 : ((Rows.cpuBranchesRow.wideKeys == (Try.f9.params.toList ++ Rows.cpuBranchesSpec.plain.varTypes Try.checked.prog ++ Try.f9.resultTypes.toList).any (Try.checked.prog.wideKeysFrom ·))) = true := by kernel_rfl
theorem fact18 : (Rows.cpuBranchesSpec.vars.all (Try.checked.prog.varReadable ·)) = true := by kernel_rfl
theorem fact19 : (Try.f9.resultTypes.all (fun t => Try.checked.prog.readableRec t && decide (t < Try.checked.prog.types.size))) = true := by kernel_rfl
theorem fact20 : ((Rows.cpuBranchesRow.ifacesOut == Try.f9.resultTypes.toList.any (Try.checked.prog.ifacesRec ·))) = true := by kernel_rfl
theorem fact21 : ((Rows.cpuBranchesRow.loopsOut == Try.f9.resultTypes.toList.any (Try.checked.prog.loopsFrom ·))) = true := by kernel_rfl
theorem fact22 : ((Rows.cpuBranchesRow.plainKeys == Try.checked.prog.plainKeys)) = true := factP22
theorem fact23 : (Rows.cpuBranchesRow.shortTexts.isNone) = true := by kernel_rfl
theorem fact26 : ((Rows.cpuBranchesRow.lifted == Try.checked.prog.liftsFinal)) = true := factP26
theorem fact27 : ((Try.checked.prog.make == some Rows.cpuBranchesRow.make)) = true := factP27
theorem fact28 : ((Rows.cpuBranchesRow.kinds == (if Rows.cpuBranchesRow.domain.isEmpty then [] else Try.f9.params.toList.map fun t => match Try.checked.prog.underlying t with | some (.int k) => some k | _ => none))) = true := by kernel_rfl
theorem fact29 : ((Rows.cpuBranchesRow.pinned == Rows.cpuBranchesRow.pinnedBy)) = true := by kernel_rfl
theorem fact30 : ((Rows.cpuBranchesRow.veiled == (Try.f9.params.toList ++ Rows.cpuBranchesSpec.plain.varTypes Try.checked.prog ++ Try.f9.resultTypes.toList).any (Try.checked.prog.veiledRec ·))) = true := by kernel_rfl
theorem fact31 : (Rows.cpuBranchesRow.veiledFits Try.checked.prog Try.f9.params.toList (Try.f9.params.toList ++ Rows.cpuBranchesSpec.plain.varTypes Try.checked.prog ++ Try.f9.resultTypes.toList)) = true := by kernel_rfl
set_option maxRecDepth 100000 in
theorem closed : joinedFacts Try.checked.prog 9 Try.f9 Rows.cpuBranchesSpec Rows.cpuBranchesRow = true := by
  unfold joinedFacts
  exact andT (andT (andT (andT (andT (andT (andT (andT (andT (andT (andT (andT (andT (andT (andT (andT (andT (andT (andT (andT (andT (andT (andT (andT (andT (andT (andT (andT (andT (andT (andT (fact0) factP1) factP2) fact3) fact4) fact5) factP6) fact7) factP8) fact9) fact10) fact11) fact12) fact13) fact14) fact15) fact16) fact17) fact18) fact19) fact20) fact21) fact22) fact23) factP24) factP25) fact26) fact27) fact28) fact29) fact30) fact31
theorem named : Try.checked.prog.funcNamed Rows.cpuBranchesRow.func = some 9 := by kernel_rfl
end Go.Proofs.Ytckdamhnmcmbbaa.cpuBranches
