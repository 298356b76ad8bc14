/- The closed facts that the row of OptimizeBranches asks, each by itself. -/
import Derived.Test.YtpkbfpjkpiimiaaFactsP
namespace Go.Proofs.Ytpkbfpjkpiimiaa.optimizeBranches
theorem fact0 : (Rows.optimizeBranchesRow.wf (OpenSpec.ofChange Rows.optimizeBranchesSpec)) = true := by kernel_rfl
theorem fact3 : (Try.f8.params.all (Try.checked.prog.readableRec ·)) = true := by kernel_rfl
theorem fact4 : (namedTie Try.checked.prog Rows.optimizeBranchesRow.named Rows.optimizeBranchesSpec.vars) = true := by kernel_rfl
theorem fact5 : ((Rows.optimizeBranchesRow.stops == [])) = true := by kernel_rfl
theorem fact7 : ((Rows.optimizeBranchesRow.knobs == [])) = true := by kernel_rfl
theorem fact9 : ((Rows.optimizeBranchesRow.inPlace == Try.checked.prog.inPlace 8)) = true := by kernel_rfl
theorem fact10 : ((Rows.optimizeBranchesRow.unfollowed == Try.checked.prog.unfollowed 8)) = true := by kernel_rfl
theorem fact11 : ((Rows.optimizeBranchesRow.recurses == Try.checked.prog.recurses 8)) = true := by kernel_rfl
theorem fact12 : ((Rows.optimizeBranchesRow.named == Try.checked.prog.varsNamed 8)) = true := by kernel_rfl
theorem fact13 : ((Rows.optimizeBranchesRow.maps == (Try.f8.params.toList ++ Rows.optimizeBranchesSpec.plain.varTypes Try.checked.prog).any (Try.checked.prog.mapsRec ·))) = true := by kernel_rfl
theorem fact14 : ((Rows.optimizeBranchesRow.ifaces == (Try.f8.params.toList ++ Rows.optimizeBranchesSpec.plain.varTypes Try.checked.prog).any (Try.checked.prog.ifacesRec ·))) = true := by kernel_rfl
theorem fact15 : ((Rows.optimizeBranchesRow.mapsOut == Try.checked.prog.mapsAmong Try.f8.resultTypes.toList)) = true := by kernel_rfl
theorem fact16 : ((Rows.optimizeBranchesRow.loops == (Try.f8.params.toList ++ Rows.optimizeBranchesSpec.plain.varTypes Try.checked.prog).any (Try.checked.prog.loopsFrom ·))) = true := by kernel_rfl
theorem fact17 : ((Rows.optimizeBranchesRow.wideKeys == (Try.f8.params.toList ++ Rows.optimizeBranchesSpec.plain.varTypes Try.checked.prog ++ Try.f8.resultTypes.toList).any (Try.checked.prog.wideKeysFrom ·))) = true := by kernel_rfl
theorem fact18 : (Rows.optimizeBranchesSpec.vars.all (Try.checked.prog.varReadable ·)) = true := by kernel_rfl
theorem fact19 : (Try.f8.resultTypes.all (fun t => Try.checked.prog.readableRec t && decide (t < Try.checked.prog.types.size))) = true := by kernel_rfl
theorem fact20 : ((Rows.optimizeBranchesRow.ifacesOut == Try.f8.resultTypes.toList.any (Try.checked.prog.ifacesRec ·))) = true := by kernel_rfl
theorem fact21 : ((Rows.optimizeBranchesRow.loopsOut == Try.f8.resultTypes.toList.any (Try.checked.prog.loopsFrom ·))) = true := by kernel_rfl
theorem fact22 : ((Rows.optimizeBranchesRow.plainKeys == Try.checked.prog.plainKeys)) = true := factP22
theorem fact23 : (Rows.optimizeBranchesRow.shortTexts.isNone) = true := by kernel_rfl
theorem fact26 : ((Rows.optimizeBranchesRow.lifted == Try.checked.prog.liftsFinal)) = true := factP26
theorem fact27 : ((Try.checked.prog.make == some Rows.optimizeBranchesRow.make)) = true := factP27
theorem fact28 : ((Rows.optimizeBranchesRow.kinds == (if Rows.optimizeBranchesRow.domain.isEmpty then [] else Try.f8.params.toList.map fun t => match Try.checked.prog.underlying t with | some (.int k) => some k | _ => none))) = true := by kernel_rfl
theorem fact29 : ((Rows.optimizeBranchesRow.pinned == Rows.optimizeBranchesRow.pinnedBy)) = true := by kernel_rfl
theorem fact30 : ((Rows.optimizeBranchesRow.veiled == (Try.f8.params.toList ++ Rows.optimizeBranchesSpec.plain.varTypes Try.checked.prog ++ Try.f8.resultTypes.toList).any (Try.checked.prog.veiledRec ·))) = true := by kernel_rfl
theorem fact31 : (Rows.optimizeBranchesRow.veiledFits Try.checked.prog Try.f8.params.toList (Try.f8.params.toList ++ Rows.optimizeBranchesSpec.plain.varTypes Try.checked.prog ++ Try.f8.resultTypes.toList)) = true := by kernel_rfl
set_option maxRecDepth 100000 in
theorem closed : joinedFacts Try.checked.prog 8 Try.f8 Rows.optimizeBranchesSpec Rows.optimizeBranchesRow = true := by
  unfold joinedFacts
  exact andT (andT (andT (andT (andT (andT (andT (andT (andT (andT (andT (andT (andT (andT (andT (andT (andT (andT (andT (andT (andT (andT (andT (andT (andT (andT (andT (andT (andT (andT (andT (fact0) factP1) factP2) fact3) fact4) fact5) factP6) fact7) factP8) fact9) fact10) fact11) fact12) fact13) fact14) fact15) fact16) fact17) fact18) fact19) fact20) fact21) fact22) fact23) factP24) factP25) fact26) fact27) fact28) fact29) fact30) fact31
theorem named : Try.checked.prog.funcNamed Rows.optimizeBranchesRow.func = some 8 := by kernel_rfl
end Go.Proofs.Ytpkbfpjkpiimiaa.optimizeBranches
