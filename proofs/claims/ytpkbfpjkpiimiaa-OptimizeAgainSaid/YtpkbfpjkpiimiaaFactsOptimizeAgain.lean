/- The closed facts that the row of OptimizeAgain asks, each by itself. -/
import Derived.Test.YtpkbfpjkpiimiaaFactsP
namespace Go.Proofs.Ytpkbfpjkpiimiaa.optimizeAgain
theorem fact0 : (Rows.optimizeAgainRow.wf (OpenSpec.ofChange Rows.optimizeAgainSpec)) = true := by kernel_rfl
theorem fact3 : (Try.f9.params.all (Try.checked.prog.readableRec ·)) = true := by kernel_rfl
theorem fact4 : (namedTie Try.checked.prog Rows.optimizeAgainRow.named Rows.optimizeAgainSpec.vars) = true := by kernel_rfl
theorem fact5 : ((Rows.optimizeAgainRow.stops == [])) = true := by kernel_rfl
theorem fact7 : ((Rows.optimizeAgainRow.knobs == [])) = true := by kernel_rfl
theorem fact9 : ((Rows.optimizeAgainRow.inPlace == Try.checked.prog.inPlace 9)) = true := by kernel_rfl
theorem fact10 : ((Rows.optimizeAgainRow.unfollowed == Try.checked.prog.unfollowed 9)) = true := by kernel_rfl
theorem fact11 : ((Rows.optimizeAgainRow.recurses == Try.checked.prog.recurses 9)) = true := by kernel_rfl
theorem fact12 : ((Rows.optimizeAgainRow.named == Try.checked.prog.varsNamed 9)) = true := by kernel_rfl
theorem fact13 : ((Rows.optimizeAgainRow.maps == (Try.f9.params.toList ++ Rows.optimizeAgainSpec.plain.varTypes Try.checked.prog).any (Try.checked.prog.mapsRec ·))) = true := by kernel_rfl
theorem fact14 : ((Rows.optimizeAgainRow.ifaces == (Try.f9.params.toList ++ Rows.optimizeAgainSpec.plain.varTypes Try.checked.prog).any (Try.checked.prog.ifacesRec ·))) = true := by kernel_rfl
theorem fact15 : ((Rows.optimizeAgainRow.mapsOut == Try.checked.prog.mapsAmong Try.f9.resultTypes.toList)) = true := by kernel_rfl
theorem fact16 : ((Rows.optimizeAgainRow.loops == (Try.f9.params.toList ++ Rows.optimizeAgainSpec.plain.varTypes Try.checked.prog).any (Try.checked.prog.loopsFrom ·))) = true := by kernel_rfl
theorem fact17 : ((Rows.optimizeAgainRow.wideKeys == (Try.f9.params.toList ++ Rows.optimizeAgainSpec.plain.varTypes Try.checked.prog ++ Try.f9.resultTypes.toList).any (Try.checked.prog.wideKeysFrom ·))) = true := by kernel_rfl
theorem fact18 : (Rows.optimizeAgainSpec.vars.all (Try.checked.prog.varReadable ·)) = true := by kernel_rfl
theorem fact19 : (Try.f9.resultTypes.all (fun t => Try.checked.prog.readableRec t && decide (t < Try.checked.prog.types.size))) = true := by kernel_rfl
theorem fact20 : ((Rows.optimizeAgainRow.ifacesOut == Try.f9.resultTypes.toList.any (Try.checked.prog.ifacesRec ·))) = true := by kernel_rfl
theorem fact21 : ((Rows.optimizeAgainRow.loopsOut == Try.f9.resultTypes.toList.any (Try.checked.prog.loopsFrom ·))) = true := by kernel_rfl
theorem fact22 : ((Rows.optimizeAgainRow.plainKeys == Try.checked.prog.plainKeys)) = true := factP22
theorem fact23 : (Rows.optimizeAgainRow.shortTexts.isNone) = true := by kernel_rfl
theorem fact26 : ((Rows.optimizeAgainRow.lifted == Try.checked.prog.liftsFinal)) = true := factP26
theorem fact27 : ((Try.checked.prog.make == some Rows.optimizeAgainRow.make)) = true := factP27
theorem fact28 : ((Rows.optimizeAgainRow.kinds == (if Rows.optimizeAgainRow.domain.isEmpty then [] else Try.f9.params.toList.map fun t => match Try.checked.prog.underlying t with | some (.int k) => some k | _ => none))) = true := by kernel_rfl
theorem fact29 : ((Rows.optimizeAgainRow.pinned == Rows.optimizeAgainRow.pinnedBy)) = true := by kernel_rfl
theorem fact30 : ((Rows.optimizeAgainRow.veiled == (Try.f9.params.toList ++ Rows.optimizeAgainSpec.plain.varTypes Try.checked.prog ++ Try.f9.resultTypes.toList).any (Try.checked.prog.veiledRec ·))) = true := by kernel_rfl
theorem fact31 : (Rows.optimizeAgainRow.veiledFits Try.checked.prog Try.f9.params.toList (Try.f9.params.toList ++ Rows.optimizeAgainSpec.plain.varTypes Try.checked.prog ++ Try.f9.resultTypes.toList)) = true := by kernel_rfl
set_option maxRecDepth 100000 in
theorem closed : joinedFacts Try.checked.prog 9 Try.f9 Rows.optimizeAgainSpec Rows.optimizeAgainRow = true := by
  unfold joinedFacts
  exact andT (andT (andT (andT (andT (andT (andT (andT (andT (andT (andT (andT (andT (andT (andT (andT (andT (andT (andT (andT (andT (andT (andT (andT (andT (andT (andT (andT (andT (andT (andT (fact0) factP1) factP2) fact3) fact4) fact5) factP6) fact7) factP8) fact9) fact10) fact11) fact12) fact13) fact14) fact15) fact16) fact17) fact18) fact19) fact20) fact21) fact22) fact23) factP24) factP25) fact26) fact27) fact28) fact29) fact30) fact31
theorem named : Try.checked.prog.funcNamed Rows.optimizeAgainRow.func = some 9 := by kernel_rfl
end Go.Proofs.Ytpkbfpjkpiimiaa.optimizeAgain
