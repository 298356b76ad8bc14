/- The closed facts that the row of OptimizeConstants asks, each by itself. -/
import Derived.Test.YtpkbfpjkpiimiaaFactsP
namespace Go.Proofs.Ytpkbfpjkpiimiaa.optimizeConstants
theorem fact0 : (Rows.optimizeConstantsRow.wf (OpenSpec.ofChange Rows.optimizeConstantsSpec)) = true := by kernel_rfl
theorem fact3 : (Try.f7.params.all (Try.checked.prog.readableRec ·)) = true := by kernel_rfl
theorem fact4 : (namedTie Try.checked.prog Rows.optimizeConstantsRow.named Rows.optimizeConstantsSpec.vars) = true := by kernel_rfl
theorem fact5 : ((Rows.optimizeConstantsRow.stops == [])) = true := by kernel_rfl
theorem fact7 : ((Rows.optimizeConstantsRow.knobs == [])) = true := by kernel_rfl
theorem fact9 : ((Rows.optimizeConstantsRow.inPlace == Try.checked.prog.inPlace 7)) = true := by kernel_rfl
theorem fact10 : ((Rows.optimizeConstantsRow.unfollowed == Try.checked.prog.unfollowed 7)) = true := by kernel_rfl
theorem fact11 : ((Rows.optimizeConstantsRow.recurses == Try.checked.prog.recurses 7)) = true := by kernel_rfl
theorem fact12 : ((Rows.optimizeConstantsRow.named == Try.checked.prog.varsNamed 7)) = true := by kernel_rfl
theorem fact13 : ((Rows.optimizeConstantsRow.maps == (Try.f7.params.toList ++ Rows.optimizeConstantsSpec.plain.varTypes Try.checked.prog).any (Try.checked.prog.mapsRec ·))) = true := by kernel_rfl
theorem fact14 : ((Rows.optimizeConstantsRow.ifaces == (Try.f7.params.toList ++ Rows.optimizeConstantsSpec.plain.varTypes Try.checked.prog).any (Try.checked.prog.ifacesRec ·))) = true := by kernel_rfl
theorem fact15 : ((Rows.optimizeConstantsRow.mapsOut == Try.checked.prog.mapsAmong Try.f7.resultTypes.toList)) = true := by kernel_rfl
theorem fact16 : ((Rows.optimizeConstantsRow.loops == (Try.f7.params.toList ++ Rows.optimizeConstantsSpec.plain.varTypes Try.checked.prog).any (Try.checked.prog.loopsFrom ·))) = true := by kernel_rfl
theorem fact17 : ((Rows.optimizeConstantsRow.wideKeys == (Try.f7.params.toList ++ Rows.optimizeConstantsSpec.plain.varTypes Try.checked.prog ++ Try.f7.resultTypes.toList).any (Try.checked.prog.wideKeysFrom ·))) = true := by kernel_rfl
theorem fact18 : (Rows.optimizeConstantsSpec.vars.all (Try.checked.prog.varReadable ·)) = true := by kernel_rfl
theorem fact19 : (Try.f7.resultTypes.all (fun t => Try.checked.prog.readableRec t && decide (t < Try.checked.prog.types.size))) = true := by kernel_rfl
theorem fact20 : ((Rows.optimizeConstantsRow.ifacesOut == Try.f7.resultTypes.toList.any (Try.checked.prog.ifacesRec ·))) = true := by kernel_rfl
theorem fact21 : ((Rows.optimizeConstantsRow.loopsOut == Try.f7.resultTypes.toList.any (Try.checked.prog.loopsFrom ·))) = true := by kernel_rfl
theorem fact22 : ((Rows.optimizeConstantsRow.plainKeys == Try.checked.prog.plainKeys)) = true := factP22
theorem fact23 : (Rows.optimizeConstantsRow.shortTexts.isNone) = true := by kernel_rfl
theorem fact26 : ((Rows.optimizeConstantsRow.lifted == Try.checked.prog.liftsFinal)) = true := factP26
theorem fact27 : ((Try.checked.prog.make == some Rows.optimizeConstantsRow.make)) = true := factP27
theorem fact28 : ((Rows.optimizeConstantsRow.kinds == (if Rows.optimizeConstantsRow.domain.isEmpty then [] else Try.f7.params.toList.map fun t => match Try.checked.prog.underlying t with | some (.int k) => some k | _ => none))) = true := by kernel_rfl
theorem fact29 : ((Rows.optimizeConstantsRow.pinned == Rows.optimizeConstantsRow.pinnedBy)) = true := by kernel_rfl
theorem fact30 : ((Rows.optimizeConstantsRow.veiled == (Try.f7.params.toList ++ Rows.optimizeConstantsSpec.plain.varTypes Try.checked.prog ++ Try.f7.resultTypes.toList).any (Try.checked.prog.veiledRec ·))) = true := by kernel_rfl
theorem fact31 : (Rows.optimizeConstantsRow.veiledFits Try.checked.prog Try.f7.params.toList (Try.f7.params.toList ++ Rows.optimizeConstantsSpec.plain.varTypes Try.checked.prog ++ Try.f7.resultTypes.toList)) = true := by kernel_rfl
set_option maxRecDepth 100000 in
theorem closed : joinedFacts Try.checked.prog 7 Try.f7 Rows.optimizeConstantsSpec Rows.optimizeConstantsRow = true := by
  unfold joinedFacts
  exact andT (andT (andT (andT (andT (andT (andT (andT (andT (andT (andT (andT (andT (andT (andT (andT (andT (andT (andT (andT (andT (andT (andT (andT (andT (andT (andT (andT (andT (andT (andT (fact0) factP1) factP2) fact3) fact4) fact5) factP6) fact7) factP8) fact9) fact10) fact11) fact12) fact13) fact14) fact15) fact16) fact17) fact18) fact19) fact20) fact21) fact22) fact23) factP24) factP25) fact26) fact27) fact28) fact29) fact30) fact31
theorem named : Try.checked.prog.funcNamed Rows.optimizeConstantsRow.func = some 7 := by kernel_rfl
end Go.Proofs.Ytpkbfpjkpiimiaa.optimizeConstants
