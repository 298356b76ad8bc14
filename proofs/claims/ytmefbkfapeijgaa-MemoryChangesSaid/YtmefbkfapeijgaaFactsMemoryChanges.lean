/- The closed facts that the row of MemoryChanges asks, each by itself. -/
import Derived.Test.YtmefbkfapeijgaaFactsP
namespace Go.Proofs.Ytmefbkfapeijgaa.memoryChanges
theorem fact0 : (Rows.memoryChangesRow.wf (OpenSpec.ofChange Rows.memoryChangesSpec)) = true := by kernel_rfl
theorem fact3 : (Try.f8.params.all (Try.checked.prog.readableRec ·)) = true := by kernel_rfl
theorem fact4 : (namedTie Try.checked.prog Rows.memoryChangesRow.named Rows.memoryChangesSpec.vars) = true := by kernel_rfl
theorem fact5 : ((Rows.memoryChangesRow.stops == [])) = true := by kernel_rfl
theorem fact7 : ((Rows.memoryChangesRow.knobs == [])) = true := by kernel_rfl
theorem fact9 : ((Rows.memoryChangesRow.inPlace == Try.checked.prog.inPlace 8)) = true := by kernel_rfl
theorem fact10 : ((Rows.memoryChangesRow.unfollowed == Try.checked.prog.unfollowed 8)) = true := by kernel_rfl
theorem fact11 : ((Rows.memoryChangesRow.recurses == Try.checked.prog.recurses 8)) = true := by kernel_rfl
theorem fact12 : ((Rows.memoryChangesRow.named == Try.checked.prog.varsNamed 8)) = true := by kernel_rfl
theorem fact13 : ((Rows.memoryChangesRow.maps == (Try.f8.params.toList ++ Rows.memoryChangesSpec.plain.varTypes Try.checked.prog).any (Try.checked.prog.mapsRec ·))) = true := by kernel_rfl
theorem fact14 : ((Rows.memoryChangesRow.ifaces == (Try.f8.params.toList ++ Rows.memoryChangesSpec.plain.varTypes Try.checked.prog).any (Try.checked.prog.ifacesRec ·))) = true := by kernel_rfl
theorem fact15 : ((Rows.memoryChangesRow.mapsOut == Try.checked.prog.mapsAmong Try.f8.resultTypes.toList)) = true := by kernel_rfl
theorem fact16 : ((Rows.memoryChangesRow.loops == (Try.f8.params.toList ++ Rows.memoryChangesSpec.plain.varTypes Try.checked.prog).any (Try.checked.prog.loopsFrom ·))) = true := by kernel_rfl
theorem fact17 : ((Rows.memoryChangesRow.wideKeys == (Try.f8.params.toList ++ Rows.memoryChangesSpec.plain.varTypes Try.checked.prog ++ Try.f8.resultTypes.toList).any (Try.checked.prog.wideKeysFrom ·))) = true := by kernel_rfl
theorem fact18 : (Rows.memoryChangesSpec.vars.all (Try.checked.prog.varReadable ·)) = true := by kernel_rfl
theorem fact19 : (Try.f8.resultTypes.all (fun t => Try.checked.prog.readableRec t && decide (t < Try.checked.prog.types.size))) = true := by kernel_rfl
theorem fact20 : ((Rows.memoryChangesRow.ifacesOut == Try.f8.resultTypes.toList.any (Try.checked.prog.ifacesRec ·))) = true := by kernel_rfl
theorem fact21 : ((Rows.memoryChangesRow.loopsOut == Try.f8.resultTypes.toList.any (Try.checked.prog.loopsFrom ·))) = true := by kernel_rfl
theorem fact22 : ((Rows.memoryChangesRow.plainKeys == Try.checked.prog.plainKeys)) = true := factP22
theorem fact23 : (Rows.memoryChangesRow.shortTexts.isNone) = true := by kernel_rfl
theorem fact26 : ((Rows.memoryChangesRow.lifted == Try.checked.prog.liftsFinal)) = true := factP26
theorem fact27 : ((Try.checked.prog.make == some Rows.memoryChangesRow.make)) = true := factP27
theorem fact28 : ((Rows.memoryChangesRow.kinds == (if Rows.memoryChangesRow.domain.isEmpty then [] else Try.f8.params.toList.map fun t => match Try.checked.prog.underlying t with | some (.int k) => some k | _ => none))) = true := by kernel_rfl
theorem fact29 : ((Rows.memoryChangesRow.pinned == Rows.memoryChangesRow.pinnedBy)) = true := by kernel_rfl
theorem fact30 : ((Rows.memoryChangesRow.veiled == (Try.f8.params.toList ++ Rows.memoryChangesSpec.plain.varTypes Try.checked.prog ++ Try.f8.resultTypes.toList).any (Try.checked.prog.veiledRec ·))) = true := by kernel_rfl
theorem fact31 : (Rows.memoryChangesRow.veiledFits Try.checked.prog Try.f8.params.toList (Try.f8.params.toList ++ Rows.memoryChangesSpec.plain.varTypes Try.checked.prog ++ Try.f8.resultTypes.toList)) = true := by kernel_rfl
set_option maxRecDepth 100000 in
theorem closed : joinedFacts Try.checked.prog 8 Try.f8 Rows.memoryChangesSpec Rows.memoryChangesRow = true := by
  unfold joinedFacts
  exact andT (andT (andT (andT (andT (andT (andT (andT (andT (andT (andT (andT (andT (andT (andT (andT (andT (andT (andT (andT (andT (andT (andT (andT (andT (andT (andT (andT (andT (andT (andT (fact0) factP1) factP2) fact3) fact4) fact5) factP6) fact7) factP8) fact9) fact10) fact11) fact12) fact13) fact14) fact15) fact16) fact17) fact18) fact19) fact20) fact21) fact22) fact23) factP24) factP25) fact26) fact27) fact28) fact29) fact30) fact31
theorem named : Try.checked.prog.funcNamed Rows.memoryChangesRow.func = some 8 := by kernel_rfl
end Go.Proofs.Ytmefbkfapeijgaa.memoryChanges
