/- The closed facts that the row of PagingOffsets asks, each by itself. -/
import Derived.Test.YtmefbkfapeijgaaFactsP
namespace Go.Proofs.Ytmefbkfapeijgaa.pagingOffsets
theorem fact0 : (Rows.pagingOffsetsRow.wf (OpenSpec.ofChange Rows.pagingOffsetsSpec)) = true := by kernel_rfl
theorem fact3 : (Try.f16.params.all (Try.checked.prog.readableRec ·)) = true := by kernel_rfl
theorem fact4 : (namedTie Try.checked.prog Rows.pagingOffsetsRow.named Rows.pagingOffsetsSpec.vars) = true := by kernel_rfl
theorem fact5 : ((Rows.pagingOffsetsRow.stops == [])) = true := by kernel_rfl
theorem fact7 : ((Rows.pagingOffsetsRow.knobs == [])) = true := by kernel_rfl
theorem fact9 : ((Rows.pagingOffsetsRow.inPlace == Try.checked.prog.inPlace 16)) = true := by kernel_rfl
theorem fact10 : ((Rows.pagingOffsetsRow.unfollowed == Try.checked.prog.unfollowed 16)) = true := by kernel_rfl
theorem fact11 : ((Rows.pagingOffsetsRow.recurses == Try.checked.prog.recurses 16)) = true := by kernel_rfl
theorem fact12 : ((Rows.pagingOffsetsRow.named == Try.checked.prog.varsNamed 16)) = true := by kernel_rfl
theorem fact13 : ((Rows.pagingOffsetsRow.maps == (Try.f16.params.toList ++ Rows.pagingOffsetsSpec.plain.varTypes Try.checked.prog).any (Try.checked.prog.mapsRec ·))) = true := by kernel_rfl
theorem fact14 : ((Rows.pagingOffsetsRow.ifaces == (Try.f16.params.toList ++ Rows.pagingOffsetsSpec.plain.varTypes Try.checked.prog).any (Try.checked.prog.ifacesRec ·))) = true := by kernel_rfl
theorem fact15 : ((Rows.pagingOffsetsRow.mapsOut == Try.checked.prog.mapsAmong Try.f16.resultTypes.toList)) = true := by kernel_rfl
theorem fact16 : ((Rows.pagingOffsetsRow.loops == (Try.f16.params.toList ++ Rows.pagingOffsetsSpec.plain.varTypes Try.checked.prog).any (Try.checked.prog.loopsFrom ·))) = true := by kernel_rfl
theorem fact17 : ((Rows.pagingOffsetsRow.wideKeys == (Try.f16.params.toList ++ Rows.pagingOffsetsSpec.plain.varTypes Try.checked.prog ++ Try.f16.resultTypes.toList).any (Try.checked.prog.wideKeysFrom ·))) = true := by kernel_rfl
theorem fact18 : (Rows.pagingOffsetsSpec.vars.all (Try.checked.prog.varReadable ·)) = true := by kernel_rfl
theorem fact19 : (Try.f16.resultTypes.all (fun t => Try.checked.prog.readableRec t && decide (t < Try.checked.prog.types.size))) = true := by kernel_rfl
theorem fact20 : ((Rows.pagingOffsetsRow.ifacesOut == Try.f16.resultTypes.toList.any (Try.checked.prog.ifacesRec ·))) = true := by kernel_rfl
theorem fact21 : ((Rows.pagingOffsetsRow.loopsOut == Try.f16.resultTypes.toList.any (Try.checked.prog.loopsFrom ·))) = true := by kernel_rfl
theorem fact22 : ((Rows.pagingOffsetsRow.plainKeys == Try.checked.prog.plainKeys)) = true := factP22
theorem fact23 : (Rows.pagingOffsetsRow.shortTexts.isNone) = true := by kernel_rfl
theorem fact26 : ((Rows.pagingOffsetsRow.lifted == Try.checked.prog.liftsFinal)) = true := factP26
theorem fact27 : ((Try.checked.prog.make == some Rows.pagingOffsetsRow.make)) = true := factP27
theorem fact28 : ((Rows.pagingOffsetsRow.kinds == (if Rows.pagingOffsetsRow.domain.isEmpty then [] else Try.f16.params.toList.map fun t => match Try.checked.prog.underlying t with | some (.int k) => some k | _ => none))) = true := by kernel_rfl
theorem fact29 : ((Rows.pagingOffsetsRow.pinned == Rows.pagingOffsetsRow.pinnedBy)) = true := by kernel_rfl
theorem fact30 : ((Rows.pagingOffsetsRow.veiled == (Try.f16.params.toList ++ Rows.pagingOffsetsSpec.plain.varTypes Try.checked.prog ++ Try.f16.resultTypes.toList).any (Try.checked.prog.veiledRec ·))) = true := by kernel_rfl
theorem fact31 : (Rows.pagingOffsetsRow.veiledFits Try.checked.prog Try.f16.params.toList (Try.f16.params.toList ++ Rows.pagingOffsetsSpec.plain.varTypes Try.checked.prog ++ Try.f16.resultTypes.toList)) = true := by kernel_rfl
set_option maxRecDepth 100000 in
theorem closed : joinedFacts Try.checked.prog 16 Try.f16 Rows.pagingOffsetsSpec Rows.pagingOffsetsRow = true := by
  unfold joinedFacts
  exact andT (andT (andT (andT (andT (andT (andT (andT (andT (andT (andT (andT (andT (andT (andT (andT (andT (andT (andT (andT (andT (andT (andT (andT (andT (andT (andT (andT (andT (andT (andT (fact0) factP1) factP2) fact3) fact4) fact5) factP6) fact7) factP8) fact9) fact10) fact11) fact12) fact13) fact14) fact15) fact16) fact17) fact18) fact19) fact20) fact21) fact22) fact23) factP24) factP25) fact26) fact27) fact28) fact29) fact30) fact31
theorem named : Try.checked.prog.funcNamed Rows.pagingOffsetsRow.func = some 16 := by kernel_rfl
end Go.Proofs.Ytmefbkfapeijgaa.pagingOffsets
