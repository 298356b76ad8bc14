/- The closed facts that the row of PagingSeparate asks, each by itself. -/
import Derived.Test.YtmefbkfapeijgaaFactsP
namespace Go.Proofs.Ytmefbkfapeijgaa.pagingSeparate
theorem fact0 : (Rows.pagingSeparateRow.wf (OpenSpec.ofChange Rows.pagingSeparateSpec)) = true := by kernel_rfl
theorem fact3 : (Try.f15.params.all (Try.checked.prog.readableRec ·)) = true := by kernel_rfl
theorem fact4 : (namedTie Try.checked.prog Rows.pagingSeparateRow.named Rows.pagingSeparateSpec.vars) = true := by kernel_rfl
theorem fact5 : ((Rows.pagingSeparateRow.stops == [])) = true := by kernel_rfl
theorem fact7 : ((Rows.pagingSeparateRow.knobs == [])) = true := by kernel_rfl
theorem fact9 : ((Rows.pagingSeparateRow.inPlace == Try.checked.prog.inPlace 15)) = true := by kernel_rfl
theorem fact10 : ((Rows.pagingSeparateRow.unfollowed == Try.checked.prog.unfollowed 15)) = true := by kernel_rfl
theorem fact11 : ((Rows.pagingSeparateRow.recurses == Try.checked.prog.recurses 15)) = true := by kernel_rfl
theorem fact12 : ((Rows.pagingSeparateRow.named == Try.checked.prog.varsNamed 15)) = true := by kernel_rfl
theorem fact13 : ((Rows.pagingSeparateRow.maps == (Try.f15.params.toList ++ Rows.pagingSeparateSpec.plain.varTypes Try.checked.prog).any (Try.checked.prog.mapsRec ·))) = true := by kernel_rfl
theorem fact14 : ((Rows.pagingSeparateRow.ifaces == (Try.f15.params.toList ++ Rows.pagingSeparateSpec.plain.varTypes Try.checked.prog).any (Try.checked.prog.ifacesRec ·))) = true := by kernel_rfl
theorem fact15 : ((Rows.pagingSeparateRow.mapsOut == Try.checked.prog.mapsAmong Try.f15.resultTypes.toList)) = true := by kernel_rfl
theorem fact16 : ((Rows.pagingSeparateRow.loops == (Try.f15.params.toList ++ Rows.pagingSeparateSpec.plain.varTypes Try.checked.prog).any (Try.checked.prog.loopsFrom ·))) = true := by kernel_rfl
theorem fact17 : ((Rows.pagingSeparateRow.wideKeys == (Try.f15.params.toList ++ Rows.pagingSeparateSpec.plain.varTypes Try.checked.prog ++ Try.f15.resultTypes.toList).any (Try.checked.prog.wideKeysFrom ·))) = true := by kernel_rfl
theorem fact18 : (Rows.pagingSeparateSpec.vars.all (Try.checked.prog.varReadable ·)) = true := by kernel_rfl
theorem fact19 : (Try.f15.resultTypes.all (fun t => Try.checked.prog.readableRec t && decide (t < Try.checked.prog.types.size))) = true := by kernel_rfl
theorem fact20 : ((Rows.pagingSeparateRow.ifacesOut == Try.f15.resultTypes.toList.any (Try.checked.prog.ifacesRec ·))) = true := by kernel_rfl
theorem fact21 : ((Rows.pagingSeparateRow.loopsOut == Try.f15.resultTypes.toList.any (Try.checked.prog.loopsFrom ·))) = true := by kernel_rfl
theorem fact22 : ((Rows.pagingSeparateRow.plainKeys == Try.checked.prog.plainKeys)) = true := factP22
theorem fact23 : (Rows.pagingSeparateRow.shortTexts.isNone) = true := by kernel_rfl
theorem fact26 : ((Rows.pagingSeparateRow.lifted == Try.checked.prog.liftsFinal)) = true := factP26
theorem fact27 : ((Try.checked.prog.make == some Rows.pagingSeparateRow.make)) = true := factP27
theorem fact28 : ((Rows.pagingSeparateRow.kinds == (if Rows.pagingSeparateRow.domain.isEmpty then [] else Try.f15.params.toList.map fun t => match Try.checked.prog.underlying t with | some (.int k) => some k | _ => none))) = true := by kernel_rfl
theorem fact29 : ((Rows.pagingSeparateRow.pinned == Rows.pagingSeparateRow.pinnedBy)) = true := by kernel_rfl
theorem fact30 : ((Rows.pagingSeparateRow.veiled == (Try.f15.params.toList ++ Rows.pagingSeparateSpec.plain.varTypes Try.checked.prog ++ Try.f15.resultTypes.toList).any (Try.checked.prog.veiledRec ·))) = true := by kernel_rfl
theorem fact31 : (Rows.pagingSeparateRow.veiledFits Try.checked.prog Try.f15.params.toList (Try.f15.params.toList ++ Rows.pagingSeparateSpec.plain.varTypes Try.checked.prog ++ Try.f15.resultTypes.toList)) = true := by kernel_rfl
set_option maxRecDepth 100000 in
theorem closed : joinedFacts Try.checked.prog 15 Try.f15 Rows.pagingSeparateSpec Rows.pagingSeparateRow = true := by
  unfold joinedFacts
  exact andT (andT (andT (andT (andT (andT (andT (andT (andT (andT (andT (andT (andT (andT (andT (andT (andT (andT (andT (andT (andT (andT (andT (andT (andT (andT (andT (andT (andT (andT (andT (fact0) factP1) factP2) fact3) fact4) fact5) factP6) fact7) factP8) fact9) fact10) fact11) fact12) fact13) fact14) fact15) fact16) fact17) fact18) fact19) fact20) fact21) fact22) fact23) factP24) factP25) fact26) fact27) fact28) fact29) fact30) fact31
theorem named : Try.checked.prog.funcNamed Rows.pagingSeparateRow.func = some 15 := by kernel_rfl
end Go.Proofs.Ytmefbkfapeijgaa.pagingSeparate
