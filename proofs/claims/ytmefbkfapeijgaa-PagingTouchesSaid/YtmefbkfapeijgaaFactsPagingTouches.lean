/- The closed facts that the row of PagingTouches asks, each by itself. -/
import Derived.Test.YtmefbkfapeijgaaFactsP
namespace Go.Proofs.Ytmefbkfapeijgaa.pagingTouches
theorem fact0 : (Rows.pagingTouchesRow.wf (OpenSpec.ofChange Rows.pagingTouchesSpec)) = true := by kernel_rfl
theorem fact3 : (Try.f18.params.all (Try.checked.prog.readableRec ·)) = true := by kernel_rfl
theorem fact4 : (namedTie Try.checked.prog Rows.pagingTouchesRow.named Rows.pagingTouchesSpec.vars) = true := by kernel_rfl
theorem fact5 : ((Rows.pagingTouchesRow.stops == [])) = true := by kernel_rfl
theorem fact7 : ((Rows.pagingTouchesRow.knobs == [])) = true := by kernel_rfl
theorem fact9 : ((Rows.pagingTouchesRow.inPlace == Try.checked.prog.inPlace 18)) = true := by kernel_rfl
theorem fact10 : ((Rows.pagingTouchesRow.unfollowed == Try.checked.prog.unfollowed 18)) = true := by kernel_rfl
theorem fact11 : ((Rows.pagingTouchesRow.recurses == Try.checked.prog.recurses 18)) = true := by kernel_rfl
theorem fact12 : ((Rows.pagingTouchesRow.named == Try.checked.prog.varsNamed 18)) = true := by kernel_rfl
theorem fact13 : ((Rows.pagingTouchesRow.maps == (Try.f18.params.toList ++ Rows.pagingTouchesSpec.plain.varTypes Try.checked.prog).any (Try.checked.prog.mapsRec ·))) = true := by kernel_rfl
theorem fact14 : ((Rows.pagingTouchesRow.ifaces == (Try.f18.params.toList ++ Rows.pagingTouchesSpec.plain.varTypes Try.checked.prog).any (Try.checked.prog.ifacesRec ·))) = true := by kernel_rfl
theorem fact15 : ((Rows.pagingTouchesRow.mapsOut == Try.checked.prog.mapsAmong Try.f18.resultTypes.toList)) = true := by kernel_rfl
theorem fact16 : ((Rows.pagingTouchesRow.loops == (Try.f18.params.toList ++ Rows.pagingTouchesSpec.plain.varTypes Try.checked.prog).any (Try.checked.prog.loopsFrom ·))) = true := by kernel_rfl
theorem fact17 : ((Rows.pagingTouchesRow.wideKeys == (Try.f18.params.toList ++ Rows.pagingTouchesSpec.plain.varTypes Try.checked.prog ++ Try.f18.resultTypes.toList).any (Try.checked.prog.wideKeysFrom ·))) = true := by kernel_rfl
theorem fact18 : (Rows.pagingTouchesSpec.vars.all (Try.checked.prog.varReadable ·)) = true := by kernel_rfl
theorem fact19 : (Try.f18.resultTypes.all (fun t => Try.checked.prog.readableRec t && decide (t < Try.checked.prog.types.size))) = true := by kernel_rfl
theorem fact20 : ((Rows.pagingTouchesRow.ifacesOut == Try.f18.resultTypes.toList.any (Try.checked.prog.ifacesRec ·))) = true := by kernel_rfl
theorem fact21 : ((Rows.pagingTouchesRow.loopsOut == Try.f18.resultTypes.toList.any (Try.checked.prog.loopsFrom ·))) = true := by kernel_rfl
theorem fact22 : ((Rows.pagingTouchesRow.plainKeys == Try.checked.prog.plainKeys)) = true := factP22
theorem fact23 : (Rows.pagingTouchesRow.shortTexts.isNone) = true := by kernel_rfl
theorem fact26 : ((Rows.pagingTouchesRow.lifted == Try.checked.prog.liftsFinal)) = true := factP26
theorem fact27 : ((Try.checked.prog.make == some Rows.pagingTouchesRow.make)) = true := factP27
theorem fact28 : ((Rows.pagingTouchesRow.kinds == (if Rows.pagingTouchesRow.domain.isEmpty then [] else Try.f18.params.toList.map fun t => match Try.checked.prog.underlying t with | some (.int k) => some k | _ => none))) = true := by kernel_rfl
theorem fact29 : ((Rows.pagingTouchesRow.pinned == Rows.pagingTouchesRow.pinnedBy)) = true := by kernel_rfl
theorem fact30 : ((Rows.pagingTouchesRow.veiled == (Try.f18.params.toList ++ Rows.pagingTouchesSpec.plain.varTypes Try.checked.prog ++ Try.f18.resultTypes.toList).any (Try.checked.prog.veiledRec ·))) = true := by kernel_rfl
theorem fact31 : (Rows.pagingTouchesRow.veiledFits Try.checked.prog Try.f18.params.toList (Try.f18.params.toList ++ Rows.pagingTouchesSpec.plain.varTypes Try.checked.prog ++ Try.f18.resultTypes.toList)) = true := by kernel_rfl
set_option maxRecDepth 100000 in
theorem closed : joinedFacts Try.checked.prog 18 Try.f18 Rows.pagingTouchesSpec Rows.pagingTouchesRow = true := by
  unfold joinedFacts
  exact andT (andT (andT (andT (andT (andT (andT (andT (andT (andT (andT (andT (andT (andT (andT (andT (andT (andT (andT (andT (andT (andT (andT (andT (andT (andT (andT (andT (andT (andT (andT (fact0) factP1) factP2) fact3) fact4) fact5) factP6) fact7) factP8) fact9) fact10) fact11) fact12) fact13) fact14) fact15) fact16) fact17) fact18) fact19) fact20) fact21) fact22) fact23) factP24) factP25) fact26) fact27) fact28) fact29) fact30) fact31
theorem named : Try.checked.prog.funcNamed Rows.pagingTouchesRow.func = some 18 := by kernel_rfl
end Go.Proofs.Ytmefbkfapeijgaa.pagingTouches
