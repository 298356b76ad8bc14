/- The closed facts that the row of PagingLeads asks, each by itself. -/
import Derived.Test.YtmefbkfapeijgaaFactsP
namespace Go.Proofs.Ytmefbkfapeijgaa.pagingLeads
theorem fact0 : (Rows.pagingLeadsRow.wf (OpenSpec.ofChange Rows.pagingLeadsSpec)) = true := by kernel_rfl
theorem fact3 : (Try.f14.params.all (Try.checked.prog.readableRec ·)) = true := by kernel_rfl
theorem fact4 : (namedTie Try.checked.prog Rows.pagingLeadsRow.named Rows.pagingLeadsSpec.vars) = true := by kernel_rfl
theorem fact5 : ((Rows.pagingLeadsRow.stops == [])) = true := by kernel_rfl
theorem fact7 : ((Rows.pagingLeadsRow.knobs == [])) = true := by kernel_rfl
theorem fact9 : ((Rows.pagingLeadsRow.inPlace == Try.checked.prog.inPlace 14)) = true := by kernel_rfl
theorem fact10 : ((Rows.pagingLeadsRow.unfollowed == Try.checked.prog.unfollowed 14)) = true := by kernel_rfl
theorem fact11 : ((Rows.pagingLeadsRow.recurses == Try.checked.prog.recurses 14)) = true := by kernel_rfl
theorem fact12 : ((Rows.pagingLeadsRow.named == Try.checked.prog.varsNamed 14)) = true := by kernel_rfl
theorem fact13 : ((Rows.pagingLeadsRow.maps == (Try.f14.params.toList ++ Rows.pagingLeadsSpec.plain.varTypes Try.checked.prog).any (Try.checked.prog.mapsRec ·))) = true := by kernel_rfl
theorem fact14 : ((Rows.pagingLeadsRow.ifaces == (Try.f14.params.toList ++ Rows.pagingLeadsSpec.plain.varTypes Try.checked.prog).any (Try.checked.prog.ifacesRec ·))) = true := by kernel_rfl
theorem fact15 : ((Rows.pagingLeadsRow.mapsOut == Try.checked.prog.mapsAmong Try.f14.resultTypes.toList)) = true := by kernel_rfl
theorem fact16 : ((Rows.pagingLeadsRow.loops == (Try.f14.params.toList ++ Rows.pagingLeadsSpec.plain.varTypes Try.checked.prog).any (Try.checked.prog.loopsFrom ·))) = true := by kernel_rfl
theorem fact17 : ((Rows.pagingLeadsRow.wideKeys == (Try.f14.params.toList ++ Rows.pagingLeadsSpec.plain.varTypes Try.checked.prog ++ Try.f14.resultTypes.toList).any (Try.checked.prog.wideKeysFrom ·))) = true := by kernel_rfl
theorem fact18 : (Rows.pagingLeadsSpec.vars.all (Try.checked.prog.varReadable ·)) = true := by kernel_rfl
theorem fact19 : (Try.f14.resultTypes.all (fun t => Try.checked.prog.readableRec t && decide (t < Try.checked.prog.types.size))) = true := by kernel_rfl
theorem fact20 : ((Rows.pagingLeadsRow.ifacesOut == Try.f14.resultTypes.toList.any (Try.checked.prog.ifacesRec ·))) = true := by kernel_rfl
theorem fact21 : ((Rows.pagingLeadsRow.loopsOut == Try.f14.resultTypes.toList.any (Try.checked.prog.loopsFrom ·))) = true := by kernel_rfl
theorem fact22 : ((Rows.pagingLeadsRow.plainKeys == Try.checked.prog.plainKeys)) = true := factP22
theorem fact23 : (Rows.pagingLeadsRow.shortTexts.isNone) = true := by kernel_rfl
theorem fact26 : ((Rows.pagingLeadsRow.lifted == Try.checked.prog.liftsFinal)) = true := factP26
theorem fact27 : ((Try.checked.prog.make == some Rows.pagingLeadsRow.make)) = true := factP27
theorem fact28 : ((Rows.pagingLeadsRow.kinds == (if Rows.pagingLeadsRow.domain.isEmpty then [] else Try.f14.params.toList.map fun t => match Try.checked.prog.underlying t with | some (.int k) => some k | _ => none))) = true := by kernel_rfl
theorem fact29 : ((Rows.pagingLeadsRow.pinned == Rows.pagingLeadsRow.pinnedBy)) = true := by kernel_rfl
theorem fact30 : ((Rows.pagingLeadsRow.veiled == (Try.f14.params.toList ++ Rows.pagingLeadsSpec.plain.varTypes Try.checked.prog ++ Try.f14.resultTypes.toList).any (Try.checked.prog.veiledRec ·))) = true := by kernel_rfl
theorem fact31 : (Rows.pagingLeadsRow.veiledFits Try.checked.prog Try.f14.params.toList (Try.f14.params.toList ++ Rows.pagingLeadsSpec.plain.varTypes Try.checked.prog ++ Try.f14.resultTypes.toList)) = true := by kernel_rfl
set_option maxRecDepth 100000 in
theorem closed : joinedFacts Try.checked.prog 14 Try.f14 Rows.pagingLeadsSpec Rows.pagingLeadsRow = true := by
  unfold joinedFacts
  exact andT (andT (andT (andT (andT (andT (andT (andT (andT (andT (andT (andT (andT (andT (andT (andT (andT (andT (andT (andT (andT (andT (andT (andT (andT (andT (andT (andT (andT (andT (andT (fact0) factP1) factP2) fact3) fact4) fact5) factP6) fact7) factP8) fact9) fact10) fact11) fact12) fact13) fact14) fact15) fact16) fact17) fact18) fact19) fact20) fact21) fact22) fact23) factP24) factP25) fact26) fact27) fact28) fact29) fact30) fact31
theorem named : Try.checked.prog.funcNamed Rows.pagingLeadsRow.func = some 14 := by kernel_rfl
end Go.Proofs.Ytmefbkfapeijgaa.pagingLeads
