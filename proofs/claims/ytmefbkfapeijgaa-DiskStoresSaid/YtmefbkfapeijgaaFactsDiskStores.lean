/- The closed facts that the row of DiskStores asks, each by itself. -/
import Derived.Test.YtmefbkfapeijgaaFactsP
namespace Go.Proofs.Ytmefbkfapeijgaa.diskStores
theorem fact0 : (Rows.diskStoresRow.wf (OpenSpec.ofChange Rows.diskStoresSpec)) = true := by kernel_rfl
theorem fact3 : (Try.f17.params.all (Try.checked.prog.readableRec ·)) = true := by kernel_rfl
theorem fact4 : (namedTie Try.checked.prog Rows.diskStoresRow.named Rows.diskStoresSpec.vars) = true := by kernel_rfl
theorem fact5 : ((Rows.diskStoresRow.stops == [])) = true := by kernel_rfl
theorem fact7 : ((Rows.diskStoresRow.knobs == [])) = true := by kernel_rfl
theorem fact9 : ((Rows.diskStoresRow.inPlace == Try.checked.prog.inPlace 17)) = true := by kernel_rfl
theorem fact10 : ((Rows.diskStoresRow.unfollowed == Try.checked.prog.unfollowed 17)) = true := by kernel_rfl
theorem fact11 : ((Rows.diskStoresRow.recurses == Try.checked.prog.recurses 17)) = true := by kernel_rfl
theorem fact12 : ((Rows.diskStoresRow.named == Try.checked.prog.varsNamed 17)) = true := by kernel_rfl
theorem fact13 : ((Rows.diskStoresRow.maps == (Try.f17.params.toList ++ Rows.diskStoresSpec.plain.varTypes Try.checked.prog).any (Try.checked.prog.mapsRec ·))) = true := by kernel_rfl
theorem fact14 : ((Rows.diskStoresRow.ifaces == (Try.f17.params.toList ++ Rows.diskStoresSpec.plain.varTypes Try.checked.prog).any (Try.checked.prog.ifacesRec ·))) = true := by kernel_rfl
theorem fact15 : ((Rows.diskStoresRow.mapsOut == Try.checked.prog.mapsAmong Try.f17.resultTypes.toList)) = true := by kernel_rfl
theorem fact16 : ((Rows.diskStoresRow.loops == (Try.f17.params.toList ++ Rows.diskStoresSpec.plain.varTypes Try.checked.prog).any (Try.checked.prog.loopsFrom ·))) = true := by kernel_rfl
theorem fact17 : ((Rows.diskStoresRow.wideKeys == (Try.f17.params.toList ++ Rows.diskStoresSpec.plain.varTypes Try.checked.prog ++ Try.f17.resultTypes.toList).any (Try.checked.prog.wideKeysFrom ·))) = true := by kernel_rfl
theorem fact18 : (Rows.diskStoresSpec.vars.all (Try.checked.prog.varReadable ·)) = true := by kernel_rfl
theorem fact19 : (Try.f17.resultTypes.all (fun t => Try.checked.prog.readableRec t && decide (t < Try.checked.prog.types.size))) = true := by kernel_rfl
theorem fact20 : ((Rows.diskStoresRow.ifacesOut == Try.f17.resultTypes.toList.any (Try.checked.prog.ifacesRec ·))) = true := by kernel_rfl
theorem fact21 : ((Rows.diskStoresRow.loopsOut == Try.f17.resultTypes.toList.any (Try.checked.prog.loopsFrom ·))) = true := by kernel_rfl
theorem fact22 : ((Rows.diskStoresRow.plainKeys == Try.checked.prog.plainKeys)) = true := factP22
theorem fact23 : (Rows.diskStoresRow.shortTexts.isNone) = true := by kernel_rfl
theorem fact26 : ((Rows.diskStoresRow.lifted == Try.checked.prog.liftsFinal)) = true := factP26
theorem fact27 : ((Try.checked.prog.make == some Rows.diskStoresRow.make)) = true := factP27
theorem fact28 : ((Rows.diskStoresRow.kinds == (if Rows.diskStoresRow.domain.isEmpty then [] else Try.f17.params.toList.map fun t => match Try.checked.prog.underlying t with | some (.int k) => some k | _ => none))) = true := by kernel_rfl
theorem fact29 : ((Rows.diskStoresRow.pinned == Rows.diskStoresRow.pinnedBy)) = true := by kernel_rfl
theorem fact30 : ((Rows.diskStoresRow.veiled == (Try.f17.params.toList ++ Rows.diskStoresSpec.plain.varTypes Try.checked.prog ++ Try.f17.resultTypes.toList).any (Try.checked.prog.veiledRec ·))) = true := by kernel_rfl
theorem fact31 : (Rows.diskStoresRow.veiledFits Try.checked.prog Try.f17.params.toList (Try.f17.params.toList ++ Rows.diskStoresSpec.plain.varTypes Try.checked.prog ++ Try.f17.resultTypes.toList)) = true := by kernel_rfl
set_option maxRecDepth 100000 in
theorem closed : joinedFacts Try.checked.prog 17 Try.f17 Rows.diskStoresSpec Rows.diskStoresRow = true := by
  unfold joinedFacts
  exact andT (andT (andT (andT (andT (andT (andT (andT (andT (andT (andT (andT (andT (andT (andT (andT (andT (andT (andT (andT (andT (andT (andT (andT (andT (andT (andT (andT (andT (andT (andT (fact0) factP1) factP2) fact3) fact4) fact5) factP6) fact7) factP8) fact9) fact10) fact11) fact12) fact13) fact14) fact15) fact16) fact17) fact18) fact19) fact20) fact21) fact22) fact23) factP24) factP25) fact26) fact27) fact28) fact29) fact30) fact31
theorem named : Try.checked.prog.funcNamed Rows.diskStoresRow.func = some 17 := by kernel_rfl
end Go.Proofs.Ytmefbkfapeijgaa.diskStores
