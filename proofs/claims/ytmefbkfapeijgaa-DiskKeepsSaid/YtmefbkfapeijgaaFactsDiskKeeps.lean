/- The closed facts that the row of DiskKeeps asks, each by itself. -/
import Derived.Test.YtmefbkfapeijgaaFactsP
namespace Go.Proofs.Ytmefbkfapeijgaa.diskKeeps
theorem fact0 : (Rows.diskKeepsRow.wf (OpenSpec.ofChange Rows.diskKeepsSpec)) = true := by kernel_rfl
theorem fact3 : (Try.f24.params.all (Try.checked.prog.readableRec ·)) = true := by kernel_rfl
theorem fact4 : (namedTie Try.checked.prog Rows.diskKeepsRow.named Rows.diskKeepsSpec.vars) = true := by kernel_rfl
theorem fact5 : ((Rows.diskKeepsRow.stops == [])) = true := by kernel_rfl
theorem fact7 : ((Rows.diskKeepsRow.knobs == [])) = true := by kernel_rfl
theorem fact9 : ((Rows.diskKeepsRow.inPlace == Try.checked.prog.inPlace 24)) = true := by kernel_rfl
theorem fact10 : ((Rows.diskKeepsRow.unfollowed == Try.checked.prog.unfollowed 24)) = true := by kernel_rfl
theorem fact11 : ((Rows.diskKeepsRow.recurses == Try.checked.prog.recurses 24)) = true := by kernel_rfl
theorem fact12 : ((Rows.diskKeepsRow.named == Try.checked.prog.varsNamed 24)) = true := by kernel_rfl
theorem fact13 : ((Rows.diskKeepsRow.maps == (Try.f24.params.toList ++ Rows.diskKeepsSpec.plain.varTypes Try.checked.prog).any (Try.checked.prog.mapsRec ·))) = true := by kernel_rfl
theorem fact14 : ((Rows.diskKeepsRow.ifaces == (Try.f24.params.toList ++ Rows.diskKeepsSpec.plain.varTypes Try.checked.prog).any (Try.checked.prog.ifacesRec ·))) = true := by kernel_rfl
theorem fact15 : ((Rows.diskKeepsRow.mapsOut == Try.checked.prog.mapsAmong Try.f24.resultTypes.toList)) = true := by kernel_rfl
theorem fact16 : ((Rows.diskKeepsRow.loops == (Try.f24.params.toList ++ Rows.diskKeepsSpec.plain.varTypes Try.checked.prog).any (Try.checked.prog.loopsFrom ·))) = true := by kernel_rfl
theorem fact17 : ((Rows.diskKeepsRow.wideKeys == (Try.f24.params.toList ++ Rows.diskKeepsSpec.plain.varTypes Try.checked.prog ++ Try.f24.resultTypes.toList).any (Try.checked.prog.wideKeysFrom ·))) = true := by kernel_rfl
theorem fact18 : (Rows.diskKeepsSpec.vars.all (Try.checked.prog.varReadable ·)) = true := by kernel_rfl
theorem fact19 : (Try.f24.resultTypes.all (fun t => Try.checked.prog.readableRec t && decide (t < Try.checked.prog.types.size))) = true := by kernel_rfl
theorem fact20 : ((Rows.diskKeepsRow.ifacesOut == Try.f24.resultTypes.toList.any (Try.checked.prog.ifacesRec ·))) = true := by kernel_rfl
theorem fact21 : ((Rows.diskKeepsRow.loopsOut == Try.f24.resultTypes.toList.any (Try.checked.prog.loopsFrom ·))) = true := by kernel_rfl
theorem fact22 : ((Rows.diskKeepsRow.plainKeys == Try.checked.prog.plainKeys)) = true := factP22
theorem fact23 : (Rows.diskKeepsRow.shortTexts.isNone) = true := by kernel_rfl
theorem fact26 : ((Rows.diskKeepsRow.lifted == Try.checked.prog.liftsFinal)) = true := factP26
theorem fact27 : ((Try.checked.prog.make == some Rows.diskKeepsRow.make)) = true := factP27
theorem fact28 : ((Rows.diskKeepsRow.kinds == (if Rows.diskKeepsRow.domain.isEmpty then [] else Try.f24.params.toList.map fun t => match Try.checked.prog.underlying t with | some (.int k) => some k | _ => none))) = true := by kernel_rfl
theorem fact29 : ((Rows.diskKeepsRow.pinned == Rows.diskKeepsRow.pinnedBy)) = true := by kernel_rfl
theorem fact30 : ((Rows.diskKeepsRow.veiled == (Try.f24.params.toList ++ Rows.diskKeepsSpec.plain.varTypes Try.checked.prog ++ Try.f24.resultTypes.toList).any (Try.checked.prog.veiledRec ·))) = true := by kernel_rfl
theorem fact31 : (Rows.diskKeepsRow.veiledFits Try.checked.prog Try.f24.params.toList (Try.f24.params.toList ++ Rows.diskKeepsSpec.plain.varTypes Try.checked.prog ++ Try.f24.resultTypes.toList)) = true := by kernel_rfl
set_option maxRecDepth 100000 in
theorem closed : joinedFacts Try.checked.prog 24 Try.f24 Rows.diskKeepsSpec Rows.diskKeepsRow = true := by
  unfold joinedFacts
  exact andT (andT (andT (andT (andT (andT (andT (andT (andT (andT (andT (andT (andT (andT (andT (andT (andT (andT (andT (andT (andT (andT (andT (andT (andT (andT (andT (andT (andT (andT (andT (fact0) factP1) factP2) fact3) fact4) fact5) factP6) fact7) factP8) fact9) fact10) fact11) fact12) fact13) fact14) fact15) fact16) fact17) fact18) fact19) fact20) fact21) fact22) fact23) factP24) factP25) fact26) fact27) fact28) fact29) fact30) fact31
theorem named : Try.checked.prog.funcNamed Rows.diskKeepsRow.func = some 24 := by kernel_rfl
end Go.Proofs.Ytmefbkfapeijgaa.diskKeeps
