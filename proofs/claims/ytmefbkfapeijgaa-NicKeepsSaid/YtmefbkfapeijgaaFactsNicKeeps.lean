/- The closed facts that the row of NicKeeps asks, each by itself. -/
import Derived.Test.YtmefbkfapeijgaaFactsP
namespace Go.Proofs.Ytmefbkfapeijgaa.nicKeeps
theorem fact0 : (Rows.nicKeepsRow.wf (OpenSpec.ofChange Rows.nicKeepsSpec)) = true := by kernel_rfl
theorem fact3 : (Try.f20.params.all (Try.checked.prog.readableRec ·)) = true := by kernel_rfl
theorem fact4 : (namedTie Try.checked.prog Rows.nicKeepsRow.named Rows.nicKeepsSpec.vars) = true := by kernel_rfl
theorem fact5 : ((Rows.nicKeepsRow.stops == [])) = true := by kernel_rfl
theorem fact7 : ((Rows.nicKeepsRow.knobs == [])) = true := by kernel_rfl
theorem fact9 : ((Rows.nicKeepsRow.inPlace == Try.checked.prog.inPlace 20)) = true := by kernel_rfl
theorem fact10 : ((Rows.nicKeepsRow.unfollowed == Try.checked.prog.unfollowed 20)) = true := by kernel_rfl
theorem fact11 : ((Rows.nicKeepsRow.recurses == Try.checked.prog.recurses 20)) = true := by kernel_rfl
theorem fact12 : ((Rows.nicKeepsRow.named == Try.checked.prog.varsNamed 20)) = true := by kernel_rfl
theorem fact13 : ((Rows.nicKeepsRow.maps == (Try.f20.params.toList ++ Rows.nicKeepsSpec.plain.varTypes Try.checked.prog).any (Try.checked.prog.mapsRec ·))) = true := by kernel_rfl
theorem fact14 : ((Rows.nicKeepsRow.ifaces == (Try.f20.params.toList ++ Rows.nicKeepsSpec.plain.varTypes Try.checked.prog).any (Try.checked.prog.ifacesRec ·))) = true := by kernel_rfl
theorem fact15 : ((Rows.nicKeepsRow.mapsOut == Try.checked.prog.mapsAmong Try.f20.resultTypes.toList)) = true := by kernel_rfl
theorem fact16 : ((Rows.nicKeepsRow.loops == (Try.f20.params.toList ++ Rows.nicKeepsSpec.plain.varTypes Try.checked.prog).any (Try.checked.prog.loopsFrom ·))) = true := by kernel_rfl
theorem fact17 : ((Rows.nicKeepsRow.wideKeys == (Try.f20.params.toList ++ Rows.nicKeepsSpec.plain.varTypes Try.checked.prog ++ Try.f20.resultTypes.toList).any (Try.checked.prog.wideKeysFrom ·))) = true := by kernel_rfl
theorem fact18 : (Rows.nicKeepsSpec.vars.all (Try.checked.prog.varReadable ·)) = true := by kernel_rfl
theorem fact19 : (Try.f20.resultTypes.all (fun t => Try.checked.prog.readableRec t && decide (t < Try.checked.prog.types.size))) = true := by kernel_rfl
theorem fact20 : ((Rows.nicKeepsRow.ifacesOut == Try.f20.resultTypes.toList.any (Try.checked.prog.ifacesRec ·))) = true := by kernel_rfl
theorem fact21 : ((Rows.nicKeepsRow.loopsOut == Try.f20.resultTypes.toList.any (Try.checked.prog.loopsFrom ·))) = true := by kernel_rfl
theorem fact22 : ((Rows.nicKeepsRow.plainKeys == Try.checked.prog.plainKeys)) = true := factP22
theorem fact23 : (Rows.nicKeepsRow.shortTexts.isNone) = true := by kernel_rfl
theorem fact26 : ((Rows.nicKeepsRow.lifted == Try.checked.prog.liftsFinal)) = true := factP26
theorem fact27 : ((Try.checked.prog.make == some Rows.nicKeepsRow.make)) = true := factP27
theorem fact28 : ((Rows.nicKeepsRow.kinds == (if Rows.nicKeepsRow.domain.isEmpty then [] else Try.f20.params.toList.map fun t => match Try.checked.prog.underlying t with | some (.int k) => some k | _ => none))) = true := by kernel_rfl
theorem fact29 : ((Rows.nicKeepsRow.pinned == Rows.nicKeepsRow.pinnedBy)) = true := by kernel_rfl
theorem fact30 : ((Rows.nicKeepsRow.veiled == (Try.f20.params.toList ++ Rows.nicKeepsSpec.plain.varTypes Try.checked.prog ++ Try.f20.resultTypes.toList).any (Try.checked.prog.veiledRec ·))) = true := by kernel_rfl
theorem fact31 : (Rows.nicKeepsRow.veiledFits Try.checked.prog Try.f20.params.toList (Try.f20.params.toList ++ Rows.nicKeepsSpec.plain.varTypes Try.checked.prog ++ Try.f20.resultTypes.toList)) = true := by kernel_rfl
set_option maxRecDepth 100000 in
theorem closed : joinedFacts Try.checked.prog 20 Try.f20 Rows.nicKeepsSpec Rows.nicKeepsRow = true := by
  unfold joinedFacts
  exact andT (andT (andT (andT (andT (andT (andT (andT (andT (andT (andT (andT (andT (andT (andT (andT (andT (andT (andT (andT (andT (andT (andT (andT (andT (andT (andT (andT (andT (andT (andT (fact0) factP1) factP2) fact3) fact4) fact5) factP6) fact7) factP8) fact9) fact10) fact11) fact12) fact13) fact14) fact15) fact16) fact17) fact18) fact19) fact20) fact21) fact22) fact23) factP24) factP25) fact26) fact27) fact28) fact29) fact30) fact31
theorem named : Try.checked.prog.funcNamed Rows.nicKeepsRow.func = some 20 := by kernel_rfl
end Go.Proofs.Ytmefbkfapeijgaa.nicKeeps
