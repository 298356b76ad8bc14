/- The closed facts that the row of DiskCompletes asks, each by itself. -/
import Derived.Test.YtmefbkfapeijgaaFactsP
namespace Go.Proofs.Ytmefbkfapeijgaa.diskCompletes
theorem fact0 : (Rows.diskCompletesRow.wf (OpenSpec.ofChange Rows.diskCompletesSpec)) = true := by kernel_rfl
theorem fact3 : (Try.f23.params.all (Try.checked.prog.readableRec ·)) = true := by kernel_rfl
theorem fact4 : (namedTie Try.checked.prog Rows.diskCompletesRow.named Rows.diskCompletesSpec.vars) = true := by kernel_rfl
theorem fact5 : ((Rows.diskCompletesRow.stops == [])) = true := by kernel_rfl
theorem fact7 : ((Rows.diskCompletesRow.knobs == [])) = true := by kernel_rfl
theorem fact9 : ((Rows.diskCompletesRow.inPlace == Try.checked.prog.inPlace 23)) = true := by kernel_rfl
theorem fact10 : ((Rows.diskCompletesRow.unfollowed == Try.checked.prog.unfollowed 23)) = true := by kernel_rfl
theorem fact11 : ((Rows.diskCompletesRow.recurses == Try.checked.prog.recurses 23)) = true := by kernel_rfl
theorem fact12 : ((Rows.diskCompletesRow.named == Try.checked.prog.varsNamed 23)) = true := by kernel_rfl
theorem fact13 : ((Rows.diskCompletesRow.maps == (Try.f23.params.toList ++ Rows.diskCompletesSpec.plain.varTypes Try.checked.prog).any (Try.checked.prog.mapsRec ·))) = true := by kernel_rfl
theorem fact14 : ((Rows.diskCompletesRow.ifaces == (Try.f23.params.toList ++ Rows.diskCompletesSpec.plain.varTypes Try.checked.prog).any (Try.checked.prog.ifacesRec ·))) = true := by kernel_rfl
theorem fact15 : ((Rows.diskCompletesRow.mapsOut == Try.checked.prog.mapsAmong Try.f23.resultTypes.toList)) = true := by kernel_rfl
theorem fact16 : ((Rows.diskCompletesRow.loops == (Try.f23.params.toList ++ Rows.diskCompletesSpec.plain.varTypes Try.checked.prog).any (Try.checked.prog.loopsFrom ·))) = true := by kernel_rfl
theorem fact17 : ((Rows.diskCompletesRow.wideKeys == (Try.f23.params.toList ++ Rows.diskCompletesSpec.plain.varTypes Try.checked.prog ++ Try.f23.resultTypes.toList).any (Try.checked.prog.wideKeysFrom ·))) = true := by kernel_rfl
theorem fact18 : (Rows.diskCompletesSpec.vars.all (Try.checked.prog.varReadable ·)) = true := by kernel_rfl
theorem fact19 : (Try.f23.resultTypes.all (fun t => Try.checked.prog.readableRec t && decide (t < Try.checked.prog.types.size))) = true := by kernel_rfl
theorem fact20 : ((Rows.diskCompletesRow.ifacesOut == Try.f23.resultTypes.toList.any (Try.checked.prog.ifacesRec ·))) = true := by kernel_rfl
theorem fact21 : ((Rows.diskCompletesRow.loopsOut == Try.f23.resultTypes.toList.any (Try.checked.prog.loopsFrom ·))) = true := by kernel_rfl
theorem fact22 : ((Rows.diskCompletesRow.plainKeys == Try.checked.prog.plainKeys)) = true := factP22
theorem fact23 : (Rows.diskCompletesRow.shortTexts.isNone) = true := by kernel_rfl
theorem fact26 : ((Rows.diskCompletesRow.lifted == Try.checked.prog.liftsFinal)) = true := factP26
theorem fact27 : ((Try.checked.prog.make == some Rows.diskCompletesRow.make)) = true := factP27
theorem fact28 : ((Rows.diskCompletesRow.kinds == (if Rows.diskCompletesRow.domain.isEmpty then [] else Try.f23.params.toList.map fun t => match Try.checked.prog.underlying t with | some (.int k) => some k | _ => none))) = true := by kernel_rfl
theorem fact29 : ((Rows.diskCompletesRow.pinned == Rows.diskCompletesRow.pinnedBy)) = true := by kernel_rfl
theorem fact30 : ((Rows.diskCompletesRow.veiled == (Try.f23.params.toList ++ Rows.diskCompletesSpec.plain.varTypes Try.checked.prog ++ Try.f23.resultTypes.toList).any (Try.checked.prog.veiledRec ·))) = true := by kernel_rfl
theorem fact31 : (Rows.diskCompletesRow.veiledFits Try.checked.prog Try.f23.params.toList (Try.f23.params.toList ++ Rows.diskCompletesSpec.plain.varTypes Try.checked.prog ++ Try.f23.resultTypes.toList)) = true := by kernel_rfl
set_option maxRecDepth 100000 in
theorem closed : joinedFacts Try.checked.prog 23 Try.f23 Rows.diskCompletesSpec Rows.diskCompletesRow = true := by
  unfold joinedFacts
  exact andT (andT (andT (andT (andT (andT (andT (andT (andT (andT (andT (andT (andT (andT (andT (andT (andT (andT (andT (andT (andT (andT (andT (andT (andT (andT (andT (andT (andT (andT (andT (fact0) factP1) factP2) fact3) fact4) fact5) factP6) fact7) factP8) fact9) fact10) fact11) fact12) fact13) fact14) fact15) fact16) fact17) fact18) fact19) fact20) fact21) fact22) fact23) factP24) factP25) fact26) fact27) fact28) fact29) fact30) fact31
theorem named : Try.checked.prog.funcNamed Rows.diskCompletesRow.func = some 23 := by kernel_rfl
end Go.Proofs.Ytmefbkfapeijgaa.diskCompletes
