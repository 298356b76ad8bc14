/- The closed facts that the row of NicReceives asks, each by itself. -/
import Derived.Test.YtmefbkfapeijgaaFactsP
namespace Go.Proofs.Ytmefbkfapeijgaa.nicReceives
theorem fact0 : (Rows.nicReceivesRow.wf (OpenSpec.ofChange Rows.nicReceivesSpec)) = true := by kernel_rfl
theorem fact3 : (Try.f19.params.all (Try.checked.prog.readableRec ·)) = true := by kernel_rfl
theorem fact4 : (namedTie Try.checked.prog Rows.nicReceivesRow.named Rows.nicReceivesSpec.vars) = true := by kernel_rfl
theorem fact5 : ((Rows.nicReceivesRow.stops == [])) = true := by kernel_rfl
theorem fact7 : ((Rows.nicReceivesRow.knobs == [])) = true := by kernel_rfl
theorem fact9 : ((Rows.nicReceivesRow.inPlace == Try.checked.prog.inPlace 19)) = true := by kernel_rfl
theorem fact10 : ((Rows.nicReceivesRow.unfollowed == Try.checked.prog.unfollowed 19)) = true := by kernel_rfl
theorem fact11 : ((Rows.nicReceivesRow.recurses == Try.checked.prog.recurses 19)) = true := by kernel_rfl
theorem fact12 : ((Rows.nicReceivesRow.named == Try.checked.prog.varsNamed 19)) = true := by kernel_rfl
theorem fact13 : ((Rows.nicReceivesRow.maps == (Try.f19.params.toList ++ Rows.nicReceivesSpec.plain.varTypes Try.checked.prog).any (Try.checked.prog.mapsRec ·))) = true := by kernel_rfl
theorem fact14 : ((Rows.nicReceivesRow.ifaces == (Try.f19.params.toList ++ Rows.nicReceivesSpec.plain.varTypes Try.checked.prog).any (Try.checked.prog.ifacesRec ·))) = true := by kernel_rfl
theorem fact15 : ((Rows.nicReceivesRow.mapsOut == Try.checked.prog.mapsAmong Try.f19.resultTypes.toList)) = true := by kernel_rfl
theorem fact16 : ((Rows.nicReceivesRow.loops == (Try.f19.params.toList ++ Rows.nicReceivesSpec.plain.varTypes Try.checked.prog).any (Try.checked.prog.loopsFrom ·))) = true := by kernel_rfl
theorem fact17 : ((Rows.nicReceivesRow.wideKeys == (Try.f19.params.toList ++ Rows.nicReceivesSpec.plain.varTypes Try.checked.prog ++ Try.f19.resultTypes.toList).any (Try.checked.prog.wideKeysFrom ·))) = true := by kernel_rfl
theorem fact18 : (Rows.nicReceivesSpec.vars.all (Try.checked.prog.varReadable ·)) = true := by kernel_rfl
theorem fact19 : (Try.f19.resultTypes.all (fun t => Try.checked.prog.readableRec t && decide (t < Try.checked.prog.types.size))) = true := by kernel_rfl
theorem fact20 : ((Rows.nicReceivesRow.ifacesOut == Try.f19.resultTypes.toList.any (Try.checked.prog.ifacesRec ·))) = true := by kernel_rfl
theorem fact21 : ((Rows.nicReceivesRow.loopsOut == Try.f19.resultTypes.toList.any (Try.checked.prog.loopsFrom ·))) = true := by kernel_rfl
theorem fact22 : ((Rows.nicReceivesRow.plainKeys == Try.checked.prog.plainKeys)) = true := factP22
theorem fact23 : (Rows.nicReceivesRow.shortTexts.isNone) = true := by kernel_rfl
theorem fact26 : ((Rows.nicReceivesRow.lifted == Try.checked.prog.liftsFinal)) = true := factP26
theorem fact27 : ((Try.checked.prog.make == some Rows.nicReceivesRow.make)) = true := factP27
theorem fact28 : ((Rows.nicReceivesRow.kinds == (if Rows.nicReceivesRow.domain.isEmpty then [] else Try.f19.params.toList.map fun t => match Try.checked.prog.underlying t with | some (.int k) => some k | _ => none))) = true := by kernel_rfl
theorem fact29 : ((Rows.nicReceivesRow.pinned == Rows.nicReceivesRow.pinnedBy)) = true := by kernel_rfl
theorem fact30 : ((Rows.nicReceivesRow.veiled == (Try.f19.params.toList ++ Rows.nicReceivesSpec.plain.varTypes Try.checked.prog ++ Try.f19.resultTypes.toList).any (Try.checked.prog.veiledRec ·))) = true := by kernel_rfl
theorem fact31 : (Rows.nicReceivesRow.veiledFits Try.checked.prog Try.f19.params.toList (Try.f19.params.toList ++ Rows.nicReceivesSpec.plain.varTypes Try.checked.prog ++ Try.f19.resultTypes.toList)) = true := by kernel_rfl
set_option maxRecDepth 100000 in
theorem closed : joinedFacts Try.checked.prog 19 Try.f19 Rows.nicReceivesSpec Rows.nicReceivesRow = true := by
  unfold joinedFacts
  exact andT (andT (andT (andT (andT (andT (andT (andT (andT (andT (andT (andT (andT (andT (andT (andT (andT (andT (andT (andT (andT (andT (andT (andT (andT (andT (andT (andT (andT (andT (andT (fact0) factP1) factP2) fact3) fact4) fact5) factP6) fact7) factP8) fact9) fact10) fact11) fact12) fact13) fact14) fact15) fact16) fact17) fact18) fact19) fact20) fact21) fact22) fact23) factP24) factP25) fact26) fact27) fact28) fact29) fact30) fact31
theorem named : Try.checked.prog.funcNamed Rows.nicReceivesRow.func = some 19 := by kernel_rfl
end Go.Proofs.Ytmefbkfapeijgaa.nicReceives
