/- The closed facts that the row of NicSends asks, each by itself. -/
import Derived.Test.YtmefbkfapeijgaaFactsP
namespace Go.Proofs.Ytmefbkfapeijgaa.nicSends
theorem fact0 : (Rows.nicSendsRow.wf (OpenSpec.ofChange Rows.nicSendsSpec)) = true := by kernel_rfl
theorem fact3 : (Try.f13.params.all (Try.checked.prog.readableRec ·)) = true := by kernel_rfl
theorem fact4 : (namedTie Try.checked.prog Rows.nicSendsRow.named Rows.nicSendsSpec.vars) = true := by kernel_rfl
theorem fact5 : ((Rows.nicSendsRow.stops == [])) = true := by kernel_rfl
theorem fact7 : ((Rows.nicSendsRow.knobs == [])) = true := by kernel_rfl
theorem fact9 : ((Rows.nicSendsRow.inPlace == Try.checked.prog.inPlace 13)) = true := by kernel_rfl
theorem fact10 : ((Rows.nicSendsRow.unfollowed == Try.checked.prog.unfollowed 13)) = true := by kernel_rfl
theorem fact11 : ((Rows.nicSendsRow.recurses == Try.checked.prog.recurses 13)) = true := by kernel_rfl
theorem fact12 : ((Rows.nicSendsRow.named == Try.checked.prog.varsNamed 13)) = true := by kernel_rfl
theorem fact13 : ((Rows.nicSendsRow.maps == (Try.f13.params.toList ++ Rows.nicSendsSpec.plain.varTypes Try.checked.prog).any (Try.checked.prog.mapsRec ·))) = true := by kernel_rfl
theorem fact14 : ((Rows.nicSendsRow.ifaces == (Try.f13.params.toList ++ Rows.nicSendsSpec.plain.varTypes Try.checked.prog).any (Try.checked.prog.ifacesRec ·))) = true := by kernel_rfl
theorem fact15 : ((Rows.nicSendsRow.mapsOut == Try.checked.prog.mapsAmong Try.f13.resultTypes.toList)) = true := by kernel_rfl
theorem fact16 : ((Rows.nicSendsRow.loops == (Try.f13.params.toList ++ Rows.nicSendsSpec.plain.varTypes Try.checked.prog).any (Try.checked.prog.loopsFrom ·))) = true := by kernel_rfl
theorem fact17 : ((Rows.nicSendsRow.wideKeys == (Try.f13.params.toList ++ Rows.nicSendsSpec.plain.varTypes Try.checked.prog ++ Try.f13.resultTypes.toList).any (Try.checked.prog.wideKeysFrom ·))) = true := by kernel_rfl
theorem fact18 : (Rows.nicSendsSpec.vars.all (Try.checked.prog.varReadable ·)) = true := by kernel_rfl
theorem fact19 : (Try.f13.resultTypes.all (fun t => Try.checked.prog.readableRec t && decide (t < Try.checked.prog.types.size))) = true := by kernel_rfl
theorem fact20 : ((Rows.nicSendsRow.ifacesOut == Try.f13.resultTypes.toList.any (Try.checked.prog.ifacesRec ·))) = true := by kernel_rfl
theorem fact21 : ((Rows.nicSendsRow.loopsOut == Try.f13.resultTypes.toList.any (Try.checked.prog.loopsFrom ·))) = true := by kernel_rfl
theorem fact22 : ((Rows.nicSendsRow.plainKeys == Try.checked.prog.plainKeys)) = true := factP22
theorem fact23 : (Rows.nicSendsRow.shortTexts.isNone) = true := by kernel_rfl
theorem fact26 : ((Rows.nicSendsRow.lifted == Try.checked.prog.liftsFinal)) = true := factP26
theorem fact27 : ((Try.checked.prog.make == some Rows.nicSendsRow.make)) = true := factP27
theorem fact28 : ((Rows.nicSendsRow.kinds == (if Rows.nicSendsRow.domain.isEmpty then [] else Try.f13.params.toList.map fun t => match Try.checked.prog.underlying t with | some (.int k) => some k | _ => none))) = true := by kernel_rfl
theorem fact29 : ((Rows.nicSendsRow.pinned == Rows.nicSendsRow.pinnedBy)) = true := by kernel_rfl
theorem fact30 : ((Rows.nicSendsRow.veiled == (Try.f13.params.toList ++ Rows.nicSendsSpec.plain.varTypes Try.checked.prog ++ Try.f13.resultTypes.toList).any (Try.checked.prog.veiledRec ·))) = true := by kernel_rfl
theorem fact31 : (Rows.nicSendsRow.veiledFits Try.checked.prog Try.f13.params.toList (Try.f13.params.toList ++ Rows.nicSendsSpec.plain.varTypes Try.checked.prog ++ Try.f13.resultTypes.toList)) = true := by kernel_rfl
set_option maxRecDepth 100000 in
theorem closed : joinedFacts Try.checked.prog 13 Try.f13 Rows.nicSendsSpec Rows.nicSendsRow = true := by
  unfold joinedFacts
  exact andT (andT (andT (andT (andT (andT (andT (andT (andT (andT (andT (andT (andT (andT (andT (andT (andT (andT (andT (andT (andT (andT (andT (andT (andT (andT (andT (andT (andT (andT (andT (fact0) factP1) factP2) fact3) fact4) fact5) factP6) fact7) factP8) fact9) fact10) fact11) fact12) fact13) fact14) fact15) fact16) fact17) fact18) fact19) fact20) fact21) fact22) fact23) factP24) factP25) fact26) fact27) fact28) fact29) fact30) fact31
theorem named : Try.checked.prog.funcNamed Rows.nicSendsRow.func = some 13 := by kernel_rfl
end Go.Proofs.Ytmefbkfapeijgaa.nicSends
