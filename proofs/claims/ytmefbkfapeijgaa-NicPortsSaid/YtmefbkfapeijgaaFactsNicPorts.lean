/- The closed facts that the row of NicPorts asks, each by itself. -/
import Derived.Test.YtmefbkfapeijgaaFactsP
namespace Go.Proofs.Ytmefbkfapeijgaa.nicPorts
theorem fact0 : (Rows.nicPortsRow.wf (OpenSpec.ofChange Rows.nicPortsSpec)) = true := by kernel_rfl
theorem fact3 : (Try.f11.params.all (Try.checked.prog.readableRec ·)) = true := by kernel_rfl
theorem fact4 : (namedTie Try.checked.prog Rows.nicPortsRow.named Rows.nicPortsSpec.vars) = true := by kernel_rfl
theorem fact5 : ((Rows.nicPortsRow.stops == [])) = true := by kernel_rfl
theorem fact7 : ((Rows.nicPortsRow.knobs == [])) = true := by kernel_rfl
theorem fact9 : ((Rows.nicPortsRow.inPlace == Try.checked.prog.inPlace 11)) = true := by kernel_rfl
theorem fact10 : ((Rows.nicPortsRow.unfollowed == Try.checked.prog.unfollowed 11)) = true := by kernel_rfl
theorem fact11 : ((Rows.nicPortsRow.recurses == Try.checked.prog.recurses 11)) = true := by kernel_rfl
theorem fact12 : ((Rows.nicPortsRow.named == Try.checked.prog.varsNamed 11)) = true := by kernel_rfl
theorem fact13 : ((Rows.nicPortsRow.maps == (Try.f11.params.toList ++ Rows.nicPortsSpec.plain.varTypes Try.checked.prog).any (Try.checked.prog.mapsRec ·))) = true := by kernel_rfl
theorem fact14 : ((Rows.nicPortsRow.ifaces == (Try.f11.params.toList ++ Rows.nicPortsSpec.plain.varTypes Try.checked.prog).any (Try.checked.prog.ifacesRec ·))) = true := by kernel_rfl
theorem fact15 : ((Rows.nicPortsRow.mapsOut == Try.checked.prog.mapsAmong Try.f11.resultTypes.toList)) = true := by kernel_rfl
theorem fact16 : ((Rows.nicPortsRow.loops == (Try.f11.params.toList ++ Rows.nicPortsSpec.plain.varTypes Try.checked.prog).any (Try.checked.prog.loopsFrom ·))) = true := by kernel_rfl
theorem fact17 : ((Rows.nicPortsRow.wideKeys == (Try.f11.params.toList ++ Rows.nicPortsSpec.plain.varTypes Try.checked.prog ++ Try.f11.resultTypes.toList).any (Try.checked.prog.wideKeysFrom ·))) = true := by kernel_rfl
theorem fact18 : (Rows.nicPortsSpec.vars.all (Try.checked.prog.varReadable ·)) = true := by kernel_rfl
theorem fact19 : (Try.f11.resultTypes.all (fun t => Try.checked.prog.readableRec t && decide (t < Try.checked.prog.types.size))) = true := by kernel_rfl
theorem fact20 : ((Rows.nicPortsRow.ifacesOut == Try.f11.resultTypes.toList.any (Try.checked.prog.ifacesRec ·))) = true := by kernel_rfl
theorem fact21 : ((Rows.nicPortsRow.loopsOut == Try.f11.resultTypes.toList.any (Try.checked.prog.loopsFrom ·))) = true := by kernel_rfl
theorem fact22 : ((Rows.nicPortsRow.plainKeys == Try.checked.prog.plainKeys)) = true := factP22
theorem fact23 : (Rows.nicPortsRow.shortTexts.isNone) = true := by kernel_rfl
theorem fact26 : ((Rows.nicPortsRow.lifted == Try.checked.prog.liftsFinal)) = true := factP26
theorem fact27 : ((Try.checked.prog.make == some Rows.nicPortsRow.make)) = true := factP27
theorem fact28 : ((Rows.nicPortsRow.kinds == (if Rows.nicPortsRow.domain.isEmpty then [] else Try.f11.params.toList.map fun t => match Try.checked.prog.underlying t with | some (.int k) => some k | _ => none))) = true := by kernel_rfl
theorem fact29 : ((Rows.nicPortsRow.pinned == Rows.nicPortsRow.pinnedBy)) = true := by kernel_rfl
theorem fact30 : ((Rows.nicPortsRow.veiled == (Try.f11.params.toList ++ Rows.nicPortsSpec.plain.varTypes Try.checked.prog ++ Try.f11.resultTypes.toList).any (Try.checked.prog.veiledRec ·))) = true := by kernel_rfl
theorem fact31 : (Rows.nicPortsRow.veiledFits Try.checked.prog Try.f11.params.toList (Try.f11.params.toList ++ Rows.nicPortsSpec.plain.varTypes Try.checked.prog ++ Try.f11.resultTypes.toList)) = true := by kernel_rfl
set_option maxRecDepth 100000 in
theorem closed : joinedFacts Try.checked.prog 11 Try.f11 Rows.nicPortsSpec Rows.nicPortsRow = true := by
  unfold joinedFacts
  exact andT (andT (andT (andT (andT (andT (andT (andT (andT (andT (andT (andT (andT (andT (andT (andT (andT (andT (andT (andT (andT (andT (andT (andT (andT (andT (andT (andT (andT (andT (andT (fact0) factP1) factP2) fact3) fact4) fact5) factP6) fact7) factP8) fact9) fact10) fact11) fact12) fact13) fact14) fact15) fact16) fact17) fact18) fact19) fact20) fact21) fact22) fact23) factP24) factP25) fact26) fact27) fact28) fact29) fact30) fact31
theorem named : Try.checked.prog.funcNamed Rows.nicPortsRow.func = some 11 := by kernel_rfl
end Go.Proofs.Ytmefbkfapeijgaa.nicPorts
