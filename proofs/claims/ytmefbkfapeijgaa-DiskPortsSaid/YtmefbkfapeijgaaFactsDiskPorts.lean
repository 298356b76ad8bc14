/- The closed facts that the row of DiskPorts asks, each by itself. -/
import Derived.Test.YtmefbkfapeijgaaFactsP
namespace Go.Proofs.Ytmefbkfapeijgaa.diskPorts
theorem fact0 : (Rows.diskPortsRow.wf (OpenSpec.ofChange Rows.diskPortsSpec)) = true := by kernel_rfl
theorem fact3 : (Try.f10.params.all (Try.checked.prog.readableRec ·)) = true := by kernel_rfl
theorem fact4 : (namedTie Try.checked.prog Rows.diskPortsRow.named Rows.diskPortsSpec.vars) = true := by kernel_rfl
theorem fact5 : ((Rows.diskPortsRow.stops == [])) = true := by kernel_rfl
theorem fact7 : ((Rows.diskPortsRow.knobs == [])) = true := by kernel_rfl
theorem fact9 : ((Rows.diskPortsRow.inPlace == Try.checked.prog.inPlace 10)) = true := by kernel_rfl
theorem fact10 : ((Rows.diskPortsRow.unfollowed == Try.checked.prog.unfollowed 10)) = true := by kernel_rfl
theorem fact11 : ((Rows.diskPortsRow.recurses == Try.checked.prog.recurses 10)) = true := by kernel_rfl
theorem fact12 : ((Rows.diskPortsRow.named == Try.checked.prog.varsNamed 10)) = true := by kernel_rfl
theorem fact13 : ((Rows.diskPortsRow.maps == (Try.f10.params.toList ++ Rows.diskPortsSpec.plain.varTypes Try.checked.prog).any (Try.checked.prog.mapsRec ·))) = true := by kernel_rfl
theorem fact14 : ((Rows.diskPortsRow.ifaces == (Try.f10.params.toList ++ Rows.diskPortsSpec.plain.varTypes Try.checked.prog).any (Try.checked.prog.ifacesRec ·))) = true := by kernel_rfl
theorem fact15 : ((Rows.diskPortsRow.mapsOut == Try.checked.prog.mapsAmong Try.f10.resultTypes.toList)) = true := by kernel_rfl
theorem fact16 : ((Rows.diskPortsRow.loops == (Try.f10.params.toList ++ Rows.diskPortsSpec.plain.varTypes Try.checked.prog).any (Try.checked.prog.loopsFrom ·))) = true := by kernel_rfl
theorem fact17 : ((Rows.diskPortsRow.wideKeys == (Try.f10.params.toList ++ Rows.diskPortsSpec.plain.varTypes Try.checked.prog ++ Try.f10.resultTypes.toList).any (Try.checked.prog.wideKeysFrom ·))) = true := by kernel_rfl
theorem fact18 : (Rows.diskPortsSpec.vars.all (Try.checked.prog.varReadable ·)) = true := by kernel_rfl
theorem fact19 : (Try.f10.resultTypes.all (fun t => Try.checked.prog.readableRec t && decide (t < Try.checked.prog.types.size))) = true := by kernel_rfl
theorem fact20 : ((Rows.diskPortsRow.ifacesOut == Try.f10.resultTypes.toList.any (Try.checked.prog.ifacesRec ·))) = true := by kernel_rfl
theorem fact21 : ((Rows.diskPortsRow.loopsOut == Try.f10.resultTypes.toList.any (Try.checked.prog.loopsFrom ·))) = true := by kernel_rfl
theorem fact22 : ((Rows.diskPortsRow.plainKeys == Try.checked.prog.plainKeys)) = true := factP22
theorem fact23 : (Rows.diskPortsRow.shortTexts.isNone) = true := by kernel_rfl
theorem fact26 : ((Rows.diskPortsRow.lifted == Try.checked.prog.liftsFinal)) = true := factP26
theorem fact27 : ((Try.checked.prog.make == some Rows.diskPortsRow.make)) = true := factP27
theorem fact28 : ((Rows.diskPortsRow.kinds == (if Rows.diskPortsRow.domain.isEmpty then [] else Try.f10.params.toList.map fun t => match Try.checked.prog.underlying t with | some (.int k) => some k | _ => none))) = true := by kernel_rfl
theorem fact29 : ((Rows.diskPortsRow.pinned == Rows.diskPortsRow.pinnedBy)) = true := by kernel_rfl
theorem fact30 : ((Rows.diskPortsRow.veiled == (Try.f10.params.toList ++ Rows.diskPortsSpec.plain.varTypes Try.checked.prog ++ Try.f10.resultTypes.toList).any (Try.checked.prog.veiledRec ·))) = true := by kernel_rfl
theorem fact31 : (Rows.diskPortsRow.veiledFits Try.checked.prog Try.f10.params.toList (Try.f10.params.toList ++ Rows.diskPortsSpec.plain.varTypes Try.checked.prog ++ Try.f10.resultTypes.toList)) = true := by kernel_rfl
set_option maxRecDepth 100000 in
theorem closed : joinedFacts Try.checked.prog 10 Try.f10 Rows.diskPortsSpec Rows.diskPortsRow = true := by
  unfold joinedFacts
  exact andT (andT (andT (andT (andT (andT (andT (andT (andT (andT (andT (andT (andT (andT (andT (andT (andT (andT (andT (andT (andT (andT (andT (andT (andT (andT (andT (andT (andT (andT (andT (fact0) factP1) factP2) fact3) fact4) fact5) factP6) fact7) factP8) fact9) fact10) fact11) fact12) fact13) fact14) fact15) fact16) fact17) fact18) fact19) fact20) fact21) fact22) fact23) factP24) factP25) fact26) fact27) fact28) fact29) fact30) fact31
theorem named : Try.checked.prog.funcNamed Rows.diskPortsRow.func = some 10 := by kernel_rfl
end Go.Proofs.Ytmefbkfapeijgaa.diskPorts
