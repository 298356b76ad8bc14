/- The closed facts that the row of CpuLinks asks, each by itself. -/
import Derived.Test.YtckdamhnmcmbbaaFactsP
namespace Go.Proofs.Ytckdamhnmcmbbaa.cpuLinks
theorem fact0 : (Rows.cpuLinksRow.wf (OpenSpec.ofChange Rows.cpuLinksSpec)) = true := by kernel_rfl
theorem fact3 : (Try.f12.params.all (Try.checked.prog.readableRec ·)) = true := by kernel_rfl
theorem fact4 : (namedTie Try.checked.prog Rows.cpuLinksRow.named Rows.cpuLinksSpec.vars) = true := by kernel_rfl
theorem fact5 : ((Rows.cpuLinksRow.stops == [])) = true := by kernel_rfl
theorem fact7 : ((Rows.cpuLinksRow.knobs == [])) = true := by kernel_rfl
theorem fact9 : ((Rows.cpuLinksRow.inPlace == Try.checked.prog.inPlace 12)) = true := by kernel_rfl
theorem fact10 : ((Rows.cpuLinksRow.unfollowed == Try.checked.prog.unfollowed 12)) = true := by kernel_rfl
theorem fact11 : ((Rows.cpuLinksRow.recurses == Try.checked.prog.recurses 12)) = true := by kernel_rfl
theorem fact12 : ((Rows.cpuLinksRow.named == Try.checked.prog.varsNamed 12)) = true := by kernel_rfl
theorem fact13 : ((Rows.cpuLinksRow.maps == (Try.f12.params.toList ++ Rows.cpuLinksSpec.plain.varTypes Try.checked.prog).any (Try.checked.prog.mapsRec ·))) = true := by kernel_rfl
theorem fact14 : ((Rows.cpuLinksRow.ifaces == (Try.f12.params.toList ++ Rows.cpuLinksSpec.plain.varTypes Try.checked.prog).any (Try.checked.prog.ifacesRec ·))) = true := by kernel_rfl
theorem fact15 : ((Rows.cpuLinksRow.mapsOut == Try.checked.prog.mapsAmong Try.f12.resultTypes.toList)) = true := by kernel_rfl
theorem fact16 : ((Rows.cpuLinksRow.loops == (Try.f12.params.toList ++ Rows.cpuLinksSpec.plain.varTypes Try.checked.prog).any (Try.checked.prog.loopsFrom ·))) = true := by kernel_rfl
theorem fact17 : ((Rows.cpuLinksRow.wideKeys == (Try.f12.params.toList ++ Rows.cpuLinksSpec.plain.varTypes Try.checked.prog ++ Try.f12.resultTypes.toList).any (Try.checked.prog.wideKeysFrom ·))) = true := by kernel_rfl
theorem fact18 : (Rows.cpuLinksSpec.vars.all (Try.checked.prog.varReadable ·)) = true := by kernel_rfl
theorem fact19 : (Try.f12.resultTypes.all (fun t => Try.checked.prog.readableRec t && decide (t < Try.checked.prog.types.size))) = true := by kernel_rfl
theorem fact20 : ((Rows.cpuLinksRow.ifacesOut == Try.f12.resultTypes.toList.any (Try.checked.prog.ifacesRec ·))) = true := by kernel_rfl
theorem fact21 : ((Rows.cpuLinksRow.loopsOut == Try.f12.resultTypes.toList.any (Try.checked.prog.loopsFrom ·))) = true := by kernel_rfl
theorem fact22 : ((Rows.cpuLinksRow.plainKeys == Try.checked.prog.plainKeys)) = true := factP22
theorem fact23 : (Rows.cpuLinksRow.shortTexts.isNone) = true := by kernel_rfl
theorem fact26 : ((Rows.cpuLinksRow.lifted == Try.checked.prog.liftsFinal)) = true := factP26
theorem fact27 : ((Try.checked.prog.make == some Rows.cpuLinksRow.make)) = true := factP27
theorem fact28 : ((Rows.cpuLinksRow.kinds == (if Rows.cpuLinksRow.domain.isEmpty then [] else Try.f12.params.toList.map fun t => match Try.checked.prog.underlying t with | some (.int k) => some k | _ => none))) = true := by kernel_rfl
theorem fact29 : ((Rows.cpuLinksRow.pinned == Rows.cpuLinksRow.pinnedBy)) = true := by kernel_rfl
theorem fact30 : ((Rows.cpuLinksRow.veiled == (Try.f12.params.toList ++ Rows.cpuLinksSpec.plain.varTypes Try.checked.prog ++ Try.f12.resultTypes.toList).any (Try.checked.prog.veiledRec ·))) = true := by kernel_rfl
theorem fact31 : (Rows.cpuLinksRow.veiledFits Try.checked.prog Try.f12.params.toList (Try.f12.params.toList ++ Rows.cpuLinksSpec.plain.varTypes Try.checked.prog ++ Try.f12.resultTypes.toList)) = true := by kernel_rfl
set_option maxRecDepth 100000 in
theorem closed : joinedFacts Try.checked.prog 12 Try.f12 Rows.cpuLinksSpec Rows.cpuLinksRow = true := by
  unfold joinedFacts
  exact andT (andT (andT (andT (andT (andT (andT (andT (andT (andT (andT (andT (andT (andT (andT (andT (andT (andT (andT (andT (andT (andT (andT (andT (andT (andT (andT (andT (andT (andT (andT (fact0) factP1) factP2) fact3) fact4) fact5) factP6) fact7) factP8) fact9) fact10) fact11) fact12) fact13) fact14) fact15) fact16) fact17) fact18) fact19) fact20) fact21) fact22) fact23) factP24) factP25) fact26) fact27) fact28) fact29) fact30) fact31
theorem named : Try.checked.prog.funcNamed Rows.cpuLinksRow.func = some 12 := by kernel_rfl
end Go.Proofs.Ytckdamhnmcmbbaa.cpuLinks
