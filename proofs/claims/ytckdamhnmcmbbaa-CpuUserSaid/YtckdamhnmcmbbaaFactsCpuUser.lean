/- The closed facts that the row of CpuUser asks, each by itself. -/
import Derived.Test.YtckdamhnmcmbbaaFactsP
namespace Go.Proofs.Ytckdamhnmcmbbaa.cpuUser
theorem fact0 : (Rows.cpuUserRow.wf (OpenSpec.ofChange Rows.cpuUserSpec)) = true := by kernel_rfl
theorem fact3 : (Try.f7.params.all (Try.checked.prog.readableRec ·)) = true := by kernel_rfl
theorem fact4 : (namedTie Try.checked.prog Rows.cpuUserRow.named Rows.cpuUserSpec.vars) = true := by kernel_rfl
theorem fact5 : ((Rows.cpuUserRow.stops == [])) = true := by kernel_rfl
theorem fact7 : ((Rows.cpuUserRow.knobs == [])) = true := by kernel_rfl
theorem fact9 : ((Rows.cpuUserRow.inPlace == Try.checked.prog.inPlace 7)) = true := by kernel_rfl
theorem fact10 : ((Rows.cpuUserRow.unfollowed == Try.checked.prog.unfollowed 7)) = true := by kernel_rfl
theorem fact11 : ((Rows.cpuUserRow.recurses == Try.checked.prog.recurses 7)) = true := by kernel_rfl
theorem fact12 : ((Rows.cpuUserRow.named == Try.checked.prog.varsNamed 7)) = true := by kernel_rfl
theorem fact13 : ((Rows.cpuUserRow.maps == (Try.f7.params.toList ++ Rows.cpuUserSpec.plain.varTypes Try.checked.prog).any (Try.checked.prog.mapsRec ·))) = true := by kernel_rfl
theorem fact14 : ((Rows.cpuUserRow.ifaces == (Try.f7.params.toList ++ Rows.cpuUserSpec.plain.varTypes Try.checked.prog).any (Try.checked.prog.ifacesRec ·))) = true := by kernel_rfl
theorem fact15 : ((Rows.cpuUserRow.mapsOut == Try.checked.prog.mapsAmong Try.f7.resultTypes.toList)) = true := by kernel_rfl
theorem fact16 : ((Rows.cpuUserRow.loops == (Try.f7.params.toList ++ Rows.cpuUserSpec.plain.varTypes Try.checked.prog).any (Try.checked.prog.loopsFrom ·))) = true := by kernel_rfl
theorem fact17 : ((Rows.cpuUserRow.wideKeys == (Try.f7.params.toList ++ Rows.cpuUserSpec.plain.varTypes Try.checked.prog ++ Try.f7.resultTypes.toList).any (Try.checked.prog.wideKeysFrom ·))) = true := by kernel_rfl
theorem fact18 : (Rows.cpuUserSpec.vars.all (Try.checked.prog.varReadable ·)) = true := by kernel_rfl
theorem fact19 : (Try.f7.resultTypes.all (fun t => Try.checked.prog.readableRec t && decide (t < Try.checked.prog.types.size))) = true := by kernel_rfl
theorem fact20 : ((Rows.cpuUserRow.ifacesOut == Try.f7.resultTypes.toList.any (Try.checked.prog.ifacesRec ·))) = true := by kernel_rfl
theorem fact21 : ((Rows.cpuUserRow.loopsOut == Try.f7.resultTypes.toList.any (Try.checked.prog.loopsFrom ·))) = true := by kernel_rfl
theorem fact22 : ((Rows.cpuUserRow.plainKeys == Try.checked.prog.plainKeys)) = true := factP22
theorem fact23 : (Rows.cpuUserRow.shortTexts.isNone) = true := by kernel_rfl
theorem fact26 : ((Rows.cpuUserRow.lifted == Try.checked.prog.liftsFinal)) = true := factP26
theorem fact27 : ((Try.checked.prog.make == some Rows.cpuUserRow.make)) = true := factP27
theorem fact28 : ((Rows.cpuUserRow.kinds == (if Rows.cpuUserRow.domain.isEmpty then [] else Try.f7.params.toList.map fun t => match Try.checked.prog.underlying t with | some (.int k) => some k | _ => none))) = true := by kernel_rfl
theorem fact29 : ((Rows.cpuUserRow.pinned == Rows.cpuUserRow.pinnedBy)) = true := by kernel_rfl
theorem fact30 : ((Rows.cpuUserRow.veiled == (Try.f7.params.toList ++ Rows.cpuUserSpec.plain.varTypes Try.checked.prog ++ Try.f7.resultTypes.toList).any (Try.checked.prog.veiledRec ·))) = true := by kernel_rfl
theorem fact31 : (Rows.cpuUserRow.veiledFits Try.checked.prog Try.f7.params.toList (Try.f7.params.toList ++ Rows.cpuUserSpec.plain.varTypes Try.checked.prog ++ Try.f7.resultTypes.toList)) = true := by kernel_rfl
set_option maxRecDepth 100000 in
theorem closed : joinedFacts Try.checked.prog 7 Try.f7 Rows.cpuUserSpec Rows.cpuUserRow = true := by
  unfold joinedFacts
  exact andT (andT (andT (andT (andT (andT (andT (andT (andT (andT (andT (andT (andT (andT (andT (andT (andT (andT (andT (andT (andT (andT (andT (andT (andT (andT (andT (andT (andT (andT (andT (fact0) factP1) factP2) fact3) fact4) fact5) factP6) fact7) factP8) fact9) fact10) fact11) fact12) fact13) fact14) fact15) fact16) fact17) fact18) fact19) fact20) fact21) fact22) fact23) factP24) factP25) fact26) fact27) fact28) fact29) fact30) fact31
theorem named : Try.checked.prog.funcNamed Rows.cpuUserRow.func = some 7 := by kernel_rfl
end Go.Proofs.Ytckdamhnmcmbbaa.cpuUser
