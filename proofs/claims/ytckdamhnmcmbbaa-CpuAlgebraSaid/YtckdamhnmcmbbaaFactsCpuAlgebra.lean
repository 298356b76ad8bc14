/- The closed facts that the row of CpuAlgebra asks, each by itself. -/
import Derived.Test.YtckdamhnmcmbbaaFactsP
namespace Go.Proofs.Ytckdamhnmcmbbaa.cpuAlgebra
theorem fact0 : (Rows.cpuAlgebraRow.wf (OpenSpec.ofChange Rows.cpuAlgebraSpec)) = true := by kernel_rfl
theorem fact3 : (Try.f8.params.all (Try.checked.prog.readableRec ·)) = true := by kernel_rfl
theorem fact4 : (namedTie Try.checked.prog Rows.cpuAlgebraRow.named Rows.cpuAlgebraSpec.vars) = true := by kernel_rfl
theorem fact5 : ((Rows.cpuAlgebraRow.stops == [])) = true := by kernel_rfl
theorem fact7 : ((Rows.cpuAlgebraRow.knobs == [])) = true := by kernel_rfl
theorem fact9 : ((Rows.cpuAlgebraRow.inPlace == Try.checked.prog.inPlace 8)) = true := by kernel_rfl
theorem fact10 : ((Rows.cpuAlgebraRow.unfollowed == Try.checked.prog.unfollowed 8)) = true := by kernel_rfl
theorem fact11 : ((Rows.cpuAlgebraRow.recurses == Try.checked.prog.recurses 8)) = true := by kernel_rfl
theorem fact12 : ((Rows.cpuAlgebraRow.named == Try.checked.prog.varsNamed 8)) = true := by kernel_rfl
theorem fact13 : ((Rows.cpuAlgebraRow.maps == (Try.f8.params.toList ++ Rows.cpuAlgebraSpec.plain.varTypes Try.checked.prog).any (Try.checked.prog.mapsRec ·))) = true := by kernel_rfl
theorem fact14 : ((Rows.cpuAlgebraRow.ifaces == (Try.f8.params.toList ++ Rows.cpuAlgebraSpec.plain.varTypes Try.checked.prog).any (Try.checked.prog.ifacesRec ·))) = true := by kernel_rfl
theorem fact15 : ((Rows.cpuAlgebraRow.mapsOut == Try.checked.prog.mapsAmong Try.f8.resultTypes.toList)) = true := by kernel_rfl
theorem fact16 : ((Rows.cpuAlgebraRow.loops == (Try.f8.params.toList ++ Rows.cpuAlgebraSpec.plain.varTypes Try.checked.prog).any (Try.checked.prog.loopsFrom ·))) = true := by kernel_rfl
theorem fact17 : ((Rows.cpuAlgebraRow.wideKeys == (Try.f8.params.toList ++ Rows.cpuAlgebraSpec.plain.varTypes Try.checked.prog ++ Try.f8.resultTypes.toList).any (Try.checked.prog.wideKeysFrom ·))) = true := by kernel_rfl
theorem fact18 : (Rows.cpuAlgebraSpec.vars.all (Try.checked.prog.varReadable ·)) = true := by kernel_rfl
theorem fact19 : (Try.f8.resultTypes.all (fun t => Try.checked.prog.readableRec t && decide (t < Try.checked.prog.types.size))) = true := by kernel_rfl
theorem fact20 : ((Rows.cpuAlgebraRow.ifacesOut == Try.f8.resultTypes.toList.any (Try.checked.prog.ifacesRec ·))) = true := by kernel_rfl
theorem fact21 : ((Rows.cpuAlgebraRow.loopsOut == Try.f8.resultTypes.toList.any (Try.checked.prog.loopsFrom ·))) = true := by kernel_rfl
theorem fact22 : ((Rows.cpuAlgebraRow.plainKeys == Try.checked.prog.plainKeys)) = true := factP22
theorem fact23 : (Rows.cpuAlgebraRow.shortTexts.isNone) = true := by kernel_rfl
theorem fact26 : ((Rows.cpuAlgebraRow.lifted == Try.checked.prog.liftsFinal)) = true := factP26
theorem fact27 : ((Try.checked.prog.make == some Rows.cpuAlgebraRow.make)) = true := factP27
theorem fact28 : ((Rows.cpuAlgebraRow.kinds == (if Rows.cpuAlgebraRow.domain.isEmpty then [] else Try.f8.params.toList.map fun t => match Try.checked.prog.underlying t with | some (.int k) => some k | _ => none))) = true := by kernel_rfl
theorem fact29 : ((Rows.cpuAlgebraRow.pinned == Rows.cpuAlgebraRow.pinnedBy)) = true := by kernel_rfl
theorem fact30 : ((Rows.cpuAlgebraRow.veiled == (Try.f8.params.toList ++ Rows.cpuAlgebraSpec.plain.varTypes Try.checked.prog ++ Try.f8.resultTypes.toList).any (Try.checked.prog.veiledRec ·))) = true := by kernel_rfl
theorem fact31 : (Rows.cpuAlgebraRow.veiledFits Try.checked.prog Try.f8.params.toList (Try.f8.params.toList ++ Rows.cpuAlgebraSpec.plain.varTypes Try.checked.prog ++ Try.f8.resultTypes.toList)) = true := by kernel_rfl
set_option maxRecDepth 100000 in
theorem closed : joinedFacts Try.checked.prog 8 Try.f8 Rows.cpuAlgebraSpec Rows.cpuAlgebraRow = true := by
  unfold joinedFacts
  exact andT (andT (andT (andT (andT (andT (andT (andT (andT (andT (andT (andT (andT (andT (andT (andT (andT (andT (andT (andT (andT (andT (andT (andT (andT (andT (andT (andT (andT (andT (andT (fact0) factP1) factP2) fact3) fact4) fact5) factP6) fact7) factP8) fact9) fact10) fact11) fact12) fact13) fact14) fact15) fact16) fact17) fact18) fact19) fact20) fact21) fact22) fact23) factP24) factP25) fact26) fact27) fact28) fact29) fact30) fact31
theorem named : Try.checked.prog.funcNamed Rows.cpuAlgebraRow.func = some 8 := by kernel_rfl
end Go.Proofs.Ytckdamhnmcmbbaa.cpuAlgebra
