/- The closed facts that the row of MemoryAccesses asks, each by itself. -/
import Derived.Test.YtmefbkfapeijgaaFactsP
namespace Go.Proofs.Ytmefbkfapeijgaa.memoryAccesses
theorem fact0 : (Rows.memoryAccessesRow.wf (OpenSpec.ofChange Rows.memoryAccessesSpec)) = true := by kernel_rfl
theorem fact3 : (Try.f3.params.all (Try.checked.prog.readableRec ·)) = true := by kernel_rfl
theorem fact4 : (namedTie Try.checked.prog Rows.memoryAccessesRow.named Rows.memoryAccessesSpec.vars) = true := by kernel_rfl
theorem fact5 : ((Rows.memoryAccessesRow.stops == [])) = true := by kernel_rfl
theorem fact7 : ((Rows.memoryAccessesRow.knobs == [])) = true := by kernel_rfl
theorem fact9 : ((Rows.memoryAccessesRow.inPlace == Try.checked.prog.inPlace 3)) = true := by kernel_rfl
theorem fact10 : ((Rows.memoryAccessesRow.unfollowed == Try.checked.prog.unfollowed 3)) = true := by kernel_rfl
theorem fact11 : ((Rows.memoryAccessesRow.recurses == Try.checked.prog.recurses 3)) = true := by kernel_rfl
theorem fact12 : ((Rows.memoryAccessesRow.named == Try.checked.prog.varsNamed 3)) = true := by kernel_rfl
theorem fact13 : ((Rows.memoryAccessesRow.maps == (Try.f3.params.toList ++ Rows.memoryAccessesSpec.plain.varTypes Try.checked.prog).any (Try.checked.prog.mapsRec ·))) = true := by kernel_rfl
theorem fact14 : ((Rows.memoryAccessesRow.ifaces == (Try.f3.params.toList ++ Rows.memoryAccessesSpec.plain.varTypes Try.checked.prog).any (Try.checked.prog.ifacesRec ·))) = true := by kernel_rfl
theorem fact15 : ((Rows.memoryAccessesRow.mapsOut == Try.checked.prog.mapsAmong Try.f3.resultTypes.toList)) = true := by kernel_rfl
theorem fact16 : ((Rows.memoryAccessesRow.loops == (Try.f3.params.toList ++ Rows.memoryAccessesSpec.plain.varTypes Try.checked.prog).any (Try.checked.prog.loopsFrom ·))) = true := by kernel_rfl
theorem fact17 : ((Rows.memoryAccessesRow.wideKeys == (Try.f3.params.toList ++ Rows.memoryAccessesSpec.plain.varTypes Try.checked.prog ++ Try.f3.resultTypes.toList).any (Try.checked.prog.wideKeysFrom ·))) = true := by kernel_rfl
theorem fact18 : (Rows.memoryAccessesSpec.vars.all (Try.checked.prog.varReadable ·)) = true := by kernel_rfl
theorem fact19 : (Try.f3.resultTypes.all (fun t => Try.checked.prog.readableRec t && decide (t < Try.checked.prog.types.size))) = true := by kernel_rfl
theorem fact20 : ((Rows.memoryAccessesRow.ifacesOut == Try.f3.resultTypes.toList.any (Try.checked.prog.ifacesRec ·))) = true := by kernel_rfl
theorem fact21 : ((Rows.memoryAccessesRow.loopsOut == Try.f3.resultTypes.toList.any (Try.checked.prog.loopsFrom ·))) = true := by kernel_rfl
theorem fact22 : ((Rows.memoryAccessesRow.plainKeys == Try.checked.prog.plainKeys)) = true := factP22
theorem fact23 : (Rows.memoryAccessesRow.shortTexts.isNone) = true := by kernel_rfl
theorem fact26 : ((Rows.memoryAccessesRow.lifted == Try.checked.prog.liftsFinal)) = true := factP26
theorem fact27 : ((Try.checked.prog.make == some Rows.memoryAccessesRow.make)) = true := factP27
theorem fact28 : ((Rows.memoryAccessesRow.kinds == (if Rows.memoryAccessesRow.domain.isEmpty then [] else Try.f3.params.toList.map fun t => match Try.checked.prog.underlying t with | some (.int k) => some k | _ => none))) = true := by kernel_rfl
theorem fact29 : ((Rows.memoryAccessesRow.pinned == Rows.memoryAccessesRow.pinnedBy)) = true := by kernel_rfl
theorem fact30 : ((Rows.memoryAccessesRow.veiled == (Try.f3.params.toList ++ Rows.memoryAccessesSpec.plain.varTypes Try.checked.prog ++ Try.f3.resultTypes.toList).any (Try.checked.prog.veiledRec ·))) = true := by kernel_rfl
theorem fact31 : (Rows.memoryAccessesRow.veiledFits Try.checked.prog Try.f3.params.toList (Try.f3.params.toList ++ Rows.memoryAccessesSpec.plain.varTypes Try.checked.prog ++ Try.f3.resultTypes.toList)) = true := by kernel_rfl
set_option maxRecDepth 100000 in
theorem closed : joinedFacts Try.checked.prog 3 Try.f3 Rows.memoryAccessesSpec Rows.memoryAccessesRow = true := by
  unfold joinedFacts
  exact andT (andT (andT (andT (andT (andT (andT (andT (andT (andT (andT (andT (andT (andT (andT (andT (andT (andT (andT (andT (andT (andT (andT (andT (andT (andT (andT (andT (andT (andT (andT (fact0) factP1) factP2) fact3) fact4) fact5) factP6) fact7) factP8) fact9) fact10) fact11) fact12) fact13) fact14) fact15) fact16) fact17) fact18) fact19) fact20) fact21) fact22) fact23) factP24) factP25) fact26) fact27) fact28) fact29) fact30) fact31
theorem named : Try.checked.prog.funcNamed Rows.memoryAccessesRow.func = some 3 := by kernel_rfl
end Go.Proofs.Ytmefbkfapeijgaa.memoryAccesses
