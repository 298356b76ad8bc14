/- The closed facts that the row of MemoryCopies asks, each by itself. -/
import Derived.Test.YtmefbkfapeijgaaFactsP
namespace Go.Proofs.Ytmefbkfapeijgaa.memoryCopies
theorem fact0 : (Rows.memoryCopiesRow.wf (OpenSpec.ofChange Rows.memoryCopiesSpec)) = true := by kernel_rfl
theorem fact3 : (Try.f9.params.all (Try.checked.prog.readableRec ·)) = true := by kernel_rfl
theorem fact4 : (namedTie Try.checked.prog Rows.memoryCopiesRow.named Rows.memoryCopiesSpec.vars) = true := by kernel_rfl
theorem fact5 : ((Rows.memoryCopiesRow.stops == [])) = true := by kernel_rfl
theorem fact7 : ((Rows.memoryCopiesRow.knobs == [])) = true := by kernel_rfl
theorem fact9 : ((Rows.memoryCopiesRow.inPlace == Try.checked.prog.inPlace 9)) = true := by kernel_rfl
theorem fact10 : ((Rows.memoryCopiesRow.unfollowed == Try.checked.prog.unfollowed 9)) = true := by kernel_rfl
theorem fact11 : ((Rows.memoryCopiesRow.recurses == Try.checked.prog.recurses 9)) = true := by kernel_rfl
theorem fact12 : ((Rows.memoryCopiesRow.named == Try.checked.prog.varsNamed 9)) = true := by kernel_rfl
theorem fact13 : ((Rows.memoryCopiesRow.maps == (Try.f9.params.toList ++ Rows.memoryCopiesSpec.plain.varTypes Try.checked.prog).any (Try.checked.prog.mapsRec ·))) = true := by kernel_rfl
theorem fact14 : ((Rows.memoryCopiesRow.ifaces == (Try.f9.params.toList ++ Rows.memoryCopiesSpec.plain.varTypes Try.checked.prog).any (Try.checked.prog.ifacesRec ·))) = true := by kernel_rfl
theorem fact15 : ((Rows.memoryCopiesRow.mapsOut == Try.checked.prog.mapsAmong Try.f9.resultTypes.toList)) = true := by kernel_rfl
theorem fact16 : ((Rows.memoryCopiesRow.loops == (Try.f9.params.toList ++ Rows.memoryCopiesSpec.plain.varTypes Try.checked.prog).any (Try.checked.prog.loopsFrom ·))) = true := by kernel_rfl
theorem fact17 : ((Rows.memoryCopiesRow.wideKeys == (Try.f9.params.toList ++ Rows.memoryCopiesSpec.plain.varTypes Try.checked.prog ++ Try.f9.resultTypes.toList).any (Try.checked.prog.wideKeysFrom ·))) = true := by kernel_rfl
theorem fact18 : (Rows.memoryCopiesSpec.vars.all (Try.checked.prog.varReadable ·)) = true := by kernel_rfl
theorem fact19 : (Try.f9.resultTypes.all (fun t => Try.checked.prog.readableRec t && decide (t < Try.checked.prog.types.size))) = true := by kernel_rfl
theorem fact20 : ((Rows.memoryCopiesRow.ifacesOut == Try.f9.resultTypes.toList.any (Try.checked.prog.ifacesRec ·))) = true := by kernel_rfl
theorem fact21 : ((Rows.memoryCopiesRow.loopsOut == Try.f9.resultTypes.toList.any (Try.checked.prog.loopsFrom ·))) = true := by kernel_rfl
theorem fact22 : ((Rows.memoryCopiesRow.plainKeys == Try.checked.prog.plainKeys)) = true := factP22
theorem fact23 : (Rows.memoryCopiesRow.shortTexts.isNone) = true := by kernel_rfl
theorem fact26 : ((Rows.memoryCopiesRow.lifted == Try.checked.prog.liftsFinal)) = true := factP26
theorem fact27 : ((Try.checked.prog.make == some Rows.memoryCopiesRow.make)) = true := factP27
theorem fact28 : ((Rows.memoryCopiesRow.kinds == (if Rows.memoryCopiesRow.domain.isEmpty then [] else Try.f9.params.toList.map fun t => match Try.checked.prog.underlying t with | some (.int k) => some k | _ => none))) = true := by kernel_rfl
theorem fact29 : ((Rows.memoryCopiesRow.pinned == Rows.memoryCopiesRow.pinnedBy)) = true := by kernel_rfl
theorem fact30 : ((Rows.memoryCopiesRow.veiled == (Try.f9.params.toList ++ Rows.memoryCopiesSpec.plain.varTypes Try.checked.prog ++ Try.f9.resultTypes.toList).any (Try.checked.prog.veiledRec ·))) = true := by kernel_rfl
theorem fact31 : (Rows.memoryCopiesRow.veiledFits Try.checked.prog Try.f9.params.toList (Try.f9.params.toList ++ Rows.memoryCopiesSpec.plain.varTypes Try.checked.prog ++ Try.f9.resultTypes.toList)) = true := by kernel_rfl
set_option maxRecDepth 100000 in
theorem closed : joinedFacts Try.checked.prog 9 Try.f9 Rows.memoryCopiesSpec Rows.memoryCopiesRow = true := by
  unfold joinedFacts
  exact andT (andT (andT (andT (andT (andT (andT (andT (andT (andT (andT (andT (andT (andT (andT (andT (andT (andT (andT (andT (andT (andT (andT (andT (andT (andT (andT (andT (andT (andT (andT (fact0) factP1) factP2) fact3) fact4) fact5) factP6) fact7) factP8) fact9) fact10) fact11) fact12) fact13) fact14) fact15) fact16) fact17) fact18) fact19) fact20) fact21) fact22) fact23) factP24) factP25) fact26) fact27) fact28) fact29) fact30) fact31
theorem named : Try.checked.prog.funcNamed Rows.memoryCopiesRow.func = some 9 := by kernel_rfl
end Go.Proofs.Ytmefbkfapeijgaa.memoryCopies
