/- The closed facts that the row of TlbTells asks, each by itself. -/
import Derived.Test.YthgikkibfbkoiaaFactsP
namespace Go.Proofs.Ythgikkibfbkoiaa.tlbTells
theorem fact0 : (Rows.tlbTellsRow.wf (OpenSpec.ofChange Rows.tlbTellsSpec)) = true := by kernel_rfl
theorem fact3 : (Try.f3.params.all (Try.checked.prog.readableRec ·)) = true := by kernel_rfl
theorem fact4 : (namedTie Try.checked.prog Rows.tlbTellsRow.named Rows.tlbTellsSpec.vars) = true := by kernel_rfl
theorem fact5 : ((Rows.tlbTellsRow.stops == [])) = true := by kernel_rfl
theorem fact7 : ((Rows.tlbTellsRow.knobs == [])) = true := by kernel_rfl
theorem fact9 : ((Rows.tlbTellsRow.inPlace == Try.checked.prog.inPlace 3)) = true := by kernel_rfl
theorem fact10 : ((Rows.tlbTellsRow.unfollowed == Try.checked.prog.unfollowed 3)) = true := by kernel_rfl
theorem fact11 : ((Rows.tlbTellsRow.recurses == Try.checked.prog.recurses 3)) = true := by kernel_rfl
theorem fact12 : ((Rows.tlbTellsRow.named == Try.checked.prog.varsNamed 3)) = true := by kernel_rfl
theorem fact13 : ((Rows.tlbTellsRow.maps == (Try.f3.params.toList ++ Rows.tlbTellsSpec.plain.varTypes Try.checked.prog).any (Try.checked.prog.mapsRec ·))) = true := by kernel_rfl
theorem fact14 : ((Rows.tlbTellsRow.ifaces == (Try.f3.params.toList ++ Rows.tlbTellsSpec.plain.varTypes Try.checked.prog).any (Try.checked.prog.ifacesRec ·))) = true := by kernel_rfl
theorem fact15 : ((Rows.tlbTellsRow.mapsOut == Try.checked.prog.mapsAmong Try.f3.resultTypes.toList)) = true := by kernel_rfl
theorem fact16 : ((Rows.tlbTellsRow.loops == (Try.f3.params.toList ++ Rows.tlbTellsSpec.plain.varTypes Try.checked.prog).any (Try.checked.prog.loopsFrom ·))) = true := by kernel_rfl
theorem fact17 : ((Rows.tlbTellsRow.wideKeys == (Try.f3.params.toList ++ Rows.tlbTellsSpec.plain.varTypes Try.checked.prog ++ Try.f3.resultTypes.toList).any (Try.checked.prog.wideKeysFrom ·))) = true := by kernel_rfl
theorem fact18 : (Rows.tlbTellsSpec.vars.all (Try.checked.prog.varReadable ·)) = true := by kernel_rfl
theorem fact19 : (Try.f3.resultTypes.all (fun t => Try.checked.prog.readableRec t && decide (t < Try.checked.prog.types.size))) = true := by kernel_rfl
theorem fact20 : ((Rows.tlbTellsRow.ifacesOut == Try.f3.resultTypes.toList.any (Try.checked.prog.ifacesRec ·))) = true := by kernel_rfl
theorem fact21 : ((Rows.tlbTellsRow.loopsOut == Try.f3.resultTypes.toList.any (Try.checked.prog.loopsFrom ·))) = true := by kernel_rfl
theorem fact22 : ((Rows.tlbTellsRow.plainKeys == Try.checked.prog.plainKeys)) = true := factP22
theorem fact23 : (Rows.tlbTellsRow.shortTexts.isNone) = true := by kernel_rfl
theorem fact26 : ((Rows.tlbTellsRow.lifted == Try.checked.prog.liftsFinal)) = true := factP26
theorem fact27 : ((Try.checked.prog.make == some Rows.tlbTellsRow.make)) = true := factP27
theorem fact28 : ((Rows.tlbTellsRow.kinds == (if Rows.tlbTellsRow.domain.isEmpty then [] else Try.f3.params.toList.map fun t => match Try.checked.prog.underlying t with | some (.int k) => some k | _ => none))) = true := by kernel_rfl
theorem fact29 : ((Rows.tlbTellsRow.pinned == Rows.tlbTellsRow.pinnedBy)) = true := by kernel_rfl
theorem fact30 : ((Rows.tlbTellsRow.veiled == (Try.f3.params.toList ++ Rows.tlbTellsSpec.plain.varTypes Try.checked.prog ++ Try.f3.resultTypes.toList).any (Try.checked.prog.veiledRec ·))) = true := by kernel_rfl
theorem fact31 : (Rows.tlbTellsRow.veiledFits Try.checked.prog Try.f3.params.toList (Try.f3.params.toList ++ Rows.tlbTellsSpec.plain.varTypes Try.checked.prog ++ Try.f3.resultTypes.toList)) = true := by kernel_rfl
set_option maxRecDepth 100000 in
theorem closed : joinedFacts Try.checked.prog 3 Try.f3 Rows.tlbTellsSpec Rows.tlbTellsRow = true := by
  unfold joinedFacts
  exact andT (andT (andT (andT (andT (andT (andT (andT (andT (andT (andT (andT (andT (andT (andT (andT (andT (andT (andT (andT (andT (andT (andT (andT (andT (andT (andT (andT (andT (andT (andT (fact0) factP1) factP2) fact3) fact4) fact5) factP6) fact7) factP8) fact9) fact10) fact11) fact12) fact13) fact14) fact15) fact16) fact17) fact18) fact19) fact20) fact21) fact22) fact23) factP24) factP25) fact26) fact27) fact28) fact29) fact30) fact31
theorem named : Try.checked.prog.funcNamed Rows.tlbTellsRow.func = some 3 := by kernel_rfl
end Go.Proofs.Ythgikkibfbkoiaa.tlbTells
