/- The closed facts that the row of TlbRecent asks, each by itself. -/
import Derived.Test.YthgikkibfbkoiaaFactsP
namespace Go.Proofs.Ythgikkibfbkoiaa.tlbRecent
theorem fact0 : (Rows.tlbRecentRow.wf (OpenSpec.ofChange Rows.tlbRecentSpec)) = true := by kernel_rfl
theorem fact3 : (Try.f5.params.all (Try.checked.prog.readableRec ·)) = true := by kernel_rfl
theorem fact4 : (namedTie Try.checked.prog Rows.tlbRecentRow.named Rows.tlbRecentSpec.vars) = true := by kernel_rfl
theorem fact5 : ((Rows.tlbRecentRow.stops == [])) = true := by kernel_rfl
theorem fact7 : ((Rows.tlbRecentRow.knobs == [])) = true := by kernel_rfl
theorem fact9 : ((Rows.tlbRecentRow.inPlace == Try.checked.prog.inPlace 5)) = true := by kernel_rfl
theorem fact10 : ((Rows.tlbRecentRow.unfollowed == Try.checked.prog.unfollowed 5)) = true := by kernel_rfl
theorem fact11 : ((Rows.tlbRecentRow.recurses == Try.checked.prog.recurses 5)) = true := by kernel_rfl
theorem fact12 : ((Rows.tlbRecentRow.named == Try.checked.prog.varsNamed 5)) = true := by kernel_rfl
theorem fact13 : ((Rows.tlbRecentRow.maps == (Try.f5.params.toList ++ Rows.tlbRecentSpec.plain.varTypes Try.checked.prog).any (Try.checked.prog.mapsRec ·))) = true := by kernel_rfl
theorem fact14 : ((Rows.tlbRecentRow.ifaces == (Try.f5.params.toList ++ Rows.tlbRecentSpec.plain.varTypes Try.checked.prog).any (Try.checked.prog.ifacesRec ·))) = true := by kernel_rfl
theorem fact15 : ((Rows.tlbRecentRow.mapsOut == Try.checked.prog.mapsAmong Try.f5.resultTypes.toList)) = true := by kernel_rfl
theorem fact16 : ((Rows.tlbRecentRow.loops == (Try.f5.params.toList ++ Rows.tlbRecentSpec.plain.varTypes Try.checked.prog).any (Try.checked.prog.loopsFrom ·))) = true := by kernel_rfl
theorem fact17 : ((Rows.tlbRecentRow.wideKeys == (Try.f5.params.toList ++ Rows.tlbRecentSpec.plain.varTypes Try.checked.prog ++ Try.f5.resultTypes.toList).any (Try.checked.prog.wideKeysFrom ·))) = true := by kernel_rfl
theorem fact18 : (Rows.tlbRecentSpec.vars.all (Try.checked.prog.varReadable ·)) = true := by kernel_rfl
theorem fact19 : (Try.f5.resultTypes.all (fun t => Try.checked.prog.readableRec t && decide (t < Try.checked.prog.types.size))) = true := by kernel_rfl
theorem fact20 : ((Rows.tlbRecentRow.ifacesOut == Try.f5.resultTypes.toList.any (Try.checked.prog.ifacesRec ·))) = true := by kernel_rfl
theorem fact21 : ((Rows.tlbRecentRow.loopsOut == Try.f5.resultTypes.toList.any (Try.checked.prog.loopsFrom ·))) = true := by kernel_rfl
theorem fact22 : ((Rows.tlbRecentRow.plainKeys == Try.checked.prog.plainKeys)) = true := factP22
theorem fact23 : (Rows.tlbRecentRow.shortTexts.isNone) = true := by kernel_rfl
theorem fact26 : ((Rows.tlbRecentRow.lifted == Try.checked.prog.liftsFinal)) = true := factP26
theorem fact27 : ((Try.checked.prog.make == some Rows.tlbRecentRow.make)) = true := factP27
theorem fact28 : ((Rows.tlbRecentRow.kinds == (if Rows.tlbRecentRow.domain.isEmpty then [] else Try.f5.params.toList.map fun t => match Try.checked.prog.underlying t with | some (.int k) => some k | _ => none))) = true := by kernel_rfl
theorem fact29 : ((Rows.tlbRecentRow.pinned == Rows.tlbRecentRow.pinnedBy)) = true := by kernel_rfl
theorem fact30 : ((Rows.tlbRecentRow.veiled == (Try.f5.params.toList ++ Rows.tlbRecentSpec.plain.varTypes Try.checked.prog ++ Try.f5.resultTypes.toList).any (Try.checked.prog.veiledRec ·))) = true := by kernel_rfl
theorem fact31 : (Rows.tlbRecentRow.veiledFits Try.checked.prog Try.f5.params.toList (Try.f5.params.toList ++ Rows.tlbRecentSpec.plain.varTypes Try.checked.prog ++ Try.f5.resultTypes.toList)) = true := by kernel_rfl
set_option maxRecDepth 100000 in
theorem closed : joinedFacts Try.checked.prog 5 Try.f5 Rows.tlbRecentSpec Rows.tlbRecentRow = true := by
  unfold joinedFacts
  exact andT (andT (andT (andT (andT (andT (andT (andT (andT (andT (andT (andT (andT (andT (andT (andT (andT (andT (andT (andT (andT (andT (andT (andT (andT (andT (andT (andT (andT (andT (andT (fact0) factP1) factP2) fact3) fact4) fact5) factP6) fact7) factP8) fact9) fact10) fact11) fact12) fact13) fact14) fact15) fact16) fact17) fact18) fact19) fact20) fact21) fact22) fact23) factP24) factP25) fact26) fact27) fact28) fact29) fact30) fact31
theorem named : Try.checked.prog.funcNamed Rows.tlbRecentRow.func = some 5 := by kernel_rfl
end Go.Proofs.Ythgikkibfbkoiaa.tlbRecent
