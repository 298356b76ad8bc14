/- The closed facts that the row of CacheTells asks, each by itself. -/
import Derived.Test.YtcaddlighhiepaaFactsP
namespace Go.Proofs.Ytcaddlighhiepaa.cacheTells
theorem fact0 : (Rows.cacheTellsRow.wf (OpenSpec.ofChange Rows.cacheTellsSpec)) = true := by kernel_rfl
theorem fact3 : (Try.f3.params.all (Try.checked.prog.readableRec ·)) = true := by kernel_rfl
theorem fact4 : (namedTie Try.checked.prog Rows.cacheTellsRow.named Rows.cacheTellsSpec.vars) = true := by kernel_rfl
theorem fact5 : ((Rows.cacheTellsRow.stops == [])) = true := by kernel_rfl
theorem fact7 : ((Rows.cacheTellsRow.knobs == [])) = true := by kernel_rfl
theorem fact9 : ((Rows.cacheTellsRow.inPlace == Try.checked.prog.inPlace 3)) = true := by kernel_rfl
theorem fact10 : ((Rows.cacheTellsRow.unfollowed == Try.checked.prog.unfollowed 3)) = true := by kernel_rfl
theorem fact11 : ((Rows.cacheTellsRow.recurses == Try.checked.prog.recurses 3)) = true := by kernel_rfl
theorem fact12 : ((Rows.cacheTellsRow.named == Try.checked.prog.varsNamed 3)) = true := by kernel_rfl
theorem fact13 : ((Rows.cacheTellsRow.maps == (Try.f3.params.toList ++ Rows.cacheTellsSpec.plain.varTypes Try.checked.prog).any (Try.checked.prog.mapsRec ·))) = true := by kernel_rfl
theorem fact14 : ((Rows.cacheTellsRow.ifaces == (Try.f3.params.toList ++ Rows.cacheTellsSpec.plain.varTypes Try.checked.prog).any (Try.checked.prog.ifacesRec ·))) = true := by kernel_rfl
theorem fact15 : ((Rows.cacheTellsRow.mapsOut == Try.checked.prog.mapsAmong Try.f3.resultTypes.toList)) = true := by kernel_rfl
theorem fact16 : ((Rows.cacheTellsRow.loops == (Try.f3.params.toList ++ Rows.cacheTellsSpec.plain.varTypes Try.checked.prog).any (Try.checked.prog.loopsFrom ·))) = true := by kernel_rfl
theorem fact17 : ((Rows.cacheTellsRow.wideKeys == (Try.f3.params.toList ++ Rows.cacheTellsSpec.plain.varTypes Try.checked.prog ++ Try.f3.resultTypes.toList).any (Try.checked.prog.wideKeysFrom ·))) = true := by kernel_rfl
theorem fact18 : (Rows.cacheTellsSpec.vars.all (Try.checked.prog.varReadable ·)) = true := by kernel_rfl
theorem fact19 : (Try.f3.resultTypes.all (fun t => Try.checked.prog.readableRec t && decide (t < Try.checked.prog.types.size))) = true := by kernel_rfl
theorem fact20 : ((Rows.cacheTellsRow.ifacesOut == Try.f3.resultTypes.toList.any (Try.checked.prog.ifacesRec ·))) = true := by kernel_rfl
theorem fact21 : ((Rows.cacheTellsRow.loopsOut == Try.f3.resultTypes.toList.any (Try.checked.prog.loopsFrom ·))) = true := by kernel_rfl
theorem fact22 : ((Rows.cacheTellsRow.plainKeys == Try.checked.prog.plainKeys)) = true := factP22
theorem fact23 : (Rows.cacheTellsRow.shortTexts.isNone) = true := by kernel_rfl
theorem fact26 : ((Rows.cacheTellsRow.lifted == Try.checked.prog.liftsFinal)) = true := factP26
theorem fact27 : ((Try.checked.prog.make == some Rows.cacheTellsRow.make)) = true := factP27
theorem fact28 : ((Rows.cacheTellsRow.kinds == (if Rows.cacheTellsRow.domain.isEmpty then [] else Try.f3.params.toList.map fun t => match Try.checked.prog.underlying t with | some (.int k) => some k | _ => none))) = true := by kernel_rfl
theorem fact29 : ((Rows.cacheTellsRow.pinned == Rows.cacheTellsRow.pinnedBy)) = true := by kernel_rfl
theorem fact30 : ((Rows.cacheTellsRow.veiled == (Try.f3.params.toList ++ Rows.cacheTellsSpec.plain.varTypes Try.checked.prog ++ Try.f3.resultTypes.toList).any (Try.checked.prog.veiledRec ·))) = true := by kernel_rfl
theorem fact31 : (Rows.cacheTellsRow.veiledFits Try.checked.prog Try.f3.params.toList (Try.f3.params.toList ++ Rows.cacheTellsSpec.plain.varTypes Try.checked.prog ++ Try.f3.resultTypes.toList)) = true := by kernel_rfl
set_option maxRecDepth 100000 in
theorem closed : joinedFacts Try.checked.prog 3 Try.f3 Rows.cacheTellsSpec Rows.cacheTellsRow = true := by
  unfold joinedFacts
  exact andT (andT (andT (andT (andT (andT (andT (andT (andT (andT (andT (andT (andT (andT (andT (andT (andT (andT (andT (andT (andT (andT (andT (andT (andT (andT (andT (andT (andT (andT (andT (fact0) factP1) factP2) fact3) fact4) fact5) factP6) fact7) factP8) fact9) fact10) fact11) fact12) fact13) fact14) fact15) fact16) fact17) fact18) fact19) fact20) fact21) fact22) fact23) factP24) factP25) fact26) fact27) fact28) fact29) fact30) fact31
theorem named : Try.checked.prog.funcNamed Rows.cacheTellsRow.func = some 3 := by kernel_rfl
end Go.Proofs.Ytcaddlighhiepaa.cacheTells
