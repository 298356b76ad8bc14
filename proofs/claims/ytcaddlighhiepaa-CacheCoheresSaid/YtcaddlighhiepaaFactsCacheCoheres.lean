/- The closed facts that the row of CacheCoheres asks, each by itself. -/
import Derived.Test.YtcaddlighhiepaaFactsP
namespace Go.Proofs.Ytcaddlighhiepaa.cacheCoheres
theorem fact0 : (Rows.cacheCoheresRow.wf (OpenSpec.ofChange Rows.cacheCoheresSpec)) = true := by kernel_rfl
theorem fact3 : (Try.f4.params.all (Try.checked.prog.readableRec ·)) = true := by kernel_rfl
theorem fact4 : (namedTie Try.checked.prog Rows.cacheCoheresRow.named Rows.cacheCoheresSpec.vars) = true := by kernel_rfl
theorem fact5 : ((Rows.cacheCoheresRow.stops == [])) = true := by kernel_rfl
theorem fact7 : ((Rows.cacheCoheresRow.knobs == [])) = true := by kernel_rfl
theorem fact9 : ((Rows.cacheCoheresRow.inPlace == Try.checked.prog.inPlace 4)) = true := by kernel_rfl
theorem fact10 : ((Rows.cacheCoheresRow.unfollowed == Try.checked.prog.unfollowed 4)) = true := by kernel_rfl
theorem fact11 : ((Rows.cacheCoheresRow.recurses == Try.checked.prog.recurses 4)) = true := by kernel_rfl
theorem fact12 : ((Rows.cacheCoheresRow.named == Try.checked.prog.varsNamed 4)) = true := by kernel_rfl
theorem fact13 : ((Rows.cacheCoheresRow.maps == (Try.f4.params.toList ++ Rows.cacheCoheresSpec.plain.varTypes Try.checked.prog).any (Try.checked.prog.mapsRec ·))) = true := by kernel_rfl
theorem fact14 : ((Rows.cacheCoheresRow.ifaces == (Try.f4.params.toList ++ Rows.cacheCoheresSpec.plain.varTypes Try.checked.prog).any (Try.checked.prog.ifacesRec ·))) = true := by kernel_rfl
theorem fact15 : ((Rows.cacheCoheresRow.mapsOut == Try.checked.prog.mapsAmong Try.f4.resultTypes.toList)) = true := by kernel_rfl
theorem fact16 : ((Rows.cacheCoheresRow.loops == (Try.f4.params.toList ++ Rows.cacheCoheresSpec.plain.varTypes Try.checked.prog).any (Try.checked.prog.loopsFrom ·))) = true := by kernel_rfl
theorem fact17 : ((Rows.cacheCoheresRow.wideKeys == (Try.f4.params.toList ++ Rows.cacheCoheresSpec.plain.varTypes Try.checked.prog ++ Try.f4.resultTypes.toList).any (Try.checked.prog.wideKeysFrom ·))) = true := by kernel_rfl
theorem fact18 : (Rows.cacheCoheresSpec.vars.all (Try.checked.prog.varReadable ·)) = true := by kernel_rfl
theorem fact19 : (Try.f4.resultTypes.all (fun t => Try.checked.prog.readableRec t && decide (t < Try.checked.prog.types.size))) = true := by kernel_rfl
theorem fact20 : ((Rows.cacheCoheresRow.ifacesOut == Try.f4.resultTypes.toList.any (Try.checked.prog.ifacesRec ·))) = true := by kernel_rfl
theorem fact21 : ((Rows.cacheCoheresRow.loopsOut == Try.f4.resultTypes.toList.any (Try.checked.prog.loopsFrom ·))) = true := by kernel_rfl
theorem fact22 : ((Rows.cacheCoheresRow.plainKeys == Try.checked.prog.plainKeys)) = true := factP22
theorem fact23 : (Rows.cacheCoheresRow.shortTexts.isNone) = true := by kernel_rfl
theorem fact26 : ((Rows.cacheCoheresRow.lifted == Try.checked.prog.liftsFinal)) = true := factP26
theorem fact27 : ((Try.checked.prog.make == some Rows.cacheCoheresRow.make)) = true := factP27
theorem fact28 : ((Rows.cacheCoheresRow.kinds == (if Rows.cacheCoheresRow.domain.isEmpty then [] else Try.f4.params.toList.map fun t => match Try.checked.prog.underlying t with | some (.int k) => some k | _ => none))) = true := by kernel_rfl
theorem fact29 : ((Rows.cacheCoheresRow.pinned == Rows.cacheCoheresRow.pinnedBy)) = true := by kernel_rfl
theorem fact30 : ((Rows.cacheCoheresRow.veiled == (Try.f4.params.toList ++ Rows.cacheCoheresSpec.plain.varTypes Try.checked.prog ++ Try.f4.resultTypes.toList).any (Try.checked.prog.veiledRec ·))) = true := by kernel_rfl
theorem fact31 : (Rows.cacheCoheresRow.veiledFits Try.checked.prog Try.f4.params.toList (Try.f4.params.toList ++ Rows.cacheCoheresSpec.plain.varTypes Try.checked.prog ++ Try.f4.resultTypes.toList)) = true := by kernel_rfl
set_option maxRecDepth 100000 in
theorem closed : joinedFacts Try.checked.prog 4 Try.f4 Rows.cacheCoheresSpec Rows.cacheCoheresRow = true := by
  unfold joinedFacts
  exact andT (andT (andT (andT (andT (andT (andT (andT (andT (andT (andT (andT (andT (andT (andT (andT (andT (andT (andT (andT (andT (andT (andT (andT (andT (andT (andT (andT (andT (andT (andT (fact0) factP1) factP2) fact3) fact4) fact5) factP6) fact7) factP8) fact9) fact10) fact11) fact12) fact13) fact14) fact15) fact16) fact17) fact18) fact19) fact20) fact21) fact22) fact23) factP24) factP25) fact26) fact27) fact28) fact29) fact30) fact31
theorem named : Try.checked.prog.funcNamed Rows.cacheCoheresRow.func = some 4 := by kernel_rfl
end Go.Proofs.Ytcaddlighhiepaa.cacheCoheres
