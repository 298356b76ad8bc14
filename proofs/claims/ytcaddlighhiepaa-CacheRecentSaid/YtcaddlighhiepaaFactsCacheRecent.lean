/- The closed facts that the row of CacheRecent asks, each by itself. -/
import Derived.Test.YtcaddlighhiepaaFactsP
namespace Go.Proofs.Ytcaddlighhiepaa.cacheRecent
theorem fact0 : (Rows.cacheRecentRow.wf (OpenSpec.ofChange Rows.cacheRecentSpec)) = true := by kernel_rfl
theorem fact3 : (Try.f5.params.all (Try.checked.prog.readableRec ·)) = true := by kernel_rfl
theorem fact4 : (namedTie Try.checked.prog Rows.cacheRecentRow.named Rows.cacheRecentSpec.vars) = true := by kernel_rfl
theorem fact5 : ((Rows.cacheRecentRow.stops == [])) = true := by kernel_rfl
theorem fact7 : ((Rows.cacheRecentRow.knobs == [])) = true := by kernel_rfl
theorem fact9 : ((Rows.cacheRecentRow.inPlace == Try.checked.prog.inPlace 5)) = true := by kernel_rfl
theorem fact10 : ((Rows.cacheRecentRow.unfollowed == Try.checked.prog.unfollowed 5)) = true := by kernel_rfl
theorem fact11 : ((Rows.cacheRecentRow.recurses == Try.checked.prog.recurses 5)) = true := by kernel_rfl
theorem fact12 : ((Rows.cacheRecentRow.named == Try.checked.prog.varsNamed 5)) = true := by kernel_rfl
theorem fact13 : ((Rows.cacheRecentRow.maps == (Try.f5.params.toList ++ Rows.cacheRecentSpec.plain.varTypes Try.checked.prog).any (Try.checked.prog.mapsRec ·))) = true := by kernel_rfl
theorem fact14 : ((Rows.cacheRecentRow.ifaces == (Try.f5.params.toList ++ Rows.cacheRecentSpec.plain.varTypes Try.checked.prog).any (Try.checked.prog.ifacesRec ·))) = true := by kernel_rfl
theorem fact15 : ((Rows.cacheRecentRow.mapsOut == Try.checked.prog.mapsAmong Try.f5.resultTypes.toList)) = true := by kernel_rfl
theorem fact16 : ((Rows.cacheRecentRow.loops == (Try.f5.params.toList ++ Rows.cacheRecentSpec.plain.varTypes Try.checked.prog).any (Try.checked.prog.loopsFrom ·))) = true := by kernel_rfl
theorem fact17 : ((Rows.cacheRecentRow.wideKeys == (Try.f5.params.toList ++ Rows.cacheRecentSpec.plain.varTypes Try.checked.prog ++ Try.f5.resultTypes.toList).any (Try.checked.prog.wideKeysFrom ·))) = true := by kernel_rfl
theorem fact18 : (Rows.cacheRecentSpec.vars.all (Try.checked.prog.varReadable ·)) = true := by kernel_rfl
theorem fact19 : (Try.f5.resultTypes.all (fun t => Try.checked.prog.readableRec t && decide (t < Try.checked.prog.types.size))) = true := by kernel_rfl
theorem fact20 : ((Rows.cacheRecentRow.ifacesOut == Try.f5.resultTypes.toList.any (Try.checked.prog.ifacesRec ·))) = true := by kernel_rfl
theorem fact21 : ((Rows.cacheRecentRow.loopsOut == Try.f5.resultTypes.toList.any (Try.checked.prog.loopsFrom ·))) = true := by kernel_rfl
theorem fact22 : ((Rows.cacheRecentRow.plainKeys == Try.checked.prog.plainKeys)) = true := factP22
theorem fact23 : (Rows.cacheRecentRow.shortTexts.isNone) = true := by kernel_rfl
theorem fact26 : ((Rows.cacheRecentRow.lifted == Try.checked.prog.liftsFinal)) = true := factP26
theorem fact27 : ((Try.checked.prog.make == some Rows.cacheRecentRow.make)) = true := factP27
theorem fact28 : ((Rows.cacheRecentRow.kinds == (if Rows.cacheRecentRow.domain.isEmpty then [] else Try.f5.params.toList.map fun t => match Try.checked.prog.underlying t with | some (.int k) => some k | _ => none))) = true := by kernel_rfl
theorem fact29 : ((Rows.cacheRecentRow.pinned == Rows.cacheRecentRow.pinnedBy)) = true := by kernel_rfl
theorem fact30 : ((Rows.cacheRecentRow.veiled == (Try.f5.params.toList ++ Rows.cacheRecentSpec.plain.varTypes Try.checked.prog ++ Try.f5.resultTypes.toList).any (Try.checked.prog.veiledRec ·))) = true := by kernel_rfl
theorem fact31 : (Rows.cacheRecentRow.veiledFits Try.checked.prog Try.f5.params.toList (Try.f5.params.toList ++ Rows.cacheRecentSpec.plain.varTypes Try.checked.prog ++ Try.f5.resultTypes.toList)) = true := by kernel_rfl
set_option maxRecDepth 100000 in
theorem closed : joinedFacts Try.checked.prog 5 Try.f5 Rows.cacheRecentSpec Rows.cacheRecentRow = true := by
  unfold joinedFacts
  exact andT (andT (andT (andT (andT (andT (andT (andT (andT (andT (andT (andT (andT (andT (andT (andT (andT (andT (andT (andT (andT (andT (andT (andT (andT (andT (andT (andT (andT (andT (andT (fact0) factP1) factP2) fact3) fact4) fact5) factP6) fact7) factP8) fact9) fact10) fact11) fact12) fact13) fact14) fact15) fact16) fact17) fact18) fact19) fact20) fact21) fact22) fact23) factP24) factP25) fact26) fact27) fact28) fact29) fact30) fact31
theorem named : Try.checked.prog.funcNamed Rows.cacheRecentRow.func = some 5 := by kernel_rfl
end Go.Proofs.Ytcaddlighhiepaa.cacheRecent
