/- The closed facts that the row of BlockCovers asks, each by itself. -/
import Derived.Test.YtppjiheebpabjaaFactsP
namespace Go.Proofs.Ytppjiheebpabjaa.blockCovers
theorem fact0 : (Rows.blockCoversRow.wf (OpenSpec.ofChange Rows.blockCoversSpec)) = true := by kernel_rfl
theorem fact3 : (Try.f3.params.all (Try.checked.prog.readableRec ·)) = true := by kernel_rfl
theorem fact4 : (namedTie Try.checked.prog Rows.blockCoversRow.named Rows.blockCoversSpec.vars) = true := by kernel_rfl
theorem fact5 : ((Rows.blockCoversRow.stops == [])) = true := by kernel_rfl
theorem fact7 : ((Rows.blockCoversRow.knobs == [])) = true := by kernel_rfl
theorem fact9 : ((Rows.blockCoversRow.inPlace == Try.checked.prog.inPlace 3)) = true := by kernel_rfl
theorem fact10 : ((Rows.blockCoversRow.unfollowed == Try.checked.prog.unfollowed 3)) = true := by kernel_rfl
theorem fact11 : ((Rows.blockCoversRow.recurses == Try.checked.prog.recurses 3)) = true := by kernel_rfl
theorem fact12 : ((Rows.blockCoversRow.named == Try.checked.prog.varsNamed 3)) = true := by kernel_rfl
theorem fact13 : ((Rows.blockCoversRow.maps == (Try.f3.params.toList ++ Rows.blockCoversSpec.plain.varTypes Try.checked.prog).any (Try.checked.prog.mapsRec ·))) = true := by kernel_rfl
theorem fact14 : ((Rows.blockCoversRow.ifaces == (Try.f3.params.toList ++ Rows.blockCoversSpec.plain.varTypes Try.checked.prog).any (Try.checked.prog.ifacesRec ·))) = true := by kernel_rfl
theorem fact15 : ((Rows.blockCoversRow.mapsOut == Try.checked.prog.mapsAmong Try.f3.resultTypes.toList)) = true := by kernel_rfl
theorem fact16 : ((Rows.blockCoversRow.loops == (Try.f3.params.toList ++ Rows.blockCoversSpec.plain.varTypes Try.checked.prog).any (Try.checked.prog.loopsFrom ·))) = true := by kernel_rfl
theorem fact17 : ((Rows.blockCoversRow.wideKeys == (Try.f3.params.toList ++ Rows.blockCoversSpec.plain.varTypes Try.checked.prog ++ Try.f3.resultTypes.toList).any (Try.checked.prog.wideKeysFrom ·))) = true := by kernel_rfl
theorem fact18 : (Rows.blockCoversSpec.vars.all (Try.checked.prog.varReadable ·)) = true := by kernel_rfl
theorem fact19 : (Try.f3.resultTypes.all (fun t => Try.checked.prog.readableRec t && decide (t < Try.checked.prog.types.size))) = true := by kernel_rfl
theorem fact20 : ((Rows.blockCoversRow.ifacesOut == Try.f3.resultTypes.toList.any (Try.checked.prog.ifacesRec ·))) = true := by kernel_rfl
theorem fact21 : ((Rows.blockCoversRow.loopsOut == Try.f3.resultTypes.toList.any (Try.checked.prog.loopsFrom ·))) = true := by kernel_rfl
theorem fact22 : ((Rows.blockCoversRow.plainKeys == Try.checked.prog.plainKeys)) = true := factP22
theorem fact23 : (Rows.blockCoversRow.shortTexts.isNone) = true := by kernel_rfl
theorem fact26 : ((Rows.blockCoversRow.lifted == Try.checked.prog.liftsFinal)) = true := factP26
theorem fact27 : ((Try.checked.prog.make == some Rows.blockCoversRow.make)) = true := factP27
theorem fact28 : ((Rows.blockCoversRow.kinds == (if Rows.blockCoversRow.domain.isEmpty then [] else Try.f3.params.toList.map fun t => match Try.checked.prog.underlying t with | some (.int k) => some k | _ => none))) = true := by kernel_rfl
theorem fact29 : ((Rows.blockCoversRow.pinned == Rows.blockCoversRow.pinnedBy)) = true := by kernel_rfl
theorem fact30 : ((Rows.blockCoversRow.veiled == (Try.f3.params.toList ++ Rows.blockCoversSpec.plain.varTypes Try.checked.prog ++ Try.f3.resultTypes.toList).any (Try.checked.prog.veiledRec ·))) = true := by kernel_rfl
theorem fact31 : (Rows.blockCoversRow.veiledFits Try.checked.prog Try.f3.params.toList (Try.f3.params.toList ++ Rows.blockCoversSpec.plain.varTypes Try.checked.prog ++ Try.f3.resultTypes.toList)) = true := by kernel_rfl
set_option maxRecDepth 100000 in
theorem closed : joinedFacts Try.checked.prog 3 Try.f3 Rows.blockCoversSpec Rows.blockCoversRow = true := by
  unfold joinedFacts
  exact andT (andT (andT (andT (andT (andT (andT (andT (andT (andT (andT (andT (andT (andT (andT (andT (andT (andT (andT (andT (andT (andT (andT (andT (andT (andT (andT (andT (andT (andT (andT (fact0) factP1) factP2) fact3) fact4) fact5) factP6) fact7) factP8) fact9) fact10) fact11) fact12) fact13) fact14) fact15) fact16) fact17) fact18) fact19) fact20) fact21) fact22) fact23) factP24) factP25) fact26) fact27) fact28) fact29) fact30) fact31
theorem named : Try.checked.prog.funcNamed Rows.blockCoversRow.func = some 3 := by kernel_rfl
end Go.Proofs.Ytppjiheebpabjaa.blockCovers
