/- The closed facts that the row of BlockMays asks, each by itself. -/
import Derived.Test.YtppjiheebpabjaaFactsP
namespace Go.Proofs.Ytppjiheebpabjaa.blockMays
theorem fact0 : (Rows.blockMaysRow.wf (OpenSpec.ofChange Rows.blockMaysSpec)) = true := by kernel_rfl
theorem fact3 : (Try.f6.params.all (Try.checked.prog.readableRec ·)) = true := by kernel_rfl
theorem fact4 : (namedTie Try.checked.prog Rows.blockMaysRow.named Rows.blockMaysSpec.vars) = true := by kernel_rfl
theorem fact5 : ((Rows.blockMaysRow.stops == [])) = true := by kernel_rfl
theorem fact7 : ((Rows.blockMaysRow.knobs == [])) = true := by kernel_rfl
theorem fact9 : ((Rows.blockMaysRow.inPlace == Try.checked.prog.inPlace 6)) = true := by kernel_rfl
theorem fact10 : ((Rows.blockMaysRow.unfollowed == Try.checked.prog.unfollowed 6)) = true := by kernel_rfl
theorem fact11 : ((Rows.blockMaysRow.recurses == Try.checked.prog.recurses 6)) = true := by kernel_rfl
theorem fact12 : ((Rows.blockMaysRow.named == Try.checked.prog.varsNamed 6)) = true := by kernel_rfl
theorem fact13 : ((Rows.blockMaysRow.maps == (Try.f6.params.toList ++ Rows.blockMaysSpec.plain.varTypes Try.checked.prog).any (Try.checked.prog.mapsRec ·))) = true := by kernel_rfl
theorem fact14 : ((Rows.blockMaysRow.ifaces == (Try.f6.params.toList ++ Rows.blockMaysSpec.plain.varTypes Try.checked.prog).any (Try.checked.prog.ifacesRec ·))) = true := by kernel_rfl
theorem fact15 : ((Rows.blockMaysRow.mapsOut == Try.checked.prog.mapsAmong Try.f6.resultTypes.toList)) = true := by kernel_rfl
theorem fact16 : ((Rows.blockMaysRow.loops == (Try.f6.params.toList ++ Rows.blockMaysSpec.plain.varTypes Try.checked.prog).any (Try.checked.prog.loopsFrom ·))) = true := by kernel_rfl
theorem fact17 : ((Rows.blockMaysRow.wideKeys == (Try.f6.params.toList ++ Rows.blockMaysSpec.plain.varTypes Try.checked.prog ++ Try.f6.resultTypes.toList).any (Try.checked.prog.wideKeysFrom ·))) = true := by kernel_rfl
theorem fact18 : (Rows.blockMaysSpec.vars.all (Try.checked.prog.varReadable ·)) = true := by kernel_rfl
theorem fact19 : (Try.f6.resultTypes.all (fun t => Try.checked.prog.readableRec t && decide (t < Try.checked.prog.types.size))) = true := by kernel_rfl
theorem fact20 : ((Rows.blockMaysRow.ifacesOut == Try.f6.resultTypes.toList.any (Try.checked.prog.ifacesRec ·))) = true := by kernel_rfl
theorem fact21 : ((Rows.blockMaysRow.loopsOut == Try.f6.resultTypes.toList.any (Try.checked.prog.loopsFrom ·))) = true := by kernel_rfl
theorem fact22 : ((Rows.blockMaysRow.plainKeys == Try.checked.prog.plainKeys)) = true := factP22
theorem fact23 : (Rows.blockMaysRow.shortTexts.isNone) = true := by kernel_rfl
theorem fact26 : ((Rows.blockMaysRow.lifted == Try.checked.prog.liftsFinal)) = true := factP26
theorem fact27 : ((Try.checked.prog.make == some Rows.blockMaysRow.make)) = true := factP27
theorem fact28 : ((Rows.blockMaysRow.kinds == (if Rows.blockMaysRow.domain.isEmpty then [] else Try.f6.params.toList.map fun t => match Try.checked.prog.underlying t with | some (.int k) => some k | _ => none))) = true := by kernel_rfl
theorem fact29 : ((Rows.blockMaysRow.pinned == Rows.blockMaysRow.pinnedBy)) = true := by kernel_rfl
theorem fact30 : ((Rows.blockMaysRow.veiled == (Try.f6.params.toList ++ Rows.blockMaysSpec.plain.varTypes Try.checked.prog ++ Try.f6.resultTypes.toList).any (Try.checked.prog.veiledRec ·))) = true := by kernel_rfl
theorem fact31 : (Rows.blockMaysRow.veiledFits Try.checked.prog Try.f6.params.toList (Try.f6.params.toList ++ Rows.blockMaysSpec.plain.varTypes Try.checked.prog ++ Try.f6.resultTypes.toList)) = true := by kernel_rfl
set_option maxRecDepth 100000 in
theorem closed : joinedFacts Try.checked.prog 6 Try.f6 Rows.blockMaysSpec Rows.blockMaysRow = true := by
  unfold joinedFacts
  exact andT (andT (andT (andT (andT (andT (andT (andT (andT (andT (andT (andT (andT (andT (andT (andT (andT (andT (andT (andT (andT (andT (andT (andT (andT (andT (andT (andT (andT (andT (andT (fact0) factP1) factP2) fact3) fact4) fact5) factP6) fact7) factP8) fact9) fact10) fact11) fact12) fact13) fact14) fact15) fact16) fact17) fact18) fact19) fact20) fact21) fact22) fact23) factP24) factP25) fact26) fact27) fact28) fact29) fact30) fact31
theorem named : Try.checked.prog.funcNamed Rows.blockMaysRow.func = some 6 := by kernel_rfl
end Go.Proofs.Ytppjiheebpabjaa.blockMays
