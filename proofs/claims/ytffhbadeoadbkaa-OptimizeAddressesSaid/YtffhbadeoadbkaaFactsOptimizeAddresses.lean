/- The closed facts that the row of OptimizeAddresses asks, each by itself. -/
import Derived.Test.YtffhbadeoadbkaaFactsP
namespace Go.Proofs.Ytffhbadeoadbkaa.optimizeAddresses
theorem fact0 : (Rows.optimizeAddressesRow.wf (OpenSpec.ofChange Rows.optimizeAddressesSpec)) = true := by kernel_rfl
theorem fact3 : (Try.f19.params.all (Try.checked.prog.readableRec ·)) = true := by kernel_rfl
theorem fact4 : (namedTie Try.checked.prog Rows.optimizeAddressesRow.named Rows.optimizeAddressesSpec.vars) = true := by kernel_rfl
theorem fact5 : ((Rows.optimizeAddressesRow.stops == [])) = true := by kernel_rfl
theorem fact7 : ((Rows.optimizeAddressesRow.knobs == [])) = true := by kernel_rfl
theorem fact9 : ((Rows.optimizeAddressesRow.inPlace == Try.checked.prog.inPlace 19)) = true := by kernel_rfl
theorem fact10 : ((Rows.optimizeAddressesRow.unfollowed == Try.checked.prog.unfollowed 19)) = true := by kernel_rfl
theorem fact11 : ((Rows.optimizeAddressesRow.recurses == Try.checked.prog.recurses 19)) = true := by kernel_rfl
theorem fact12 : ((Rows.optimizeAddressesRow.named == Try.checked.prog.varsNamed 19)) = true := by kernel_rfl
theorem fact13 : ((Rows.optimizeAddressesRow.maps == (Try.f19.params.toList ++ Rows.optimizeAddressesSpec.plain.varTypes Try.checked.prog).any (Try.checked.prog.mapsRec ·))) = true := by kernel_rfl
theorem fact14 : ((Rows.optimizeAddressesRow.ifaces == (Try.f19.params.toList ++ Rows.optimizeAddressesSpec.plain.varTypes Try.checked.prog).any (Try.checked.prog.ifacesRec ·))) = true := by kernel_rfl
theorem fact15 : ((Rows.optimizeAddressesRow.mapsOut == Try.checked.prog.mapsAmong Try.f19.resultTypes.toList)) = true := by kernel_rfl
theorem fact16 : ((Rows.optimizeAddressesRow.loops == (Try.f19.params.toList ++ Rows.optimizeAddressesSpec.plain.varTypes Try.checked.prog).any (Try.checked.prog.loopsFrom ·))) = true := by kernel_rfl
theorem fact17 : ((Rows.optimizeAddressesRow.wideKeys == (Try.f19.params.toList ++ Rows.optimizeAddressesSpec.plain.varTypes Try.checked.prog ++ Try.f19.resultTypes.toList).any (Try.checked.prog.wideKeysFrom ·))) = true := by kernel_rfl
theorem fact18 : (Rows.optimizeAddressesSpec.vars.all (Try.checked.prog.varReadable ·)) = true := by kernel_rfl
theorem fact19 : (Try.f19.resultTypes.all (fun t => Try.checked.prog.readableRec t && decide (t < Try.checked.prog.types.size))) = true := by kernel_rfl
theorem fact20 : ((Rows.optimizeAddressesRow.ifacesOut == Try.f19.resultTypes.toList.any (Try.checked.prog.ifacesRec ·))) = true := by kernel_rfl
theorem fact21 : ((Rows.optimizeAddressesRow.loopsOut == Try.f19.resultTypes.toList.any (Try.checked.prog.loopsFrom ·))) = true := by kernel_rfl
theorem fact22 : ((Rows.optimizeAddressesRow.plainKeys == Try.checked.prog.plainKeys)) = true := factP22
theorem fact23 : (Rows.optimizeAddressesRow.shortTexts.isNone) = true := by kernel_rfl
theorem fact26 : ((Rows.optimizeAddressesRow.lifted == Try.checked.prog.liftsFinal)) = true := factP26
theorem fact27 : ((Try.checked.prog.make == some Rows.optimizeAddressesRow.make)) = true := factP27
theorem fact28 : ((Rows.optimizeAddressesRow.kinds == (if Rows.optimizeAddressesRow.domain.isEmpty then [] else Try.f19.params.toList.map fun t => match Try.checked.prog.underlying t with | some (.int k) => some k | _ => none))) = true := by kernel_rfl
theorem fact29 : ((Rows.optimizeAddressesRow.pinned == Rows.optimizeAddressesRow.pinnedBy)) = true := by kernel_rfl
theorem fact30 : ((Rows.optimizeAddressesRow.veiled == (Try.f19.params.toList ++ Rows.optimizeAddressesSpec.plain.varTypes Try.checked.prog ++ Try.f19.resultTypes.toList).any (Try.checked.prog.veiledRec ·))) = true := by kernel_rfl
theorem fact31 : (Rows.optimizeAddressesRow.veiledFits Try.checked.prog Try.f19.params.toList (Try.f19.params.toList ++ Rows.optimizeAddressesSpec.plain.varTypes Try.checked.prog ++ Try.f19.resultTypes.toList)) = true := by kernel_rfl
set_option maxRecDepth 100000 in
theorem closed : joinedFacts Try.checked.prog 19 Try.f19 Rows.optimizeAddressesSpec Rows.optimizeAddressesRow = true := by
  unfold joinedFacts
  exact andT (andT (andT (andT (andT (andT (andT (andT (andT (andT (andT (andT (andT (andT (andT (andT (andT (andT (andT (andT (andT (andT (andT (andT (andT (andT (andT (andT (andT (andT (andT (fact0) factP1) factP2) fact3) fact4) fact5) factP6) fact7) factP8) fact9) fact10) fact11) fact12) fact13) fact14) fact15) fact16) fact17) fact18) fact19) fact20) fact21) fact22) fact23) factP24) factP25) fact26) fact27) fact28) fact29) fact30) fact31
theorem named : Try.checked.prog.funcNamed Rows.optimizeAddressesRow.func = some 19 := by kernel_rfl
end Go.Proofs.Ytffhbadeoadbkaa.optimizeAddresses
