/- The closed facts that the row of EngineSelf asks, each by itself. -/
import Derived.Test.YtflaceijiphfdaaGreatFactsP
namespace Go.Proofs.YtflaceijiphfdaaGreat.engineSelf
theorem fact0 : (Rows.engineSelfRow.wf (OpenSpec.ofChange Rows.engineSelfSpec)) = true := by kernel_rfl
theorem fact3 : (Tryz.f3.params.all (Tryz.checked.prog.readableRec ·)) = true := by kernel_rfl
theorem fact4 : (namedTie Tryz.checked.prog Rows.engineSelfRow.named Rows.engineSelfSpec.vars) = true := by kernel_rfl
theorem fact5 : ((Rows.engineSelfRow.stops == [])) = true := by kernel_rfl
theorem fact7 : ((Rows.engineSelfRow.knobs == [])) = true := by kernel_rfl
theorem fact9 : ((Rows.engineSelfRow.inPlace == Tryz.checked.prog.inPlace 3)) = true := by kernel_rfl
theorem fact10 : ((Rows.engineSelfRow.unfollowed == Tryz.checked.prog.unfollowed 3)) = true := by kernel_rfl
theorem fact11 : ((Rows.engineSelfRow.recurses == Tryz.checked.prog.recurses 3)) = true := by kernel_rfl
theorem fact12 : ((Rows.engineSelfRow.named == Tryz.checked.prog.varsNamed 3)) = true := by kernel_rfl
theorem fact13 : ((Rows.engineSelfRow.maps == (Tryz.f3.params.toList ++ Rows.engineSelfSpec.plain.varTypes Tryz.checked.prog).any (Tryz.checked.prog.mapsRec ·))) = true := by kernel_rfl
theorem fact14 : ((Rows.engineSelfRow.ifaces == (Tryz.f3.params.toList ++ Rows.engineSelfSpec.plain.varTypes Tryz.checked.prog).any (Tryz.checked.prog.ifacesRec ·))) = true := by kernel_rfl
theorem fact15 : ((Rows.engineSelfRow.mapsOut == Tryz.checked.prog.mapsAmong Tryz.f3.resultTypes.toList)) = true := by kernel_rfl
theorem fact16 : ((Rows.engineSelfRow.loops == (Tryz.f3.params.toList ++ Rows.engineSelfSpec.plain.varTypes Tryz.checked.prog).any (Tryz.checked.prog.loopsFrom ·))) = true := by kernel_rfl
theorem fact17 : ((Rows.engineSelfRow.wideKeys == (Tryz.f3.params.toList ++ Rows.engineSelfSpec.plain.varTypes Tryz.checked.prog ++ Tryz.f3.resultTypes.toList).any (Tryz.checked.prog.wideKeysFrom ·))) = true := by kernel_rfl
theorem fact18 : (Rows.engineSelfSpec.vars.all (Tryz.checked.prog.varReadable ·)) = true := by kernel_rfl
theorem fact19 : (Tryz.f3.resultTypes.all (fun t => Tryz.checked.prog.readableRec t && decide (t < Tryz.checked.prog.types.size))) = true := by kernel_rfl
theorem fact20 : ((Rows.engineSelfRow.ifacesOut == Tryz.f3.resultTypes.toList.any (Tryz.checked.prog.ifacesRec ·))) = true := by kernel_rfl
theorem fact21 : ((Rows.engineSelfRow.loopsOut == Tryz.f3.resultTypes.toList.any (Tryz.checked.prog.loopsFrom ·))) = true := by kernel_rfl
theorem fact22 : ((Rows.engineSelfRow.plainKeys == Tryz.checked.prog.plainKeys)) = true := factP22
theorem fact23 : (Rows.engineSelfRow.shortTexts.isNone) = true := by kernel_rfl
theorem fact26 : ((Rows.engineSelfRow.lifted == Tryz.checked.prog.liftsFinal)) = true := factP26
theorem fact27 : ((Tryz.checked.prog.make == some Rows.engineSelfRow.make)) = true := factP27
theorem fact28 : ((Rows.engineSelfRow.kinds == (if Rows.engineSelfRow.domain.isEmpty then [] else Tryz.f3.params.toList.map fun t => match Tryz.checked.prog.underlying t with | some (.int k) => some k | _ => none))) = true := by kernel_rfl
theorem fact29 : ((Rows.engineSelfRow.pinned == Rows.engineSelfRow.pinnedBy)) = true := by kernel_rfl
theorem fact30 : ((Rows.engineSelfRow.veiled == (Tryz.f3.params.toList ++ Rows.engineSelfSpec.plain.varTypes Tryz.checked.prog ++ Tryz.f3.resultTypes.toList).any (Tryz.checked.prog.veiledRec ·))) = true := by kernel_rfl
theorem fact31 : (Rows.engineSelfRow.veiledFits Tryz.checked.prog Tryz.f3.params.toList (Tryz.f3.params.toList ++ Rows.engineSelfSpec.plain.varTypes Tryz.checked.prog ++ Tryz.f3.resultTypes.toList)) = true := by kernel_rfl
set_option maxRecDepth 100000 in
theorem closed : joinedFacts Tryz.checked.prog 3 Tryz.f3 Rows.engineSelfSpec Rows.engineSelfRow = true := by
  unfold joinedFacts
  exact andT (andT (andT (andT (andT (andT (andT (andT (andT (andT (andT (andT (andT (andT (andT (andT (andT (andT (andT (andT (andT (andT (andT (andT (andT (andT (andT (andT (andT (andT (andT (fact0) factP1) factP2) fact3) fact4) fact5) factP6) fact7) factP8) fact9) fact10) fact11) fact12) fact13) fact14) fact15) fact16) fact17) fact18) fact19) fact20) fact21) fact22) fact23) factP24) factP25) fact26) fact27) fact28) fact29) fact30) fact31
theorem named : Tryz.checked.prog.funcNamed Rows.engineSelfRow.func = some 3 := by kernel_rfl
end Go.Proofs.YtflaceijiphfdaaGreat.engineSelf
