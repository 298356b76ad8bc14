/- The closed facts that the row of CpuTrapsWhole asks, each by itself. -/
import Derived.Test.YtjgikeckbeeehaaGreatFactsP
namespace Go.Proofs.YtjgikeckbeeehaaGreat.cpuTrapsWhole
theorem fact0 : (Rows.cpuTrapsWholeRow.wf (OpenSpec.ofChange Rows.cpuTrapsWholeSpec)) = true := by kernel_rfl
theorem fact3 : (Tryz.f4.params.all (Tryz.checked.prog.readableRec ·)) = true := by kernel_rfl
theorem fact4 : (namedTie Tryz.checked.prog Rows.cpuTrapsWholeRow.named Rows.cpuTrapsWholeSpec.vars) = true := by kernel_rfl
theorem fact5 : ((Rows.cpuTrapsWholeRow.stops == [])) = true := by kernel_rfl
theorem fact7 : ((Rows.cpuTrapsWholeRow.knobs == [])) = true := by kernel_rfl
theorem fact9 : ((Rows.cpuTrapsWholeRow.inPlace == Tryz.checked.prog.inPlace 4)) = true := by kernel_rfl
theorem fact10 : ((Rows.cpuTrapsWholeRow.unfollowed == Tryz.checked.prog.unfollowed 4)) = true := by kernel_rfl
theorem fact11 : ((Rows.cpuTrapsWholeRow.recurses == Tryz.checked.prog.recurses 4)) = true := by kernel_rfl
theorem fact12 : ((Rows.cpuTrapsWholeRow.named == Tryz.checked.prog.varsNamed 4)) = true := by kernel_rfl
theorem fact13 : ((Rows.cpuTrapsWholeRow.maps == (Tryz.f4.params.toList ++ Rows.cpuTrapsWholeSpec.plain.varTypes Tryz.checked.prog).any (Tryz.checked.prog.mapsRec ·))) = true := by kernel_rfl
theorem fact14 : ((Rows.cpuTrapsWholeRow.ifaces == (Tryz.f4.params.toList ++ Rows.cpuTrapsWholeSpec.plain.varTypes Tryz.checked.prog).any (Tryz.checked.prog.ifacesRec ·))) = true := by kernel_rfl
theorem fact15 : ((Rows.cpuTrapsWholeRow.mapsOut == Tryz.checked.prog.mapsAmong Tryz.f4.resultTypes.toList)) = true := by kernel_rfl
theorem fact16 : ((Rows.cpuTrapsWholeRow.loops == (Tryz.f4.params.toList ++ Rows.cpuTrapsWholeSpec.plain.varTypes Tryz.checked.prog).any (Tryz.checked.prog.loopsFrom ·))) = true := by kernel_rfl
theorem fact17 : ((Rows.cpuTrapsWholeRow.wideKeys == (Tryz.f4.params.toList ++ Rows.cpuTrapsWholeSpec.plain.varTypes Tryz.checked.prog ++ Tryz.f4.resultTypes.toList).any (Tryz.checked.prog.wideKeysFrom ·))) = true := by kernel_rfl
theorem fact18 : (Rows.cpuTrapsWholeSpec.vars.all (Tryz.checked.prog.varReadable ·)) = true := by kernel_rfl
theorem fact19 : (Tryz.f4.resultTypes.all (fun t => Tryz.checked.prog.readableRec t && decide (t < Tryz.checked.prog.types.size))) = true := by kernel_rfl
theorem fact20 : ((Rows.cpuTrapsWholeRow.ifacesOut == Tryz.f4.resultTypes.toList.any (Tryz.checked.prog.ifacesRec ·))) = true := by kernel_rfl
theorem fact21 : ((Rows.cpuTrapsWholeRow.loopsOut == Tryz.f4.resultTypes.toList.any (Tryz.checked.prog.loopsFrom ·))) = true := by kernel_rfl
theorem fact22 : ((Rows.cpuTrapsWholeRow.plainKeys == Tryz.checked.prog.plainKeys)) = true := factP22
theorem fact23 : (Rows.cpuTrapsWholeRow.shortTexts.isNone) = true := by kernel_rfl
theorem fact26 : ((Rows.cpuTrapsWholeRow.lifted == Tryz.checked.prog.liftsFinal)) = true := factP26
theorem fact27 : ((Tryz.checked.prog.make == some Rows.cpuTrapsWholeRow.make)) = true := factP27
theorem fact28 : ((Rows.cpuTrapsWholeRow.kinds == (if Rows.cpuTrapsWholeRow.domain.isEmpty then [] else Tryz.f4.params.toList.map fun t => match Tryz.checked.prog.underlying t with | some (.int k) => some k | _ => none))) = true := by kernel_rfl
theorem fact29 : ((Rows.cpuTrapsWholeRow.pinned == Rows.cpuTrapsWholeRow.pinnedBy)) = true := by kernel_rfl
theorem fact30 : ((Rows.cpuTrapsWholeRow.veiled == (Tryz.f4.params.toList ++ Rows.cpuTrapsWholeSpec.plain.varTypes Tryz.checked.prog ++ Tryz.f4.resultTypes.toList).any (Tryz.checked.prog.veiledRec ·))) = true := by kernel_rfl
theorem fact31 : (Rows.cpuTrapsWholeRow.veiledFits Tryz.checked.prog Tryz.f4.params.toList (Tryz.f4.params.toList ++ Rows.cpuTrapsWholeSpec.plain.varTypes Tryz.checked.prog ++ Tryz.f4.resultTypes.toList)) = true := by kernel_rfl
set_option maxRecDepth 100000 in
theorem closed : joinedFacts Tryz.checked.prog 4 Tryz.f4 Rows.cpuTrapsWholeSpec Rows.cpuTrapsWholeRow = true := by
  unfold joinedFacts
  exact andT (andT (andT (andT (andT (andT (andT (andT (andT (andT (andT (andT (andT (andT (andT (andT (andT (andT (andT (andT (andT (andT (andT (andT (andT (andT (andT (andT (andT (andT (andT (fact0) factP1) factP2) fact3) fact4) fact5) factP6) fact7) factP8) fact9) fact10) fact11) fact12) fact13) fact14) fact15) fact16) fact17) fact18) fact19) fact20) fact21) fact22) fact23) factP24) factP25) fact26) fact27) fact28) fact29) fact30) fact31
theorem named : Tryz.checked.prog.funcNamed Rows.cpuTrapsWholeRow.func = some 4 := by kernel_rfl
end Go.Proofs.YtjgikeckbeeehaaGreat.cpuTrapsWhole
