/- The closed facts that the row of CpuPrivilege asks, each by itself. -/
import Derived.Test.YtckdamhnmcmbbaaFactsP
namespace Go.Proofs.Ytckdamhnmcmbbaa.cpuPrivilege
theorem fact0 : (Rows.cpuPrivilegeRow.wf (OpenSpec.ofChange Rows.cpuPrivilegeSpec)) = true := by kernel_rfl
theorem fact3 : (Try.f11.params.all (Try.checked.prog.readableRec ·)) = true := by kernel_rfl
theorem fact4 : (namedTie Try.checked.prog Rows.cpuPrivilegeRow.named Rows.cpuPrivilegeSpec.vars) = true := by kernel_rfl
theorem fact5 : ((Rows.cpuPrivilegeRow.stops == [])) = true := by kernel_rfl
theorem fact7 : ((Rows.cpuPrivilegeRow.knobs == [])) = true := by kernel_rfl
theorem fact9 : ((Rows.cpuPrivilegeRow.inPlace == Try.checked.prog.inPlace 11)) = true := by kernel_rfl
theorem fact10 : ((Rows.cpuPrivilegeRow.unfollowed == Try.checked.prog.unfollowed 11)) = true := by kernel_rfl
theorem fact11 : ((Rows.cpuPrivilegeRow.recurses == Try.checked.prog.recurses 11)) = true := by kernel_rfl
theorem fact12 : ((Rows.cpuPrivilegeRow.named == Try.checked.prog.varsNamed 11)) = true := by kernel_rfl
theorem fact13 : ((Rows.cpuPrivilegeRow.maps == (Try.f11.params.toList ++ Rows.cpuPrivilegeSpec.plain.varTypes Try.checked.prog).any (Try.checked.prog.mapsRec ·))) = true := by kernel_rfl
theorem fact14 : ((Rows.cpuPrivilegeRow.ifaces == (Try.f11.params.toList ++ Rows.cpuPrivilegeSpec.plain.varTypes Try.checked.prog).any (Try.checked.prog.ifacesRec ·))) = true := by kernel_rfl
theorem fact15 : ((Rows.cpuPrivilegeRow.mapsOut == Try.checked.prog.mapsAmong Try.f11.resultTypes.toList)) = true := by kernel_rfl
theorem fact16 : ((Rows.cpuPrivilegeRow.loops == (Try.f11.params.toList ++ Rows.cpuPrivilegeSpec.plain.varTypes Try.checked.prog).any (Try.checked.prog.loopsFrom ·))) = true := by kernel_rfl
theorem fact17 : ((Rows.cpuPrivilegeRow.wideKeys == (Try.f11.params.toList ++ Rows.cpuPrivilegeSpec.plain.varTypes Try.checked.prog ++ Try.f11.resultTypes.toList).any (Try.checked.prog.wideKeysFrom ·))) = true := by kernel_rfl
theorem fact18 : (Rows.cpuPrivilegeSpec.vars.all (Try.checked.prog.varReadable ·)) = true := by kernel_rfl
theorem fact19 : (Try.f11.resultTypes.all (fun t => Try.checked.prog.readableRec t && decide (t < Try.checked.prog.types.size))) = true := by kernel_rfl
theorem fact20 : ((Rows.cpuPrivilegeRow.ifacesOut == Try.f11.resultTypes.toList.any (Try.checked.prog.ifacesRec ·))) = true := by kernel_rfl
theorem fact21 : ((Rows.cpuPrivilegeRow.loopsOut == Try.f11.resultTypes.toList.any (Try.checked.prog.loopsFrom ·))) = true := by kernel_rfl
theorem fact22 : ((Rows.cpuPrivilegeRow.plainKeys == Try.checked.prog.plainKeys)) = true := factP22
theorem fact23 : (Rows.cpuPrivilegeRow.shortTexts.isNone) = true := by kernel_rfl
theorem fact26 : ((Rows.cpuPrivilegeRow.lifted == Try.checked.prog.liftsFinal)) = true := factP26
theorem fact27 : ((Try.checked.prog.make == some Rows.cpuPrivilegeRow.make)) = true := factP27
theorem fact28 : ((Rows.cpuPrivilegeRow.kinds == (if Rows.cpuPrivilegeRow.domain.isEmpty then [] else Try.f11.params.toList.map fun t => match Try.checked.prog.underlying t with | some (.int k) => some k | _ => none))) = true := by kernel_rfl
theorem fact29 : ((Rows.cpuPrivilegeRow.pinned == Rows.cpuPrivilegeRow.pinnedBy)) = true := by kernel_rfl
theorem fact30 : ((Rows.cpuPrivilegeRow.veiled == (Try.f11.params.toList ++ Rows.cpuPrivilegeSpec.plain.varTypes Try.checked.prog ++ Try.f11.resultTypes.toList).any (Try.checked.prog.veiledRec ·))) = true := by kernel_rfl
theorem fact31 : (Rows.cpuPrivilegeRow.veiledFits Try.checked.prog Try.f11.params.toList (Try.f11.params.toList ++ Rows.cpuPrivilegeSpec.plain.varTypes Try.checked.prog ++ Try.f11.resultTypes.toList)) = true := by kernel_rfl
set_option maxRecDepth 100000 in
theorem closed : joinedFacts Try.checked.prog 11 Try.f11 Rows.cpuPrivilegeSpec Rows.cpuPrivilegeRow = true := by
  unfold joinedFacts
  exact andT (andT (andT (andT (andT (andT (andT (andT (andT (andT (andT (andT (andT (andT (andT (andT (andT (andT (andT (andT (andT (andT (andT (andT (andT (andT (andT (andT (andT (andT (andT (fact0) factP1) factP2) fact3) fact4) fact5) factP6) fact7) factP8) fact9) fact10) fact11) fact12) fact13) fact14) fact15) fact16) fact17) fact18) fact19) fact20) fact21) fact22) fact23) factP24) factP25) fact26) fact27) fact28) fact29) fact30) fact31
theorem named : Try.checked.prog.funcNamed Rows.cpuPrivilegeRow.func = some 11 := by kernel_rfl
end Go.Proofs.Ytckdamhnmcmbbaa.cpuPrivilege
