/-
  No cell of these rows narrows 'for every input' (looked for: loops, veiled, ifaces, maps, wideKeys, modest, calm, conditions, laid).
  DERIVED. THE GIVEN ROWS OF THIS SEAT. 10 by the template 'for every input the law returns true; each argument reads behind the call as it read before'; 0 by the template 'total and deterministic' (their statements: YtckdamhnmcmbbaaTotals.lean).
  GIVEN WITH THE SEED: the statements are not yours to turn. If you find one false, say at which input.
  Laid BY PROGRAM, IN A SANDBOX (cutbox-rows.mjs): the forced cells as the released guide's own fill.sh prints them over the translation b64c09bb5034c6aa… (all of the seat's roots in one cut). By AI agents, Wed Nov 11 2026. No macro, syntax, notation, axiom, sorry.
-/
import Derived.Test.YtckdamhnmcmbbaaChecked
import GoSem.Claim
import GoSem.ClaimJoined
import GoSem.ClaimMapViews
import Derived.JoinedTies
import Derived.KernelRfl
namespace Go.Proofs.Ytckdamhnmcmbbaa
/- THE CELL 'sum', in the pinned program and in every row, IS THE sha256 OF THE DUMP (.gsa) THAT YtckdamhnmcmbbaaProg.lean LOADS. Nothing in Lean hashes anything: it is a label: what it is worth is what the hold of that sum in a sandbox is worth. -/
noncomputable def Try.pinned : Pinned := { name := "ytckdamhnmcmbbaa", sum := "b64c09bb5034c6aa824649d90c119bd170c641336da06a1f5f8b82391cbfac1f", checked := Try.checked }
namespace Rows
def none {H : Type} : Left H := { results := [], args := [] }

/-- 'vmfleetlaw6.CpuComputes': WHATEVER THE INPUT: true; the input reads as it did. -/
def cpuComputesSpec : ChangeSpec := { name := "cpuComputes", fn := fun _ => fun
  | [d1, d2, d3, d4, d5] => { results := [.lit (.bool true)], args := [d1, d2, d3, d4, d5] }
  | _ => none }
def cpuComputesRow : OpenClaim := { program := "ytckdamhnmcmbbaa", sum := "b64c09bb5034c6aa824649d90c119bd170c641336da06a1f5f8b82391cbfac1f", func := "vmfleet/vmfleetlaw6.CpuComputes", spec := "cpuComputes", apart := false }
def CpuComputesSaid : Prop := cpuComputesRow.holds Try.pinned (OpenSpec.ofChange cpuComputesSpec)

/-- ITS FALSE NEIGHBOUR: 'it returns false'. Refute it at one input. -/
def cpuComputesWrong : ChangeSpec := { name := "cpuComputes", fn := fun _ => fun
  | [d1, d2, d3, d4, d5] => { results := [.lit (.bool false)], args := [d1, d2, d3, d4, d5] }
  | _ => none }
def CpuComputesWrongFalsely : Prop := cpuComputesRow.holds Try.pinned (OpenSpec.ofChange cpuComputesWrong)

/-- 'vmfleetlaw6.CpuTraps': WHATEVER THE INPUT: true; the input reads as it did. -/
def cpuTrapsSpec : ChangeSpec := { name := "cpuTraps", fn := fun _ => fun
  | [d1, d2, d3, d4, d5, d6] => { results := [.lit (.bool true)], args := [d1, d2, d3, d4, d5, d6] }
  | _ => none }
def cpuTrapsRow : OpenClaim := { program := "ytckdamhnmcmbbaa", sum := "b64c09bb5034c6aa824649d90c119bd170c641336da06a1f5f8b82391cbfac1f", func := "vmfleet/vmfleetlaw6.CpuTraps", spec := "cpuTraps", apart := false }
def CpuTrapsSaid : Prop := cpuTrapsRow.holds Try.pinned (OpenSpec.ofChange cpuTrapsSpec)

/-- ITS FALSE NEIGHBOUR: 'it returns false'. Refute it at one input. -/
def cpuTrapsWrong : ChangeSpec := { name := "cpuTraps", fn := fun _ => fun
  | [d1, d2, d3, d4, d5, d6] => { results := [.lit (.bool false)], args := [d1, d2, d3, d4, d5, d6] }
  | _ => none }
def CpuTrapsWrongFalsely : Prop := cpuTrapsRow.holds Try.pinned (OpenSpec.ofChange cpuTrapsWrong)

/-- 'vmfleetlaw6.CpuReturns': WHATEVER THE INPUT: true; the input reads as it did. -/
def cpuReturnsSpec : ChangeSpec := { name := "cpuReturns", fn := fun _ => fun
  | [d1, d2, d3] => { results := [.lit (.bool true)], args := [d1, d2, d3] }
  | _ => none }
def cpuReturnsRow : OpenClaim := { program := "ytckdamhnmcmbbaa", sum := "b64c09bb5034c6aa824649d90c119bd170c641336da06a1f5f8b82391cbfac1f", func := "vmfleet/vmfleetlaw6.CpuReturns", spec := "cpuReturns", apart := false }
def CpuReturnsSaid : Prop := cpuReturnsRow.holds Try.pinned (OpenSpec.ofChange cpuReturnsSpec)

/-- ITS FALSE NEIGHBOUR: 'it returns false'. Refute it at one input. -/
def cpuReturnsWrong : ChangeSpec := { name := "cpuReturns", fn := fun _ => fun
  | [d1, d2, d3] => { results := [.lit (.bool false)], args := [d1, d2, d3] }
  | _ => none }
def CpuReturnsWrongFalsely : Prop := cpuReturnsRow.holds Try.pinned (OpenSpec.ofChange cpuReturnsWrong)

/-- 'vmfleetlaw6.CpuInstructions': WHATEVER THE INPUT: true; the input reads as it did. -/
def cpuInstructionsSpec : ChangeSpec := { name := "cpuInstructions", fn := fun _ => fun
  | [d1, d2, d3] => { results := [.lit (.bool true)], args := [d1, d2, d3] }
  | _ => none }
def cpuInstructionsRow : OpenClaim := { program := "ytckdamhnmcmbbaa", sum := "b64c09bb5034c6aa824649d90c119bd170c641336da06a1f5f8b82391cbfac1f", func := "vmfleet/vmfleetlaw6.CpuInstructions", spec := "cpuInstructions", apart := false }
def CpuInstructionsSaid : Prop := cpuInstructionsRow.holds Try.pinned (OpenSpec.ofChange cpuInstructionsSpec)

/-- ITS FALSE NEIGHBOUR: 'it returns false'. Refute it at one input. -/
def cpuInstructionsWrong : ChangeSpec := { name := "cpuInstructions", fn := fun _ => fun
  | [d1, d2, d3] => { results := [.lit (.bool false)], args := [d1, d2, d3] }
  | _ => none }
def CpuInstructionsWrongFalsely : Prop := cpuInstructionsRow.holds Try.pinned (OpenSpec.ofChange cpuInstructionsWrong)

/-- 'vmfleetlaw6.CpuUser': WHATEVER THE INPUT: true; the input reads as it did. -/
def cpuUserSpec : ChangeSpec := { name := "cpuUser", fn := fun _ => fun
  | [d1, d2, d3, d4] => { results := [.lit (.bool true)], args := [d1, d2, d3, d4] }
  | _ => none }
def cpuUserRow : OpenClaim := { program := "ytckdamhnmcmbbaa", sum := "b64c09bb5034c6aa824649d90c119bd170c641336da06a1f5f8b82391cbfac1f", func := "vmfleet/vmfleetlaw6.CpuUser", spec := "cpuUser", apart := false }
def CpuUserSaid : Prop := cpuUserRow.holds Try.pinned (OpenSpec.ofChange cpuUserSpec)

/-- ITS FALSE NEIGHBOUR: 'it returns false'. Refute it at one input. -/
def cpuUserWrong : ChangeSpec := { name := "cpuUser", fn := fun _ => fun
  | [d1, d2, d3, d4] => { results := [.lit (.bool false)], args := [d1, d2, d3, d4] }
  | _ => none }
def CpuUserWrongFalsely : Prop := cpuUserRow.holds Try.pinned (OpenSpec.ofChange cpuUserWrong)

/-- 'vmfleetlaw6.CpuAlgebra': WHATEVER THE INPUT: true; the input reads as it did. -/
def cpuAlgebraSpec : ChangeSpec := { name := "cpuAlgebra", fn := fun _ => fun
  | [d1, d2, d3] => { results := [.lit (.bool true)], args := [d1, d2, d3] }
  | _ => none }
def cpuAlgebraRow : OpenClaim := { program := "ytckdamhnmcmbbaa", sum := "b64c09bb5034c6aa824649d90c119bd170c641336da06a1f5f8b82391cbfac1f", func := "vmfleet/vmfleetlaw6.CpuAlgebra", spec := "cpuAlgebra", apart := false }
def CpuAlgebraSaid : Prop := cpuAlgebraRow.holds Try.pinned (OpenSpec.ofChange cpuAlgebraSpec)

/-- ITS FALSE NEIGHBOUR: 'it returns false'. Refute it at one input. -/
def cpuAlgebraWrong : ChangeSpec := { name := "cpuAlgebra", fn := fun _ => fun
  | [d1, d2, d3] => { results := [.lit (.bool false)], args := [d1, d2, d3] }
  | _ => none }
def CpuAlgebraWrongFalsely : Prop := cpuAlgebraRow.holds Try.pinned (OpenSpec.ofChange cpuAlgebraWrong)

/-- 'vmfleetlaw6.CpuBranches': WHATEVER THE INPUT: true; the input reads as it did. -/
def cpuBranchesSpec : ChangeSpec := { name := "cpuBranches", fn := fun _ => fun
  | [d1, d2, d3, d4] => { results := [.lit (.bool true)], args := [d1, d2, d3, d4] }
  | _ => none }
def cpuBranchesRow : OpenClaim := { program := "ytckdamhnmcmbbaa", sum := "b64c09bb5034c6aa824649d90c119bd170c641336da06a1f5f8b82391cbfac1f", func := "vmfleet/vmfleetlaw6.CpuBranches", spec := "cpuBranches", apart := false }
def CpuBranchesSaid : Prop := cpuBranchesRow.holds Try.pinned (OpenSpec.ofChange cpuBranchesSpec)

/-- ITS FALSE NEIGHBOUR: 'it returns false'. Refute it at one input. -/
def cpuBranchesWrong : ChangeSpec := { name := "cpuBranches", fn := fun _ => fun
  | [d1, d2, d3, d4] => { results := [.lit (.bool false)], args := [d1, d2, d3, d4] }
  | _ => none }
def CpuBranchesWrongFalsely : Prop := cpuBranchesRow.holds Try.pinned (OpenSpec.ofChange cpuBranchesWrong)

/-- 'vmfleetlaw6.CpuTransfers': WHATEVER THE INPUT: true; the input reads as it did. -/
def cpuTransfersSpec : ChangeSpec := { name := "cpuTransfers", fn := fun _ => fun
  | [d1, d2, d3, d4] => { results := [.lit (.bool true)], args := [d1, d2, d3, d4] }
  | _ => none }
def cpuTransfersRow : OpenClaim := { program := "ytckdamhnmcmbbaa", sum := "b64c09bb5034c6aa824649d90c119bd170c641336da06a1f5f8b82391cbfac1f", func := "vmfleet/vmfleetlaw6.CpuTransfers", spec := "cpuTransfers", apart := false }
def CpuTransfersSaid : Prop := cpuTransfersRow.holds Try.pinned (OpenSpec.ofChange cpuTransfersSpec)

/-- ITS FALSE NEIGHBOUR: 'it returns false'. Refute it at one input. -/
def cpuTransfersWrong : ChangeSpec := { name := "cpuTransfers", fn := fun _ => fun
  | [d1, d2, d3, d4] => { results := [.lit (.bool false)], args := [d1, d2, d3, d4] }
  | _ => none }
def CpuTransfersWrongFalsely : Prop := cpuTransfersRow.holds Try.pinned (OpenSpec.ofChange cpuTransfersWrong)

/-- 'vmfleetlaw6.CpuPrivilege': WHATEVER THE INPUT: true; the input reads as it did. -/
def cpuPrivilegeSpec : ChangeSpec := { name := "cpuPrivilege", fn := fun _ => fun
  | [d1, d2, d3] => { results := [.lit (.bool true)], args := [d1, d2, d3] }
  | _ => none }
def cpuPrivilegeRow : OpenClaim := { program := "ytckdamhnmcmbbaa", sum := "b64c09bb5034c6aa824649d90c119bd170c641336da06a1f5f8b82391cbfac1f", func := "vmfleet/vmfleetlaw6.CpuPrivilege", spec := "cpuPrivilege", apart := false }
def CpuPrivilegeSaid : Prop := cpuPrivilegeRow.holds Try.pinned (OpenSpec.ofChange cpuPrivilegeSpec)

/-- ITS FALSE NEIGHBOUR: 'it returns false'. Refute it at one input. -/
def cpuPrivilegeWrong : ChangeSpec := { name := "cpuPrivilege", fn := fun _ => fun
  | [d1, d2, d3] => { results := [.lit (.bool false)], args := [d1, d2, d3] }
  | _ => none }
def CpuPrivilegeWrongFalsely : Prop := cpuPrivilegeRow.holds Try.pinned (OpenSpec.ofChange cpuPrivilegeWrong)

/-- 'vmfleetlaw6.CpuLinks': WHATEVER THE INPUT: true; the input reads as it did. -/
def cpuLinksSpec : ChangeSpec := { name := "cpuLinks", fn := fun _ => fun
  | [d1, d2, d3] => { results := [.lit (.bool true)], args := [d1, d2, d3] }
  | _ => none }
def cpuLinksRow : OpenClaim := { program := "ytckdamhnmcmbbaa", sum := "b64c09bb5034c6aa824649d90c119bd170c641336da06a1f5f8b82391cbfac1f", func := "vmfleet/vmfleetlaw6.CpuLinks", spec := "cpuLinks", apart := false }
def CpuLinksSaid : Prop := cpuLinksRow.holds Try.pinned (OpenSpec.ofChange cpuLinksSpec)

/-- ITS FALSE NEIGHBOUR: 'it returns false'. Refute it at one input. -/
def cpuLinksWrong : ChangeSpec := { name := "cpuLinks", fn := fun _ => fun
  | [d1, d2, d3] => { results := [.lit (.bool false)], args := [d1, d2, d3] }
  | _ => none }
def CpuLinksWrongFalsely : Prop := cpuLinksRow.holds Try.pinned (OpenSpec.ofChange cpuLinksWrong)

/- THE SECOND FORM. 'bulk': how many values and letters a reading holds, each counted each time it is reached (what is shared counts as often as it is met; a slice's spare places count too). A statement '..UptoSaid' is the law's where the arguments, and the package variables that the reading takes, are together of bulk at most 1048576: NARROWER than '..Said'. Prove '..Said' where nothing that the law and all that it calls make is longer than what came in: it says more and counts as full. Else prove '..UptoSaid'. A law counts once. -/
mutual
def uptoBulk {H : Type} : DataW H → Nat
  | .lit (.string bytes) => bytes.length + 1
  | .lit _ => 1
  | .nil => 1
  | .ptr d => uptoBulk d + 1
  | .slice elems spare => uptoBulkAll elems + uptoBulkAll spare + 1
  | .agg parts => uptoBulkAll parts + 1
  | .iface _ d => uptoBulk d + 1
  | .map entries => uptoBulkEntries entries + 1
  | .held _ => 1
def uptoBulkAll {H : Type} : List (DataW H) → Nat
  | [] => 0
  | d :: r => uptoBulk d + uptoBulkAll r
def uptoBulkEntries {H : Type} : List (Lit × DataW H) → Nat
  | [] => 0
  | x :: r => uptoBulkEntry x + uptoBulkEntries r
def uptoBulkEntry {H : Type} : Lit × DataW H → Nat
  | (.string bytes, d) => bytes.length + uptoBulk d + 1
  | (_, d) => uptoBulk d + 1
 end
def uptoSmall : (H : Type) → List (DataW H) → Bool := fun _ ds => decide (uptoBulkAll ds ≤ 1048576)
def OpenSpec.upto (s : _root_.Go.ChangeSpec) : _root_.Go.OpenSpec := { _root_.Go.OpenSpec.ofChange s with cond := some uptoSmall }

/-- 'vmfleetlaw6.CpuComputes', WHERE WHAT IT READS IS OF BULK AT MOST 1048576: true; the input reads as it did. -/
def cpuComputesUptoRow : OpenClaim := { program := "ytckdamhnmcmbbaa", sum := "b64c09bb5034c6aa824649d90c119bd170c641336da06a1f5f8b82391cbfac1f", func := "vmfleet/vmfleetlaw6.CpuComputes", spec := "cpuComputes", apart := false, narrowed := true }
def CpuComputesUptoSaid : Prop := cpuComputesUptoRow.holds Try.pinned (OpenSpec.upto cpuComputesSpec)

/-- 'vmfleetlaw6.CpuTraps', WHERE WHAT IT READS IS OF BULK AT MOST 1048576: true; the input reads as it did. -/
def cpuTrapsUptoRow : OpenClaim := { program := "ytckdamhnmcmbbaa", sum := "b64c09bb5034c6aa824649d90c119bd170c641336da06a1f5f8b82391cbfac1f", func := "vmfleet/vmfleetlaw6.CpuTraps", spec := "cpuTraps", apart := false, narrowed := true }
def CpuTrapsUptoSaid : Prop := cpuTrapsUptoRow.holds Try.pinned (OpenSpec.upto cpuTrapsSpec)

/-- 'vmfleetlaw6.CpuReturns', WHERE WHAT IT READS IS OF BULK AT MOST 1048576: true; the input reads as it did. -/
def cpuReturnsUptoRow : OpenClaim := { program := "ytckdamhnmcmbbaa", sum := "b64c09bb5034c6aa824649d90c119bd170c641336da06a1f5f8b82391cbfac1f", func := "vmfleet/vmfleetlaw6.CpuReturns", spec := "cpuReturns", apart := false, narrowed := true }
def CpuReturnsUptoSaid : Prop := cpuReturnsUptoRow.holds Try.pinned (OpenSpec.upto cpuReturnsSpec)

/-- 'vmfleetlaw6.CpuInstructions', WHERE WHAT IT READS IS OF BULK AT MOST 1048576: true; the input reads as it did. -/
def cpuInstructionsUptoRow : OpenClaim := { program := "ytckdamhnmcmbbaa", sum := "b64c09bb5034c6aa824649d90c119bd170c641336da06a1f5f8b82391cbfac1f", func := "vmfleet/vmfleetlaw6.CpuInstructions", spec := "cpuInstructions", apart := false, narrowed := true }
def CpuInstructionsUptoSaid : Prop := cpuInstructionsUptoRow.holds Try.pinned (OpenSpec.upto cpuInstructionsSpec)

/-- 'vmfleetlaw6.CpuUser', WHERE WHAT IT READS IS OF BULK AT MOST 1048576: true; the input reads as it did. -/
def cpuUserUptoRow : OpenClaim := { program := "ytckdamhnmcmbbaa", sum := "b64c09bb5034c6aa824649d90c119bd170c641336da06a1f5f8b82391cbfac1f", func := "vmfleet/vmfleetlaw6.CpuUser", spec := "cpuUser", apart := false, narrowed := true }
def CpuUserUptoSaid : Prop := cpuUserUptoRow.holds Try.pinned (OpenSpec.upto cpuUserSpec)

/-- 'vmfleetlaw6.CpuAlgebra', WHERE WHAT IT READS IS OF BULK AT MOST 1048576: true; the input reads as it did. -/
def cpuAlgebraUptoRow : OpenClaim := { program := "ytckdamhnmcmbbaa", sum := "b64c09bb5034c6aa824649d90c119bd170c641336da06a1f5f8b82391cbfac1f", func := "vmfleet/vmfleetlaw6.CpuAlgebra", spec := "cpuAlgebra", apart := false, narrowed := true }
def CpuAlgebraUptoSaid : Prop := cpuAlgebraUptoRow.holds Try.pinned (OpenSpec.upto cpuAlgebraSpec)

/-- 'vmfleetlaw6.CpuBranches', WHERE WHAT IT READS IS OF BULK AT MOST 1048576: true; the input reads as it did. -/
def cpuBranchesUptoRow : OpenClaim := { program := "ytckdamhnmcmbbaa", sum := "b64c09bb5034c6aa824649d90c119bd170c641336da06a1f5f8b82391cbfac1f", func := "vmfleet/vmfleetlaw6.CpuBranches", spec := "cpuBranches", apart := false, narrowed := true }
def CpuBranchesUptoSaid : Prop := cpuBranchesUptoRow.holds Try.pinned (OpenSpec.upto cpuBranchesSpec)

/-- 'vmfleetlaw6.CpuTransfers', WHERE WHAT IT READS IS OF BULK AT MOST 1048576: true; the input reads as it did. -/
def cpuTransfersUptoRow : OpenClaim := { program := "ytckdamhnmcmbbaa", sum := "b64c09bb5034c6aa824649d90c119bd170c641336da06a1f5f8b82391cbfac1f", func := "vmfleet/vmfleetlaw6.CpuTransfers", spec := "cpuTransfers", apart := false, narrowed := true }
def CpuTransfersUptoSaid : Prop := cpuTransfersUptoRow.holds Try.pinned (OpenSpec.upto cpuTransfersSpec)

/-- 'vmfleetlaw6.CpuPrivilege', WHERE WHAT IT READS IS OF BULK AT MOST 1048576: true; the input reads as it did. -/
def cpuPrivilegeUptoRow : OpenClaim := { program := "ytckdamhnmcmbbaa", sum := "b64c09bb5034c6aa824649d90c119bd170c641336da06a1f5f8b82391cbfac1f", func := "vmfleet/vmfleetlaw6.CpuPrivilege", spec := "cpuPrivilege", apart := false, narrowed := true }
def CpuPrivilegeUptoSaid : Prop := cpuPrivilegeUptoRow.holds Try.pinned (OpenSpec.upto cpuPrivilegeSpec)

/-- 'vmfleetlaw6.CpuLinks', WHERE WHAT IT READS IS OF BULK AT MOST 1048576: true; the input reads as it did. -/
def cpuLinksUptoRow : OpenClaim := { program := "ytckdamhnmcmbbaa", sum := "b64c09bb5034c6aa824649d90c119bd170c641336da06a1f5f8b82391cbfac1f", func := "vmfleet/vmfleetlaw6.CpuLinks", spec := "cpuLinks", apart := false, narrowed := true }
def CpuLinksUptoSaid : Prop := cpuLinksUptoRow.holds Try.pinned (OpenSpec.upto cpuLinksSpec)

end Rows
end Go.Proofs.Ytckdamhnmcmbbaa
