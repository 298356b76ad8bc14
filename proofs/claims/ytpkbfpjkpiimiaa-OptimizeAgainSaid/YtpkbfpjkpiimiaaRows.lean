/-
  No cell of these rows narrows 'for every input' (looked for: loops, veiled, ifaces, maps, wideKeys, modest, calm, conditions, laid).
  DERIVED. THE GIVEN ROWS OF THIS SEAT. 7 by the template 'for every input the law returns true; each argument reads behind the call as it read before'; 0 by the template 'total and deterministic' (their statements: YtpkbfpjkpiimiaaTotals.lean).
  GIVEN WITH THE SEED: the statements are not yours to turn. If you find one false, say at which input.
  Laid BY PROGRAM, IN A SANDBOX (cutbox-rows.mjs): the forced cells as the released guide's own fill.sh prints them over the translation 5d1a0906ce638234… (all of the seat's roots in one cut). By AI agents, Wed Nov 11 2026. No macro, syntax, notation, axiom, sorry.
-/
import Derived.Test.YtpkbfpjkpiimiaaChecked
import GoSem.Claim
import GoSem.ClaimJoined
import GoSem.ClaimMapViews
import Derived.JoinedTies
import Derived.KernelRfl
namespace Go.Proofs.Ytpkbfpjkpiimiaa
/- THE CELL 'sum', in the pinned program and in every row, IS THE sha256 OF THE DUMP (.gsa) THAT YtpkbfpjkpiimiaaProg.lean LOADS. Nothing in Lean hashes anything: it is a label: what it is worth is what the hold of that sum in a sandbox is worth. -/
noncomputable def Try.pinned : Pinned := { name := "ytpkbfpjkpiimiaa", sum := "5d1a0906ce638234e5750ede72aee524b1edd06b68defa200202196a8476c950", checked := Try.checked }
namespace Rows
def none {H : Type} : Left H := { results := [], args := [] }

/-- 'vmfleetlaw16.OptimizeFolds': WHATEVER THE INPUT: true; the input reads as it did. -/
def optimizeFoldsSpec : ChangeSpec := { name := "optimizeFolds", fn := fun _ => fun
  | [d1, d2, d3, d4] => { results := [.lit (.bool true)], args := [d1, d2, d3, d4] }
  | _ => none }
def optimizeFoldsRow : OpenClaim := { program := "ytpkbfpjkpiimiaa", sum := "5d1a0906ce638234e5750ede72aee524b1edd06b68defa200202196a8476c950", func := "vmfleet/vmfleetlaw16.OptimizeFolds", spec := "optimizeFolds", apart := false }
def OptimizeFoldsSaid : Prop := optimizeFoldsRow.holds Try.pinned (OpenSpec.ofChange optimizeFoldsSpec)

/-- ITS FALSE NEIGHBOUR: 'it returns false'. Refute it at one input. -/
def optimizeFoldsWrong : ChangeSpec := { name := "optimizeFolds", fn := fun _ => fun
  | [d1, d2, d3, d4] => { results := [.lit (.bool false)], args := [d1, d2, d3, d4] }
  | _ => none }
def OptimizeFoldsWrongFalsely : Prop := optimizeFoldsRow.holds Try.pinned (OpenSpec.ofChange optimizeFoldsWrong)

/-- 'vmfleetlaw16.OptimizeRuns': WHATEVER THE INPUT: true; the input reads as it did. -/
def optimizeRunsSpec : ChangeSpec := { name := "optimizeRuns", fn := fun _ => fun
  | [d1, d2, d3, d4, d5] => { results := [.lit (.bool true)], args := [d1, d2, d3, d4, d5] }
  | _ => none }
def optimizeRunsRow : OpenClaim := { program := "ytpkbfpjkpiimiaa", sum := "5d1a0906ce638234e5750ede72aee524b1edd06b68defa200202196a8476c950", func := "vmfleet/vmfleetlaw16.OptimizeRuns", spec := "optimizeRuns", apart := false }
def OptimizeRunsSaid : Prop := optimizeRunsRow.holds Try.pinned (OpenSpec.ofChange optimizeRunsSpec)

/-- ITS FALSE NEIGHBOUR: 'it returns false'. Refute it at one input. -/
def optimizeRunsWrong : ChangeSpec := { name := "optimizeRuns", fn := fun _ => fun
  | [d1, d2, d3, d4, d5] => { results := [.lit (.bool false)], args := [d1, d2, d3, d4, d5] }
  | _ => none }
def OptimizeRunsWrongFalsely : Prop := optimizeRunsRow.holds Try.pinned (OpenSpec.ofChange optimizeRunsWrong)

/-- 'vmfleetlaw16.OptimizeSame': WHATEVER THE INPUT: true; the input reads as it did. -/
def optimizeSameSpec : ChangeSpec := { name := "optimizeSame", fn := fun _ => fun
  | [d1, d2] => { results := [.lit (.bool true)], args := [d1, d2] }
  | _ => none }
def optimizeSameRow : OpenClaim := { program := "ytpkbfpjkpiimiaa", sum := "5d1a0906ce638234e5750ede72aee524b1edd06b68defa200202196a8476c950", func := "vmfleet/vmfleetlaw16.OptimizeSame", spec := "optimizeSame", apart := false }
def OptimizeSameSaid : Prop := optimizeSameRow.holds Try.pinned (OpenSpec.ofChange optimizeSameSpec)

/-- ITS FALSE NEIGHBOUR: 'it returns false'. Refute it at one input. -/
def optimizeSameWrong : ChangeSpec := { name := "optimizeSame", fn := fun _ => fun
  | [d1, d2] => { results := [.lit (.bool false)], args := [d1, d2] }
  | _ => none }
def OptimizeSameWrongFalsely : Prop := optimizeSameRow.holds Try.pinned (OpenSpec.ofChange optimizeSameWrong)

/-- 'vmfleetlaw16.OptimizeKeeps': WHATEVER THE INPUT: true; the input reads as it did. -/
def optimizeKeepsSpec : ChangeSpec := { name := "optimizeKeeps", fn := fun _ => fun
  | [d1, d2] => { results := [.lit (.bool true)], args := [d1, d2] }
  | _ => none }
def optimizeKeepsRow : OpenClaim := { program := "ytpkbfpjkpiimiaa", sum := "5d1a0906ce638234e5750ede72aee524b1edd06b68defa200202196a8476c950", func := "vmfleet/vmfleetlaw16.OptimizeKeeps", spec := "optimizeKeeps", apart := false }
def OptimizeKeepsSaid : Prop := optimizeKeepsRow.holds Try.pinned (OpenSpec.ofChange optimizeKeepsSpec)

/-- ITS FALSE NEIGHBOUR: 'it returns false'. Refute it at one input. -/
def optimizeKeepsWrong : ChangeSpec := { name := "optimizeKeeps", fn := fun _ => fun
  | [d1, d2] => { results := [.lit (.bool false)], args := [d1, d2] }
  | _ => none }
def OptimizeKeepsWrongFalsely : Prop := optimizeKeepsRow.holds Try.pinned (OpenSpec.ofChange optimizeKeepsWrong)

/-- 'vmfleetlaw16.OptimizeConstants': WHATEVER THE INPUT: true; the input reads as it did. -/
def optimizeConstantsSpec : ChangeSpec := { name := "optimizeConstants", fn := fun _ => fun
  | [d1, d2, d3] => { results := [.lit (.bool true)], args := [d1, d2, d3] }
  | _ => none }
def optimizeConstantsRow : OpenClaim := { program := "ytpkbfpjkpiimiaa", sum := "5d1a0906ce638234e5750ede72aee524b1edd06b68defa200202196a8476c950", func := "vmfleet/vmfleetlaw16.OptimizeConstants", spec := "optimizeConstants", apart := false }
def OptimizeConstantsSaid : Prop := optimizeConstantsRow.holds Try.pinned (OpenSpec.ofChange optimizeConstantsSpec)

/-- ITS FALSE NEIGHBOUR: 'it returns false'. Refute it at one input. -/
def optimizeConstantsWrong : ChangeSpec := { name := "optimizeConstants", fn := fun _ => fun
  | [d1, d2, d3] => { results := [.lit (.bool false)], args := [d1, d2, d3] }
  | _ => none }
def OptimizeConstantsWrongFalsely : Prop := optimizeConstantsRow.holds Try.pinned (OpenSpec.ofChange optimizeConstantsWrong)

/-- 'vmfleetlaw16.OptimizeBranches': WHATEVER THE INPUT: true; the input reads as it did. -/
def optimizeBranchesSpec : ChangeSpec := { name := "optimizeBranches", fn := fun _ => fun
  | [d1, d2, d3, d4] => { results := [.lit (.bool true)], args := [d1, d2, d3, d4] }
  | _ => none }
def optimizeBranchesRow : OpenClaim := { program := "ytpkbfpjkpiimiaa", sum := "5d1a0906ce638234e5750ede72aee524b1edd06b68defa200202196a8476c950", func := "vmfleet/vmfleetlaw16.OptimizeBranches", spec := "optimizeBranches", apart := false }
def OptimizeBranchesSaid : Prop := optimizeBranchesRow.holds Try.pinned (OpenSpec.ofChange optimizeBranchesSpec)

/-- ITS FALSE NEIGHBOUR: 'it returns false'. Refute it at one input. -/
def optimizeBranchesWrong : ChangeSpec := { name := "optimizeBranches", fn := fun _ => fun
  | [d1, d2, d3, d4] => { results := [.lit (.bool false)], args := [d1, d2, d3, d4] }
  | _ => none }
def OptimizeBranchesWrongFalsely : Prop := optimizeBranchesRow.holds Try.pinned (OpenSpec.ofChange optimizeBranchesWrong)

/-- 'vmfleetlaw16.OptimizeAgain': WHATEVER THE INPUT: true; the input reads as it did. -/
def optimizeAgainSpec : ChangeSpec := { name := "optimizeAgain", fn := fun _ => fun
  | [d1, d2] => { results := [.lit (.bool true)], args := [d1, d2] }
  | _ => none }
def optimizeAgainRow : OpenClaim := { program := "ytpkbfpjkpiimiaa", sum := "5d1a0906ce638234e5750ede72aee524b1edd06b68defa200202196a8476c950", func := "vmfleet/vmfleetlaw16.OptimizeAgain", spec := "optimizeAgain", apart := false }
def OptimizeAgainSaid : Prop := optimizeAgainRow.holds Try.pinned (OpenSpec.ofChange optimizeAgainSpec)

/-- ITS FALSE NEIGHBOUR: 'it returns false'. Refute it at one input. -/
def optimizeAgainWrong : ChangeSpec := { name := "optimizeAgain", fn := fun _ => fun
  | [d1, d2] => { results := [.lit (.bool false)], args := [d1, d2] }
  | _ => none }
def OptimizeAgainWrongFalsely : Prop := optimizeAgainRow.holds Try.pinned (OpenSpec.ofChange optimizeAgainWrong)

/- THE SECOND FORM. 'bulk': how many values and letters a reading holds, each counted each time it is reached (what is shared counts as often as it is met; a slice's spare places count too). A statement '..UptoSaid' is the law's where the arguments, and the package variables that the reading takes, are together of bulk at most 1048576: NARROWER than '..Said'. Prove '..Said' where nothing that the law and all that it calls make is longer than what came in: it says more and counts as full. Else prove '..UptoSaid'. A law counts once. -/
mutual
def uptoBulk {H : Type} : DataW H → Nat
  | .lit (.string bytes) => bytes.length + 1
  | .lit _ => 1
  | .nil => 1
  | .ptr d => uptoBulk d + 1
  | .slice elems spare => uptoBulkAll elems + uptoBulkAll spare + 1
  | .agg parts => uptoBulkAll parts + 1
  | .iface _ d => uptoBulk d + 1
  | .map entries => uptoBulkEntries entries + 1
  | .held _ => 1
def uptoBulkAll {H : Type} : List (DataW H) → Nat
  | [] => 0
  | d :: r => uptoBulk d + uptoBulkAll r
def uptoBulkEntries {H : Type} : List (Lit × DataW H) → Nat
  | [] => 0
  | x :: r => uptoBulkEntry x + uptoBulkEntries r
def uptoBulkEntry {H : Type} : Lit × DataW H → Nat
  | (.string bytes, d) => bytes.length + uptoBulk d + 1
  | (_, d) => uptoBulk d + 1
 end
def uptoSmall : (H : Type) → List (DataW H) → Bool := fun _ ds => decide (uptoBulkAll ds ≤ 1048576)
def OpenSpec.upto (s : _root_.Go.ChangeSpec) : _root_.Go.OpenSpec := { _root_.Go.OpenSpec.ofChange s with cond := some uptoSmall }

/-- 'vmfleetlaw16.OptimizeFolds', WHERE WHAT IT READS IS OF BULK AT MOST 1048576: true; the input reads as it did. -/
def optimizeFoldsUptoRow : OpenClaim := { program := "ytpkbfpjkpiimiaa", sum := "5d1a0906ce638234e5750ede72aee524b1edd06b68defa200202196a8476c950", func := "vmfleet/vmfleetlaw16.OptimizeFolds", spec := "optimizeFolds", apart := false, narrowed := true }
def OptimizeFoldsUptoSaid : Prop := optimizeFoldsUptoRow.holds Try.pinned (OpenSpec.upto optimizeFoldsSpec)

/-- 'vmfleetlaw16.OptimizeRuns', WHERE WHAT IT READS IS OF BULK AT MOST 1048576: true; the input reads as it did. -/
def optimizeRunsUptoRow : OpenClaim := { program := "ytpkbfpjkpiimiaa", sum := "5d1a0906ce638234e5750ede72aee524b1edd06b68defa200202196a8476c950", func := "vmfleet/vmfleetlaw16.OptimizeRuns", spec := "optimizeRuns", apart := false, narrowed := true }
def OptimizeRunsUptoSaid : Prop := optimizeRunsUptoRow.holds Try.pinned (OpenSpec.upto optimizeRunsSpec)

/-- 'vmfleetlaw16.OptimizeSame', WHERE WHAT IT READS IS OF BULK AT MOST 1048576: true; the input reads as it did. -/
def optimizeSameUptoRow : OpenClaim := { program := "ytpkbfpjkpiimiaa", sum := "5d1a0906ce638234e5750ede72aee524b1edd06b68defa200202196a8476c950", func := "vmfleet/vmfleetlaw16.OptimizeSame", spec := "optimizeSame", apart := false, narrowed := true }
def OptimizeSameUptoSaid : Prop := optimizeSameUptoRow.holds Try.pinned (OpenSpec.upto optimizeSameSpec)

/-- 'vmfleetlaw16.OptimizeKeeps', WHERE WHAT IT READS IS OF BULK AT MOST 1048576: true; the input reads as it did. -/
def optimizeKeepsUptoRow : OpenClaim := { program := "ytpkbfpjkpiimiaa", sum := "5d1a0906ce638234e5750ede72aee524b1edd06b68defa200202196a8476c950", func := "vmfleet/vmfleetlaw16.OptimizeKeeps", spec := "optimizeKeeps", apart := false, narrowed := true }
def OptimizeKeepsUptoSaid : Prop := optimizeKeepsUptoRow.holds Try.pinned (OpenSpec.upto optimizeKeepsSpec)

/-- 'vmfleetlaw16.OptimizeConstants', WHERE WHAT IT READS IS OF BULK AT MOST 1048576: true; the input reads as it did. -/
def optimizeConstantsUptoRow : OpenClaim := { program := "ytpkbfpjkpiimiaa", sum := "5d1a0906ce638234e5750ede72aee524b1edd06b68defa200202196a8476c950", func := "vmfleet/vmfleetlaw16.OptimizeConstants", spec := "optimizeConstants", apart := false, narrowed := true }
def OptimizeConstantsUptoSaid : Prop := optimizeConstantsUptoRow.holds Try.pinned (OpenSpec.upto optimizeConstantsSpec)

/-- 'vmfleetlaw16.OptimizeBranches', WHERE WHAT IT READS IS OF BULK AT MOST 1048576: true; the input reads as it did. -/
def optimizeBranchesUptoRow : OpenClaim := { program := "ytpkbfpjkpiimiaa", sum := "5d1a0906ce638234e5750ede72aee524b1edd06b68defa200202196a8476c950", func := "vmfleet/vmfleetlaw16.OptimizeBranches", spec := "optimizeBranches", apart := false, narrowed := true }
def OptimizeBranchesUptoSaid : Prop := optimizeBranchesUptoRow.holds Try.pinned (OpenSpec.upto optimizeBranchesSpec)

/-- 'vmfleetlaw16.OptimizeAgain', WHERE WHAT IT READS IS OF BULK AT MOST 1048576: true; the input reads as it did. -/
def optimizeAgainUptoRow : OpenClaim := { program := "ytpkbfpjkpiimiaa", sum := "5d1a0906ce638234e5750ede72aee524b1edd06b68defa200202196a8476c950", func := "vmfleet/vmfleetlaw16.OptimizeAgain", spec := "optimizeAgain", apart := false, narrowed := true }
def OptimizeAgainUptoSaid : Prop := optimizeAgainUptoRow.holds Try.pinned (OpenSpec.upto optimizeAgainSpec)

end Rows
end Go.Proofs.Ytpkbfpjkpiimiaa
