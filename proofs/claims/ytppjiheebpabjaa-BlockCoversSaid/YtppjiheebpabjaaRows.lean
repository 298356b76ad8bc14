/-
  No cell of these rows narrows 'for every input' (looked for: loops, veiled, ifaces, maps, wideKeys, modest, calm, conditions, laid).
  DERIVED. THE GIVEN ROWS OF THIS SEAT. 4 by the template 'for every input the law returns true; each argument reads behind the call as it read before'; 0 by the template 'total and deterministic' (their statements: YtppjiheebpabjaaTotals.lean).
  GIVEN WITH THE SEED: the statements are not yours to turn. If you find one false, say at which input.
  Laid BY PROGRAM, IN A SANDBOX (cutbox-rows.mjs): the forced cells as the released guide's own fill.sh prints them over the translation 1a0e5b34216434de… (all of the seat's roots in one cut). By AI agents, Wed Nov 11 2026. No macro, syntax, notation, axiom, sorry.
-/
import Derived.Test.YtppjiheebpabjaaChecked
import GoSem.Claim
import GoSem.ClaimJoined
import GoSem.ClaimMapViews
import Derived.JoinedTies
import Derived.KernelRfl
namespace Go.Proofs.Ytppjiheebpabjaa
/- THE CELL 'sum', in the pinned program and in every row, IS THE sha256 OF THE DUMP (.gsa) THAT YtppjiheebpabjaaProg.lean LOADS. Nothing in Lean hashes anything: it is a label: what it is worth is what the hold of that sum in a sandbox is worth. -/
noncomputable def Try.pinned : Pinned := { name := "ytppjiheebpabjaa", sum := "1a0e5b34216434de9ce0c051763d0211bbe9190a9e628db18c895efa143b8b2b", checked := Try.checked }
namespace Rows
def none {H : Type} : Left H := { results := [], args := [] }

/-- 'vmfleetlaw15.BlockCovers': WHATEVER THE INPUT: true; the input reads as it did. -/
def blockCoversSpec : ChangeSpec := { name := "blockCovers", fn := fun _ => fun
  | [d1, d2] => { results := [.lit (.bool true)], args := [d1, d2] }
  | _ => none }
def blockCoversRow : OpenClaim := { program := "ytppjiheebpabjaa", sum := "1a0e5b34216434de9ce0c051763d0211bbe9190a9e628db18c895efa143b8b2b", func := "vmfleet/vmfleetlaw15.BlockCovers", spec := "blockCovers", recurses := true, apart := false }
def BlockCoversSaid : Prop := blockCoversRow.holds Try.pinned (OpenSpec.ofChange blockCoversSpec)

/-- ITS FALSE NEIGHBOUR: 'it returns false'. Refute it at one input. -/
def blockCoversWrong : ChangeSpec := { name := "blockCovers", fn := fun _ => fun
  | [d1, d2] => { results := [.lit (.bool false)], args := [d1, d2] }
  | _ => none }
def BlockCoversWrongFalsely : Prop := blockCoversRow.holds Try.pinned (OpenSpec.ofChange blockCoversWrong)

/-- 'vmfleetlaw15.BlockSplits': WHATEVER THE INPUT: true; the input reads as it did. -/
def blockSplitsSpec : ChangeSpec := { name := "blockSplits", fn := fun _ => fun
  | [d1, d2, d3] => { results := [.lit (.bool true)], args := [d1, d2, d3] }
  | _ => none }
def blockSplitsRow : OpenClaim := { program := "ytppjiheebpabjaa", sum := "1a0e5b34216434de9ce0c051763d0211bbe9190a9e628db18c895efa143b8b2b", func := "vmfleet/vmfleetlaw15.BlockSplits", spec := "blockSplits", recurses := true, apart := false }
def BlockSplitsSaid : Prop := blockSplitsRow.holds Try.pinned (OpenSpec.ofChange blockSplitsSpec)

/-- ITS FALSE NEIGHBOUR: 'it returns false'. Refute it at one input. -/
def blockSplitsWrong : ChangeSpec := { name := "blockSplits", fn := fun _ => fun
  | [d1, d2, d3] => { results := [.lit (.bool false)], args := [d1, d2, d3] }
  | _ => none }
def BlockSplitsWrongFalsely : Prop := blockSplitsRow.holds Try.pinned (OpenSpec.ofChange blockSplitsWrong)

/-- 'vmfleetlaw15.BlockBuilds': WHATEVER THE INPUT: true; the input reads as it did. -/
def blockBuildsSpec : ChangeSpec := { name := "blockBuilds", fn := fun _ => fun
  | [d1, d2, d3, d4, d5, d6] => { results := [.lit (.bool true)], args := [d1, d2, d3, d4, d5, d6] }
  | _ => none }
def blockBuildsRow : OpenClaim := { program := "ytppjiheebpabjaa", sum := "1a0e5b34216434de9ce0c051763d0211bbe9190a9e628db18c895efa143b8b2b", func := "vmfleet/vmfleetlaw15.BlockBuilds", spec := "blockBuilds", recurses := true, apart := false }
def BlockBuildsSaid : Prop := blockBuildsRow.holds Try.pinned (OpenSpec.ofChange blockBuildsSpec)

/-- ITS FALSE NEIGHBOUR: 'it returns false'. Refute it at one input. -/
def blockBuildsWrong : ChangeSpec := { name := "blockBuilds", fn := fun _ => fun
  | [d1, d2, d3, d4, d5, d6] => { results := [.lit (.bool false)], args := [d1, d2, d3, d4, d5, d6] }
  | _ => none }
def BlockBuildsWrongFalsely : Prop := blockBuildsRow.holds Try.pinned (OpenSpec.ofChange blockBuildsWrong)

/-- 'vmfleetlaw15.BlockMays': WHATEVER THE INPUT: true; the input reads as it did. -/
def blockMaysSpec : ChangeSpec := { name := "blockMays", fn := fun _ => fun
  | [d1, d2, d3, d4, d5, d6, d7] => { results := [.lit (.bool true)], args := [d1, d2, d3, d4, d5, d6, d7] }
  | _ => none }
def blockMaysRow : OpenClaim := { program := "ytppjiheebpabjaa", sum := "1a0e5b34216434de9ce0c051763d0211bbe9190a9e628db18c895efa143b8b2b", func := "vmfleet/vmfleetlaw15.BlockMays", spec := "blockMays", recurses := true, apart := false }
def BlockMaysSaid : Prop := blockMaysRow.holds Try.pinned (OpenSpec.ofChange blockMaysSpec)

/-- ITS FALSE NEIGHBOUR: 'it returns false'. Refute it at one input. -/
def blockMaysWrong : ChangeSpec := { name := "blockMays", fn := fun _ => fun
  | [d1, d2, d3, d4, d5, d6, d7] => { results := [.lit (.bool false)], args := [d1, d2, d3, d4, d5, d6, d7] }
  | _ => none }
def BlockMaysWrongFalsely : Prop := blockMaysRow.holds Try.pinned (OpenSpec.ofChange blockMaysWrong)

/- THE SECOND FORM. 'bulk': how many values and letters a reading holds, each counted each time it is reached (what is shared counts as often as it is met; a slice's spare places count too). A statement '..UptoSaid' is the law's where the arguments, and the package variables that the reading takes, are together of bulk at most 1048576: NARROWER than '..Said'. Prove '..Said' where nothing that the law and all that it calls make is longer than what came in: it says more and counts as full. Else prove '..UptoSaid'. A law counts once. -/
mutual
def uptoBulk {H : Type} : DataW H → Nat
  | .lit (.string bytes) => bytes.length + 1
  | .lit _ => 1
  | .nil => 1
  | .ptr d => uptoBulk d + 1
  | .slice elems spare => uptoBulkAll elems + uptoBulkAll spare + 1
  | .agg parts => uptoBulkAll parts + 1
  | .iface _ d => uptoBulk d + 1
  | .map entries => uptoBulkEntries entries + 1
  | .held _ => 1
def uptoBulkAll {H : Type} : List (DataW H) → Nat
  | [] => 0
  | d :: r => uptoBulk d + uptoBulkAll r
def uptoBulkEntries {H : Type} : List (Lit × DataW H) → Nat
  | [] => 0
  | x :: r => uptoBulkEntry x + uptoBulkEntries r
def uptoBulkEntry {H : Type} : Lit × DataW H → Nat
  | (.string bytes, d) => bytes.length + uptoBulk d + 1
  | (_, d) => uptoBulk d + 1
 end
def uptoSmall : (H : Type) → List (DataW H) → Bool := fun _ ds => decide (uptoBulkAll ds ≤ 1048576)
def OpenSpec.upto (s : _root_.Go.ChangeSpec) : _root_.Go.OpenSpec := { _root_.Go.OpenSpec.ofChange s with cond := some uptoSmall }

/-- 'vmfleetlaw15.BlockCovers', WHERE WHAT IT READS IS OF BULK AT MOST 1048576: true; the input reads as it did. -/
def blockCoversUptoRow : OpenClaim := { program := "ytppjiheebpabjaa", sum := "1a0e5b34216434de9ce0c051763d0211bbe9190a9e628db18c895efa143b8b2b", func := "vmfleet/vmfleetlaw15.BlockCovers", spec := "blockCovers", recurses := true, apart := false, narrowed := true }
def BlockCoversUptoSaid : Prop := blockCoversUptoRow.holds Try.pinned (OpenSpec.upto blockCoversSpec)

/-- 'vmfleetlaw15.BlockSplits', WHERE WHAT IT READS IS OF BULK AT MOST 1048576: true; the input reads as it did. -/
def blockSplitsUptoRow : OpenClaim := { program := "ytppjiheebpabjaa", sum := "1a0e5b34216434de9ce0c051763d0211bbe9190a9e628db18c895efa143b8b2b", func := "vmfleet/vmfleetlaw15.BlockSplits", spec := "blockSplits", recurses := true, apart := false, narrowed := true }
def BlockSplitsUptoSaid : Prop := blockSplitsUptoRow.holds Try.pinned (OpenSpec.upto blockSplitsSpec)

/-- 'vmfleetlaw15.BlockBuilds', WHERE WHAT IT READS IS OF BULK AT MOST 1048576: true; the input reads as it did. -/
def blockBuildsUptoRow : OpenClaim := { program := "ytppjiheebpabjaa", sum := "1a0e5b34216434de9ce0c051763d0211bbe9190a9e628db18c895efa143b8b2b", func := "vmfleet/vmfleetlaw15.BlockBuilds", spec := "blockBuilds", recurses := true, apart := false, narrowed := true }
def BlockBuildsUptoSaid : Prop := blockBuildsUptoRow.holds Try.pinned (OpenSpec.upto blockBuildsSpec)

/-- 'vmfleetlaw15.BlockMays', WHERE WHAT IT READS IS OF BULK AT MOST 1048576: true; the input reads as it did. -/
def blockMaysUptoRow : OpenClaim := { program := "ytppjiheebpabjaa", sum := "1a0e5b34216434de9ce0c051763d0211bbe9190a9e628db18c895efa143b8b2b", func := "vmfleet/vmfleetlaw15.BlockMays", spec := "blockMays", recurses := true, apart := false, narrowed := true }
def BlockMaysUptoSaid : Prop := blockMaysUptoRow.holds Try.pinned (OpenSpec.upto blockMaysSpec)

end Rows
end Go.Proofs.Ytppjiheebpabjaa
