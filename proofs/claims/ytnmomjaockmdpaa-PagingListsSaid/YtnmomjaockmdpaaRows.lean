/-
  No cell of these rows narrows 'for every input' (looked for: loops, veiled, ifaces, maps, wideKeys, modest, calm, conditions, laid).
  DERIVED. THE GIVEN ROWS OF THIS SEAT. 2 by the template 'for every input the law returns true; each argument reads behind the call as it read before'; 0 by the template 'total and deterministic' (their statements: YtnmomjaockmdpaaTotals.lean).
  GIVEN WITH THE SEED: the statements are not yours to turn. If you find one false, say at which input.
  Laid BY PROGRAM, IN A SANDBOX (cutbox-rows.mjs): the forced cells as the released guide's own fill.sh prints them over the translation 1f15a4ee4d1485f1… (all of the seat's roots in one cut). By AI agents, Wed Nov 11 2026. No macro, syntax, notation, axiom, sorry.
-/
import Derived.Test.YtnmomjaockmdpaaChecked
import GoSem.Claim
import GoSem.ClaimJoined
import GoSem.ClaimMapViews
import Derived.JoinedTies
import Derived.KernelRfl
namespace Go.Proofs.Ytnmomjaockmdpaa
/- THE CELL 'sum', in the pinned program and in every row, IS THE sha256 OF THE DUMP (.gsa) THAT YtnmomjaockmdpaaProg.lean LOADS. Nothing in Lean hashes anything: it is a label: what it is worth is what the hold of that sum in a sandbox is worth. -/
noncomputable def Try.pinned : Pinned := { name := "ytnmomjaockmdpaa", sum := "1f15a4ee4d1485f1ec02120cc6c590e95fbc1fc88e07cfc5c20ed3f07132ba75", checked := Try.checked }
namespace Rows
def none {H : Type} : Left H := { results := [], args := [] }

/-- 'vmfleetlaw5.PagingMaps': WHATEVER THE INPUT: true; the input reads as it did. -/
def pagingMapsSpec : ChangeSpec := { name := "pagingMaps", fn := fun _ => fun
  | [d1, d2, d3, d4, d5, d6, d7, d8, d9] => { results := [.lit (.bool true)], args := [d1, d2, d3, d4, d5, d6, d7, d8, d9] }
  | _ => none }
def pagingMapsRow : OpenClaim := { program := "ytnmomjaockmdpaa", sum := "1f15a4ee4d1485f1ec02120cc6c590e95fbc1fc88e07cfc5c20ed3f07132ba75", func := "vmfleet/vmfleetlaw5.PagingMaps", spec := "pagingMaps", unfollowed := true, recurses := true, apart := false }
def PagingMapsSaid : Prop := pagingMapsRow.holds Try.pinned (OpenSpec.ofChange pagingMapsSpec)

/-- ITS FALSE NEIGHBOUR: 'it returns false'. Refute it at one input. -/
def pagingMapsWrong : ChangeSpec := { name := "pagingMaps", fn := fun _ => fun
  | [d1, d2, d3, d4, d5, d6, d7, d8, d9] => { results := [.lit (.bool false)], args := [d1, d2, d3, d4, d5, d6, d7, d8, d9] }
  | _ => none }
def PagingMapsWrongFalsely : Prop := pagingMapsRow.holds Try.pinned (OpenSpec.ofChange pagingMapsWrong)

/-- 'vmfleetlaw5.PagingLists': WHATEVER THE INPUT: true; the input reads as it did. -/
def pagingListsSpec : ChangeSpec := { name := "pagingLists", fn := fun _ => fun
  | [d1, d2, d3] => { results := [.lit (.bool true)], args := [d1, d2, d3] }
  | _ => none }
def pagingListsRow : OpenClaim := { program := "ytnmomjaockmdpaa", sum := "1f15a4ee4d1485f1ec02120cc6c590e95fbc1fc88e07cfc5c20ed3f07132ba75", func := "vmfleet/vmfleetlaw5.PagingLists", spec := "pagingLists", unfollowed := true, recurses := true, apart := false }
def PagingListsSaid : Prop := pagingListsRow.holds Try.pinned (OpenSpec.ofChange pagingListsSpec)

/-- ITS FALSE NEIGHBOUR: 'it returns false'. Refute it at one input. -/
def pagingListsWrong : ChangeSpec := { name := "pagingLists", fn := fun _ => fun
  | [d1, d2, d3] => { results := [.lit (.bool false)], args := [d1, d2, d3] }
  | _ => none }
def PagingListsWrongFalsely : Prop := pagingListsRow.holds Try.pinned (OpenSpec.ofChange pagingListsWrong)

/- THE SECOND FORM. 'bulk': how many values and letters a reading holds, each counted each time it is reached (what is shared counts as often as it is met; a slice's spare places count too). A statement '..UptoSaid' is the law's where the arguments, and the package variables that the reading takes, are together of bulk at most 1048576: NARROWER than '..Said'. Prove '..Said' where nothing that the law and all that it calls make is longer than what came in: it says more and counts as full. Else prove '..UptoSaid'. A law counts once. -/
mutual
def uptoBulk {H : Type} : DataW H → Nat
  | .lit (.string bytes) => bytes.length + 1
  | .lit _ => 1
  | .nil => 1
  | .ptr d => uptoBulk d + 1
  | .slice elems spare => uptoBulkAll elems + uptoBulkAll spare + 1
  | .agg parts => uptoBulkAll parts + 1
  | .iface _ d => uptoBulk d + 1
  | .map entries => uptoBulkEntries entries + 1
  | .held _ => 1
def uptoBulkAll {H : Type} : List (DataW H) → Nat
  | [] => 0
  | d :: r => uptoBulk d + uptoBulkAll r
def uptoBulkEntries {H : Type} : List (Lit × DataW H) → Nat
  | [] => 0
  | x :: r => uptoBulkEntry x + uptoBulkEntries r
def uptoBulkEntry {H : Type} : Lit × DataW H → Nat
  | (.string bytes, d) => bytes.length + uptoBulk d + 1
  | (_, d) => uptoBulk d + 1
 end
def uptoSmall : (H : Type) → List (DataW H) → Bool := fun _ ds => decide (uptoBulkAll ds ≤ 1048576)
def OpenSpec.upto (s : _root_.Go.ChangeSpec) : _root_.Go.OpenSpec := { _root_.Go.OpenSpec.ofChange s with cond := some uptoSmall }

/-- 'vmfleetlaw5.PagingMaps', WHERE WHAT IT READS IS OF BULK AT MOST 1048576: true; the input reads as it did. -/
def pagingMapsUptoRow : OpenClaim := { program := "ytnmomjaockmdpaa", sum := "1f15a4ee4d1485f1ec02120cc6c590e95fbc1fc88e07cfc5c20ed3f07132ba75", func := "vmfleet/vmfleetlaw5.PagingMaps", spec := "pagingMaps", unfollowed := true, recurses := true, apart := false, narrowed := true }
def PagingMapsUptoSaid : Prop := pagingMapsUptoRow.holds Try.pinned (OpenSpec.upto pagingMapsSpec)

/-- 'vmfleetlaw5.PagingLists', WHERE WHAT IT READS IS OF BULK AT MOST 1048576: true; the input reads as it did. -/
def pagingListsUptoRow : OpenClaim := { program := "ytnmomjaockmdpaa", sum := "1f15a4ee4d1485f1ec02120cc6c590e95fbc1fc88e07cfc5c20ed3f07132ba75", func := "vmfleet/vmfleetlaw5.PagingLists", spec := "pagingLists", unfollowed := true, recurses := true, apart := false, narrowed := true }
def PagingListsUptoSaid : Prop := pagingListsUptoRow.holds Try.pinned (OpenSpec.upto pagingListsSpec)

end Rows
end Go.Proofs.Ytnmomjaockmdpaa
