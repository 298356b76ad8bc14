/-
  No cell of these rows narrows 'for every input' (looked for: loops, veiled, ifaces, maps, wideKeys, modest, calm, conditions, laid).
  DERIVED. THE GIVEN ROWS OF THIS SEAT. 3 by the template 'for every input the law returns true; each argument reads behind the call as it read before'; 0 by the template 'total and deterministic' (their statements: YthgikkibfbkoiaaTotals.lean).
  GIVEN WITH THE SEED: the statements are not yours to turn. If you find one false, say at which input.
  Laid BY PROGRAM, IN A SANDBOX (cutbox-rows.mjs): the forced cells as the released guide's own fill.sh prints them over the translation b9384a797b96a646… (all of the seat's roots in one cut). By AI agents, Wed Nov 11 2026. No macro, syntax, notation, axiom, sorry.
-/
import Derived.Test.YthgikkibfbkoiaaChecked
import GoSem.Claim
import GoSem.ClaimJoined
import GoSem.ClaimMapViews
import Derived.JoinedTies
import Derived.KernelRfl
namespace Go.Proofs.Ythgikkibfbkoiaa
/- THE CELL 'sum', in the pinned program and in every row, IS THE sha256 OF THE DUMP (.gsa) THAT YthgikkibfbkoiaaProg.lean LOADS. Nothing in Lean hashes anything: it is a label: what it is worth is what the hold of that sum in a sandbox is worth. -/
noncomputable def Try.pinned : Pinned := { name := "ythgikkibfbkoiaa", sum := "b9384a797b96a646561a9f14bcf95c147ea196ba5fc315777afc841f84d0fcb5", checked := Try.checked }
namespace Rows
def none {H : Type} : Left H := { results := [], args := [] }

/-- 'vmfleetlaw14.TlbTells': WHATEVER THE INPUT: true; the input reads as it did. -/
def tlbTellsSpec : ChangeSpec := { name := "tlbTells", fn := fun _ => fun
  | [d1, d2, d3, d4, d5, d6, d7, d8, d9, d10] => { results := [.lit (.bool true)], args := [d1, d2, d3, d4, d5, d6, d7, d8, d9, d10] }
  | _ => none }
def tlbTellsRow : OpenClaim := { program := "ythgikkibfbkoiaa", sum := "b9384a797b96a646561a9f14bcf95c147ea196ba5fc315777afc841f84d0fcb5", func := "vmfleet/vmfleetlaw14.TlbTells", spec := "tlbTells", unfollowed := true, recurses := true, apart := false }
def TlbTellsSaid : Prop := tlbTellsRow.holds Try.pinned (OpenSpec.ofChange tlbTellsSpec)

/-- ITS FALSE NEIGHBOUR: 'it returns false'. Refute it at one input. -/
def tlbTellsWrong : ChangeSpec := { name := "tlbTells", fn := fun _ => fun
  | [d1, d2, d3, d4, d5, d6, d7, d8, d9, d10] => { results := [.lit (.bool false)], args := [d1, d2, d3, d4, d5, d6, d7, d8, d9, d10] }
  | _ => none }
def TlbTellsWrongFalsely : Prop := tlbTellsRow.holds Try.pinned (OpenSpec.ofChange tlbTellsWrong)

/-- 'vmfleetlaw14.TlbAgrees': WHATEVER THE INPUT: true; the input reads as it did. -/
def tlbAgreesSpec : ChangeSpec := { name := "tlbAgrees", fn := fun _ => fun
  | [d1, d2, d3, d4, d5] => { results := [.lit (.bool true)], args := [d1, d2, d3, d4, d5] }
  | _ => none }
def tlbAgreesRow : OpenClaim := { program := "ythgikkibfbkoiaa", sum := "b9384a797b96a646561a9f14bcf95c147ea196ba5fc315777afc841f84d0fcb5", func := "vmfleet/vmfleetlaw14.TlbAgrees", spec := "tlbAgrees", unfollowed := true, recurses := true, apart := false }
def TlbAgreesSaid : Prop := tlbAgreesRow.holds Try.pinned (OpenSpec.ofChange tlbAgreesSpec)

/-- ITS FALSE NEIGHBOUR: 'it returns false'. Refute it at one input. -/
def tlbAgreesWrong : ChangeSpec := { name := "tlbAgrees", fn := fun _ => fun
  | [d1, d2, d3, d4, d5] => { results := [.lit (.bool false)], args := [d1, d2, d3, d4, d5] }
  | _ => none }
def TlbAgreesWrongFalsely : Prop := tlbAgreesRow.holds Try.pinned (OpenSpec.ofChange tlbAgreesWrong)

/-- 'vmfleetlaw14.TlbRecent': WHATEVER THE INPUT: true; the input reads as it did. -/
def tlbRecentSpec : ChangeSpec := { name := "tlbRecent", fn := fun _ => fun
  | [d1, d2, d3] => { results := [.lit (.bool true)], args := [d1, d2, d3] }
  | _ => none }
def tlbRecentRow : OpenClaim := { program := "ythgikkibfbkoiaa", sum := "b9384a797b96a646561a9f14bcf95c147ea196ba5fc315777afc841f84d0fcb5", func := "vmfleet/vmfleetlaw14.TlbRecent", spec := "tlbRecent", unfollowed := true, recurses := true, apart := false }
def TlbRecentSaid : Prop := tlbRecentRow.holds Try.pinned (OpenSpec.ofChange tlbRecentSpec)

/-- ITS FALSE NEIGHBOUR: 'it returns false'. Refute it at one input. -/
def tlbRecentWrong : ChangeSpec := { name := "tlbRecent", fn := fun _ => fun
  | [d1, d2, d3] => { results := [.lit (.bool false)], args := [d1, d2, d3] }
  | _ => none }
def TlbRecentWrongFalsely : Prop := tlbRecentRow.holds Try.pinned (OpenSpec.ofChange tlbRecentWrong)

/- THE SECOND FORM. 'bulk': how many values and letters a reading holds, each counted each time it is reached (what is shared counts as often as it is met; a slice's spare places count too). A statement '..UptoSaid' is the law's where the arguments, and the package variables that the reading takes, are together of bulk at most 1048576: NARROWER than '..Said'. Prove '..Said' where nothing that the law and all that it calls make is longer than what came in: it says more and counts as full. Else prove '..UptoSaid'. A law counts once. -/
mutual
def uptoBulk {H : Type} : DataW H → Nat
  | .lit (.string bytes) => bytes.length + 1
  | .lit _ => 1
  | .nil => 1
  | .ptr d => uptoBulk d + 1
  | .slice elems spare => uptoBulkAll elems + uptoBulkAll spare + 1
  | .agg parts => uptoBulkAll parts + 1
  | .iface _ d => uptoBulk d + 1
  | .map entries => uptoBulkEntries entries + 1
  | .held _ => 1
def uptoBulkAll {H : Type} : List (DataW H) → Nat
  | [] => 0
  | d :: r => uptoBulk d + uptoBulkAll r
def uptoBulkEntries {H : Type} : List (Lit × DataW H) → Nat
  | [] => 0
  | x :: r => uptoBulkEntry x + uptoBulkEntries r
def uptoBulkEntry {H : Type} : Lit × DataW H → Nat
  | (.string bytes, d) => bytes.length + uptoBulk d + 1
  | (_, d) => uptoBulk d + 1
 end
def uptoSmall : (H : Type) → List (DataW H) → Bool := fun _ ds => decide (uptoBulkAll ds ≤ 1048576)
def OpenSpec.upto (s : _root_.Go.ChangeSpec) : _root_.Go.OpenSpec := { _root_.Go.OpenSpec.ofChange s with cond := some uptoSmall }

/-- 'vmfleetlaw14.TlbTells', WHERE WHAT IT READS IS OF BULK AT MOST 1048576: true; the input reads as it did. -/
def tlbTellsUptoRow : OpenClaim := { program := "ythgikkibfbkoiaa", sum := "b9384a797b96a646561a9f14bcf95c147ea196ba5fc315777afc841f84d0fcb5", func := "vmfleet/vmfleetlaw14.TlbTells", spec := "tlbTells", unfollowed := true, recurses := true, apart := false, narrowed := true }
def TlbTellsUptoSaid : Prop := tlbTellsUptoRow.holds Try.pinned (OpenSpec.upto tlbTellsSpec)

/-- 'vmfleetlaw14.TlbAgrees', WHERE WHAT IT READS IS OF BULK AT MOST 1048576: true; the input reads as it did. -/
def tlbAgreesUptoRow : OpenClaim := { program := "ythgikkibfbkoiaa", sum := "b9384a797b96a646561a9f14bcf95c147ea196ba5fc315777afc841f84d0fcb5", func := "vmfleet/vmfleetlaw14.TlbAgrees", spec := "tlbAgrees", unfollowed := true, recurses := true, apart := false, narrowed := true }
def TlbAgreesUptoSaid : Prop := tlbAgreesUptoRow.holds Try.pinned (OpenSpec.upto tlbAgreesSpec)

/-- 'vmfleetlaw14.TlbRecent', WHERE WHAT IT READS IS OF BULK AT MOST 1048576: true; the input reads as it did. -/
def tlbRecentUptoRow : OpenClaim := { program := "ythgikkibfbkoiaa", sum := "b9384a797b96a646561a9f14bcf95c147ea196ba5fc315777afc841f84d0fcb5", func := "vmfleet/vmfleetlaw14.TlbRecent", spec := "tlbRecent", unfollowed := true, recurses := true, apart := false, narrowed := true }
def TlbRecentUptoSaid : Prop := tlbRecentUptoRow.holds Try.pinned (OpenSpec.upto tlbRecentSpec)

end Rows
end Go.Proofs.Ythgikkibfbkoiaa
