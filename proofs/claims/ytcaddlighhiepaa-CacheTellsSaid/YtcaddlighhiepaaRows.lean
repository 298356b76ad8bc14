/-
  No cell of these rows narrows 'for every input' (looked for: loops, veiled, ifaces, maps, wideKeys, modest, calm, conditions, laid).
  DERIVED. THE GIVEN ROWS OF THIS SEAT. 3 by the template 'for every input the law returns true; each argument reads behind the call as it read before'; 0 by the template 'total and deterministic' (their statements: YtcaddlighhiepaaTotals.lean).
  GIVEN WITH THE SEED: the statements are not yours to turn. If you find one false, say at which input.
  Laid BY PROGRAM, IN A SANDBOX (cutbox-rows.mjs): the forced cells as the released guide's own fill.sh prints them over the translation 42b6bfed3a3f54cd… (all of the seat's roots in one cut). By AI agents, Wed Nov 11 2026. No macro, syntax, notation, axiom, sorry.
-/
import Derived.Test.YtcaddlighhiepaaChecked
import GoSem.Claim
import GoSem.ClaimJoined
import GoSem.ClaimMapViews
import Derived.JoinedTies
import Derived.KernelRfl
namespace Go.Proofs.Ytcaddlighhiepaa
/- THE CELL 'sum', in the pinned program and in every row, IS THE sha256 OF THE DUMP (.gsa) THAT YtcaddlighhiepaaProg.lean LOADS. Nothing in Lean hashes anything: it is a label: what it is worth is what the hold of that sum in a sandbox is worth. -/
noncomputable def Try.pinned : Pinned := { name := "ytcaddlighhiepaa", sum := "42b6bfed3a3f54cd99cda1028bb24f590bd82c8c0a2b9eae2919027e3bf2a844", checked := Try.checked }
namespace Rows
def none {H : Type} : Left H := { results := [], args := [] }

/-- 'vmfleetlaw17.CacheTells': WHATEVER THE INPUT: true; the input reads as it did. -/
def cacheTellsSpec : ChangeSpec := { name := "cacheTells", fn := fun _ => fun
  | [d1, d2, d3, d4, d5, d6, d7] => { results := [.lit (.bool true)], args := [d1, d2, d3, d4, d5, d6, d7] }
  | _ => none }
def cacheTellsRow : OpenClaim := { program := "ytcaddlighhiepaa", sum := "42b6bfed3a3f54cd99cda1028bb24f590bd82c8c0a2b9eae2919027e3bf2a844", func := "vmfleet/vmfleetlaw17.CacheTells", spec := "cacheTells", apart := false }
def CacheTellsSaid : Prop := cacheTellsRow.holds Try.pinned (OpenSpec.ofChange cacheTellsSpec)

/-- ITS FALSE NEIGHBOUR: 'it returns false'. Refute it at one input. -/
def cacheTellsWrong : ChangeSpec := { name := "cacheTells", fn := fun _ => fun
  | [d1, d2, d3, d4, d5, d6, d7] => { results := [.lit (.bool false)], args := [d1, d2, d3, d4, d5, d6, d7] }
  | _ => none }
def CacheTellsWrongFalsely : Prop := cacheTellsRow.holds Try.pinned (OpenSpec.ofChange cacheTellsWrong)

/-- 'vmfleetlaw17.CacheCoheres': WHATEVER THE INPUT: true; the input reads as it did. -/
def cacheCoheresSpec : ChangeSpec := { name := "cacheCoheres", fn := fun _ => fun
  | [d1, d2] => { results := [.lit (.bool true)], args := [d1, d2] }
  | _ => none }
def cacheCoheresRow : OpenClaim := { program := "ytcaddlighhiepaa", sum := "42b6bfed3a3f54cd99cda1028bb24f590bd82c8c0a2b9eae2919027e3bf2a844", func := "vmfleet/vmfleetlaw17.CacheCoheres", spec := "cacheCoheres", apart := false }
def CacheCoheresSaid : Prop := cacheCoheresRow.holds Try.pinned (OpenSpec.ofChange cacheCoheresSpec)

/-- ITS FALSE NEIGHBOUR: 'it returns false'. Refute it at one input. -/
def cacheCoheresWrong : ChangeSpec := { name := "cacheCoheres", fn := fun _ => fun
  | [d1, d2] => { results := [.lit (.bool false)], args := [d1, d2] }
  | _ => none }
def CacheCoheresWrongFalsely : Prop := cacheCoheresRow.holds Try.pinned (OpenSpec.ofChange cacheCoheresWrong)

/-- 'vmfleetlaw17.CacheRecent': WHATEVER THE INPUT: true; the input reads as it did. -/
def cacheRecentSpec : ChangeSpec := { name := "cacheRecent", fn := fun _ => fun
  | [d1, d2, d3] => { results := [.lit (.bool true)], args := [d1, d2, d3] }
  | _ => none }
def cacheRecentRow : OpenClaim := { program := "ytcaddlighhiepaa", sum := "42b6bfed3a3f54cd99cda1028bb24f590bd82c8c0a2b9eae2919027e3bf2a844", func := "vmfleet/vmfleetlaw17.CacheRecent", spec := "cacheRecent", apart := false }
def CacheRecentSaid : Prop := cacheRecentRow.holds Try.pinned (OpenSpec.ofChange cacheRecentSpec)

/-- ITS FALSE NEIGHBOUR: 'it returns false'. Refute it at one input. -/
def cacheRecentWrong : ChangeSpec := { name := "cacheRecent", fn := fun _ => fun
  | [d1, d2, d3] => { results := [.lit (.bool false)], args := [d1, d2, d3] }
  | _ => none }
def CacheRecentWrongFalsely : Prop := cacheRecentRow.holds Try.pinned (OpenSpec.ofChange cacheRecentWrong)

/- THE SECOND FORM. 'bulk': how many values and letters a reading holds, each counted each time it is reached (what is shared counts as often as it is met; a slice's spare places count too). A statement '..UptoSaid' is the law's where the arguments, and the package variables that the reading takes, are together of bulk at most 1048576: NARROWER than '..Said'. Prove '..Said' where nothing that the law and all that it calls make is longer than what came in: it says more and counts as full. Else prove '..UptoSaid'. A law counts once. -/
mutual
def uptoBulk {H : Type} : DataW H → Nat
  | .lit (.string bytes) => bytes.length + 1
  | .lit _ => 1
  | .nil => 1
  | .ptr d => uptoBulk d + 1
  | .slice elems spare => uptoBulkAll elems + uptoBulkAll spare + 1
  | .agg parts => uptoBulkAll parts + 1
  | .iface _ d => uptoBulk d + 1
  | .map entries => uptoBulkEntries entries + 1
  | .held _ => 1
def uptoBulkAll {H : Type} : List (DataW H) → Nat
  | [] => 0
  | d :: r => uptoBulk d + uptoBulkAll r
def uptoBulkEntries {H : Type} : List (Lit × DataW H) → Nat
  | [] => 0
  | x :: r => uptoBulkEntry x + uptoBulkEntries r
def uptoBulkEntry {H : Type} : Lit × DataW H → Nat
  | (.string bytes, d) => bytes.length + uptoBulk d + 1
  | (_, d) => uptoBulk d + 1
 end
def uptoSmall : (H : Type) → List (DataW H) → Bool := fun _ ds => decide (uptoBulkAll ds ≤ 1048576)
def OpenSpec.upto (s : _root_.Go.ChangeSpec) : _root_.Go.OpenSpec := { _root_.Go.OpenSpec.ofChange s with cond := some uptoSmall }

/-- 'vmfleetlaw17.CacheTells', WHERE WHAT IT READS IS OF BULK AT MOST 1048576: true; the input reads as it did. -/
def cacheTellsUptoRow : OpenClaim := { program := "ytcaddlighhiepaa", sum := "42b6bfed3a3f54cd99cda1028bb24f590bd82c8c0a2b9eae2919027e3bf2a844", func := "vmfleet/vmfleetlaw17.CacheTells", spec := "cacheTells", apart := false, narrowed := true }
def CacheTellsUptoSaid : Prop := cacheTellsUptoRow.holds Try.pinned (OpenSpec.upto cacheTellsSpec)

/-- 'vmfleetlaw17.CacheCoheres', WHERE WHAT IT READS IS OF BULK AT MOST 1048576: true; the input reads as it did. -/
def cacheCoheresUptoRow : OpenClaim := { program := "ytcaddlighhiepaa", sum := "42b6bfed3a3f54cd99cda1028bb24f590bd82c8c0a2b9eae2919027e3bf2a844", func := "vmfleet/vmfleetlaw17.CacheCoheres", spec := "cacheCoheres", apart := false, narrowed := true }
def CacheCoheresUptoSaid : Prop := cacheCoheresUptoRow.holds Try.pinned (OpenSpec.upto cacheCoheresSpec)

/-- 'vmfleetlaw17.CacheRecent', WHERE WHAT IT READS IS OF BULK AT MOST 1048576: true; the input reads as it did. -/
def cacheRecentUptoRow : OpenClaim := { program := "ytcaddlighhiepaa", sum := "42b6bfed3a3f54cd99cda1028bb24f590bd82c8c0a2b9eae2919027e3bf2a844", func := "vmfleet/vmfleetlaw17.CacheRecent", spec := "cacheRecent", apart := false, narrowed := true }
def CacheRecentUptoSaid : Prop := cacheRecentUptoRow.holds Try.pinned (OpenSpec.upto cacheRecentSpec)

end Rows
end Go.Proofs.Ytcaddlighhiepaa
