/-
  No cell of these rows narrows 'for every input' (looked for: loops, veiled, ifaces, maps, wideKeys, modest, calm, conditions, laid).
  DERIVED. THE GIVEN ROWS OF THIS SEAT. 20 by the template 'for every input the law returns true; each argument reads behind the call as it read before'; 0 by the template 'total and deterministic' (their statements: YtffhbadeoadbkaaTotals.lean).
  GIVEN WITH THE SEED: the statements are not yours to turn. If you find one false, say at which input.
  Laid BY PROGRAM, IN A SANDBOX (cutbox-rows.mjs): the forced cells as the released guide's own fill.sh prints them over the translation 03476bb4b7b2cbf6… (all of the seat's roots in one cut). By AI agents, Wed Nov 11 2026. No macro, syntax, notation, axiom, sorry.
-/
import Derived.Test.YtffhbadeoadbkaaChecked
import GoSem.Claim
import GoSem.ClaimJoined
import GoSem.ClaimMapViews
import Derived.JoinedTies
import Derived.KernelRfl
namespace Go.Proofs.Ytffhbadeoadbkaa
/- THE CELL 'sum', in the pinned program and in every row, IS THE sha256 OF THE DUMP (.gsa) THAT YtffhbadeoadbkaaProg.lean LOADS. Nothing in Lean hashes anything: it is a label: what it is worth is what the hold of that sum in a sandbox is worth. -/
noncomputable def Try.pinned : Pinned := { name := "ytffhbadeoadbkaa", sum := "03476bb4b7b2cbf6b04df8b28f74c1c5298dc73e5ddab7d811ef3ef48aebf2dc", checked := Try.checked }
namespace Rows
def none {H : Type} : Left H := { results := [], args := [] }

/-- 'vmfleetlaw5.PagingMaps': WHATEVER THE INPUT: true; the input reads as it did. -/
def pagingMapsSpec : ChangeSpec := { name := "pagingMaps", fn := fun _ => fun
  | [d1, d2, d3, d4, d5, d6, d7, d8, d9] => { results := [.lit (.bool true)], args := [d1, d2, d3, d4, d5, d6, d7, d8, d9] }
  | _ => none }
def pagingMapsRow : OpenClaim := { program := "ytffhbadeoadbkaa", sum := "03476bb4b7b2cbf6b04df8b28f74c1c5298dc73e5ddab7d811ef3ef48aebf2dc", func := "vmfleet/vmfleetlaw5.PagingMaps", spec := "pagingMaps", unfollowed := true, recurses := true, apart := false }
def PagingMapsSaid : Prop := pagingMapsRow.holds Try.pinned (OpenSpec.ofChange pagingMapsSpec)

/-- ITS FALSE NEIGHBOUR: 'it returns false'. Refute it at one input. -/
def pagingMapsWrong : ChangeSpec := { name := "pagingMaps", fn := fun _ => fun
  | [d1, d2, d3, d4, d5, d6, d7, d8, d9] => { results := [.lit (.bool false)], args := [d1, d2, d3, d4, d5, d6, d7, d8, d9] }
  | _ => none }
def PagingMapsWrongFalsely : Prop := pagingMapsRow.holds Try.pinned (OpenSpec.ofChange pagingMapsWrong)

/-- 'vmfleetlaw5.PagingLists': WHATEVER THE INPUT: true; the input reads as it did. -/
def pagingListsSpec : ChangeSpec := { name := "pagingLists", fn := fun _ => fun
  | [d1, d2, d3] => { results := [.lit (.bool true)], args := [d1, d2, d3] }
  | _ => none }
def pagingListsRow : OpenClaim := { program := "ytffhbadeoadbkaa", sum := "03476bb4b7b2cbf6b04df8b28f74c1c5298dc73e5ddab7d811ef3ef48aebf2dc", func := "vmfleet/vmfleetlaw5.PagingLists", spec := "pagingLists", unfollowed := true, recurses := true, apart := false }
def PagingListsSaid : Prop := pagingListsRow.holds Try.pinned (OpenSpec.ofChange pagingListsSpec)

/-- ITS FALSE NEIGHBOUR: 'it returns false'. Refute it at one input. -/
def pagingListsWrong : ChangeSpec := { name := "pagingLists", fn := fun _ => fun
  | [d1, d2, d3] => { results := [.lit (.bool false)], args := [d1, d2, d3] }
  | _ => none }
def PagingListsWrongFalsely : Prop := pagingListsRow.holds Try.pinned (OpenSpec.ofChange pagingListsWrong)

/-- 'vmfleetlaw15.BlockCovers': WHATEVER THE INPUT: true; the input reads as it did. -/
def blockCoversSpec : ChangeSpec := { name := "blockCovers", fn := fun _ => fun
  | [d1, d2] => { results := [.lit (.bool true)], args := [d1, d2] }
  | _ => none }
def blockCoversRow : OpenClaim := { program := "ytffhbadeoadbkaa", sum := "03476bb4b7b2cbf6b04df8b28f74c1c5298dc73e5ddab7d811ef3ef48aebf2dc", func := "vmfleet/vmfleetlaw15.BlockCovers", spec := "blockCovers", recurses := true, apart := false }
def BlockCoversSaid : Prop := blockCoversRow.holds Try.pinned (OpenSpec.ofChange blockCoversSpec)

/-- ITS FALSE NEIGHBOUR: 'it returns false'. Refute it at one input. -/
def blockCoversWrong : ChangeSpec := { name := "blockCovers", fn := fun _ => fun
  | [d1, d2] => { results := [.lit (.bool false)], args := [d1, d2] }
  | _ => none }
def BlockCoversWrongFalsely : Prop := blockCoversRow.holds Try.pinned (OpenSpec.ofChange blockCoversWrong)

/-- 'vmfleetlaw15.BlockSplits': WHATEVER THE INPUT: true; the input reads as it did. -/
def blockSplitsSpec : ChangeSpec := { name := "blockSplits", fn := fun _ => fun
  | [d1, d2, d3] => { results := [.lit (.bool true)], args := [d1, d2, d3] }
  | _ => none }
def blockSplitsRow : OpenClaim := { program := "ytffhbadeoadbkaa", sum := "03476bb4b7b2cbf6b04df8b28f74c1c5298dc73e5ddab7d811ef3ef48aebf2dc", func := "vmfleet/vmfleetlaw15.BlockSplits", spec := "blockSplits", recurses := true, apart := false }
def BlockSplitsSaid : Prop := blockSplitsRow.holds Try.pinned (OpenSpec.ofChange blockSplitsSpec)

/-- ITS FALSE NEIGHBOUR: 'it returns false'. Refute it at one input. -/
def blockSplitsWrong : ChangeSpec := { name := "blockSplits", fn := fun _ => fun
  | [d1, d2, d3] => { results := [.lit (.bool false)], args := [d1, d2, d3] }
  | _ => none }
def BlockSplitsWrongFalsely : Prop := blockSplitsRow.holds Try.pinned (OpenSpec.ofChange blockSplitsWrong)

/-- 'vmfleetlaw15.BlockBuilds': WHATEVER THE INPUT: true; the input reads as it did. -/
def blockBuildsSpec : ChangeSpec := { name := "blockBuilds", fn := fun _ => fun
  | [d1, d2, d3, d4, d5, d6] => { results := [.lit (.bool true)], args := [d1, d2, d3, d4, d5, d6] }
  | _ => none }
def blockBuildsRow : OpenClaim := { program := "ytffhbadeoadbkaa", sum := "03476bb4b7b2cbf6b04df8b28f74c1c5298dc73e5ddab7d811ef3ef48aebf2dc", func := "vmfleet/vmfleetlaw15.BlockBuilds", spec := "blockBuilds", recurses := true, apart := false }
def BlockBuildsSaid : Prop := blockBuildsRow.holds Try.pinned (OpenSpec.ofChange blockBuildsSpec)

/-- ITS FALSE NEIGHBOUR: 'it returns false'. Refute it at one input. -/
def blockBuildsWrong : ChangeSpec := { name := "blockBuilds", fn := fun _ => fun
  | [d1, d2, d3, d4, d5, d6] => { results := [.lit (.bool false)], args := [d1, d2, d3, d4, d5, d6] }
  | _ => none }
def BlockBuildsWrongFalsely : Prop := blockBuildsRow.holds Try.pinned (OpenSpec.ofChange blockBuildsWrong)

/-- 'vmfleetlaw15.BlockMays': WHATEVER THE INPUT: true; the input reads as it did. -/
def blockMaysSpec : ChangeSpec := { name := "blockMays", fn := fun _ => fun
  | [d1, d2, d3, d4, d5, d6, d7] => { results := [.lit (.bool true)], args := [d1, d2, d3, d4, d5, d6, d7] }
  | _ => none }
def blockMaysRow : OpenClaim := { program := "ytffhbadeoadbkaa", sum := "03476bb4b7b2cbf6b04df8b28f74c1c5298dc73e5ddab7d811ef3ef48aebf2dc", func := "vmfleet/vmfleetlaw15.BlockMays", spec := "blockMays", recurses := true, apart := false }
def BlockMaysSaid : Prop := blockMaysRow.holds Try.pinned (OpenSpec.ofChange blockMaysSpec)

/-- ITS FALSE NEIGHBOUR: 'it returns false'. Refute it at one input. -/
def blockMaysWrong : ChangeSpec := { name := "blockMays", fn := fun _ => fun
  | [d1, d2, d3, d4, d5, d6, d7] => { results := [.lit (.bool false)], args := [d1, d2, d3, d4, d5, d6, d7] }
  | _ => none }
def BlockMaysWrongFalsely : Prop := blockMaysRow.holds Try.pinned (OpenSpec.ofChange blockMaysWrong)

/-- 'vmfleetlaw14.TlbTells': WHATEVER THE INPUT: true; the input reads as it did. -/
def tlbTellsSpec : ChangeSpec := { name := "tlbTells", fn := fun _ => fun
  | [d1, d2, d3, d4, d5, d6, d7, d8, d9, d10] => { results := [.lit (.bool true)], args := [d1, d2, d3, d4, d5, d6, d7, d8, d9, d10] }
  | _ => none }
def tlbTellsRow : OpenClaim := { program := "ytffhbadeoadbkaa", sum := "03476bb4b7b2cbf6b04df8b28f74c1c5298dc73e5ddab7d811ef3ef48aebf2dc", func := "vmfleet/vmfleetlaw14.TlbTells", spec := "tlbTells", unfollowed := true, recurses := true, apart := false }
def TlbTellsSaid : Prop := tlbTellsRow.holds Try.pinned (OpenSpec.ofChange tlbTellsSpec)

/-- ITS FALSE NEIGHBOUR: 'it returns false'. Refute it at one input. -/
def tlbTellsWrong : ChangeSpec := { name := "tlbTells", fn := fun _ => fun
  | [d1, d2, d3, d4, d5, d6, d7, d8, d9, d10] => { results := [.lit (.bool false)], args := [d1, d2, d3, d4, d5, d6, d7, d8, d9, d10] }
  | _ => none }
def TlbTellsWrongFalsely : Prop := tlbTellsRow.holds Try.pinned (OpenSpec.ofChange tlbTellsWrong)

/-- 'vmfleetlaw14.TlbAgrees': WHATEVER THE INPUT: true; the input reads as it did. -/
def tlbAgreesSpec : ChangeSpec := { name := "tlbAgrees", fn := fun _ => fun
  | [d1, d2, d3, d4, d5] => { results := [.lit (.bool true)], args := [d1, d2, d3, d4, d5] }
  | _ => none }
def tlbAgreesRow : OpenClaim := { program := "ytffhbadeoadbkaa", sum := "03476bb4b7b2cbf6b04df8b28f74c1c5298dc73e5ddab7d811ef3ef48aebf2dc", func := "vmfleet/vmfleetlaw14.TlbAgrees", spec := "tlbAgrees", unfollowed := true, recurses := true, apart := false }
def TlbAgreesSaid : Prop := tlbAgreesRow.holds Try.pinned (OpenSpec.ofChange tlbAgreesSpec)

/-- ITS FALSE NEIGHBOUR: 'it returns false'. Refute it at one input. -/
def tlbAgreesWrong : ChangeSpec := { name := "tlbAgrees", fn := fun _ => fun
  | [d1, d2, d3, d4, d5] => { results := [.lit (.bool false)], args := [d1, d2, d3, d4, d5] }
  | _ => none }
def TlbAgreesWrongFalsely : Prop := tlbAgreesRow.holds Try.pinned (OpenSpec.ofChange tlbAgreesWrong)

/-- 'vmfleetlaw14.TlbRecent': WHATEVER THE INPUT: true; the input reads as it did. -/
def tlbRecentSpec : ChangeSpec := { name := "tlbRecent", fn := fun _ => fun
  | [d1, d2, d3] => { results := [.lit (.bool true)], args := [d1, d2, d3] }
  | _ => none }
def tlbRecentRow : OpenClaim := { program := "ytffhbadeoadbkaa", sum := "03476bb4b7b2cbf6b04df8b28f74c1c5298dc73e5ddab7d811ef3ef48aebf2dc", func := "vmfleet/vmfleetlaw14.TlbRecent", spec := "tlbRecent", unfollowed := true, recurses := true, apart := false }
def TlbRecentSaid : Prop := tlbRecentRow.holds Try.pinned (OpenSpec.ofChange tlbRecentSpec)

/-- ITS FALSE NEIGHBOUR: 'it returns false'. Refute it at one input. -/
def tlbRecentWrong : ChangeSpec := { name := "tlbRecent", fn := fun _ => fun
  | [d1, d2, d3] => { results := [.lit (.bool false)], args := [d1, d2, d3] }
  | _ => none }
def TlbRecentWrongFalsely : Prop := tlbRecentRow.holds Try.pinned (OpenSpec.ofChange tlbRecentWrong)

/-- 'vmfleetlaw16.OptimizeFolds': WHATEVER THE INPUT: true; the input reads as it did. -/
def optimizeFoldsSpec : ChangeSpec := { name := "optimizeFolds", fn := fun _ => fun
  | [d1, d2, d3, d4] => { results := [.lit (.bool true)], args := [d1, d2, d3, d4] }
  | _ => none }
def optimizeFoldsRow : OpenClaim := { program := "ytffhbadeoadbkaa", sum := "03476bb4b7b2cbf6b04df8b28f74c1c5298dc73e5ddab7d811ef3ef48aebf2dc", func := "vmfleet/vmfleetlaw16.OptimizeFolds", spec := "optimizeFolds", apart := false }
def OptimizeFoldsSaid : Prop := optimizeFoldsRow.holds Try.pinned (OpenSpec.ofChange optimizeFoldsSpec)

/-- ITS FALSE NEIGHBOUR: 'it returns false'. Refute it at one input. -/
def optimizeFoldsWrong : ChangeSpec := { name := "optimizeFolds", fn := fun _ => fun
  | [d1, d2, d3, d4] => { results := [.lit (.bool false)], args := [d1, d2, d3, d4] }
  | _ => none }
def OptimizeFoldsWrongFalsely : Prop := optimizeFoldsRow.holds Try.pinned (OpenSpec.ofChange optimizeFoldsWrong)

/-- 'vmfleetlaw16.OptimizeRuns': WHATEVER THE INPUT: true; the input reads as it did. -/
def optimizeRunsSpec : ChangeSpec := { name := "optimizeRuns", fn := fun _ => fun
  | [d1, d2, d3, d4, d5] => { results := [.lit (.bool true)], args := [d1, d2, d3, d4, d5] }
  | _ => none }
def optimizeRunsRow : OpenClaim := { program := "ytffhbadeoadbkaa", sum := "03476bb4b7b2cbf6b04df8b28f74c1c5298dc73e5ddab7d811ef3ef48aebf2dc", func := "vmfleet/vmfleetlaw16.OptimizeRuns", spec := "optimizeRuns", apart := false }
def OptimizeRunsSaid : Prop := optimizeRunsRow.holds Try.pinned (OpenSpec.ofChange optimizeRunsSpec)

/-- ITS FALSE NEIGHBOUR: 'it returns false'. Refute it at one input. -/
def optimizeRunsWrong : ChangeSpec := { name := "optimizeRuns", fn := fun _ => fun
  | [d1, d2, d3, d4, d5] => { results := [.lit (.bool false)], args := [d1, d2, d3, d4, d5] }
  | _ => none }
def OptimizeRunsWrongFalsely : Prop := optimizeRunsRow.holds Try.pinned (OpenSpec.ofChange optimizeRunsWrong)

/-- 'vmfleetlaw16.OptimizeSame': WHATEVER THE INPUT: true; the input reads as it did. -/
def optimizeSameSpec : ChangeSpec := { name := "optimizeSame", fn := fun _ => fun
  | [d1, d2] => { results := [.lit (.bool true)], args := [d1, d2] }
  | _ => none }
def optimizeSameRow : OpenClaim := { program := "ytffhbadeoadbkaa", sum := "03476bb4b7b2cbf6b04df8b28f74c1c5298dc73e5ddab7d811ef3ef48aebf2dc", func := "vmfleet/vmfleetlaw16.OptimizeSame", spec := "optimizeSame", apart := false }
def OptimizeSameSaid : Prop := optimizeSameRow.holds Try.pinned (OpenSpec.ofChange optimizeSameSpec)

/-- ITS FALSE NEIGHBOUR: 'it returns false'. Refute it at one input. -/
def optimizeSameWrong : ChangeSpec := { name := "optimizeSame", fn := fun _ => fun
  | [d1, d2] => { results := [.lit (.bool false)], args := [d1, d2] }
  | _ => none }
def OptimizeSameWrongFalsely : Prop := optimizeSameRow.holds Try.pinned (OpenSpec.ofChange optimizeSameWrong)

/-- 'vmfleetlaw16.OptimizeKeeps': WHATEVER THE INPUT: true; the input reads as it did. -/
def optimizeKeepsSpec : ChangeSpec := { name := "optimizeKeeps", fn := fun _ => fun
  | [d1, d2] => { results := [.lit (.bool true)], args := [d1, d2] }
  | _ => none }
def optimizeKeepsRow : OpenClaim := { program := "ytffhbadeoadbkaa", sum := "03476bb4b7b2cbf6b04df8b28f74c1c5298dc73e5ddab7d811ef3ef48aebf2dc", func := "vmfleet/vmfleetlaw16.OptimizeKeeps", spec := "optimizeKeeps", apart := false }
def OptimizeKeepsSaid : Prop := optimizeKeepsRow.holds Try.pinned (OpenSpec.ofChange optimizeKeepsSpec)

/-- ITS FALSE NEIGHBOUR: 'it returns false'. Refute it at one input. -/
def optimizeKeepsWrong : ChangeSpec := { name := "optimizeKeeps", fn := fun _ => fun
  | [d1, d2] => { results := [.lit (.bool false)], args := [d1, d2] }
  | _ => none }
def OptimizeKeepsWrongFalsely : Prop := optimizeKeepsRow.holds Try.pinned (OpenSpec.ofChange optimizeKeepsWrong)

/-- 'vmfleetlaw16.OptimizeConstants': WHATEVER THE INPUT: true; the input reads as it did. -/
def optimizeConstantsSpec : ChangeSpec := { name := "optimizeConstants", fn := fun _ => fun
  | [d1, d2, d3] => { results := [.lit (.bool true)], args := [d1, d2, d3] }
  | _ => none }
def optimizeConstantsRow : OpenClaim := { program := "ytffhbadeoadbkaa", sum := "03476bb4b7b2cbf6b04df8b28f74c1c5298dc73e5ddab7d811ef3ef48aebf2dc", func := "vmfleet/vmfleetlaw16.OptimizeConstants", spec := "optimizeConstants", apart := false }
def OptimizeConstantsSaid : Prop := optimizeConstantsRow.holds Try.pinned (OpenSpec.ofChange optimizeConstantsSpec)

/-- ITS FALSE NEIGHBOUR: 'it returns false'. Refute it at one input. -/
def optimizeConstantsWrong : ChangeSpec := { name := "optimizeConstants", fn := fun _ => fun
  | [d1, d2, d3] => { results := [.lit (.bool false)], args := [d1, d2, d3] }
  | _ => none }
def OptimizeConstantsWrongFalsely : Prop := optimizeConstantsRow.holds Try.pinned (OpenSpec.ofChange optimizeConstantsWrong)

/-- 'vmfleetlaw16.OptimizeBranches': WHATEVER THE INPUT: true; the input reads as it did. -/
def optimizeBranchesSpec : ChangeSpec := { name := "optimizeBranches", fn := fun _ => fun
  | [d1, d2, d3, d4] => { results := [.lit (.bool true)], args := [d1, d2, d3, d4] }
  | _ => none }
def optimizeBranchesRow : OpenClaim := { program := "ytffhbadeoadbkaa", sum := "03476bb4b7b2cbf6b04df8b28f74c1c5298dc73e5ddab7d811ef3ef48aebf2dc", func := "vmfleet/vmfleetlaw16.OptimizeBranches", spec := "optimizeBranches", apart := false }
def OptimizeBranchesSaid : Prop := optimizeBranchesRow.holds Try.pinned (OpenSpec.ofChange optimizeBranchesSpec)

/-- ITS FALSE NEIGHBOUR: 'it returns false'. Refute it at one input. -/
def optimizeBranchesWrong : ChangeSpec := { name := "optimizeBranches", fn := fun _ => fun
  | [d1, d2, d3, d4] => { results := [.lit (.bool false)], args := [d1, d2, d3, d4] }
  | _ => none }
def OptimizeBranchesWrongFalsely : Prop := optimizeBranchesRow.holds Try.pinned (OpenSpec.ofChange optimizeBranchesWrong)

/-- 'vmfleetlaw16.OptimizeAgain': WHATEVER THE INPUT: true; the input reads as it did. -/
def optimizeAgainSpec : ChangeSpec := { name := "optimizeAgain", fn := fun _ => fun
  | [d1, d2] => { results := [.lit (.bool true)], args := [d1, d2] }
  | _ => none }
def optimizeAgainRow : OpenClaim := { program := "ytffhbadeoadbkaa", sum := "03476bb4b7b2cbf6b04df8b28f74c1c5298dc73e5ddab7d811ef3ef48aebf2dc", func := "vmfleet/vmfleetlaw16.OptimizeAgain", spec := "optimizeAgain", apart := false }
def OptimizeAgainSaid : Prop := optimizeAgainRow.holds Try.pinned (OpenSpec.ofChange optimizeAgainSpec)

/-- ITS FALSE NEIGHBOUR: 'it returns false'. Refute it at one input. -/
def optimizeAgainWrong : ChangeSpec := { name := "optimizeAgain", fn := fun _ => fun
  | [d1, d2] => { results := [.lit (.bool false)], args := [d1, d2] }
  | _ => none }
def OptimizeAgainWrongFalsely : Prop := optimizeAgainRow.holds Try.pinned (OpenSpec.ofChange optimizeAgainWrong)

/-- 'vmfleetlaw16.OptimizeAddresses': WHATEVER THE INPUT: true; the input reads as it did. -/
def optimizeAddressesSpec : ChangeSpec := { name := "optimizeAddresses", fn := fun _ => fun
  | [d1, d2, d3] => { results := [.lit (.bool true)], args := [d1, d2, d3] }
  | _ => none }
def optimizeAddressesRow : OpenClaim := { program := "ytffhbadeoadbkaa", sum := "03476bb4b7b2cbf6b04df8b28f74c1c5298dc73e5ddab7d811ef3ef48aebf2dc", func := "vmfleet/vmfleetlaw16.OptimizeAddresses", spec := "optimizeAddresses", apart := false }
def OptimizeAddressesSaid : Prop := optimizeAddressesRow.holds Try.pinned (OpenSpec.ofChange optimizeAddressesSpec)

/-- ITS FALSE NEIGHBOUR: 'it returns false'. Refute it at one input. -/
def optimizeAddressesWrong : ChangeSpec := { name := "optimizeAddresses", fn := fun _ => fun
  | [d1, d2, d3] => { results := [.lit (.bool false)], args := [d1, d2, d3] }
  | _ => none }
def OptimizeAddressesWrongFalsely : Prop := optimizeAddressesRow.holds Try.pinned (OpenSpec.ofChange optimizeAddressesWrong)

/-- 'vmfleetlaw17.CacheTells': WHATEVER THE INPUT: true; the input reads as it did. -/
def cacheTellsSpec : ChangeSpec := { name := "cacheTells", fn := fun _ => fun
  | [d1, d2, d3, d4, d5, d6, d7] => { results := [.lit (.bool true)], args := [d1, d2, d3, d4, d5, d6, d7] }
  | _ => none }
def cacheTellsRow : OpenClaim := { program := "ytffhbadeoadbkaa", sum := "03476bb4b7b2cbf6b04df8b28f74c1c5298dc73e5ddab7d811ef3ef48aebf2dc", func := "vmfleet/vmfleetlaw17.CacheTells", spec := "cacheTells", apart := false }
def CacheTellsSaid : Prop := cacheTellsRow.holds Try.pinned (OpenSpec.ofChange cacheTellsSpec)

/-- ITS FALSE NEIGHBOUR: 'it returns false'. Refute it at one input. -/
def cacheTellsWrong : ChangeSpec := { name := "cacheTells", fn := fun _ => fun
  | [d1, d2, d3, d4, d5, d6, d7] => { results := [.lit (.bool false)], args := [d1, d2, d3, d4, d5, d6, d7] }
  | _ => none }
def CacheTellsWrongFalsely : Prop := cacheTellsRow.holds Try.pinned (OpenSpec.ofChange cacheTellsWrong)

/-- 'vmfleetlaw17.CacheCoheres': WHATEVER THE INPUT: true; the input reads as it did. -/
def cacheCoheresSpec : ChangeSpec := { name := "cacheCoheres", fn := fun _ => fun
  | [d1, d2] => { results := [.lit (.bool true)], args := [d1, d2] }
  | _ => none }
def cacheCoheresRow : OpenClaim := { program := "ytffhbadeoadbkaa", sum := "03476bb4b7b2cbf6b04df8b28f74c1c5298dc73e5ddab7d811ef3ef48aebf2dc", func := "vmfleet/vmfleetlaw17.CacheCoheres", spec := "cacheCoheres", apart := false }
def CacheCoheresSaid : Prop := cacheCoheresRow.holds Try.pinned (OpenSpec.ofChange cacheCoheresSpec)

/-- ITS FALSE NEIGHBOUR: 'it returns false'. Refute it at one input. -/
def cacheCoheresWrong : ChangeSpec := { name := "cacheCoheres", fn := fun _ => fun
  | [d1, d2] => { results := [.lit (.bool false)], args := [d1, d2] }
  | _ => none }
def CacheCoheresWrongFalsely : Prop := cacheCoheresRow.holds Try.pinned (OpenSpec.ofChange cacheCoheresWrong)

/-- 'vmfleetlaw17.CacheRecent': WHATEVER THE INPUT: true; the input reads as it did. -/
def cacheRecentSpec : ChangeSpec := { name := "cacheRecent", fn := fun _ => fun
  | [d1, d2, d3] => { results := [.lit (.bool true)], args := [d1, d2, d3] }
  | _ => none }
def cacheRecentRow : OpenClaim := { program := "ytffhbadeoadbkaa", sum := "03476bb4b7b2cbf6b04df8b28f74c1c5298dc73e5ddab7d811ef3ef48aebf2dc", func := "vmfleet/vmfleetlaw17.CacheRecent", spec := "cacheRecent", apart := false }
def CacheRecentSaid : Prop := cacheRecentRow.holds Try.pinned (OpenSpec.ofChange cacheRecentSpec)

/-- ITS FALSE NEIGHBOUR: 'it returns false'. Refute it at one input. -/
def cacheRecentWrong : ChangeSpec := { name := "cacheRecent", fn := fun _ => fun
  | [d1, d2, d3] => { results := [.lit (.bool false)], args := [d1, d2, d3] }
  | _ => none }
def CacheRecentWrongFalsely : Prop := cacheRecentRow.holds Try.pinned (OpenSpec.ofChange cacheRecentWrong)

/- THE SECOND FORM. 'bulk': how many values and letters a reading holds, each counted each time it is reached (what is shared counts as often as it is met; a slice's spare places count too). A statement '..UptoSaid' is the law's where the arguments, and the package variables that the reading takes, are together of bulk at most 1048576: NARROWER than '..Said'. Prove '..Said' where nothing that the law and all that it calls make is longer than what came in: it says more and counts as full. Else prove '..UptoSaid'. A law counts once. -/
mutual
def uptoBulk {H : Type} : DataW H → Nat
  | .lit (.string bytes) => bytes.length + 1
  | .lit _ => 1
  | .nil => 1
  | .ptr d => uptoBulk d + 1
  | .slice elems spare => uptoBulkAll elems + uptoBulkAll spare + 1
  | .agg parts => uptoBulkAll parts + 1
  | .iface _ d => uptoBulk d + 1
  | .map entries => uptoBulkEntries entries + 1
  | .held _ => 1
def uptoBulkAll {H : Type} : List (DataW H) → Nat
  | [] => 0
  | d :: r => uptoBulk d + uptoBulkAll r
def uptoBulkEntries {H : Type} : List (Lit × DataW H) → Nat
  | [] => 0
  | x :: r => uptoBulkEntry x + uptoBulkEntries r
def uptoBulkEntry {H : Type} : Lit × DataW H → Nat
  | (.string bytes, d) => bytes.length + uptoBulk d + 1
  | (_, d) => uptoBulk d + 1
 end
def uptoSmall : (H : Type) → List (DataW H) → Bool := fun _ ds => decide (uptoBulkAll ds ≤ 1048576)
def OpenSpec.upto (s : _root_.Go.ChangeSpec) : _root_.Go.OpenSpec := { _root_.Go.OpenSpec.ofChange s with cond := some uptoSmall }

/-- 'vmfleetlaw5.PagingMaps', WHERE WHAT IT READS IS OF BULK AT MOST 1048576: true; the input reads as it did. -/
def pagingMapsUptoRow : OpenClaim := { program := "ytffhbadeoadbkaa", sum := "03476bb4b7b2cbf6b04df8b28f74c1c5298dc73e5ddab7d811ef3ef48aebf2dc", func := "vmfleet/vmfleetlaw5.PagingMaps", spec := "pagingMaps", unfollowed := true, recurses := true, apart := false, narrowed := true }
def PagingMapsUptoSaid : Prop := pagingMapsUptoRow.holds Try.pinned (OpenSpec.upto pagingMapsSpec)

/-- 'vmfleetlaw5.PagingLists', WHERE WHAT IT READS IS OF BULK AT MOST 1048576: true; the input reads as it did. -/
def pagingListsUptoRow : OpenClaim := { program := "ytffhbadeoadbkaa", sum := "03476bb4b7b2cbf6b04df8b28f74c1c5298dc73e5ddab7d811ef3ef48aebf2dc", func := "vmfleet/vmfleetlaw5.PagingLists", spec := "pagingLists", unfollowed := true, recurses := true, apart := false, narrowed := true }
def PagingListsUptoSaid : Prop := pagingListsUptoRow.holds Try.pinned (OpenSpec.upto pagingListsSpec)

/-- 'vmfleetlaw15.BlockCovers', WHERE WHAT IT READS IS OF BULK AT MOST 1048576: true; the input reads as it did. -/
def blockCoversUptoRow : OpenClaim := { program := "ytffhbadeoadbkaa", sum := "03476bb4b7b2cbf6b04df8b28f74c1c5298dc73e5ddab7d811ef3ef48aebf2dc", func := "vmfleet/vmfleetlaw15.BlockCovers", spec := "blockCovers", recurses := true, apart := false, narrowed := true }
def BlockCoversUptoSaid : Prop := blockCoversUptoRow.holds Try.pinned (OpenSpec.upto blockCoversSpec)

/-- 'vmfleetlaw15.BlockSplits', WHERE WHAT IT READS IS OF BULK AT MOST 1048576: true; the input reads as it did. -/
def blockSplitsUptoRow : OpenClaim := { program := "ytffhbadeoadbkaa", sum := "03476bb4b7b2cbf6b04df8b28f74c1c5298dc73e5ddab7d811ef3ef48aebf2dc", func := "vmfleet/vmfleetlaw15.BlockSplits", spec := "blockSplits", recurses := true, apart := false, narrowed := true }
def BlockSplitsUptoSaid : Prop := blockSplitsUptoRow.holds Try.pinned (OpenSpec.upto blockSplitsSpec)

/-- 'vmfleetlaw15.BlockBuilds', WHERE WHAT IT READS IS OF BULK AT MOST 1048576: true; the input reads as it did. -/
def blockBuildsUptoRow : OpenClaim := { program := "ytffhbadeoadbkaa", sum := "03476bb4b7b2cbf6b04df8b28f74c1c5298dc73e5ddab7d811ef3ef48aebf2dc", func := "vmfleet/vmfleetlaw15.BlockBuilds", spec := "blockBuilds", recurses := true, apart := false, narrowed := true }
def BlockBuildsUptoSaid : Prop := blockBuildsUptoRow.holds Try.pinned (OpenSpec.upto blockBuildsSpec)

/-- 'vmfleetlaw15.BlockMays', WHERE WHAT IT READS IS OF BULK AT MOST 1048576: true; the input reads as it did. -/
def blockMaysUptoRow : OpenClaim := { program := "ytffhbadeoadbkaa", sum := "03476bb4b7b2cbf6b04df8b28f74c1c5298dc73e5ddab7d811ef3ef48aebf2dc", func := "vmfleet/vmfleetlaw15.BlockMays", spec := "blockMays", recurses := true, apart := false, narrowed := true }
def BlockMaysUptoSaid : Prop := blockMaysUptoRow.holds Try.pinned (OpenSpec.upto blockMaysSpec)

/-- 'vmfleetlaw14.TlbTells', WHERE WHAT IT READS IS OF BULK AT MOST 1048576: true; the input reads as it did. -/
def tlbTellsUptoRow : OpenClaim := { program := "ytffhbadeoadbkaa", sum := "03476bb4b7b2cbf6b04df8b28f74c1c5298dc73e5ddab7d811ef3ef48aebf2dc", func := "vmfleet/vmfleetlaw14.TlbTells", spec := "tlbTells", unfollowed := true, recurses := true, apart := false, narrowed := true }
def TlbTellsUptoSaid : Prop := tlbTellsUptoRow.holds Try.pinned (OpenSpec.upto tlbTellsSpec)

/-- 'vmfleetlaw14.TlbAgrees', WHERE WHAT IT READS IS OF BULK AT MOST 1048576: true; the input reads as it did. -/
def tlbAgreesUptoRow : OpenClaim := { program := "ytffhbadeoadbkaa", sum := "03476bb4b7b2cbf6b04df8b28f74c1c5298dc73e5ddab7d811ef3ef48aebf2dc", func := "vmfleet/vmfleetlaw14.TlbAgrees", spec := "tlbAgrees", unfollowed := true, recurses := true, apart := false, narrowed := true }
def TlbAgreesUptoSaid : Prop := tlbAgreesUptoRow.holds Try.pinned (OpenSpec.upto tlbAgreesSpec)

/-- 'vmfleetlaw14.TlbRecent', WHERE WHAT IT READS IS OF BULK AT MOST 1048576: true; the input reads as it did. -/
def tlbRecentUptoRow : OpenClaim := { program := "ytffhbadeoadbkaa", sum := "03476bb4b7b2cbf6b04df8b28f74c1c5298dc73e5ddab7d811ef3ef48aebf2dc", func := "vmfleet/vmfleetlaw14.TlbRecent", spec := "tlbRecent", unfollowed := true, recurses := true, apart := false, narrowed := true }
def TlbRecentUptoSaid : Prop := tlbRecentUptoRow.holds Try.pinned (OpenSpec.upto tlbRecentSpec)

/-- 'vmfleetlaw16.OptimizeFolds', WHERE WHAT IT READS IS OF BULK AT MOST 1048576: true; the input reads as it did. -/
def optimizeFoldsUptoRow : OpenClaim := { program := "ytffhbadeoadbkaa", sum := "03476bb4b7b2cbf6b04df8b28f74c1c5298dc73e5ddab7d811ef3ef48aebf2dc", func := "vmfleet/vmfleetlaw16.OptimizeFolds", spec := "optimizeFolds", apart := false, narrowed := true }
def OptimizeFoldsUptoSaid : Prop := optimizeFoldsUptoRow.holds Try.pinned (OpenSpec.upto optimizeFoldsSpec)

/-- 'vmfleetlaw16.OptimizeRuns', WHERE WHAT IT READS IS OF BULK AT MOST 1048576: true; the input reads as it did. -/
def optimizeRunsUptoRow : OpenClaim := { program := "ytffhbadeoadbkaa", sum := "03476bb4b7b2cbf6b04df8b28f74c1c5298dc73e5ddab7d811ef3ef48aebf2dc", func := "vmfleet/vmfleetlaw16.OptimizeRuns", spec := "optimizeRuns", apart := false, narrowed := true }
def OptimizeRunsUptoSaid : Prop := optimizeRunsUptoRow.holds Try.pinned (OpenSpec.upto optimizeRunsSpec)

/-- 'vmfleetlaw16.OptimizeSame', WHERE WHAT IT READS IS OF BULK AT MOST 1048576: true; the input reads as it did. -/
def optimizeSameUptoRow : OpenClaim := { program := "ytffhbadeoadbkaa", sum := "03476bb4b7b2cbf6b04df8b28f74c1c5298dc73e5ddab7d811ef3ef48aebf2dc", func := "vmfleet/vmfleetlaw16.OptimizeSame", spec := "optimizeSame", apart := false, narrowed := true }
def OptimizeSameUptoSaid : Prop := optimizeSameUptoRow.holds Try.pinned (OpenSpec.upto optimizeSameSpec)

/-- 'vmfleetlaw16.OptimizeKeeps', WHERE WHAT IT READS IS OF BULK AT MOST 1048576: true; the input reads as it did. -/
def optimizeKeepsUptoRow : OpenClaim := { program := "ytffhbadeoadbkaa", sum := "03476bb4b7b2cbf6b04df8b28f74c1c5298dc73e5ddab7d811ef3ef48aebf2dc", func := "vmfleet/vmfleetlaw16.OptimizeKeeps", spec := "optimizeKeeps", apart := false, narrowed := true }
def OptimizeKeepsUptoSaid : Prop := optimizeKeepsUptoRow.holds Try.pinned (OpenSpec.upto optimizeKeepsSpec)

/-- 'vmfleetlaw16.OptimizeConstants', WHERE WHAT IT READS IS OF BULK AT MOST 1048576: true; the input reads as it did. -/
def optimizeConstantsUptoRow : OpenClaim := { program := "ytffhbadeoadbkaa", sum := "03476bb4b7b2cbf6b04df8b28f74c1c5298dc73e5ddab7d811ef3ef48aebf2dc", func := "vmfleet/vmfleetlaw16.OptimizeConstants", spec := "optimizeConstants", apart := false, narrowed := true }
def OptimizeConstantsUptoSaid : Prop := optimizeConstantsUptoRow.holds Try.pinned (OpenSpec.upto optimizeConstantsSpec)

/-- 'vmfleetlaw16.OptimizeBranches', WHERE WHAT IT READS IS OF BULK AT MOST 1048576: true; the input reads as it did. -/
def optimizeBranchesUptoRow : OpenClaim := { program := "ytffhbadeoadbkaa", sum := "03476bb4b7b2cbf6b04df8b28f74c1c5298dc73e5ddab7d811ef3ef48aebf2dc", func := "vmfleet/vmfleetlaw16.OptimizeBranches", spec := "optimizeBranches", apart := false, narrowed := true }
def OptimizeBranchesUptoSaid : Prop := optimizeBranchesUptoRow.holds Try.pinned (OpenSpec.upto optimizeBranchesSpec)

/-- 'vmfleetlaw16.OptimizeAgain', WHERE WHAT IT READS IS OF BULK AT MOST 1048576: true; the input reads as it did. -/
def optimizeAgainUptoRow : OpenClaim := { program := "ytffhbadeoadbkaa", sum := "03476bb4b7b2cbf6b04df8b28f74c1c5298dc73e5ddab7d811ef3ef48aebf2dc", func := "vmfleet/vmfleetlaw16.OptimizeAgain", spec := "optimizeAgain", apart := false, narrowed := true }
def OptimizeAgainUptoSaid : Prop := optimizeAgainUptoRow.holds Try.pinned (OpenSpec.upto optimizeAgainSpec)

/-- 'vmfleetlaw16.OptimizeAddresses', WHERE WHAT IT READS IS OF BULK AT MOST 1048576: true; the input reads as it did. -/
def optimizeAddressesUptoRow : OpenClaim := { program := "ytffhbadeoadbkaa", sum := "03476bb4b7b2cbf6b04df8b28f74c1c5298dc73e5ddab7d811ef3ef48aebf2dc", func := "vmfleet/vmfleetlaw16.OptimizeAddresses", spec := "optimizeAddresses", apart := false, narrowed := true }
def OptimizeAddressesUptoSaid : Prop := optimizeAddressesUptoRow.holds Try.pinned (OpenSpec.upto optimizeAddressesSpec)

/-- 'vmfleetlaw17.CacheTells', WHERE WHAT IT READS IS OF BULK AT MOST 1048576: true; the input reads as it did. -/
def cacheTellsUptoRow : OpenClaim := { program := "ytffhbadeoadbkaa", sum := "03476bb4b7b2cbf6b04df8b28f74c1c5298dc73e5ddab7d811ef3ef48aebf2dc", func := "vmfleet/vmfleetlaw17.CacheTells", spec := "cacheTells", apart := false, narrowed := true }
def CacheTellsUptoSaid : Prop := cacheTellsUptoRow.holds Try.pinned (OpenSpec.upto cacheTellsSpec)

/-- 'vmfleetlaw17.CacheCoheres', WHERE WHAT IT READS IS OF BULK AT MOST 1048576: true; the input reads as it did. -/
def cacheCoheresUptoRow : OpenClaim := { program := "ytffhbadeoadbkaa", sum := "03476bb4b7b2cbf6b04df8b28f74c1c5298dc73e5ddab7d811ef3ef48aebf2dc", func := "vmfleet/vmfleetlaw17.CacheCoheres", spec := "cacheCoheres", apart := false, narrowed := true }
def CacheCoheresUptoSaid : Prop := cacheCoheresUptoRow.holds Try.pinned (OpenSpec.upto cacheCoheresSpec)

/-- 'vmfleetlaw17.CacheRecent', WHERE WHAT IT READS IS OF BULK AT MOST 1048576: true; the input reads as it did. -/
def cacheRecentUptoRow : OpenClaim := { program := "ytffhbadeoadbkaa", sum := "03476bb4b7b2cbf6b04df8b28f74c1c5298dc73e5ddab7d811ef3ef48aebf2dc", func := "vmfleet/vmfleetlaw17.CacheRecent", spec := "cacheRecent", apart := false, narrowed := true }
def CacheRecentUptoSaid : Prop := cacheRecentUptoRow.holds Try.pinned (OpenSpec.upto cacheRecentSpec)

end Rows
end Go.Proofs.Ytffhbadeoadbkaa
