/-
  No cell of these rows narrows 'for every input' (looked for: loops, veiled, ifaces, maps, wideKeys, modest, calm, conditions, laid).
  DERIVED. THE GIVEN ROWS OF THIS SEAT. 22 by the template 'for every input the law returns true; each argument reads behind the call as it read before'; 0 by the template 'total and deterministic' (their statements: YtmefbkfapeijgaaTotals.lean).
  GIVEN WITH THE SEED: the statements are not yours to turn. If you find one false, say at which input.
  Laid BY PROGRAM, IN A SANDBOX (cutbox-rows.mjs): the forced cells as the released guide's own fill.sh prints them over the translation 4d7ec72842dfec8d… (all of the seat's roots in one cut). By AI agents, Wed Nov 11 2026. No macro, syntax, notation, axiom, sorry.
-/
import Derived.Test.YtmefbkfapeijgaaChecked
import GoSem.Claim
import GoSem.ClaimJoined
import GoSem.ClaimMapViews
import Derived.JoinedTies
import Derived.KernelRfl
namespace Go.Proofs.Ytmefbkfapeijgaa
/- THE CELL 'sum', in the pinned program and in every row, IS THE sha256 OF THE DUMP (.gsa) THAT YtmefbkfapeijgaaProg.lean LOADS. Nothing in Lean hashes anything: it is a label: what it is worth is what the hold of that sum in a sandbox is worth. -/
noncomputable def Try.pinned : Pinned := { name := "ytmefbkfapeijgaa", sum := "4d7ec72842dfec8d6cda4989f7053ab4b7410f7013143ba38636c90b8a02fe64", checked := Try.checked }
namespace Rows
def none {H : Type} : Left H := { results := [], args := [] }

/-- 'vmfleetlaw4.MemoryAccesses': WHATEVER THE INPUT: true; the input reads as it did. -/
def memoryAccessesSpec : ChangeSpec := { name := "memoryAccesses", fn := fun _ => fun
  | [d1, d2, d3, d4, d5, d6, d7, d8] => { results := [.lit (.bool true)], args := [d1, d2, d3, d4, d5, d6, d7, d8] }
  | _ => none }
def memoryAccessesRow : OpenClaim := { program := "ytmefbkfapeijgaa", sum := "4d7ec72842dfec8d6cda4989f7053ab4b7410f7013143ba38636c90b8a02fe64", func := "vmfleet/vmfleetlaw4.MemoryAccesses", spec := "memoryAccesses", apart := false }
def MemoryAccessesSaid : Prop := memoryAccessesRow.holds Try.pinned (OpenSpec.ofChange memoryAccessesSpec)

/-- ITS FALSE NEIGHBOUR: 'it returns false'. Refute it at one input. -/
def memoryAccessesWrong : ChangeSpec := { name := "memoryAccesses", fn := fun _ => fun
  | [d1, d2, d3, d4, d5, d6, d7, d8] => { results := [.lit (.bool false)], args := [d1, d2, d3, d4, d5, d6, d7, d8] }
  | _ => none }
def MemoryAccessesWrongFalsely : Prop := memoryAccessesRow.holds Try.pinned (OpenSpec.ofChange memoryAccessesWrong)

/-- 'vmfleetlaw4.MemoryOrders': WHATEVER THE INPUT: true; the input reads as it did. -/
def memoryOrdersSpec : ChangeSpec := { name := "memoryOrders", fn := fun _ => fun
  | [d1, d2, d3, d4, d5, d6] => { results := [.lit (.bool true)], args := [d1, d2, d3, d4, d5, d6] }
  | _ => none }
def memoryOrdersRow : OpenClaim := { program := "ytmefbkfapeijgaa", sum := "4d7ec72842dfec8d6cda4989f7053ab4b7410f7013143ba38636c90b8a02fe64", func := "vmfleet/vmfleetlaw4.MemoryOrders", spec := "memoryOrders", apart := false }
def MemoryOrdersSaid : Prop := memoryOrdersRow.holds Try.pinned (OpenSpec.ofChange memoryOrdersSpec)

/-- ITS FALSE NEIGHBOUR: 'it returns false'. Refute it at one input. -/
def memoryOrdersWrong : ChangeSpec := { name := "memoryOrders", fn := fun _ => fun
  | [d1, d2, d3, d4, d5, d6] => { results := [.lit (.bool false)], args := [d1, d2, d3, d4, d5, d6] }
  | _ => none }
def MemoryOrdersWrongFalsely : Prop := memoryOrdersRow.holds Try.pinned (OpenSpec.ofChange memoryOrdersWrong)

/-- 'vmfleetlaw4.MemoryKeeps': WHATEVER THE INPUT: true; the input reads as it did. -/
def memoryKeepsSpec : ChangeSpec := { name := "memoryKeeps", fn := fun _ => fun
  | [d1, d2] => { results := [.lit (.bool true)], args := [d1, d2] }
  | _ => none }
def memoryKeepsRow : OpenClaim := { program := "ytmefbkfapeijgaa", sum := "4d7ec72842dfec8d6cda4989f7053ab4b7410f7013143ba38636c90b8a02fe64", func := "vmfleet/vmfleetlaw4.MemoryKeeps", spec := "memoryKeeps", apart := false }
def MemoryKeepsSaid : Prop := memoryKeepsRow.holds Try.pinned (OpenSpec.ofChange memoryKeepsSpec)

/-- ITS FALSE NEIGHBOUR: 'it returns false'. Refute it at one input. -/
def memoryKeepsWrong : ChangeSpec := { name := "memoryKeeps", fn := fun _ => fun
  | [d1, d2] => { results := [.lit (.bool false)], args := [d1, d2] }
  | _ => none }
def MemoryKeepsWrongFalsely : Prop := memoryKeepsRow.holds Try.pinned (OpenSpec.ofChange memoryKeepsWrong)

/-- 'vmfleetlaw4.MemoryPages': WHATEVER THE INPUT: true; the input reads as it did. -/
def memoryPagesSpec : ChangeSpec := { name := "memoryPages", fn := fun _ => fun
  | [d1, d2, d3, d4, d5, d6, d7] => { results := [.lit (.bool true)], args := [d1, d2, d3, d4, d5, d6, d7] }
  | _ => none }
def memoryPagesRow : OpenClaim := { program := "ytmefbkfapeijgaa", sum := "4d7ec72842dfec8d6cda4989f7053ab4b7410f7013143ba38636c90b8a02fe64", func := "vmfleet/vmfleetlaw4.MemoryPages", spec := "memoryPages", apart := false }
def MemoryPagesSaid : Prop := memoryPagesRow.holds Try.pinned (OpenSpec.ofChange memoryPagesSpec)

/-- ITS FALSE NEIGHBOUR: 'it returns false'. Refute it at one input. -/
def memoryPagesWrong : ChangeSpec := { name := "memoryPages", fn := fun _ => fun
  | [d1, d2, d3, d4, d5, d6, d7] => { results := [.lit (.bool false)], args := [d1, d2, d3, d4, d5, d6, d7] }
  | _ => none }
def MemoryPagesWrongFalsely : Prop := memoryPagesRow.holds Try.pinned (OpenSpec.ofChange memoryPagesWrong)

/-- 'vmfleetlaw4.MemoryHashes': WHATEVER THE INPUT: true; the input reads as it did. -/
def memoryHashesSpec : ChangeSpec := { name := "memoryHashes", fn := fun _ => fun
  | [d1, d2, d3, d4, d5, d6, d7] => { results := [.lit (.bool true)], args := [d1, d2, d3, d4, d5, d6, d7] }
  | _ => none }
def memoryHashesRow : OpenClaim := { program := "ytmefbkfapeijgaa", sum := "4d7ec72842dfec8d6cda4989f7053ab4b7410f7013143ba38636c90b8a02fe64", func := "vmfleet/vmfleetlaw4.MemoryHashes", spec := "memoryHashes", apart := false }
def MemoryHashesSaid : Prop := memoryHashesRow.holds Try.pinned (OpenSpec.ofChange memoryHashesSpec)

/-- ITS FALSE NEIGHBOUR: 'it returns false'. Refute it at one input. -/
def memoryHashesWrong : ChangeSpec := { name := "memoryHashes", fn := fun _ => fun
  | [d1, d2, d3, d4, d5, d6, d7] => { results := [.lit (.bool false)], args := [d1, d2, d3, d4, d5, d6, d7] }
  | _ => none }
def MemoryHashesWrongFalsely : Prop := memoryHashesRow.holds Try.pinned (OpenSpec.ofChange memoryHashesWrong)

/-- 'vmfleetlaw4.MemoryChanges': WHATEVER THE INPUT: true; the input reads as it did. -/
def memoryChangesSpec : ChangeSpec := { name := "memoryChanges", fn := fun _ => fun
  | [d1, d2, d3, d4] => { results := [.lit (.bool true)], args := [d1, d2, d3, d4] }
  | _ => none }
def memoryChangesRow : OpenClaim := { program := "ytmefbkfapeijgaa", sum := "4d7ec72842dfec8d6cda4989f7053ab4b7410f7013143ba38636c90b8a02fe64", func := "vmfleet/vmfleetlaw4.MemoryChanges", spec := "memoryChanges", apart := false }
def MemoryChangesSaid : Prop := memoryChangesRow.holds Try.pinned (OpenSpec.ofChange memoryChangesSpec)

/-- ITS FALSE NEIGHBOUR: 'it returns false'. Refute it at one input. -/
def memoryChangesWrong : ChangeSpec := { name := "memoryChanges", fn := fun _ => fun
  | [d1, d2, d3, d4] => { results := [.lit (.bool false)], args := [d1, d2, d3, d4] }
  | _ => none }
def MemoryChangesWrongFalsely : Prop := memoryChangesRow.holds Try.pinned (OpenSpec.ofChange memoryChangesWrong)

/-- 'vmfleetlaw4.MemoryCopies': WHATEVER THE INPUT: true; the input reads as it did. -/
def memoryCopiesSpec : ChangeSpec := { name := "memoryCopies", fn := fun _ => fun
  | [d1, d2, d3, d4] => { results := [.lit (.bool true)], args := [d1, d2, d3, d4] }
  | _ => none }
def memoryCopiesRow : OpenClaim := { program := "ytmefbkfapeijgaa", sum := "4d7ec72842dfec8d6cda4989f7053ab4b7410f7013143ba38636c90b8a02fe64", func := "vmfleet/vmfleetlaw4.MemoryCopies", spec := "memoryCopies", apart := false }
def MemoryCopiesSaid : Prop := memoryCopiesRow.holds Try.pinned (OpenSpec.ofChange memoryCopiesSpec)

/-- ITS FALSE NEIGHBOUR: 'it returns false'. Refute it at one input. -/
def memoryCopiesWrong : ChangeSpec := { name := "memoryCopies", fn := fun _ => fun
  | [d1, d2, d3, d4] => { results := [.lit (.bool false)], args := [d1, d2, d3, d4] }
  | _ => none }
def MemoryCopiesWrongFalsely : Prop := memoryCopiesRow.holds Try.pinned (OpenSpec.ofChange memoryCopiesWrong)

/-- 'vmfleetlaw9.DiskPorts': WHATEVER THE INPUT: true; the input reads as it did. -/
def diskPortsSpec : ChangeSpec := { name := "diskPorts", fn := fun _ => fun
  | [d1, d2, d3, d4, d5, d6, d7, d8] => { results := [.lit (.bool true)], args := [d1, d2, d3, d4, d5, d6, d7, d8] }
  | _ => none }
def diskPortsRow : OpenClaim := { program := "ytmefbkfapeijgaa", sum := "4d7ec72842dfec8d6cda4989f7053ab4b7410f7013143ba38636c90b8a02fe64", func := "vmfleet/vmfleetlaw9.DiskPorts", spec := "diskPorts", apart := false }
def DiskPortsSaid : Prop := diskPortsRow.holds Try.pinned (OpenSpec.ofChange diskPortsSpec)

/-- ITS FALSE NEIGHBOUR: 'it returns false'. Refute it at one input. -/
def diskPortsWrong : ChangeSpec := { name := "diskPorts", fn := fun _ => fun
  | [d1, d2, d3, d4, d5, d6, d7, d8] => { results := [.lit (.bool false)], args := [d1, d2, d3, d4, d5, d6, d7, d8] }
  | _ => none }
def DiskPortsWrongFalsely : Prop := diskPortsRow.holds Try.pinned (OpenSpec.ofChange diskPortsWrong)

/-- 'vmfleetlaw10.NicPorts': WHATEVER THE INPUT: true; the input reads as it did. -/
def nicPortsSpec : ChangeSpec := { name := "nicPorts", fn := fun _ => fun
  | [d1, d2, d3, d4, d5, d6, d7, d8] => { results := [.lit (.bool true)], args := [d1, d2, d3, d4, d5, d6, d7, d8] }
  | _ => none }
def nicPortsRow : OpenClaim := { program := "ytmefbkfapeijgaa", sum := "4d7ec72842dfec8d6cda4989f7053ab4b7410f7013143ba38636c90b8a02fe64", func := "vmfleet/vmfleetlaw10.NicPorts", spec := "nicPorts", apart := false }
def NicPortsSaid : Prop := nicPortsRow.holds Try.pinned (OpenSpec.ofChange nicPortsSpec)

/-- ITS FALSE NEIGHBOUR: 'it returns false'. Refute it at one input. -/
def nicPortsWrong : ChangeSpec := { name := "nicPorts", fn := fun _ => fun
  | [d1, d2, d3, d4, d5, d6, d7, d8] => { results := [.lit (.bool false)], args := [d1, d2, d3, d4, d5, d6, d7, d8] }
  | _ => none }
def NicPortsWrongFalsely : Prop := nicPortsRow.holds Try.pinned (OpenSpec.ofChange nicPortsWrong)

/-- 'vmfleetlaw10.NicOnce': WHATEVER THE INPUT: true; the input reads as it did. -/
def nicOnceSpec : ChangeSpec := { name := "nicOnce", fn := fun _ => fun
  | [d1, d2] => { results := [.lit (.bool true)], args := [d1, d2] }
  | _ => none }
def nicOnceRow : OpenClaim := { program := "ytmefbkfapeijgaa", sum := "4d7ec72842dfec8d6cda4989f7053ab4b7410f7013143ba38636c90b8a02fe64", func := "vmfleet/vmfleetlaw10.NicOnce", spec := "nicOnce", apart := false }
def NicOnceSaid : Prop := nicOnceRow.holds Try.pinned (OpenSpec.ofChange nicOnceSpec)

/-- ITS FALSE NEIGHBOUR: 'it returns false'. Refute it at one input. -/
def nicOnceWrong : ChangeSpec := { name := "nicOnce", fn := fun _ => fun
  | [d1, d2] => { results := [.lit (.bool false)], args := [d1, d2] }
  | _ => none }
def NicOnceWrongFalsely : Prop := nicOnceRow.holds Try.pinned (OpenSpec.ofChange nicOnceWrong)

/-- 'vmfleetlaw10.NicSends': WHATEVER THE INPUT: true; the input reads as it did. -/
def nicSendsSpec : ChangeSpec := { name := "nicSends", fn := fun _ => fun
  | [d1, d2, d3, d4] => { results := [.lit (.bool true)], args := [d1, d2, d3, d4] }
  | _ => none }
def nicSendsRow : OpenClaim := { program := "ytmefbkfapeijgaa", sum := "4d7ec72842dfec8d6cda4989f7053ab4b7410f7013143ba38636c90b8a02fe64", func := "vmfleet/vmfleetlaw10.NicSends", spec := "nicSends", apart := false }
def NicSendsSaid : Prop := nicSendsRow.holds Try.pinned (OpenSpec.ofChange nicSendsSpec)

/-- ITS FALSE NEIGHBOUR: 'it returns false'. Refute it at one input. -/
def nicSendsWrong : ChangeSpec := { name := "nicSends", fn := fun _ => fun
  | [d1, d2, d3, d4] => { results := [.lit (.bool false)], args := [d1, d2, d3, d4] }
  | _ => none }
def NicSendsWrongFalsely : Prop := nicSendsRow.holds Try.pinned (OpenSpec.ofChange nicSendsWrong)

/-- 'vmfleetlaw5.PagingLeads': WHATEVER THE INPUT: true; the input reads as it did. -/
def pagingLeadsSpec : ChangeSpec := { name := "pagingLeads", fn := fun _ => fun
  | [d1, d2, d3, d4, d5, d6, d7, d8] => { results := [.lit (.bool true)], args := [d1, d2, d3, d4, d5, d6, d7, d8] }
  | _ => none }
def pagingLeadsRow : OpenClaim := { program := "ytmefbkfapeijgaa", sum := "4d7ec72842dfec8d6cda4989f7053ab4b7410f7013143ba38636c90b8a02fe64", func := "vmfleet/vmfleetlaw5.PagingLeads", spec := "pagingLeads", apart := false }
def PagingLeadsSaid : Prop := pagingLeadsRow.holds Try.pinned (OpenSpec.ofChange pagingLeadsSpec)

/-- ITS FALSE NEIGHBOUR: 'it returns false'. Refute it at one input. -/
def pagingLeadsWrong : ChangeSpec := { name := "pagingLeads", fn := fun _ => fun
  | [d1, d2, d3, d4, d5, d6, d7, d8] => { results := [.lit (.bool false)], args := [d1, d2, d3, d4, d5, d6, d7, d8] }
  | _ => none }
def PagingLeadsWrongFalsely : Prop := pagingLeadsRow.holds Try.pinned (OpenSpec.ofChange pagingLeadsWrong)

/-- 'vmfleetlaw5.PagingSeparate': WHATEVER THE INPUT: true; the input reads as it did. -/
def pagingSeparateSpec : ChangeSpec := { name := "pagingSeparate", fn := fun _ => fun
  | [d1, d2, d3, d4, d5, d6, d7, d8, d9] => { results := [.lit (.bool true)], args := [d1, d2, d3, d4, d5, d6, d7, d8, d9] }
  | _ => none }
def pagingSeparateRow : OpenClaim := { program := "ytmefbkfapeijgaa", sum := "4d7ec72842dfec8d6cda4989f7053ab4b7410f7013143ba38636c90b8a02fe64", func := "vmfleet/vmfleetlaw5.PagingSeparate", spec := "pagingSeparate", apart := false }
def PagingSeparateSaid : Prop := pagingSeparateRow.holds Try.pinned (OpenSpec.ofChange pagingSeparateSpec)

/-- ITS FALSE NEIGHBOUR: 'it returns false'. Refute it at one input. -/
def pagingSeparateWrong : ChangeSpec := { name := "pagingSeparate", fn := fun _ => fun
  | [d1, d2, d3, d4, d5, d6, d7, d8, d9] => { results := [.lit (.bool false)], args := [d1, d2, d3, d4, d5, d6, d7, d8, d9] }
  | _ => none }
def PagingSeparateWrongFalsely : Prop := pagingSeparateRow.holds Try.pinned (OpenSpec.ofChange pagingSeparateWrong)

/-- 'vmfleetlaw5.PagingOffsets': WHATEVER THE INPUT: true; the input reads as it did. -/
def pagingOffsetsSpec : ChangeSpec := { name := "pagingOffsets", fn := fun _ => fun
  | [d1, d2, d3, d4, d5, d6, d7] => { results := [.lit (.bool true)], args := [d1, d2, d3, d4, d5, d6, d7] }
  | _ => none }
def pagingOffsetsRow : OpenClaim := { program := "ytmefbkfapeijgaa", sum := "4d7ec72842dfec8d6cda4989f7053ab4b7410f7013143ba38636c90b8a02fe64", func := "vmfleet/vmfleetlaw5.PagingOffsets", spec := "pagingOffsets", apart := false }
def PagingOffsetsSaid : Prop := pagingOffsetsRow.holds Try.pinned (OpenSpec.ofChange pagingOffsetsSpec)

/-- ITS FALSE NEIGHBOUR: 'it returns false'. Refute it at one input. -/
def pagingOffsetsWrong : ChangeSpec := { name := "pagingOffsets", fn := fun _ => fun
  | [d1, d2, d3, d4, d5, d6, d7] => { results := [.lit (.bool false)], args := [d1, d2, d3, d4, d5, d6, d7] }
  | _ => none }
def PagingOffsetsWrongFalsely : Prop := pagingOffsetsRow.holds Try.pinned (OpenSpec.ofChange pagingOffsetsWrong)

/-- 'vmfleetlaw9.DiskStores': WHATEVER THE INPUT: true; the input reads as it did. -/
def diskStoresSpec : ChangeSpec := { name := "diskStores", fn := fun _ => fun
  | [d1, d2, d3, d4, d5, d6] => { results := [.lit (.bool true)], args := [d1, d2, d3, d4, d5, d6] }
  | _ => none }
def diskStoresRow : OpenClaim := { program := "ytmefbkfapeijgaa", sum := "4d7ec72842dfec8d6cda4989f7053ab4b7410f7013143ba38636c90b8a02fe64", func := "vmfleet/vmfleetlaw9.DiskStores", spec := "diskStores", apart := false }
def DiskStoresSaid : Prop := diskStoresRow.holds Try.pinned (OpenSpec.ofChange diskStoresSpec)

/-- ITS FALSE NEIGHBOUR: 'it returns false'. Refute it at one input. -/
def diskStoresWrong : ChangeSpec := { name := "diskStores", fn := fun _ => fun
  | [d1, d2, d3, d4, d5, d6] => { results := [.lit (.bool false)], args := [d1, d2, d3, d4, d5, d6] }
  | _ => none }
def DiskStoresWrongFalsely : Prop := diskStoresRow.holds Try.pinned (OpenSpec.ofChange diskStoresWrong)

/-- 'vmfleetlaw5.PagingTouches': WHATEVER THE INPUT: true; the input reads as it did. -/
def pagingTouchesSpec : ChangeSpec := { name := "pagingTouches", fn := fun _ => fun
  | [d1, d2, d3, d4, d5, d6, d7] => { results := [.lit (.bool true)], args := [d1, d2, d3, d4, d5, d6, d7] }
  | _ => none }
def pagingTouchesRow : OpenClaim := { program := "ytmefbkfapeijgaa", sum := "4d7ec72842dfec8d6cda4989f7053ab4b7410f7013143ba38636c90b8a02fe64", func := "vmfleet/vmfleetlaw5.PagingTouches", spec := "pagingTouches", apart := false }
def PagingTouchesSaid : Prop := pagingTouchesRow.holds Try.pinned (OpenSpec.ofChange pagingTouchesSpec)

/-- ITS FALSE NEIGHBOUR: 'it returns false'. Refute it at one input. -/
def pagingTouchesWrong : ChangeSpec := { name := "pagingTouches", fn := fun _ => fun
  | [d1, d2, d3, d4, d5, d6, d7] => { results := [.lit (.bool false)], args := [d1, d2, d3, d4, d5, d6, d7] }
  | _ => none }
def PagingTouchesWrongFalsely : Prop := pagingTouchesRow.holds Try.pinned (OpenSpec.ofChange pagingTouchesWrong)

/-- 'vmfleetlaw10.NicReceives': WHATEVER THE INPUT: true; the input reads as it did. -/
def nicReceivesSpec : ChangeSpec := { name := "nicReceives", fn := fun _ => fun
  | [d1, d2, d3, d4, d5, d6] => { results := [.lit (.bool true)], args := [d1, d2, d3, d4, d5, d6] }
  | _ => none }
def nicReceivesRow : OpenClaim := { program := "ytmefbkfapeijgaa", sum := "4d7ec72842dfec8d6cda4989f7053ab4b7410f7013143ba38636c90b8a02fe64", func := "vmfleet/vmfleetlaw10.NicReceives", spec := "nicReceives", apart := false }
def NicReceivesSaid : Prop := nicReceivesRow.holds Try.pinned (OpenSpec.ofChange nicReceivesSpec)

/-- ITS FALSE NEIGHBOUR: 'it returns false'. Refute it at one input. -/
def nicReceivesWrong : ChangeSpec := { name := "nicReceives", fn := fun _ => fun
  | [d1, d2, d3, d4, d5, d6] => { results := [.lit (.bool false)], args := [d1, d2, d3, d4, d5, d6] }
  | _ => none }
def NicReceivesWrongFalsely : Prop := nicReceivesRow.holds Try.pinned (OpenSpec.ofChange nicReceivesWrong)

/-- 'vmfleetlaw10.NicKeeps': WHATEVER THE INPUT: true; the input reads as it did. -/
def nicKeepsSpec : ChangeSpec := { name := "nicKeeps", fn := fun _ => fun
  | [d1, d2, d3, d4, d5, d6] => { results := [.lit (.bool true)], args := [d1, d2, d3, d4, d5, d6] }
  | _ => none }
def nicKeepsRow : OpenClaim := { program := "ytmefbkfapeijgaa", sum := "4d7ec72842dfec8d6cda4989f7053ab4b7410f7013143ba38636c90b8a02fe64", func := "vmfleet/vmfleetlaw10.NicKeeps", spec := "nicKeeps", apart := false }
def NicKeepsSaid : Prop := nicKeepsRow.holds Try.pinned (OpenSpec.ofChange nicKeepsSpec)

/-- ITS FALSE NEIGHBOUR: 'it returns false'. Refute it at one input. -/
def nicKeepsWrong : ChangeSpec := { name := "nicKeeps", fn := fun _ => fun
  | [d1, d2, d3, d4, d5, d6] => { results := [.lit (.bool false)], args := [d1, d2, d3, d4, d5, d6] }
  | _ => none }
def NicKeepsWrongFalsely : Prop := nicKeepsRow.holds Try.pinned (OpenSpec.ofChange nicKeepsWrong)

/-- 'vmfleetlaw5.PagingMaps': WHATEVER THE INPUT: true; the input reads as it did. -/
def pagingMapsSpec : ChangeSpec := { name := "pagingMaps", fn := fun _ => fun
  | [d1, d2, d3, d4, d5, d6, d7, d8, d9] => { results := [.lit (.bool true)], args := [d1, d2, d3, d4, d5, d6, d7, d8, d9] }
  | _ => none }
def pagingMapsRow : OpenClaim := { program := "ytmefbkfapeijgaa", sum := "4d7ec72842dfec8d6cda4989f7053ab4b7410f7013143ba38636c90b8a02fe64", func := "vmfleet/vmfleetlaw5.PagingMaps", spec := "pagingMaps", unfollowed := true, recurses := true, apart := false }
def PagingMapsSaid : Prop := pagingMapsRow.holds Try.pinned (OpenSpec.ofChange pagingMapsSpec)

/-- ITS FALSE NEIGHBOUR: 'it returns false'. Refute it at one input. -/
def pagingMapsWrong : ChangeSpec := { name := "pagingMaps", fn := fun _ => fun
  | [d1, d2, d3, d4, d5, d6, d7, d8, d9] => { results := [.lit (.bool false)], args := [d1, d2, d3, d4, d5, d6, d7, d8, d9] }
  | _ => none }
def PagingMapsWrongFalsely : Prop := pagingMapsRow.holds Try.pinned (OpenSpec.ofChange pagingMapsWrong)

/-- 'vmfleetlaw5.PagingLists': WHATEVER THE INPUT: true; the input reads as it did. -/
def pagingListsSpec : ChangeSpec := { name := "pagingLists", fn := fun _ => fun
  | [d1, d2, d3] => { results := [.lit (.bool true)], args := [d1, d2, d3] }
  | _ => none }
def pagingListsRow : OpenClaim := { program := "ytmefbkfapeijgaa", sum := "4d7ec72842dfec8d6cda4989f7053ab4b7410f7013143ba38636c90b8a02fe64", func := "vmfleet/vmfleetlaw5.PagingLists", spec := "pagingLists", unfollowed := true, recurses := true, apart := false }
def PagingListsSaid : Prop := pagingListsRow.holds Try.pinned (OpenSpec.ofChange pagingListsSpec)

/-- ITS FALSE NEIGHBOUR: 'it returns false'. Refute it at one input. -/
def pagingListsWrong : ChangeSpec := { name := "pagingLists", fn := fun _ => fun
  | [d1, d2, d3] => { results := [.lit (.bool false)], args := [d1, d2, d3] }
  | _ => none }
def PagingListsWrongFalsely : Prop := pagingListsRow.holds Try.pinned (OpenSpec.ofChange pagingListsWrong)

/-- 'vmfleetlaw9.DiskCompletes': WHATEVER THE INPUT: true; the input reads as it did. -/
def diskCompletesSpec : ChangeSpec := { name := "diskCompletes", fn := fun _ => fun
  | [d1, d2, d3, d4, d5, d6] => { results := [.lit (.bool true)], args := [d1, d2, d3, d4, d5, d6] }
  | _ => none }
def diskCompletesRow : OpenClaim := { program := "ytmefbkfapeijgaa", sum := "4d7ec72842dfec8d6cda4989f7053ab4b7410f7013143ba38636c90b8a02fe64", func := "vmfleet/vmfleetlaw9.DiskCompletes", spec := "diskCompletes", apart := false }
def DiskCompletesSaid : Prop := diskCompletesRow.holds Try.pinned (OpenSpec.ofChange diskCompletesSpec)

/-- ITS FALSE NEIGHBOUR: 'it returns false'. Refute it at one input. -/
def diskCompletesWrong : ChangeSpec := { name := "diskCompletes", fn := fun _ => fun
  | [d1, d2, d3, d4, d5, d6] => { results := [.lit (.bool false)], args := [d1, d2, d3, d4, d5, d6] }
  | _ => none }
def DiskCompletesWrongFalsely : Prop := diskCompletesRow.holds Try.pinned (OpenSpec.ofChange diskCompletesWrong)

/-- 'vmfleetlaw9.DiskKeeps': WHATEVER THE INPUT: true; the input reads as it did. -/
def diskKeepsSpec : ChangeSpec := { name := "diskKeeps", fn := fun _ => fun
  | [d1, d2, d3, d4, d5, d6] => { results := [.lit (.bool true)], args := [d1, d2, d3, d4, d5, d6] }
  | _ => none }
def diskKeepsRow : OpenClaim := { program := "ytmefbkfapeijgaa", sum := "4d7ec72842dfec8d6cda4989f7053ab4b7410f7013143ba38636c90b8a02fe64", func := "vmfleet/vmfleetlaw9.DiskKeeps", spec := "diskKeeps", apart := false }
def DiskKeepsSaid : Prop := diskKeepsRow.holds Try.pinned (OpenSpec.ofChange diskKeepsSpec)

/-- ITS FALSE NEIGHBOUR: 'it returns false'. Refute it at one input. -/
def diskKeepsWrong : ChangeSpec := { name := "diskKeeps", fn := fun _ => fun
  | [d1, d2, d3, d4, d5, d6] => { results := [.lit (.bool false)], args := [d1, d2, d3, d4, d5, d6] }
  | _ => none }
def DiskKeepsWrongFalsely : Prop := diskKeepsRow.holds Try.pinned (OpenSpec.ofChange diskKeepsWrong)

/- THE SECOND FORM. 'bulk': how many values and letters a reading holds, each counted each time it is reached (what is shared counts as often as it is met; a slice's spare places count too). A statement '..UptoSaid' is the law's where the arguments, and the package variables that the reading takes, are together of bulk at most 1048576: NARROWER than '..Said'. Prove '..Said' where nothing that the law and all that it calls make is longer than what came in: it says more and counts as full. Else prove '..UptoSaid'. A law counts once. -/
mutual
def uptoBulk {H : Type} : DataW H → Nat
  | .lit (.string bytes) => bytes.length + 1
  | .lit _ => 1
  | .nil => 1
  | .ptr d => uptoBulk d + 1
  | .slice elems spare => uptoBulkAll elems + uptoBulkAll spare + 1
  | .agg parts => uptoBulkAll parts + 1
  | .iface _ d => uptoBulk d + 1
  | .map entries => uptoBulkEntries entries + 1
  | .held _ => 1
def uptoBulkAll {H : Type} : List (DataW H) → Nat
  | [] => 0
  | d :: r => uptoBulk d + uptoBulkAll r
def uptoBulkEntries {H : Type} : List (Lit × DataW H) → Nat
  | [] => 0
  | x :: r => uptoBulkEntry x + uptoBulkEntries r
def uptoBulkEntry {H : Type} : Lit × DataW H → Nat
  | (.string bytes, d) => bytes.length + uptoBulk d + 1
  | (_, d) => uptoBulk d + 1
 end
def uptoSmall : (H : Type) → List (DataW H) → Bool := fun _ ds => decide (uptoBulkAll ds ≤ 1048576)
def OpenSpec.upto (s : _root_.Go.ChangeSpec) : _root_.Go.OpenSpec := { _root_.Go.OpenSpec.ofChange s with cond := some uptoSmall }

/-- 'vmfleetlaw4.MemoryAccesses', WHERE WHAT IT READS IS OF BULK AT MOST 1048576: true; the input reads as it did. -/
def memoryAccessesUptoRow : OpenClaim := { program := "ytmefbkfapeijgaa", sum := "4d7ec72842dfec8d6cda4989f7053ab4b7410f7013143ba38636c90b8a02fe64", func := "vmfleet/vmfleetlaw4.MemoryAccesses", spec := "memoryAccesses", apart := false, narrowed := true }
def MemoryAccessesUptoSaid : Prop := memoryAccessesUptoRow.holds Try.pinned (OpenSpec.upto memoryAccessesSpec)

/-- 'vmfleetlaw4.MemoryOrders', WHERE WHAT IT READS IS OF BULK AT MOST 1048576: true; the input reads as it did. -/
def memoryOrdersUptoRow : OpenClaim := { program := "ytmefbkfapeijgaa", sum := "4d7ec72842dfec8d6cda4989f7053ab4b7410f7013143ba38636c90b8a02fe64", func := "vmfleet/vmfleetlaw4.MemoryOrders", spec := "memoryOrders", apart := false, narrowed := true }
def MemoryOrdersUptoSaid : Prop := memoryOrdersUptoRow.holds Try.pinned (OpenSpec.upto memoryOrdersSpec)

/-- 'vmfleetlaw4.MemoryKeeps', WHERE WHAT IT READS IS OF BULK AT MOST 1048576: true; the input reads as it did. -/
def memoryKeepsUptoRow : OpenClaim := { program := "ytmefbkfapeijgaa", sum := "4d7ec72842dfec8d6cda4989f7053ab4b7410f7013143ba38636c90b8a02fe64", func := "vmfleet/vmfleetlaw4.MemoryKeeps", spec := "memoryKeeps", apart := false, narrowed := true }
def MemoryKeepsUptoSaid : Prop := memoryKeepsUptoRow.holds Try.pinned (OpenSpec.upto memoryKeepsSpec)

/-- 'vmfleetlaw4.MemoryPages', WHERE WHAT IT READS IS OF BULK AT MOST 1048576: true; the input reads as it did. -/
def memoryPagesUptoRow : OpenClaim := { program := "ytmefbkfapeijgaa", sum := "4d7ec72842dfec8d6cda4989f7053ab4b7410f7013143ba38636c90b8a02fe64", func := "vmfleet/vmfleetlaw4.MemoryPages", spec := "memoryPages", apart := false, narrowed := true }
def MemoryPagesUptoSaid : Prop := memoryPagesUptoRow.holds Try.pinned (OpenSpec.upto memoryPagesSpec)

/-- 'vmfleetlaw4.MemoryHashes', WHERE WHAT IT READS IS OF BULK AT MOST 1048576: true; the input reads as it did. -/
def memoryHashesUptoRow : OpenClaim := { program := "ytmefbkfapeijgaa", sum := "4d7ec72842dfec8d6cda4989f7053ab4b7410f7013143ba38636c90b8a02fe64", func := "vmfleet/vmfleetlaw4.MemoryHashes", spec := "memoryHashes", apart := false, narrowed := true }
def MemoryHashesUptoSaid : Prop := memoryHashesUptoRow.holds Try.pinned (OpenSpec.upto memoryHashesSpec)

/-- 'vmfleetlaw4.MemoryChanges', WHERE WHAT IT READS IS OF BULK AT MOST 1048576: true; the input reads as it did. -/
def memoryChangesUptoRow : OpenClaim := { program := "ytmefbkfapeijgaa", sum := "4d7ec72842dfec8d6cda4989f7053ab4b7410f7013143ba38636c90b8a02fe64", func := "vmfleet/vmfleetlaw4.MemoryChanges", spec := "memoryChanges", apart := false, narrowed := true }
def MemoryChangesUptoSaid : Prop := memoryChangesUptoRow.holds Try.pinned (OpenSpec.upto memoryChangesSpec)

/-- 'vmfleetlaw4.MemoryCopies', WHERE WHAT IT READS IS OF BULK AT MOST 1048576: true; the input reads as it did. -/
def memoryCopiesUptoRow : OpenClaim := { program := "ytmefbkfapeijgaa", sum := "4d7ec72842dfec8d6cda4989f7053ab4b7410f7013143ba38636c90b8a02fe64", func := "vmfleet/vmfleetlaw4.MemoryCopies", spec := "memoryCopies", apart := false, narrowed := true }
def MemoryCopiesUptoSaid : Prop := memoryCopiesUptoRow.holds Try.pinned (OpenSpec.upto memoryCopiesSpec)

/-- 'vmfleetlaw9.DiskPorts', WHERE WHAT IT READS IS OF BULK AT MOST 1048576: true; the input reads as it did. -/
def diskPortsUptoRow : OpenClaim := { program := "ytmefbkfapeijgaa", sum := "4d7ec72842dfec8d6cda4989f7053ab4b7410f7013143ba38636c90b8a02fe64", func := "vmfleet/vmfleetlaw9.DiskPorts", spec := "diskPorts", apart := false, narrowed := true }
def DiskPortsUptoSaid : Prop := diskPortsUptoRow.holds Try.pinned (OpenSpec.upto diskPortsSpec)

/-- 'vmfleetlaw10.NicPorts', WHERE WHAT IT READS IS OF BULK AT MOST 1048576: true; the input reads as it did. -/
def nicPortsUptoRow : OpenClaim := { program := "ytmefbkfapeijgaa", sum := "4d7ec72842dfec8d6cda4989f7053ab4b7410f7013143ba38636c90b8a02fe64", func := "vmfleet/vmfleetlaw10.NicPorts", spec := "nicPorts", apart := false, narrowed := true }
def NicPortsUptoSaid : Prop := nicPortsUptoRow.holds Try.pinned (OpenSpec.upto nicPortsSpec)

/-- 'vmfleetlaw10.NicOnce', WHERE WHAT IT READS IS OF BULK AT MOST 1048576: true; the input reads as it did. -/
def nicOnceUptoRow : OpenClaim := { program := "ytmefbkfapeijgaa", sum := "4d7ec72842dfec8d6cda4989f7053ab4b7410f7013143ba38636c90b8a02fe64", func := "vmfleet/vmfleetlaw10.NicOnce", spec := "nicOnce", apart := false, narrowed := true }
def NicOnceUptoSaid : Prop := nicOnceUptoRow.holds Try.pinned (OpenSpec.upto nicOnceSpec)

/-- 'vmfleetlaw10.NicSends', WHERE WHAT IT READS IS OF BULK AT MOST 1048576: true; the input reads as it did. -/
def nicSendsUptoRow : OpenClaim := { program := "ytmefbkfapeijgaa", sum := "4d7ec72842dfec8d6cda4989f7053ab4b7410f7013143ba38636c90b8a02fe64", func := "vmfleet/vmfleetlaw10.NicSends", spec := "nicSends", apart := false, narrowed := true }
def NicSendsUptoSaid : Prop := nicSendsUptoRow.holds Try.pinned (OpenSpec.upto nicSendsSpec)

/-- 'vmfleetlaw5.PagingLeads', WHERE WHAT IT READS IS OF BULK AT MOST 1048576: true; the input reads as it did. -/
def pagingLeadsUptoRow : OpenClaim := { program := "ytmefbkfapeijgaa", sum := "4d7ec72842dfec8d6cda4989f7053ab4b7410f7013143ba38636c90b8a02fe64", func := "vmfleet/vmfleetlaw5.PagingLeads", spec := "pagingLeads", apart := false, narrowed := true }
def PagingLeadsUptoSaid : Prop := pagingLeadsUptoRow.holds Try.pinned (OpenSpec.upto pagingLeadsSpec)

/-- 'vmfleetlaw5.PagingSeparate', WHERE WHAT IT READS IS OF BULK AT MOST 1048576: true; the input reads as it did. -/
def pagingSeparateUptoRow : OpenClaim := { program := "ytmefbkfapeijgaa", sum := "4d7ec72842dfec8d6cda4989f7053ab4b7410f7013143ba38636c90b8a02fe64", func := "vmfleet/vmfleetlaw5.PagingSeparate", spec := "pagingSeparate", apart := false, narrowed := true }
def PagingSeparateUptoSaid : Prop := pagingSeparateUptoRow.holds Try.pinned (OpenSpec.upto pagingSeparateSpec)

/-- 'vmfleetlaw5.PagingOffsets', WHERE WHAT IT READS IS OF BULK AT MOST 1048576: true; the input reads as it did. -/
def pagingOffsetsUptoRow : OpenClaim := { program := "ytmefbkfapeijgaa", sum := "4d7ec72842dfec8d6cda4989f7053ab4b7410f7013143ba38636c90b8a02fe64", func := "vmfleet/vmfleetlaw5.PagingOffsets", spec := "pagingOffsets", apart := false, narrowed := true }
def PagingOffsetsUptoSaid : Prop := pagingOffsetsUptoRow.holds Try.pinned (OpenSpec.upto pagingOffsetsSpec)

/-- 'vmfleetlaw9.DiskStores', WHERE WHAT IT READS IS OF BULK AT MOST 1048576: true; the input reads as it did. -/
def diskStoresUptoRow : OpenClaim := { program := "ytmefbkfapeijgaa", sum := "4d7ec72842dfec8d6cda4989f7053ab4b7410f7013143ba38636c90b8a02fe64", func := "vmfleet/vmfleetlaw9.DiskStores", spec := "diskStores", apart := false, narrowed := true }
def DiskStoresUptoSaid : Prop := diskStoresUptoRow.holds Try.pinned (OpenSpec.upto diskStoresSpec)

/-- 'vmfleetlaw5.PagingTouches', WHERE WHAT IT READS IS OF BULK AT MOST 1048576: true; the input reads as it did. -/
def pagingTouchesUptoRow : OpenClaim := { program := "ytmefbkfapeijgaa", sum := "4d7ec72842dfec8d6cda4989f7053ab4b7410f7013143ba38636c90b8a02fe64", func := "vmfleet/vmfleetlaw5.PagingTouches", spec := "pagingTouches", apart := false, narrowed := true }
def PagingTouchesUptoSaid : Prop := pagingTouchesUptoRow.holds Try.pinned (OpenSpec.upto pagingTouchesSpec)

/-- 'vmfleetlaw10.NicReceives', WHERE WHAT IT READS IS OF BULK AT MOST 1048576: true; the input reads as it did. -/
def nicReceivesUptoRow : OpenClaim := { program := "ytmefbkfapeijgaa", sum := "4d7ec72842dfec8d6cda4989f7053ab4b7410f7013143ba38636c90b8a02fe64", func := "vmfleet/vmfleetlaw10.NicReceives", spec := "nicReceives", apart := false, narrowed := true }
def NicReceivesUptoSaid : Prop := nicReceivesUptoRow.holds Try.pinned (OpenSpec.upto nicReceivesSpec)

/-- 'vmfleetlaw10.NicKeeps', WHERE WHAT IT READS IS OF BULK AT MOST 1048576: true; the input reads as it did. -/
def nicKeepsUptoRow : OpenClaim := { program := "ytmefbkfapeijgaa", sum := "4d7ec72842dfec8d6cda4989f7053ab4b7410f7013143ba38636c90b8a02fe64", func := "vmfleet/vmfleetlaw10.NicKeeps", spec := "nicKeeps", apart := false, narrowed := true }
def NicKeepsUptoSaid : Prop := nicKeepsUptoRow.holds Try.pinned (OpenSpec.upto nicKeepsSpec)

/-- 'vmfleetlaw5.PagingMaps', WHERE WHAT IT READS IS OF BULK AT MOST 1048576: true; the input reads as it did. -/
def pagingMapsUptoRow : OpenClaim := { program := "ytmefbkfapeijgaa", sum := "4d7ec72842dfec8d6cda4989f7053ab4b7410f7013143ba38636c90b8a02fe64", func := "vmfleet/vmfleetlaw5.PagingMaps", spec := "pagingMaps", unfollowed := true, recurses := true, apart := false, narrowed := true }
def PagingMapsUptoSaid : Prop := pagingMapsUptoRow.holds Try.pinned (OpenSpec.upto pagingMapsSpec)

/-- 'vmfleetlaw5.PagingLists', WHERE WHAT IT READS IS OF BULK AT MOST 1048576: true; the input reads as it did. -/
def pagingListsUptoRow : OpenClaim := { program := "ytmefbkfapeijgaa", sum := "4d7ec72842dfec8d6cda4989f7053ab4b7410f7013143ba38636c90b8a02fe64", func := "vmfleet/vmfleetlaw5.PagingLists", spec := "pagingLists", unfollowed := true, recurses := true, apart := false, narrowed := true }
def PagingListsUptoSaid : Prop := pagingListsUptoRow.holds Try.pinned (OpenSpec.upto pagingListsSpec)

/-- 'vmfleetlaw9.DiskCompletes', WHERE WHAT IT READS IS OF BULK AT MOST 1048576: true; the input reads as it did. -/
def diskCompletesUptoRow : OpenClaim := { program := "ytmefbkfapeijgaa", sum := "4d7ec72842dfec8d6cda4989f7053ab4b7410f7013143ba38636c90b8a02fe64", func := "vmfleet/vmfleetlaw9.DiskCompletes", spec := "diskCompletes", apart := false, narrowed := true }
def DiskCompletesUptoSaid : Prop := diskCompletesUptoRow.holds Try.pinned (OpenSpec.upto diskCompletesSpec)

/-- 'vmfleetlaw9.DiskKeeps', WHERE WHAT IT READS IS OF BULK AT MOST 1048576: true; the input reads as it did. -/
def diskKeepsUptoRow : OpenClaim := { program := "ytmefbkfapeijgaa", sum := "4d7ec72842dfec8d6cda4989f7053ab4b7410f7013143ba38636c90b8a02fe64", func := "vmfleet/vmfleetlaw9.DiskKeeps", spec := "diskKeeps", apart := false, narrowed := true }
def DiskKeepsUptoSaid : Prop := diskKeepsUptoRow.holds Try.pinned (OpenSpec.upto diskKeepsSpec)

end Rows
end Go.Proofs.Ytmefbkfapeijgaa
