/-
  No cell of these rows narrows 'for every input' (looked for: loops, veiled, ifaces, maps, wideKeys, modest, calm, conditions, laid).
  DERIVED. THE GIVEN ROWS OF THIS SEAT. 18 by the template 'for every input the law returns true; each argument reads behind the call as it read before'; 0 by the template 'total and deterministic' (their statements: YtehncbhmdgdkjaaTotals.lean).
  GIVEN WITH THE SEED: the statements are not yours to turn. If you find one false, say at which input.
  Laid BY PROGRAM, IN A SANDBOX (cutbox-rows.mjs): the forced cells as the released guide's own fill.sh prints them over the translation 95c2ace43043a554… (all of the seat's roots in one cut). By AI agents, Wed Nov 11 2026. No macro, syntax, notation, axiom, sorry.
-/
import Derived.Test.YtehncbhmdgdkjaaChecked
import GoSem.Claim
import GoSem.ClaimJoined
import GoSem.ClaimMapViews
import Derived.JoinedTies
import Derived.KernelRfl
namespace Go.Proofs.Ytehncbhmdgdkjaa
/- THE CELL 'sum', in the pinned program and in every row, IS THE sha256 OF THE DUMP (.gsa) THAT YtehncbhmdgdkjaaProg.lean LOADS. Nothing in Lean hashes anything: it is a label: what it is worth is what the hold of that sum in a sandbox is worth. -/
noncomputable def Try.pinned : Pinned := { name := "ytehncbhmdgdkjaa", sum := "95c2ace43043a554ec1af397b9ab4319065b9576b6fee2965e70efcfb6a8b788", checked := Try.checked }
namespace Rows
def none {H : Type} : Left H := { results := [], args := [] }

/-- 'hopperlaw06.HeapTells': WHATEVER THE INPUT: true; the input reads as it did. -/
def heapTellsSpec : ChangeSpec := { name := "heapTells", fn := fun _ => fun
  | [d1, d2] => { results := [.lit (.bool true)], args := [d1, d2] }
  | _ => none }
def heapTellsRow : OpenClaim := { program := "ytehncbhmdgdkjaa", sum := "95c2ace43043a554ec1af397b9ab4319065b9576b6fee2965e70efcfb6a8b788", func := "hopper/hopperlaw06.HeapTells", spec := "heapTells", inPlace := ["internal/abi.NoEscape", "internal/bytealg.abigen_runtime_cmpstring"], unfollowed := true, recurses := true, apart := false }
def HeapTellsSaid : Prop := heapTellsRow.holds Try.pinned (OpenSpec.ofChange heapTellsSpec)

/-- ITS FALSE NEIGHBOUR: 'it returns false'. Refute it at one input. -/
def heapTellsWrong : ChangeSpec := { name := "heapTells", fn := fun _ => fun
  | [d1, d2] => { results := [.lit (.bool false)], args := [d1, d2] }
  | _ => none }
def HeapTellsWrongFalsely : Prop := heapTellsRow.holds Try.pinned (OpenSpec.ofChange heapTellsWrong)

/-- 'hopperlaw06.HeapPops': WHATEVER THE INPUT: true; the input reads as it did. -/
def heapPopsSpec : ChangeSpec := { name := "heapPops", fn := fun _ => fun
  | [d] => { results := [.lit (.bool true)], args := [d] }
  | _ => none }
def heapPopsRow : OpenClaim := { program := "ytehncbhmdgdkjaa", sum := "95c2ace43043a554ec1af397b9ab4319065b9576b6fee2965e70efcfb6a8b788", func := "hopper/hopperlaw06.HeapPops", spec := "heapPops", inPlace := ["internal/abi.NoEscape", "internal/bytealg.abigen_runtime_cmpstring"], unfollowed := true, recurses := true, apart := false }
def HeapPopsSaid : Prop := heapPopsRow.holds Try.pinned (OpenSpec.ofChange heapPopsSpec)

/-- ITS FALSE NEIGHBOUR: 'it returns false'. Refute it at one input. -/
def heapPopsWrong : ChangeSpec := { name := "heapPops", fn := fun _ => fun
  | [d] => { results := [.lit (.bool false)], args := [d] }
  | _ => none }
def HeapPopsWrongFalsely : Prop := heapPopsRow.holds Try.pinned (OpenSpec.ofChange heapPopsWrong)

/-- 'hopperlaw12.GreedyTells': WHATEVER THE INPUT: true; the input reads as it did. -/
def greedyTellsSpec : ChangeSpec := { name := "greedyTells", fn := fun _ => fun
  | [d1, d2, d3] => { results := [.lit (.bool true)], args := [d1, d2, d3] }
  | _ => none }
def greedyTellsRow : OpenClaim := { program := "ytehncbhmdgdkjaa", sum := "95c2ace43043a554ec1af397b9ab4319065b9576b6fee2965e70efcfb6a8b788", func := "hopper/hopperlaw12.GreedyTells", spec := "greedyTells", inPlace := ["internal/abi.NoEscape", "internal/bytealg.abigen_runtime_cmpstring"], unfollowed := true, recurses := true, apart := false }
def GreedyTellsSaid : Prop := greedyTellsRow.holds Try.pinned (OpenSpec.ofChange greedyTellsSpec)

/-- ITS FALSE NEIGHBOUR: 'it returns false'. Refute it at one input. -/
def greedyTellsWrong : ChangeSpec := { name := "greedyTells", fn := fun _ => fun
  | [d1, d2, d3] => { results := [.lit (.bool false)], args := [d1, d2, d3] }
  | _ => none }
def GreedyTellsWrongFalsely : Prop := greedyTellsRow.holds Try.pinned (OpenSpec.ofChange greedyTellsWrong)

/-- 'hopperlaw12.GreedyTakes': WHATEVER THE INPUT: true; the input reads as it did. -/
def greedyTakesSpec : ChangeSpec := { name := "greedyTakes", fn := fun _ => fun
  | [d1, d2] => { results := [.lit (.bool true)], args := [d1, d2] }
  | _ => none }
def greedyTakesRow : OpenClaim := { program := "ytehncbhmdgdkjaa", sum := "95c2ace43043a554ec1af397b9ab4319065b9576b6fee2965e70efcfb6a8b788", func := "hopper/hopperlaw12.GreedyTakes", spec := "greedyTakes", inPlace := ["internal/abi.NoEscape", "internal/bytealg.abigen_runtime_cmpstring"], unfollowed := true, recurses := true, apart := false }
def GreedyTakesSaid : Prop := greedyTakesRow.holds Try.pinned (OpenSpec.ofChange greedyTakesSpec)

/-- ITS FALSE NEIGHBOUR: 'it returns false'. Refute it at one input. -/
def greedyTakesWrong : ChangeSpec := { name := "greedyTakes", fn := fun _ => fun
  | [d1, d2] => { results := [.lit (.bool false)], args := [d1, d2] }
  | _ => none }
def GreedyTakesWrongFalsely : Prop := greedyTakesRow.holds Try.pinned (OpenSpec.ofChange greedyTakesWrong)

/-- 'hopperlaw12.GreedyMore': WHATEVER THE INPUT: true; the input reads as it did. -/
def greedyMoreSpec : ChangeSpec := { name := "greedyMore", fn := fun _ => fun
  | [d] => { results := [.lit (.bool true)], args := [d] }
  | _ => none }
def greedyMoreRow : OpenClaim := { program := "ytehncbhmdgdkjaa", sum := "95c2ace43043a554ec1af397b9ab4319065b9576b6fee2965e70efcfb6a8b788", func := "hopper/hopperlaw12.GreedyMore", spec := "greedyMore", inPlace := ["internal/abi.NoEscape", "internal/bytealg.abigen_runtime_cmpstring"], unfollowed := true, recurses := true, apart := false }
def GreedyMoreSaid : Prop := greedyMoreRow.holds Try.pinned (OpenSpec.ofChange greedyMoreSpec)

/-- ITS FALSE NEIGHBOUR: 'it returns false'. Refute it at one input. -/
def greedyMoreWrong : ChangeSpec := { name := "greedyMore", fn := fun _ => fun
  | [d] => { results := [.lit (.bool false)], args := [d] }
  | _ => none }
def GreedyMoreWrongFalsely : Prop := greedyMoreRow.holds Try.pinned (OpenSpec.ofChange greedyMoreWrong)

/-- 'hopperlaw12.GreedyGas': WHATEVER THE INPUT: true; the input reads as it did. -/
def greedyGasSpec : ChangeSpec := { name := "greedyGas", fn := fun _ => fun
  | [d1, d2] => { results := [.lit (.bool true)], args := [d1, d2] }
  | _ => none }
def greedyGasRow : OpenClaim := { program := "ytehncbhmdgdkjaa", sum := "95c2ace43043a554ec1af397b9ab4319065b9576b6fee2965e70efcfb6a8b788", func := "hopper/hopperlaw12.GreedyGas", spec := "greedyGas", inPlace := ["internal/abi.NoEscape", "internal/bytealg.abigen_runtime_cmpstring"], unfollowed := true, recurses := true, apart := false }
def GreedyGasSaid : Prop := greedyGasRow.holds Try.pinned (OpenSpec.ofChange greedyGasSpec)

/-- ITS FALSE NEIGHBOUR: 'it returns false'. Refute it at one input. -/
def greedyGasWrong : ChangeSpec := { name := "greedyGas", fn := fun _ => fun
  | [d1, d2] => { results := [.lit (.bool false)], args := [d1, d2] }
  | _ => none }
def GreedyGasWrongFalsely : Prop := greedyGasRow.holds Try.pinned (OpenSpec.ofChange greedyGasWrong)

/-- 'hopperlaw12.GreedyHeads': WHATEVER THE INPUT: true; the input reads as it did. -/
def greedyHeadsSpec : ChangeSpec := { name := "greedyHeads", fn := fun _ => fun
  | [d1, d2] => { results := [.lit (.bool true)], args := [d1, d2] }
  | _ => none }
def greedyHeadsRow : OpenClaim := { program := "ytehncbhmdgdkjaa", sum := "95c2ace43043a554ec1af397b9ab4319065b9576b6fee2965e70efcfb6a8b788", func := "hopper/hopperlaw12.GreedyHeads", spec := "greedyHeads", inPlace := ["internal/abi.NoEscape", "internal/bytealg.abigen_runtime_cmpstring"], unfollowed := true, recurses := true, apart := false }
def GreedyHeadsSaid : Prop := greedyHeadsRow.holds Try.pinned (OpenSpec.ofChange greedyHeadsSpec)

/-- ITS FALSE NEIGHBOUR: 'it returns false'. Refute it at one input. -/
def greedyHeadsWrong : ChangeSpec := { name := "greedyHeads", fn := fun _ => fun
  | [d1, d2] => { results := [.lit (.bool false)], args := [d1, d2] }
  | _ => none }
def GreedyHeadsWrongFalsely : Prop := greedyHeadsRow.holds Try.pinned (OpenSpec.ofChange greedyHeadsWrong)

/-- 'hopperlaw05.QueueTells': WHATEVER THE INPUT: true; the input reads as it did. -/
def queueTellsSpec : ChangeSpec := { name := "queueTells", fn := fun _ => fun
  | [d1, d2, d3] => { results := [.lit (.bool true)], args := [d1, d2, d3] }
  | _ => none }
def queueTellsRow : OpenClaim := { program := "ytehncbhmdgdkjaa", sum := "95c2ace43043a554ec1af397b9ab4319065b9576b6fee2965e70efcfb6a8b788", func := "hopper/hopperlaw05.QueueTells", spec := "queueTells", inPlace := ["internal/abi.NoEscape", "slices.overlaps[hopper/api.Tx]"], unfollowed := true, recurses := true, apart := false }
def QueueTellsSaid : Prop := queueTellsRow.holds Try.pinned (OpenSpec.ofChange queueTellsSpec)

/-- ITS FALSE NEIGHBOUR: 'it returns false'. Refute it at one input. -/
def queueTellsWrong : ChangeSpec := { name := "queueTells", fn := fun _ => fun
  | [d1, d2, d3] => { results := [.lit (.bool false)], args := [d1, d2, d3] }
  | _ => none }
def QueueTellsWrongFalsely : Prop := queueTellsRow.holds Try.pinned (OpenSpec.ofChange queueTellsWrong)

/-- 'hopperlaw05.QueueChanges': WHATEVER THE INPUT: true; the input reads as it did. -/
def queueChangesSpec : ChangeSpec := { name := "queueChanges", fn := fun _ => fun
  | [d1, d2, d3] => { results := [.lit (.bool true)], args := [d1, d2, d3] }
  | _ => none }
def queueChangesRow : OpenClaim := { program := "ytehncbhmdgdkjaa", sum := "95c2ace43043a554ec1af397b9ab4319065b9576b6fee2965e70efcfb6a8b788", func := "hopper/hopperlaw05.QueueChanges", spec := "queueChanges", inPlace := ["internal/abi.NoEscape", "slices.overlaps[hopper/api.Tx]"], unfollowed := true, recurses := true, apart := false }
def QueueChangesSaid : Prop := queueChangesRow.holds Try.pinned (OpenSpec.ofChange queueChangesSpec)

/-- ITS FALSE NEIGHBOUR: 'it returns false'. Refute it at one input. -/
def queueChangesWrong : ChangeSpec := { name := "queueChanges", fn := fun _ => fun
  | [d1, d2, d3] => { results := [.lit (.bool false)], args := [d1, d2, d3] }
  | _ => none }
def QueueChangesWrongFalsely : Prop := queueChangesRow.holds Try.pinned (OpenSpec.ofChange queueChangesWrong)

/-- 'hopperlaw05.QueueMay': WHATEVER THE INPUT: true; the input reads as it did. -/
def queueMaySpec : ChangeSpec := { name := "queueMay", fn := fun _ => fun
  | [d1, d2, d3] => { results := [.lit (.bool true)], args := [d1, d2, d3] }
  | _ => none }
def queueMayRow : OpenClaim := { program := "ytehncbhmdgdkjaa", sum := "95c2ace43043a554ec1af397b9ab4319065b9576b6fee2965e70efcfb6a8b788", func := "hopper/hopperlaw05.QueueMay", spec := "queueMay", inPlace := ["internal/abi.NoEscape", "slices.overlaps[hopper/api.Tx]"], unfollowed := true, recurses := true, apart := false }
def QueueMaySaid : Prop := queueMayRow.holds Try.pinned (OpenSpec.ofChange queueMaySpec)

/-- ITS FALSE NEIGHBOUR: 'it returns false'. Refute it at one input. -/
def queueMayWrong : ChangeSpec := { name := "queueMay", fn := fun _ => fun
  | [d1, d2, d3] => { results := [.lit (.bool false)], args := [d1, d2, d3] }
  | _ => none }
def QueueMayWrongFalsely : Prop := queueMayRow.holds Try.pinned (OpenSpec.ofChange queueMayWrong)

/-- 'hopperlaw05.QueueReady': WHATEVER THE INPUT: true; the input reads as it did. -/
def queueReadySpec : ChangeSpec := { name := "queueReady", fn := fun _ => fun
  | [d1, d2] => { results := [.lit (.bool true)], args := [d1, d2] }
  | _ => none }
def queueReadyRow : OpenClaim := { program := "ytehncbhmdgdkjaa", sum := "95c2ace43043a554ec1af397b9ab4319065b9576b6fee2965e70efcfb6a8b788", func := "hopper/hopperlaw05.QueueReady", spec := "queueReady", inPlace := ["internal/abi.NoEscape", "slices.overlaps[hopper/api.Tx]"], unfollowed := true, recurses := true, apart := false }
def QueueReadySaid : Prop := queueReadyRow.holds Try.pinned (OpenSpec.ofChange queueReadySpec)

/-- ITS FALSE NEIGHBOUR: 'it returns false'. Refute it at one input. -/
def queueReadyWrong : ChangeSpec := { name := "queueReady", fn := fun _ => fun
  | [d1, d2] => { results := [.lit (.bool false)], args := [d1, d2] }
  | _ => none }
def QueueReadyWrongFalsely : Prop := queueReadyRow.holds Try.pinned (OpenSpec.ofChange queueReadyWrong)

/-- 'hopperlaw05.QueuePuts': WHATEVER THE INPUT: true; the input reads as it did. -/
def queuePutsSpec : ChangeSpec := { name := "queuePuts", fn := fun _ => fun
  | [d1, d2, d3] => { results := [.lit (.bool true)], args := [d1, d2, d3] }
  | _ => none }
def queuePutsRow : OpenClaim := { program := "ytehncbhmdgdkjaa", sum := "95c2ace43043a554ec1af397b9ab4319065b9576b6fee2965e70efcfb6a8b788", func := "hopper/hopperlaw05.QueuePuts", spec := "queuePuts", inPlace := ["internal/abi.NoEscape", "slices.overlaps[hopper/api.Tx]"], unfollowed := true, recurses := true, apart := false }
def QueuePutsSaid : Prop := queuePutsRow.holds Try.pinned (OpenSpec.ofChange queuePutsSpec)

/-- ITS FALSE NEIGHBOUR: 'it returns false'. Refute it at one input. -/
def queuePutsWrong : ChangeSpec := { name := "queuePuts", fn := fun _ => fun
  | [d1, d2, d3] => { results := [.lit (.bool false)], args := [d1, d2, d3] }
  | _ => none }
def QueuePutsWrongFalsely : Prop := queuePutsRow.holds Try.pinned (OpenSpec.ofChange queuePutsWrong)

/-- 'hopperlaw05.QueueBases': WHATEVER THE INPUT: true; the input reads as it did. -/
def queueBasesSpec : ChangeSpec := { name := "queueBases", fn := fun _ => fun
  | [d1, d2, d3] => { results := [.lit (.bool true)], args := [d1, d2, d3] }
  | _ => none }
def queueBasesRow : OpenClaim := { program := "ytehncbhmdgdkjaa", sum := "95c2ace43043a554ec1af397b9ab4319065b9576b6fee2965e70efcfb6a8b788", func := "hopper/hopperlaw05.QueueBases", spec := "queueBases", inPlace := ["internal/abi.NoEscape", "slices.overlaps[hopper/api.Tx]"], unfollowed := true, recurses := true, apart := false }
def QueueBasesSaid : Prop := queueBasesRow.holds Try.pinned (OpenSpec.ofChange queueBasesSpec)

/-- ITS FALSE NEIGHBOUR: 'it returns false'. Refute it at one input. -/
def queueBasesWrong : ChangeSpec := { name := "queueBases", fn := fun _ => fun
  | [d1, d2, d3] => { results := [.lit (.bool false)], args := [d1, d2, d3] }
  | _ => none }
def QueueBasesWrongFalsely : Prop := queueBasesRow.holds Try.pinned (OpenSpec.ofChange queueBasesWrong)

/-- 'hopperlaw05.QueuePlaces': WHATEVER THE INPUT: true; the input reads as it did. -/
def queuePlacesSpec : ChangeSpec := { name := "queuePlaces", fn := fun _ => fun
  | [d1, d2, d3] => { results := [.lit (.bool true)], args := [d1, d2, d3] }
  | _ => none }
def queuePlacesRow : OpenClaim := { program := "ytehncbhmdgdkjaa", sum := "95c2ace43043a554ec1af397b9ab4319065b9576b6fee2965e70efcfb6a8b788", func := "hopper/hopperlaw05.QueuePlaces", spec := "queuePlaces", inPlace := ["internal/abi.NoEscape", "slices.overlaps[hopper/api.Tx]"], unfollowed := true, recurses := true, apart := false }
def QueuePlacesSaid : Prop := queuePlacesRow.holds Try.pinned (OpenSpec.ofChange queuePlacesSpec)

/-- ITS FALSE NEIGHBOUR: 'it returns false'. Refute it at one input. -/
def queuePlacesWrong : ChangeSpec := { name := "queuePlaces", fn := fun _ => fun
  | [d1, d2, d3] => { results := [.lit (.bool false)], args := [d1, d2, d3] }
  | _ => none }
def QueuePlacesWrongFalsely : Prop := queuePlacesRow.holds Try.pinned (OpenSpec.ofChange queuePlacesWrong)

/-- 'hopperlaw11.ShardJoins': WHATEVER THE INPUT: true; the input reads as it did. -/
def shardJoinsSpec : ChangeSpec := { name := "shardJoins", fn := fun _ => fun
  | [d] => { results := [.lit (.bool true)], args := [d] }
  | _ => none }
def shardJoinsRow : OpenClaim := { program := "ytehncbhmdgdkjaa", sum := "95c2ace43043a554ec1af397b9ab4319065b9576b6fee2965e70efcfb6a8b788", func := "hopper/hopperlaw11.ShardJoins", spec := "shardJoins", inPlace := ["slices.overlaps[hopper/api.Account]", "internal/abi.NoEscape", "internal/bytealg.abigen_runtime_cmpstring"], unfollowed := true, recurses := true, apart := false }
def ShardJoinsSaid : Prop := shardJoinsRow.holds Try.pinned (OpenSpec.ofChange shardJoinsSpec)

/-- ITS FALSE NEIGHBOUR: 'it returns false'. Refute it at one input. -/
def shardJoinsWrong : ChangeSpec := { name := "shardJoins", fn := fun _ => fun
  | [d] => { results := [.lit (.bool false)], args := [d] }
  | _ => none }
def ShardJoinsWrongFalsely : Prop := shardJoinsRow.holds Try.pinned (OpenSpec.ofChange shardJoinsWrong)

/-- 'hopperlaw11.ShardWorst': WHATEVER THE INPUT: true; the input reads as it did. -/
def shardWorstSpec : ChangeSpec := { name := "shardWorst", fn := fun _ => fun
  | [d] => { results := [.lit (.bool true)], args := [d] }
  | _ => none }
def shardWorstRow : OpenClaim := { program := "ytehncbhmdgdkjaa", sum := "95c2ace43043a554ec1af397b9ab4319065b9576b6fee2965e70efcfb6a8b788", func := "hopper/hopperlaw11.ShardWorst", spec := "shardWorst", inPlace := ["slices.overlaps[hopper/api.Account]", "internal/abi.NoEscape", "internal/bytealg.abigen_runtime_cmpstring"], unfollowed := true, recurses := true, apart := false }
def ShardWorstSaid : Prop := shardWorstRow.holds Try.pinned (OpenSpec.ofChange shardWorstSpec)

/-- ITS FALSE NEIGHBOUR: 'it returns false'. Refute it at one input. -/
def shardWorstWrong : ChangeSpec := { name := "shardWorst", fn := fun _ => fun
  | [d] => { results := [.lit (.bool false)], args := [d] }
  | _ => none }
def ShardWorstWrongFalsely : Prop := shardWorstRow.holds Try.pinned (OpenSpec.ofChange shardWorstWrong)

/-- 'hopperlaw11.ShardOrder': WHATEVER THE INPUT: true; the input reads as it did. -/
def shardOrderSpec : ChangeSpec := { name := "shardOrder", fn := fun _ => fun
  | [d1, d2, d3] => { results := [.lit (.bool true)], args := [d1, d2, d3] }
  | _ => none }
def shardOrderRow : OpenClaim := { program := "ytehncbhmdgdkjaa", sum := "95c2ace43043a554ec1af397b9ab4319065b9576b6fee2965e70efcfb6a8b788", func := "hopper/hopperlaw11.ShardOrder", spec := "shardOrder", inPlace := ["slices.overlaps[hopper/api.Account]", "internal/abi.NoEscape", "internal/bytealg.abigen_runtime_cmpstring"], unfollowed := true, recurses := true, apart := false }
def ShardOrderSaid : Prop := shardOrderRow.holds Try.pinned (OpenSpec.ofChange shardOrderSpec)

/-- ITS FALSE NEIGHBOUR: 'it returns false'. Refute it at one input. -/
def shardOrderWrong : ChangeSpec := { name := "shardOrder", fn := fun _ => fun
  | [d1, d2, d3] => { results := [.lit (.bool false)], args := [d1, d2, d3] }
  | _ => none }
def ShardOrderWrongFalsely : Prop := shardOrderRow.holds Try.pinned (OpenSpec.ofChange shardOrderWrong)

/-- 'hopperlaw11.ShardSlots': WHATEVER THE INPUT: true; the input reads as it did. -/
def shardSlotsSpec : ChangeSpec := { name := "shardSlots", fn := fun _ => fun
  | [d] => { results := [.lit (.bool true)], args := [d] }
  | _ => none }
def shardSlotsRow : OpenClaim := { program := "ytehncbhmdgdkjaa", sum := "95c2ace43043a554ec1af397b9ab4319065b9576b6fee2965e70efcfb6a8b788", func := "hopper/hopperlaw11.ShardSlots", spec := "shardSlots", inPlace := ["slices.overlaps[hopper/api.Account]", "internal/abi.NoEscape", "internal/bytealg.abigen_runtime_cmpstring"], unfollowed := true, recurses := true, apart := false }
def ShardSlotsSaid : Prop := shardSlotsRow.holds Try.pinned (OpenSpec.ofChange shardSlotsSpec)

/-- ITS FALSE NEIGHBOUR: 'it returns false'. Refute it at one input. -/
def shardSlotsWrong : ChangeSpec := { name := "shardSlots", fn := fun _ => fun
  | [d] => { results := [.lit (.bool false)], args := [d] }
  | _ => none }
def ShardSlotsWrongFalsely : Prop := shardSlotsRow.holds Try.pinned (OpenSpec.ofChange shardSlotsWrong)

/- THE SECOND FORM. 'bulk': how many values and letters a reading holds, each counted each time it is reached (what is shared counts as often as it is met; a slice's spare places count too). A statement '..UptoSaid' is the law's where the arguments, and the package variables that the reading takes, are together of bulk at most 1048576: NARROWER than '..Said'. Prove '..Said' where nothing that the law and all that it calls make is longer than what came in: it says more and counts as full. Else prove '..UptoSaid'. A law counts once. -/
mutual
def uptoBulk {H : Type} : DataW H → Nat
  | .lit (.string bytes) => bytes.length + 1
  | .lit _ => 1
  | .nil => 1
  | .ptr d => uptoBulk d + 1
  | .slice elems spare => uptoBulkAll elems + uptoBulkAll spare + 1
  | .agg parts => uptoBulkAll parts + 1
  | .iface _ d => uptoBulk d + 1
  | .map entries => uptoBulkEntries entries + 1
  | .held _ => 1
def uptoBulkAll {H : Type} : List (DataW H) → Nat
  | [] => 0
  | d :: r => uptoBulk d + uptoBulkAll r
def uptoBulkEntries {H : Type} : List (Lit × DataW H) → Nat
  | [] => 0
  | x :: r => uptoBulkEntry x + uptoBulkEntries r
def uptoBulkEntry {H : Type} : Lit × DataW H → Nat
  | (.string bytes, d) => bytes.length + uptoBulk d + 1
  | (_, d) => uptoBulk d + 1
 end
def uptoSmall : (H : Type) → List (DataW H) → Bool := fun _ ds => decide (uptoBulkAll ds ≤ 1048576)
def OpenSpec.upto (s : _root_.Go.ChangeSpec) : _root_.Go.OpenSpec := { _root_.Go.OpenSpec.ofChange s with cond := some uptoSmall }

/-- 'hopperlaw06.HeapTells', WHERE WHAT IT READS IS OF BULK AT MOST 1048576: true; the input reads as it did. -/
def heapTellsUptoRow : OpenClaim := { program := "ytehncbhmdgdkjaa", sum := "95c2ace43043a554ec1af397b9ab4319065b9576b6fee2965e70efcfb6a8b788", func := "hopper/hopperlaw06.HeapTells", spec := "heapTells", inPlace := ["internal/abi.NoEscape", "internal/bytealg.abigen_runtime_cmpstring"], unfollowed := true, recurses := true, apart := false, narrowed := true }
def HeapTellsUptoSaid : Prop := heapTellsUptoRow.holds Try.pinned (OpenSpec.upto heapTellsSpec)

/-- 'hopperlaw06.HeapPops', WHERE WHAT IT READS IS OF BULK AT MOST 1048576: true; the input reads as it did. -/
def heapPopsUptoRow : OpenClaim := { program := "ytehncbhmdgdkjaa", sum := "95c2ace43043a554ec1af397b9ab4319065b9576b6fee2965e70efcfb6a8b788", func := "hopper/hopperlaw06.HeapPops", spec := "heapPops", inPlace := ["internal/abi.NoEscape", "internal/bytealg.abigen_runtime_cmpstring"], unfollowed := true, recurses := true, apart := false, narrowed := true }
def HeapPopsUptoSaid : Prop := heapPopsUptoRow.holds Try.pinned (OpenSpec.upto heapPopsSpec)

/-- 'hopperlaw12.GreedyTells', WHERE WHAT IT READS IS OF BULK AT MOST 1048576: true; the input reads as it did. -/
def greedyTellsUptoRow : OpenClaim := { program := "ytehncbhmdgdkjaa", sum := "95c2ace43043a554ec1af397b9ab4319065b9576b6fee2965e70efcfb6a8b788", func := "hopper/hopperlaw12.GreedyTells", spec := "greedyTells", inPlace := ["internal/abi.NoEscape", "internal/bytealg.abigen_runtime_cmpstring"], unfollowed := true, recurses := true, apart := false, narrowed := true }
def GreedyTellsUptoSaid : Prop := greedyTellsUptoRow.holds Try.pinned (OpenSpec.upto greedyTellsSpec)

/-- 'hopperlaw12.GreedyTakes', WHERE WHAT IT READS IS OF BULK AT MOST 1048576: true; the input reads as it did. -/
def greedyTakesUptoRow : OpenClaim := { program := "ytehncbhmdgdkjaa", sum := "95c2ace43043a554ec1af397b9ab4319065b9576b6fee2965e70efcfb6a8b788", func := "hopper/hopperlaw12.GreedyTakes", spec := "greedyTakes", inPlace := ["internal/abi.NoEscape", "internal/bytealg.abigen_runtime_cmpstring"], unfollowed := true, recurses := true, apart := false, narrowed := true }
def GreedyTakesUptoSaid : Prop := greedyTakesUptoRow.holds Try.pinned (OpenSpec.upto greedyTakesSpec)

/-- 'hopperlaw12.GreedyMore', WHERE WHAT IT READS IS OF BULK AT MOST 1048576: true; the input reads as it did. -/
def greedyMoreUptoRow : OpenClaim := { program := "ytehncbhmdgdkjaa", sum := "95c2ace43043a554ec1af397b9ab4319065b9576b6fee2965e70efcfb6a8b788", func := "hopper/hopperlaw12.GreedyMore", spec := "greedyMore", inPlace := ["internal/abi.NoEscape", "internal/bytealg.abigen_runtime_cmpstring"], unfollowed := true, recurses := true, apart := false, narrowed := true }
def GreedyMoreUptoSaid : Prop := greedyMoreUptoRow.holds Try.pinned (OpenSpec.upto greedyMoreSpec)

/-- 'hopperlaw12.GreedyGas', WHERE WHAT IT READS IS OF BULK AT MOST 1048576: true; the input reads as it did. -/
def greedyGasUptoRow : OpenClaim := { program := "ytehncbhmdgdkjaa", sum := "95c2ace43043a554ec1af397b9ab4319065b9576b6fee2965e70efcfb6a8b788", func := "hopper/hopperlaw12.GreedyGas", spec := "greedyGas", inPlace := ["internal/abi.NoEscape", "internal/bytealg.abigen_runtime_cmpstring"], unfollowed := true, recurses := true, apart := false, narrowed := true }
def GreedyGasUptoSaid : Prop := greedyGasUptoRow.holds Try.pinned (OpenSpec.upto greedyGasSpec)

/-- 'hopperlaw12.GreedyHeads', WHERE WHAT IT READS IS OF BULK AT MOST 1048576: true; the input reads as it did. -/
def greedyHeadsUptoRow : OpenClaim := { program := "ytehncbhmdgdkjaa", sum := "95c2ace43043a554ec1af397b9ab4319065b9576b6fee2965e70efcfb6a8b788", func := "hopper/hopperlaw12.GreedyHeads", spec := "greedyHeads", inPlace := ["internal/abi.NoEscape", "internal/bytealg.abigen_runtime_cmpstring"], unfollowed := true, recurses := true, apart := false, narrowed := true }
def GreedyHeadsUptoSaid : Prop := greedyHeadsUptoRow.holds Try.pinned (OpenSpec.upto greedyHeadsSpec)

/-- 'hopperlaw05.QueueTells', WHERE WHAT IT READS IS OF BULK AT MOST 1048576: true; the input reads as it did. -/
def queueTellsUptoRow : OpenClaim := { program := "ytehncbhmdgdkjaa", sum := "95c2ace43043a554ec1af397b9ab4319065b9576b6fee2965e70efcfb6a8b788", func := "hopper/hopperlaw05.QueueTells", spec := "queueTells", inPlace := ["internal/abi.NoEscape", "slices.overlaps[hopper/api.Tx]"], unfollowed := true, recurses := true, apart := false, narrowed := true }
def QueueTellsUptoSaid : Prop := queueTellsUptoRow.holds Try.pinned (OpenSpec.upto queueTellsSpec)

/-- 'hopperlaw05.QueueChanges', WHERE WHAT IT READS IS OF BULK AT MOST 1048576: true; the input reads as it did. -/
def queueChangesUptoRow : OpenClaim := { program := "ytehncbhmdgdkjaa", sum := "95c2ace43043a554ec1af397b9ab4319065b9576b6fee2965e70efcfb6a8b788", func := "hopper/hopperlaw05.QueueChanges", spec := "queueChanges", inPlace := ["internal/abi.NoEscape", "slices.overlaps[hopper/api.Tx]"], unfollowed := true, recurses := true, apart := false, narrowed := true }
def QueueChangesUptoSaid : Prop := queueChangesUptoRow.holds Try.pinned (OpenSpec.upto queueChangesSpec)

/-- 'hopperlaw05.QueueMay', WHERE WHAT IT READS IS OF BULK AT MOST 1048576: true; the input reads as it did. -/
def queueMayUptoRow : OpenClaim := { program := "ytehncbhmdgdkjaa", sum := "95c2ace43043a554ec1af397b9ab4319065b9576b6fee2965e70efcfb6a8b788", func := "hopper/hopperlaw05.QueueMay", spec := "queueMay", inPlace := ["internal/abi.NoEscape", "slices.overlaps[hopper/api.Tx]"], unfollowed := true, recurses := true, apart := false, narrowed := true }
def QueueMayUptoSaid : Prop := queueMayUptoRow.holds Try.pinned (OpenSpec.upto queueMaySpec)

/-- 'hopperlaw05.QueueReady', WHERE WHAT IT READS IS OF BULK AT MOST 1048576: true; the input reads as it did. -/
def queueReadyUptoRow : OpenClaim := { program := "ytehncbhmdgdkjaa", sum := "95c2ace43043a554ec1af397b9ab4319065b9576b6fee2965e70efcfb6a8b788", func := "hopper/hopperlaw05.QueueReady", spec := "queueReady", inPlace := ["internal/abi.NoEscape", "slices.overlaps[hopper/api.Tx]"], unfollowed := true, recurses := true, apart := false, narrowed := true }
def QueueReadyUptoSaid : Prop := queueReadyUptoRow.holds Try.pinned (OpenSpec.upto queueReadySpec)

/-- 'hopperlaw05.QueuePuts', WHERE WHAT IT READS IS OF BULK AT MOST 1048576: true; the input reads as it did. -/
def queuePutsUptoRow : OpenClaim := { program := "ytehncbhmdgdkjaa", sum := "95c2ace43043a554ec1af397b9ab4319065b9576b6fee2965e70efcfb6a8b788", func := "hopper/hopperlaw05.QueuePuts", spec := "queuePuts", inPlace := ["internal/abi.NoEscape", "slices.overlaps[hopper/api.Tx]"], unfollowed := true, recurses := true, apart := false, narrowed := true }
def QueuePutsUptoSaid : Prop := queuePutsUptoRow.holds Try.pinned (OpenSpec.upto queuePutsSpec)

/-- 'hopperlaw05.QueueBases', WHERE WHAT IT READS IS OF BULK AT MOST 1048576: true; the input reads as it did. -/
def queueBasesUptoRow : OpenClaim := { program := "ytehncbhmdgdkjaa", sum := "95c2ace43043a554ec1af397b9ab4319065b9576b6fee2965e70efcfb6a8b788", func := "hopper/hopperlaw05.QueueBases", spec := "queueBases", inPlace := ["internal/abi.NoEscape", "slices.overlaps[hopper/api.Tx]"], unfollowed := true, recurses := true, apart := false, narrowed := true }
def QueueBasesUptoSaid : Prop := queueBasesUptoRow.holds Try.pinned (OpenSpec.upto queueBasesSpec)

/-- 'hopperlaw05.QueuePlaces', WHERE WHAT IT READS IS OF BULK AT MOST 1048576: true; the input reads as it did. -/
def queuePlacesUptoRow : OpenClaim := { program := "ytehncbhmdgdkjaa", sum := "95c2ace43043a554ec1af397b9ab4319065b9576b6fee2965e70efcfb6a8b788", func := "hopper/hopperlaw05.QueuePlaces", spec := "queuePlaces", inPlace := ["internal/abi.NoEscape", "slices.overlaps[hopper/api.Tx]"], unfollowed := true, recurses := true, apart := false, narrowed := true }
def QueuePlacesUptoSaid : Prop := queuePlacesUptoRow.holds Try.pinned (OpenSpec.upto queuePlacesSpec)

/-- 'hopperlaw11.ShardJoins', WHERE WHAT IT READS IS OF BULK AT MOST 1048576: true; the input reads as it did. -/
def shardJoinsUptoRow : OpenClaim := { program := "ytehncbhmdgdkjaa", sum := "95c2ace43043a554ec1af397b9ab4319065b9576b6fee2965e70efcfb6a8b788", func := "hopper/hopperlaw11.ShardJoins", spec := "shardJoins", inPlace := ["slices.overlaps[hopper/api.Account]", "internal/abi.NoEscape", "internal/bytealg.abigen_runtime_cmpstring"], unfollowed := true, recurses := true, apart := false, narrowed := true }
def ShardJoinsUptoSaid : Prop := shardJoinsUptoRow.holds Try.pinned (OpenSpec.upto shardJoinsSpec)

/-- 'hopperlaw11.ShardWorst', WHERE WHAT IT READS IS OF BULK AT MOST 1048576: true; the input reads as it did. -/
def shardWorstUptoRow : OpenClaim := { program := "ytehncbhmdgdkjaa", sum := "95c2ace43043a554ec1af397b9ab4319065b9576b6fee2965e70efcfb6a8b788", func := "hopper/hopperlaw11.ShardWorst", spec := "shardWorst", inPlace := ["slices.overlaps[hopper/api.Account]", "internal/abi.NoEscape", "internal/bytealg.abigen_runtime_cmpstring"], unfollowed := true, recurses := true, apart := false, narrowed := true }
def ShardWorstUptoSaid : Prop := shardWorstUptoRow.holds Try.pinned (OpenSpec.upto shardWorstSpec)

/-- 'hopperlaw11.ShardOrder', WHERE WHAT IT READS IS OF BULK AT MOST 1048576: true; the input reads as it did. -/
def shardOrderUptoRow : OpenClaim := { program := "ytehncbhmdgdkjaa", sum := "95c2ace43043a554ec1af397b9ab4319065b9576b6fee2965e70efcfb6a8b788", func := "hopper/hopperlaw11.ShardOrder", spec := "shardOrder", inPlace := ["slices.overlaps[hopper/api.Account]", "internal/abi.NoEscape", "internal/bytealg.abigen_runtime_cmpstring"], unfollowed := true, recurses := true, apart := false, narrowed := true }
def ShardOrderUptoSaid : Prop := shardOrderUptoRow.holds Try.pinned (OpenSpec.upto shardOrderSpec)

/-- 'hopperlaw11.ShardSlots', WHERE WHAT IT READS IS OF BULK AT MOST 1048576: true; the input reads as it did. -/
def shardSlotsUptoRow : OpenClaim := { program := "ytehncbhmdgdkjaa", sum := "95c2ace43043a554ec1af397b9ab4319065b9576b6fee2965e70efcfb6a8b788", func := "hopper/hopperlaw11.ShardSlots", spec := "shardSlots", inPlace := ["slices.overlaps[hopper/api.Account]", "internal/abi.NoEscape", "internal/bytealg.abigen_runtime_cmpstring"], unfollowed := true, recurses := true, apart := false, narrowed := true }
def ShardSlotsUptoSaid : Prop := shardSlotsUptoRow.holds Try.pinned (OpenSpec.upto shardSlotsSpec)

end Rows
end Go.Proofs.Ytehncbhmdgdkjaa
