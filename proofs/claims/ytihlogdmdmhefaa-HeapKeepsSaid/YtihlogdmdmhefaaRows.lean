/-
  No cell of these rows narrows 'for every input' (looked for: loops, veiled, ifaces, maps, wideKeys, modest, calm, conditions, laid).
  DERIVED. THE GIVEN ROWS OF THIS SEAT. 29 by the template 'for every input the law returns true; each argument reads behind the call as it read before'; 0 by the template 'total and deterministic' (their statements: YtihlogdmdmhefaaTotals.lean).
  GIVEN WITH THE SEED: the statements are not yours to turn. If you find one false, say at which input.
  Laid BY PROGRAM, IN A SANDBOX (cutbox-rows.mjs): the forced cells as the released guide's own fill.sh prints them over the translation b694cb44ea3d0ee6… (all of the seat's roots in one cut). By AI agents, Wed Nov 11 2026. No macro, syntax, notation, axiom, sorry.
-/
import Derived.Test.YtihlogdmdmhefaaChecked
import GoSem.Claim
import GoSem.ClaimJoined
import GoSem.ClaimMapViews
import Derived.JoinedTies
import Derived.KernelRfl
namespace Go.Proofs.Ytihlogdmdmhefaa
/- THE CELL 'sum', in the pinned program and in every row, IS THE sha256 OF THE DUMP (.gsa) THAT YtihlogdmdmhefaaProg.lean LOADS. Nothing in Lean hashes anything: it is a label: what it is worth is what the hold of that sum in a sandbox is worth. -/
noncomputable def Try.pinned : Pinned := { name := "ytihlogdmdmhefaa", sum := "b694cb44ea3d0ee6cb1785ed2fc9567e88d5b6c800ddae1504dc35ddf541e99a", checked := Try.checked }
namespace Rows
def none {H : Type} : Left H := { results := [], args := [] }

/-- 'hopperlaw04.TxnTells': WHATEVER THE INPUT: true; the input reads as it did. -/
def txnTellsSpec : ChangeSpec := { name := "txnTells", fn := fun _ => fun
  | [d1, d2] => { results := [.lit (.bool true)], args := [d1, d2] }
  | _ => none }
def txnTellsRow : OpenClaim := { program := "ytihlogdmdmhefaa", sum := "b694cb44ea3d0ee6cb1785ed2fc9567e88d5b6c800ddae1504dc35ddf541e99a", func := "hopper/hopperlaw04.TxnTells", spec := "txnTells", inPlace := ["internal/abi.NoEscape", "internal/bytealg.abigen_runtime_cmpstring"], recurses := true, apart := false }
def TxnTellsSaid : Prop := txnTellsRow.holds Try.pinned (OpenSpec.ofChange txnTellsSpec)

/-- ITS FALSE NEIGHBOUR: 'it returns false'. Refute it at one input. -/
def txnTellsWrong : ChangeSpec := { name := "txnTells", fn := fun _ => fun
  | [d1, d2] => { results := [.lit (.bool false)], args := [d1, d2] }
  | _ => none }
def TxnTellsWrongFalsely : Prop := txnTellsRow.holds Try.pinned (OpenSpec.ofChange txnTellsWrong)

/-- 'hopperlaw04.TxnBack': WHATEVER THE INPUT: true; the input reads as it did. -/
def txnBackSpec : ChangeSpec := { name := "txnBack", fn := fun _ => fun
  | [d1, d2] => { results := [.lit (.bool true)], args := [d1, d2] }
  | _ => none }
def txnBackRow : OpenClaim := { program := "ytihlogdmdmhefaa", sum := "b694cb44ea3d0ee6cb1785ed2fc9567e88d5b6c800ddae1504dc35ddf541e99a", func := "hopper/hopperlaw04.TxnBack", spec := "txnBack", inPlace := ["internal/abi.NoEscape", "internal/bytealg.abigen_runtime_cmpstring"], apart := false }
def TxnBackSaid : Prop := txnBackRow.holds Try.pinned (OpenSpec.ofChange txnBackSpec)

/-- ITS FALSE NEIGHBOUR: 'it returns false'. Refute it at one input. -/
def txnBackWrong : ChangeSpec := { name := "txnBack", fn := fun _ => fun
  | [d1, d2] => { results := [.lit (.bool false)], args := [d1, d2] }
  | _ => none }
def TxnBackWrongFalsely : Prop := txnBackRow.holds Try.pinned (OpenSpec.ofChange txnBackWrong)

/-- 'hopperlaw04.TxnBetter': WHATEVER THE INPUT: true; the input reads as it did. -/
def txnBetterSpec : ChangeSpec := { name := "txnBetter", fn := fun _ => fun
  | [d1, d2] => { results := [.lit (.bool true)], args := [d1, d2] }
  | _ => none }
def txnBetterRow : OpenClaim := { program := "ytihlogdmdmhefaa", sum := "b694cb44ea3d0ee6cb1785ed2fc9567e88d5b6c800ddae1504dc35ddf541e99a", func := "hopper/hopperlaw04.TxnBetter", spec := "txnBetter", inPlace := ["internal/abi.NoEscape", "internal/bytealg.abigen_runtime_cmpstring"], recurses := true, apart := false }
def TxnBetterSaid : Prop := txnBetterRow.holds Try.pinned (OpenSpec.ofChange txnBetterSpec)

/-- ITS FALSE NEIGHBOUR: 'it returns false'. Refute it at one input. -/
def txnBetterWrong : ChangeSpec := { name := "txnBetter", fn := fun _ => fun
  | [d1, d2] => { results := [.lit (.bool false)], args := [d1, d2] }
  | _ => none }
def TxnBetterWrongFalsely : Prop := txnBetterRow.holds Try.pinned (OpenSpec.ofChange txnBetterWrong)

/-- 'hopperlaw04.TxnLine': WHATEVER THE INPUT: true; the input reads as it did. -/
def txnLineSpec : ChangeSpec := { name := "txnLine", fn := fun _ => fun
  | [d1, d2, d3] => { results := [.lit (.bool true)], args := [d1, d2, d3] }
  | _ => none }
def txnLineRow : OpenClaim := { program := "ytihlogdmdmhefaa", sum := "b694cb44ea3d0ee6cb1785ed2fc9567e88d5b6c800ddae1504dc35ddf541e99a", func := "hopper/hopperlaw04.TxnLine", spec := "txnLine", inPlace := ["internal/abi.NoEscape", "internal/bytealg.abigen_runtime_cmpstring"], apart := false }
def TxnLineSaid : Prop := txnLineRow.holds Try.pinned (OpenSpec.ofChange txnLineSpec)

/-- ITS FALSE NEIGHBOUR: 'it returns false'. Refute it at one input. -/
def txnLineWrong : ChangeSpec := { name := "txnLine", fn := fun _ => fun
  | [d1, d2, d3] => { results := [.lit (.bool false)], args := [d1, d2, d3] }
  | _ => none }
def TxnLineWrongFalsely : Prop := txnLineRow.holds Try.pinned (OpenSpec.ofChange txnLineWrong)

/-- 'hopperlaw04.TxnBytes': WHATEVER THE INPUT: true; the input reads as it did. -/
def txnBytesSpec : ChangeSpec := { name := "txnBytes", fn := fun _ => fun
  | [d1, d2, d3] => { results := [.lit (.bool true)], args := [d1, d2, d3] }
  | _ => none }
def txnBytesRow : OpenClaim := { program := "ytihlogdmdmhefaa", sum := "b694cb44ea3d0ee6cb1785ed2fc9567e88d5b6c800ddae1504dc35ddf541e99a", func := "hopper/hopperlaw04.TxnBytes", spec := "txnBytes", inPlace := ["internal/abi.NoEscape", "internal/bytealg.abigen_runtime_cmpstring"], apart := false }
def TxnBytesSaid : Prop := txnBytesRow.holds Try.pinned (OpenSpec.ofChange txnBytesSpec)

/-- ITS FALSE NEIGHBOUR: 'it returns false'. Refute it at one input. -/
def txnBytesWrong : ChangeSpec := { name := "txnBytes", fn := fun _ => fun
  | [d1, d2, d3] => { results := [.lit (.bool false)], args := [d1, d2, d3] }
  | _ => none }
def TxnBytesWrongFalsely : Prop := txnBytesRow.holds Try.pinned (OpenSpec.ofChange txnBytesWrong)

/-- 'hopperlaw04.TxnTips': WHATEVER THE INPUT: true; the input reads as it did. -/
def txnTipsSpec : ChangeSpec := { name := "txnTips", fn := fun _ => fun
  | [d1, d2] => { results := [.lit (.bool true)], args := [d1, d2] }
  | _ => none }
def txnTipsRow : OpenClaim := { program := "ytihlogdmdmhefaa", sum := "b694cb44ea3d0ee6cb1785ed2fc9567e88d5b6c800ddae1504dc35ddf541e99a", func := "hopper/hopperlaw04.TxnTips", spec := "txnTips", inPlace := ["internal/abi.NoEscape", "internal/bytealg.abigen_runtime_cmpstring"], apart := false }
def TxnTipsSaid : Prop := txnTipsRow.holds Try.pinned (OpenSpec.ofChange txnTipsSpec)

/-- ITS FALSE NEIGHBOUR: 'it returns false'. Refute it at one input. -/
def txnTipsWrong : ChangeSpec := { name := "txnTips", fn := fun _ => fun
  | [d1, d2] => { results := [.lit (.bool false)], args := [d1, d2] }
  | _ => none }
def TxnTipsWrongFalsely : Prop := txnTipsRow.holds Try.pinned (OpenSpec.ofChange txnTipsWrong)

/-- 'hopperlaw04.TxnSlots': WHATEVER THE INPUT: true; the input reads as it did. -/
def txnSlotsSpec : ChangeSpec := { name := "txnSlots", fn := fun _ => fun
  | [d1, d2] => { results := [.lit (.bool true)], args := [d1, d2] }
  | _ => none }
def txnSlotsRow : OpenClaim := { program := "ytihlogdmdmhefaa", sum := "b694cb44ea3d0ee6cb1785ed2fc9567e88d5b6c800ddae1504dc35ddf541e99a", func := "hopper/hopperlaw04.TxnSlots", spec := "txnSlots", inPlace := ["internal/abi.NoEscape", "internal/bytealg.abigen_runtime_cmpstring"], apart := false }
def TxnSlotsSaid : Prop := txnSlotsRow.holds Try.pinned (OpenSpec.ofChange txnSlotsSpec)

/-- ITS FALSE NEIGHBOUR: 'it returns false'. Refute it at one input. -/
def txnSlotsWrong : ChangeSpec := { name := "txnSlots", fn := fun _ => fun
  | [d1, d2] => { results := [.lit (.bool false)], args := [d1, d2] }
  | _ => none }
def TxnSlotsWrongFalsely : Prop := txnSlotsRow.holds Try.pinned (OpenSpec.ofChange txnSlotsWrong)

/-- 'hopperlaw05.QueueTells': WHATEVER THE INPUT: true; the input reads as it did. -/
def queueTellsSpec : ChangeSpec := { name := "queueTells", fn := fun _ => fun
  | [d1, d2, d3] => { results := [.lit (.bool true)], args := [d1, d2, d3] }
  | _ => none }
def queueTellsRow : OpenClaim := { program := "ytihlogdmdmhefaa", sum := "b694cb44ea3d0ee6cb1785ed2fc9567e88d5b6c800ddae1504dc35ddf541e99a", func := "hopper/hopperlaw05.QueueTells", spec := "queueTells", inPlace := ["internal/abi.NoEscape", "slices.overlaps[hopper/api.Tx]"], unfollowed := true, recurses := true, apart := false }
def QueueTellsSaid : Prop := queueTellsRow.holds Try.pinned (OpenSpec.ofChange queueTellsSpec)

/-- ITS FALSE NEIGHBOUR: 'it returns false'. Refute it at one input. -/
def queueTellsWrong : ChangeSpec := { name := "queueTells", fn := fun _ => fun
  | [d1, d2, d3] => { results := [.lit (.bool false)], args := [d1, d2, d3] }
  | _ => none }
def QueueTellsWrongFalsely : Prop := queueTellsRow.holds Try.pinned (OpenSpec.ofChange queueTellsWrong)

/-- 'hopperlaw05.QueueChanges': WHATEVER THE INPUT: true; the input reads as it did. -/
def queueChangesSpec : ChangeSpec := { name := "queueChanges", fn := fun _ => fun
  | [d1, d2, d3] => { results := [.lit (.bool true)], args := [d1, d2, d3] }
  | _ => none }
def queueChangesRow : OpenClaim := { program := "ytihlogdmdmhefaa", sum := "b694cb44ea3d0ee6cb1785ed2fc9567e88d5b6c800ddae1504dc35ddf541e99a", func := "hopper/hopperlaw05.QueueChanges", spec := "queueChanges", inPlace := ["internal/abi.NoEscape", "slices.overlaps[hopper/api.Tx]"], unfollowed := true, recurses := true, apart := false }
def QueueChangesSaid : Prop := queueChangesRow.holds Try.pinned (OpenSpec.ofChange queueChangesSpec)

/-- ITS FALSE NEIGHBOUR: 'it returns false'. Refute it at one input. -/
def queueChangesWrong : ChangeSpec := { name := "queueChanges", fn := fun _ => fun
  | [d1, d2, d3] => { results := [.lit (.bool false)], args := [d1, d2, d3] }
  | _ => none }
def QueueChangesWrongFalsely : Prop := queueChangesRow.holds Try.pinned (OpenSpec.ofChange queueChangesWrong)

/-- 'hopperlaw05.QueueMay': WHATEVER THE INPUT: true; the input reads as it did. -/
def queueMaySpec : ChangeSpec := { name := "queueMay", fn := fun _ => fun
  | [d1, d2, d3] => { results := [.lit (.bool true)], args := [d1, d2, d3] }
  | _ => none }
def queueMayRow : OpenClaim := { program := "ytihlogdmdmhefaa", sum := "b694cb44ea3d0ee6cb1785ed2fc9567e88d5b6c800ddae1504dc35ddf541e99a", func := "hopper/hopperlaw05.QueueMay", spec := "queueMay", inPlace := ["internal/abi.NoEscape", "slices.overlaps[hopper/api.Tx]"], unfollowed := true, recurses := true, apart := false }
def QueueMaySaid : Prop := queueMayRow.holds Try.pinned (OpenSpec.ofChange queueMaySpec)

/-- ITS FALSE NEIGHBOUR: 'it returns false'. Refute it at one input. -/
def queueMayWrong : ChangeSpec := { name := "queueMay", fn := fun _ => fun
  | [d1, d2, d3] => { results := [.lit (.bool false)], args := [d1, d2, d3] }
  | _ => none }
def QueueMayWrongFalsely : Prop := queueMayRow.holds Try.pinned (OpenSpec.ofChange queueMayWrong)

/-- 'hopperlaw05.QueueReady': WHATEVER THE INPUT: true; the input reads as it did. -/
def queueReadySpec : ChangeSpec := { name := "queueReady", fn := fun _ => fun
  | [d1, d2] => { results := [.lit (.bool true)], args := [d1, d2] }
  | _ => none }
def queueReadyRow : OpenClaim := { program := "ytihlogdmdmhefaa", sum := "b694cb44ea3d0ee6cb1785ed2fc9567e88d5b6c800ddae1504dc35ddf541e99a", func := "hopper/hopperlaw05.QueueReady", spec := "queueReady", inPlace := ["internal/abi.NoEscape", "slices.overlaps[hopper/api.Tx]"], unfollowed := true, recurses := true, apart := false }
def QueueReadySaid : Prop := queueReadyRow.holds Try.pinned (OpenSpec.ofChange queueReadySpec)

/-- ITS FALSE NEIGHBOUR: 'it returns false'. Refute it at one input. -/
def queueReadyWrong : ChangeSpec := { name := "queueReady", fn := fun _ => fun
  | [d1, d2] => { results := [.lit (.bool false)], args := [d1, d2] }
  | _ => none }
def QueueReadyWrongFalsely : Prop := queueReadyRow.holds Try.pinned (OpenSpec.ofChange queueReadyWrong)

/-- 'hopperlaw05.QueuePuts': WHATEVER THE INPUT: true; the input reads as it did. -/
def queuePutsSpec : ChangeSpec := { name := "queuePuts", fn := fun _ => fun
  | [d1, d2, d3] => { results := [.lit (.bool true)], args := [d1, d2, d3] }
  | _ => none }
def queuePutsRow : OpenClaim := { program := "ytihlogdmdmhefaa", sum := "b694cb44ea3d0ee6cb1785ed2fc9567e88d5b6c800ddae1504dc35ddf541e99a", func := "hopper/hopperlaw05.QueuePuts", spec := "queuePuts", inPlace := ["internal/abi.NoEscape", "slices.overlaps[hopper/api.Tx]"], unfollowed := true, recurses := true, apart := false }
def QueuePutsSaid : Prop := queuePutsRow.holds Try.pinned (OpenSpec.ofChange queuePutsSpec)

/-- ITS FALSE NEIGHBOUR: 'it returns false'. Refute it at one input. -/
def queuePutsWrong : ChangeSpec := { name := "queuePuts", fn := fun _ => fun
  | [d1, d2, d3] => { results := [.lit (.bool false)], args := [d1, d2, d3] }
  | _ => none }
def QueuePutsWrongFalsely : Prop := queuePutsRow.holds Try.pinned (OpenSpec.ofChange queuePutsWrong)

/-- 'hopperlaw05.QueueBases': WHATEVER THE INPUT: true; the input reads as it did. -/
def queueBasesSpec : ChangeSpec := { name := "queueBases", fn := fun _ => fun
  | [d1, d2, d3] => { results := [.lit (.bool true)], args := [d1, d2, d3] }
  | _ => none }
def queueBasesRow : OpenClaim := { program := "ytihlogdmdmhefaa", sum := "b694cb44ea3d0ee6cb1785ed2fc9567e88d5b6c800ddae1504dc35ddf541e99a", func := "hopper/hopperlaw05.QueueBases", spec := "queueBases", inPlace := ["internal/abi.NoEscape", "slices.overlaps[hopper/api.Tx]"], unfollowed := true, recurses := true, apart := false }
def QueueBasesSaid : Prop := queueBasesRow.holds Try.pinned (OpenSpec.ofChange queueBasesSpec)

/-- ITS FALSE NEIGHBOUR: 'it returns false'. Refute it at one input. -/
def queueBasesWrong : ChangeSpec := { name := "queueBases", fn := fun _ => fun
  | [d1, d2, d3] => { results := [.lit (.bool false)], args := [d1, d2, d3] }
  | _ => none }
def QueueBasesWrongFalsely : Prop := queueBasesRow.holds Try.pinned (OpenSpec.ofChange queueBasesWrong)

/-- 'hopperlaw05.QueuePlaces': WHATEVER THE INPUT: true; the input reads as it did. -/
def queuePlacesSpec : ChangeSpec := { name := "queuePlaces", fn := fun _ => fun
  | [d1, d2, d3] => { results := [.lit (.bool true)], args := [d1, d2, d3] }
  | _ => none }
def queuePlacesRow : OpenClaim := { program := "ytihlogdmdmhefaa", sum := "b694cb44ea3d0ee6cb1785ed2fc9567e88d5b6c800ddae1504dc35ddf541e99a", func := "hopper/hopperlaw05.QueuePlaces", spec := "queuePlaces", inPlace := ["internal/abi.NoEscape", "slices.overlaps[hopper/api.Tx]"], unfollowed := true, recurses := true, apart := false }
def QueuePlacesSaid : Prop := queuePlacesRow.holds Try.pinned (OpenSpec.ofChange queuePlacesSpec)

/-- ITS FALSE NEIGHBOUR: 'it returns false'. Refute it at one input. -/
def queuePlacesWrong : ChangeSpec := { name := "queuePlaces", fn := fun _ => fun
  | [d1, d2, d3] => { results := [.lit (.bool false)], args := [d1, d2, d3] }
  | _ => none }
def QueuePlacesWrongFalsely : Prop := queuePlacesRow.holds Try.pinned (OpenSpec.ofChange queuePlacesWrong)

/-- 'hopperlaw06.HeapTells': WHATEVER THE INPUT: true; the input reads as it did. -/
def heapTellsSpec : ChangeSpec := { name := "heapTells", fn := fun _ => fun
  | [d1, d2] => { results := [.lit (.bool true)], args := [d1, d2] }
  | _ => none }
def heapTellsRow : OpenClaim := { program := "ytihlogdmdmhefaa", sum := "b694cb44ea3d0ee6cb1785ed2fc9567e88d5b6c800ddae1504dc35ddf541e99a", func := "hopper/hopperlaw06.HeapTells", spec := "heapTells", inPlace := ["internal/abi.NoEscape", "internal/bytealg.abigen_runtime_cmpstring"], unfollowed := true, recurses := true, apart := false }
def HeapTellsSaid : Prop := heapTellsRow.holds Try.pinned (OpenSpec.ofChange heapTellsSpec)

/-- ITS FALSE NEIGHBOUR: 'it returns false'. Refute it at one input. -/
def heapTellsWrong : ChangeSpec := { name := "heapTells", fn := fun _ => fun
  | [d1, d2] => { results := [.lit (.bool false)], args := [d1, d2] }
  | _ => none }
def HeapTellsWrongFalsely : Prop := heapTellsRow.holds Try.pinned (OpenSpec.ofChange heapTellsWrong)

/-- 'hopperlaw06.HeapStays': WHATEVER THE INPUT: true; the input reads as it did. -/
def heapStaysSpec : ChangeSpec := { name := "heapStays", fn := fun _ => fun
  | [d1, d2] => { results := [.lit (.bool true)], args := [d1, d2] }
  | _ => none }
def heapStaysRow : OpenClaim := { program := "ytihlogdmdmhefaa", sum := "b694cb44ea3d0ee6cb1785ed2fc9567e88d5b6c800ddae1504dc35ddf541e99a", func := "hopper/hopperlaw06.HeapStays", spec := "heapStays", inPlace := ["internal/abi.NoEscape", "internal/bytealg.abigen_runtime_cmpstring"], unfollowed := true, recurses := true, apart := false }
def HeapStaysSaid : Prop := heapStaysRow.holds Try.pinned (OpenSpec.ofChange heapStaysSpec)

/-- ITS FALSE NEIGHBOUR: 'it returns false'. Refute it at one input. -/
def heapStaysWrong : ChangeSpec := { name := "heapStays", fn := fun _ => fun
  | [d1, d2] => { results := [.lit (.bool false)], args := [d1, d2] }
  | _ => none }
def HeapStaysWrongFalsely : Prop := heapStaysRow.holds Try.pinned (OpenSpec.ofChange heapStaysWrong)

/-- 'hopperlaw06.HeapOrders': WHATEVER THE INPUT: true; the input reads as it did. -/
def heapOrdersSpec : ChangeSpec := { name := "heapOrders", fn := fun _ => fun
  | [d] => { results := [.lit (.bool true)], args := [d] }
  | _ => none }
def heapOrdersRow : OpenClaim := { program := "ytihlogdmdmhefaa", sum := "b694cb44ea3d0ee6cb1785ed2fc9567e88d5b6c800ddae1504dc35ddf541e99a", func := "hopper/hopperlaw06.HeapOrders", spec := "heapOrders", inPlace := ["internal/abi.NoEscape", "internal/bytealg.abigen_runtime_cmpstring"], unfollowed := true, recurses := true, apart := false }
def HeapOrdersSaid : Prop := heapOrdersRow.holds Try.pinned (OpenSpec.ofChange heapOrdersSpec)

/-- ITS FALSE NEIGHBOUR: 'it returns false'. Refute it at one input. -/
def heapOrdersWrong : ChangeSpec := { name := "heapOrders", fn := fun _ => fun
  | [d] => { results := [.lit (.bool false)], args := [d] }
  | _ => none }
def HeapOrdersWrongFalsely : Prop := heapOrdersRow.holds Try.pinned (OpenSpec.ofChange heapOrdersWrong)

/-- 'hopperlaw06.HeapWorst': WHATEVER THE INPUT: true; the input reads as it did. -/
def heapWorstSpec : ChangeSpec := { name := "heapWorst", fn := fun _ => fun
  | [d] => { results := [.lit (.bool true)], args := [d] }
  | _ => none }
def heapWorstRow : OpenClaim := { program := "ytihlogdmdmhefaa", sum := "b694cb44ea3d0ee6cb1785ed2fc9567e88d5b6c800ddae1504dc35ddf541e99a", func := "hopper/hopperlaw06.HeapWorst", spec := "heapWorst", inPlace := ["internal/abi.NoEscape", "internal/bytealg.abigen_runtime_cmpstring"], unfollowed := true, recurses := true, apart := false }
def HeapWorstSaid : Prop := heapWorstRow.holds Try.pinned (OpenSpec.ofChange heapWorstSpec)

/-- ITS FALSE NEIGHBOUR: 'it returns false'. Refute it at one input. -/
def heapWorstWrong : ChangeSpec := { name := "heapWorst", fn := fun _ => fun
  | [d] => { results := [.lit (.bool false)], args := [d] }
  | _ => none }
def HeapWorstWrongFalsely : Prop := heapWorstRow.holds Try.pinned (OpenSpec.ofChange heapWorstWrong)

/-- 'hopperlaw06.HeapPops': WHATEVER THE INPUT: true; the input reads as it did. -/
def heapPopsSpec : ChangeSpec := { name := "heapPops", fn := fun _ => fun
  | [d] => { results := [.lit (.bool true)], args := [d] }
  | _ => none }
def heapPopsRow : OpenClaim := { program := "ytihlogdmdmhefaa", sum := "b694cb44ea3d0ee6cb1785ed2fc9567e88d5b6c800ddae1504dc35ddf541e99a", func := "hopper/hopperlaw06.HeapPops", spec := "heapPops", inPlace := ["internal/abi.NoEscape", "internal/bytealg.abigen_runtime_cmpstring"], unfollowed := true, recurses := true, apart := false }
def HeapPopsSaid : Prop := heapPopsRow.holds Try.pinned (OpenSpec.ofChange heapPopsSpec)

/-- ITS FALSE NEIGHBOUR: 'it returns false'. Refute it at one input. -/
def heapPopsWrong : ChangeSpec := { name := "heapPops", fn := fun _ => fun
  | [d] => { results := [.lit (.bool false)], args := [d] }
  | _ => none }
def HeapPopsWrongFalsely : Prop := heapPopsRow.holds Try.pinned (OpenSpec.ofChange heapPopsWrong)

/-- 'hopperlaw06.HeapKeeps': WHATEVER THE INPUT: true; the input reads as it did. -/
def heapKeepsSpec : ChangeSpec := { name := "heapKeeps", fn := fun _ => fun
  | [d1, d2] => { results := [.lit (.bool true)], args := [d1, d2] }
  | _ => none }
def heapKeepsRow : OpenClaim := { program := "ytihlogdmdmhefaa", sum := "b694cb44ea3d0ee6cb1785ed2fc9567e88d5b6c800ddae1504dc35ddf541e99a", func := "hopper/hopperlaw06.HeapKeeps", spec := "heapKeeps", inPlace := ["internal/abi.NoEscape", "internal/bytealg.abigen_runtime_cmpstring"], unfollowed := true, recurses := true, apart := false }
def HeapKeepsSaid : Prop := heapKeepsRow.holds Try.pinned (OpenSpec.ofChange heapKeepsSpec)

/-- ITS FALSE NEIGHBOUR: 'it returns false'. Refute it at one input. -/
def heapKeepsWrong : ChangeSpec := { name := "heapKeeps", fn := fun _ => fun
  | [d1, d2] => { results := [.lit (.bool false)], args := [d1, d2] }
  | _ => none }
def HeapKeepsWrongFalsely : Prop := heapKeepsRow.holds Try.pinned (OpenSpec.ofChange heapKeepsWrong)

/-- 'hopperlaw11.ShardJoins': WHATEVER THE INPUT: true; the input reads as it did. -/
def shardJoinsSpec : ChangeSpec := { name := "shardJoins", fn := fun _ => fun
  | [d] => { results := [.lit (.bool true)], args := [d] }
  | _ => none }
def shardJoinsRow : OpenClaim := { program := "ytihlogdmdmhefaa", sum := "b694cb44ea3d0ee6cb1785ed2fc9567e88d5b6c800ddae1504dc35ddf541e99a", func := "hopper/hopperlaw11.ShardJoins", spec := "shardJoins", inPlace := ["slices.overlaps[hopper/api.Account]", "internal/abi.NoEscape", "internal/bytealg.abigen_runtime_cmpstring"], unfollowed := true, recurses := true, apart := false }
def ShardJoinsSaid : Prop := shardJoinsRow.holds Try.pinned (OpenSpec.ofChange shardJoinsSpec)

/-- ITS FALSE NEIGHBOUR: 'it returns false'. Refute it at one input. -/
def shardJoinsWrong : ChangeSpec := { name := "shardJoins", fn := fun _ => fun
  | [d] => { results := [.lit (.bool false)], args := [d] }
  | _ => none }
def ShardJoinsWrongFalsely : Prop := shardJoinsRow.holds Try.pinned (OpenSpec.ofChange shardJoinsWrong)

/-- 'hopperlaw11.ShardWorst': WHATEVER THE INPUT: true; the input reads as it did. -/
def shardWorstSpec : ChangeSpec := { name := "shardWorst", fn := fun _ => fun
  | [d] => { results := [.lit (.bool true)], args := [d] }
  | _ => none }
def shardWorstRow : OpenClaim := { program := "ytihlogdmdmhefaa", sum := "b694cb44ea3d0ee6cb1785ed2fc9567e88d5b6c800ddae1504dc35ddf541e99a", func := "hopper/hopperlaw11.ShardWorst", spec := "shardWorst", inPlace := ["slices.overlaps[hopper/api.Account]", "internal/abi.NoEscape", "internal/bytealg.abigen_runtime_cmpstring"], unfollowed := true, recurses := true, apart := false }
def ShardWorstSaid : Prop := shardWorstRow.holds Try.pinned (OpenSpec.ofChange shardWorstSpec)

/-- ITS FALSE NEIGHBOUR: 'it returns false'. Refute it at one input. -/
def shardWorstWrong : ChangeSpec := { name := "shardWorst", fn := fun _ => fun
  | [d] => { results := [.lit (.bool false)], args := [d] }
  | _ => none }
def ShardWorstWrongFalsely : Prop := shardWorstRow.holds Try.pinned (OpenSpec.ofChange shardWorstWrong)

/-- 'hopperlaw11.ShardOrder': WHATEVER THE INPUT: true; the input reads as it did. -/
def shardOrderSpec : ChangeSpec := { name := "shardOrder", fn := fun _ => fun
  | [d1, d2, d3] => { results := [.lit (.bool true)], args := [d1, d2, d3] }
  | _ => none }
def shardOrderRow : OpenClaim := { program := "ytihlogdmdmhefaa", sum := "b694cb44ea3d0ee6cb1785ed2fc9567e88d5b6c800ddae1504dc35ddf541e99a", func := "hopper/hopperlaw11.ShardOrder", spec := "shardOrder", inPlace := ["slices.overlaps[hopper/api.Account]", "internal/abi.NoEscape", "internal/bytealg.abigen_runtime_cmpstring"], unfollowed := true, recurses := true, apart := false }
def ShardOrderSaid : Prop := shardOrderRow.holds Try.pinned (OpenSpec.ofChange shardOrderSpec)

/-- ITS FALSE NEIGHBOUR: 'it returns false'. Refute it at one input. -/
def shardOrderWrong : ChangeSpec := { name := "shardOrder", fn := fun _ => fun
  | [d1, d2, d3] => { results := [.lit (.bool false)], args := [d1, d2, d3] }
  | _ => none }
def ShardOrderWrongFalsely : Prop := shardOrderRow.holds Try.pinned (OpenSpec.ofChange shardOrderWrong)

/-- 'hopperlaw11.ShardSlots': WHATEVER THE INPUT: true; the input reads as it did. -/
def shardSlotsSpec : ChangeSpec := { name := "shardSlots", fn := fun _ => fun
  | [d] => { results := [.lit (.bool true)], args := [d] }
  | _ => none }
def shardSlotsRow : OpenClaim := { program := "ytihlogdmdmhefaa", sum := "b694cb44ea3d0ee6cb1785ed2fc9567e88d5b6c800ddae1504dc35ddf541e99a", func := "hopper/hopperlaw11.ShardSlots", spec := "shardSlots", inPlace := ["slices.overlaps[hopper/api.Account]", "internal/abi.NoEscape", "internal/bytealg.abigen_runtime_cmpstring"], unfollowed := true, recurses := true, apart := false }
def ShardSlotsSaid : Prop := shardSlotsRow.holds Try.pinned (OpenSpec.ofChange shardSlotsSpec)

/-- ITS FALSE NEIGHBOUR: 'it returns false'. Refute it at one input. -/
def shardSlotsWrong : ChangeSpec := { name := "shardSlots", fn := fun _ => fun
  | [d] => { results := [.lit (.bool false)], args := [d] }
  | _ => none }
def ShardSlotsWrongFalsely : Prop := shardSlotsRow.holds Try.pinned (OpenSpec.ofChange shardSlotsWrong)

/-- 'hopperlaw12.GreedyTells': WHATEVER THE INPUT: true; the input reads as it did. -/
def greedyTellsSpec : ChangeSpec := { name := "greedyTells", fn := fun _ => fun
  | [d1, d2, d3] => { results := [.lit (.bool true)], args := [d1, d2, d3] }
  | _ => none }
def greedyTellsRow : OpenClaim := { program := "ytihlogdmdmhefaa", sum := "b694cb44ea3d0ee6cb1785ed2fc9567e88d5b6c800ddae1504dc35ddf541e99a", func := "hopper/hopperlaw12.GreedyTells", spec := "greedyTells", inPlace := ["internal/abi.NoEscape", "internal/bytealg.abigen_runtime_cmpstring"], unfollowed := true, recurses := true, apart := false }
def GreedyTellsSaid : Prop := greedyTellsRow.holds Try.pinned (OpenSpec.ofChange greedyTellsSpec)

/-- ITS FALSE NEIGHBOUR: 'it returns false'. Refute it at one input. -/
def greedyTellsWrong : ChangeSpec := { name := "greedyTells", fn := fun _ => fun
  | [d1, d2, d3] => { results := [.lit (.bool false)], args := [d1, d2, d3] }
  | _ => none }
def GreedyTellsWrongFalsely : Prop := greedyTellsRow.holds Try.pinned (OpenSpec.ofChange greedyTellsWrong)

/-- 'hopperlaw12.GreedyTakes': WHATEVER THE INPUT: true; the input reads as it did. -/
def greedyTakesSpec : ChangeSpec := { name := "greedyTakes", fn := fun _ => fun
  | [d1, d2] => { results := [.lit (.bool true)], args := [d1, d2] }
  | _ => none }
def greedyTakesRow : OpenClaim := { program := "ytihlogdmdmhefaa", sum := "b694cb44ea3d0ee6cb1785ed2fc9567e88d5b6c800ddae1504dc35ddf541e99a", func := "hopper/hopperlaw12.GreedyTakes", spec := "greedyTakes", inPlace := ["internal/abi.NoEscape", "internal/bytealg.abigen_runtime_cmpstring"], unfollowed := true, recurses := true, apart := false }
def GreedyTakesSaid : Prop := greedyTakesRow.holds Try.pinned (OpenSpec.ofChange greedyTakesSpec)

/-- ITS FALSE NEIGHBOUR: 'it returns false'. Refute it at one input. -/
def greedyTakesWrong : ChangeSpec := { name := "greedyTakes", fn := fun _ => fun
  | [d1, d2] => { results := [.lit (.bool false)], args := [d1, d2] }
  | _ => none }
def GreedyTakesWrongFalsely : Prop := greedyTakesRow.holds Try.pinned (OpenSpec.ofChange greedyTakesWrong)

/-- 'hopperlaw12.GreedyMore': WHATEVER THE INPUT: true; the input reads as it did. -/
def greedyMoreSpec : ChangeSpec := { name := "greedyMore", fn := fun _ => fun
  | [d] => { results := [.lit (.bool true)], args := [d] }
  | _ => none }
def greedyMoreRow : OpenClaim := { program := "ytihlogdmdmhefaa", sum := "b694cb44ea3d0ee6cb1785ed2fc9567e88d5b6c800ddae1504dc35ddf541e99a", func := "hopper/hopperlaw12.GreedyMore", spec := "greedyMore", inPlace := ["internal/abi.NoEscape", "internal/bytealg.abigen_runtime_cmpstring"], unfollowed := true, recurses := true, apart := false }
def GreedyMoreSaid : Prop := greedyMoreRow.holds Try.pinned (OpenSpec.ofChange greedyMoreSpec)

/-- ITS FALSE NEIGHBOUR: 'it returns false'. Refute it at one input. -/
def greedyMoreWrong : ChangeSpec := { name := "greedyMore", fn := fun _ => fun
  | [d] => { results := [.lit (.bool false)], args := [d] }
  | _ => none }
def GreedyMoreWrongFalsely : Prop := greedyMoreRow.holds Try.pinned (OpenSpec.ofChange greedyMoreWrong)

/-- 'hopperlaw12.GreedyGas': WHATEVER THE INPUT: true; the input reads as it did. -/
def greedyGasSpec : ChangeSpec := { name := "greedyGas", fn := fun _ => fun
  | [d1, d2] => { results := [.lit (.bool true)], args := [d1, d2] }
  | _ => none }
def greedyGasRow : OpenClaim := { program := "ytihlogdmdmhefaa", sum := "b694cb44ea3d0ee6cb1785ed2fc9567e88d5b6c800ddae1504dc35ddf541e99a", func := "hopper/hopperlaw12.GreedyGas", spec := "greedyGas", inPlace := ["internal/abi.NoEscape", "internal/bytealg.abigen_runtime_cmpstring"], unfollowed := true, recurses := true, apart := false }
def GreedyGasSaid : Prop := greedyGasRow.holds Try.pinned (OpenSpec.ofChange greedyGasSpec)

/-- ITS FALSE NEIGHBOUR: 'it returns false'. Refute it at one input. -/
def greedyGasWrong : ChangeSpec := { name := "greedyGas", fn := fun _ => fun
  | [d1, d2] => { results := [.lit (.bool false)], args := [d1, d2] }
  | _ => none }
def GreedyGasWrongFalsely : Prop := greedyGasRow.holds Try.pinned (OpenSpec.ofChange greedyGasWrong)

/-- 'hopperlaw12.GreedyHeads': WHATEVER THE INPUT: true; the input reads as it did. -/
def greedyHeadsSpec : ChangeSpec := { name := "greedyHeads", fn := fun _ => fun
  | [d1, d2] => { results := [.lit (.bool true)], args := [d1, d2] }
  | _ => none }
def greedyHeadsRow : OpenClaim := { program := "ytihlogdmdmhefaa", sum := "b694cb44ea3d0ee6cb1785ed2fc9567e88d5b6c800ddae1504dc35ddf541e99a", func := "hopper/hopperlaw12.GreedyHeads", spec := "greedyHeads", inPlace := ["internal/abi.NoEscape", "internal/bytealg.abigen_runtime_cmpstring"], unfollowed := true, recurses := true, apart := false }
def GreedyHeadsSaid : Prop := greedyHeadsRow.holds Try.pinned (OpenSpec.ofChange greedyHeadsSpec)

/-- ITS FALSE NEIGHBOUR: 'it returns false'. Refute it at one input. -/
def greedyHeadsWrong : ChangeSpec := { name := "greedyHeads", fn := fun _ => fun
  | [d1, d2] => { results := [.lit (.bool false)], args := [d1, d2] }
  | _ => none }
def GreedyHeadsWrongFalsely : Prop := greedyHeadsRow.holds Try.pinned (OpenSpec.ofChange greedyHeadsWrong)

/- THE SECOND FORM. 'bulk': how many values and letters a reading holds, each counted each time it is reached (what is shared counts as often as it is met; a slice's spare places count too). A statement '..UptoSaid' is the law's where the arguments, and the package variables that the reading takes, are together of bulk at most 1048576: NARROWER than '..Said'. Prove '..Said' where nothing that the law and all that it calls make is longer than what came in: it says more and counts as full. Else prove '..UptoSaid'. A law counts once. -/
mutual
def uptoBulk {H : Type} : DataW H → Nat
  | .lit (.string bytes) => bytes.length + 1
  | .lit _ => 1
  | .nil => 1
  | .ptr d => uptoBulk d + 1
  | .slice elems spare => uptoBulkAll elems + uptoBulkAll spare + 1
  | .agg parts => uptoBulkAll parts + 1
  | .iface _ d => uptoBulk d + 1
  | .map entries => uptoBulkEntries entries + 1
  | .held _ => 1
def uptoBulkAll {H : Type} : List (DataW H) → Nat
  | [] => 0
  | d :: r => uptoBulk d + uptoBulkAll r
def uptoBulkEntries {H : Type} : List (Lit × DataW H) → Nat
  | [] => 0
  | x :: r => uptoBulkEntry x + uptoBulkEntries r
def uptoBulkEntry {H : Type} : Lit × DataW H → Nat
  | (.string bytes, d) => bytes.length + uptoBulk d + 1
  | (_, d) => uptoBulk d + 1
 end
def uptoSmall : (H : Type) → List (DataW H) → Bool := fun _ ds => decide (uptoBulkAll ds ≤ 1048576)
def OpenSpec.upto (s : _root_.Go.ChangeSpec) : _root_.Go.OpenSpec := { _root_.Go.OpenSpec.ofChange s with cond := some uptoSmall }

/-- 'hopperlaw04.TxnTells', WHERE WHAT IT READS IS OF BULK AT MOST 1048576: true; the input reads as it did. -/
def txnTellsUptoRow : OpenClaim := { program := "ytihlogdmdmhefaa", sum := "b694cb44ea3d0ee6cb1785ed2fc9567e88d5b6c800ddae1504dc35ddf541e99a", func := "hopper/hopperlaw04.TxnTells", spec := "txnTells", inPlace := ["internal/abi.NoEscape", "internal/bytealg.abigen_runtime_cmpstring"], recurses := true, apart := false, narrowed := true }
def TxnTellsUptoSaid : Prop := txnTellsUptoRow.holds Try.pinned (OpenSpec.upto txnTellsSpec)

/-- 'hopperlaw04.TxnBack', WHERE WHAT IT READS IS OF BULK AT MOST 1048576: true; the input reads as it did. -/
def txnBackUptoRow : OpenClaim := { program := "ytihlogdmdmhefaa", sum := "b694cb44ea3d0ee6cb1785ed2fc9567e88d5b6c800ddae1504dc35ddf541e99a", func := "hopper/hopperlaw04.TxnBack", spec := "txnBack", inPlace := ["internal/abi.NoEscape", "internal/bytealg.abigen_runtime_cmpstring"], apart := false, narrowed := true }
def TxnBackUptoSaid : Prop := txnBackUptoRow.holds Try.pinned (OpenSpec.upto txnBackSpec)

/-- 'hopperlaw04.TxnBetter', WHERE WHAT IT READS IS OF BULK AT MOST 1048576: true; the input reads as it did. -/
def txnBetterUptoRow : OpenClaim := { program := "ytihlogdmdmhefaa", sum := "b694cb44ea3d0ee6cb1785ed2fc9567e88d5b6c800ddae1504dc35ddf541e99a", func := "hopper/hopperlaw04.TxnBetter", spec := "txnBetter", inPlace := ["internal/abi.NoEscape", "internal/bytealg.abigen_runtime_cmpstring"], recurses := true, apart := false, narrowed := true }
def TxnBetterUptoSaid : Prop := txnBetterUptoRow.holds Try.pinned (OpenSpec.upto txnBetterSpec)

/-- 'hopperlaw04.TxnLine', WHERE WHAT IT READS IS OF BULK AT MOST 1048576: true; the input reads as it did. -/
def txnLineUptoRow : OpenClaim := { program := "ytihlogdmdmhefaa", sum := "b694cb44ea3d0ee6cb1785ed2fc9567e88d5b6c800ddae1504dc35ddf541e99a", func := "hopper/hopperlaw04.TxnLine", spec := "txnLine", inPlace := ["internal/abi.NoEscape", "internal/bytealg.abigen_runtime_cmpstring"], apart := false, narrowed := true }
def TxnLineUptoSaid : Prop := txnLineUptoRow.holds Try.pinned (OpenSpec.upto txnLineSpec)

/-- 'hopperlaw04.TxnBytes', WHERE WHAT IT READS IS OF BULK AT MOST 1048576: true; the input reads as it did. -/
def txnBytesUptoRow : OpenClaim := { program := "ytihlogdmdmhefaa", sum := "b694cb44ea3d0ee6cb1785ed2fc9567e88d5b6c800ddae1504dc35ddf541e99a", func := "hopper/hopperlaw04.TxnBytes", spec := "txnBytes", inPlace := ["internal/abi.NoEscape", "internal/bytealg.abigen_runtime_cmpstring"], apart := false, narrowed := true }
def TxnBytesUptoSaid : Prop := txnBytesUptoRow.holds Try.pinned (OpenSpec.upto txnBytesSpec)

/-- 'hopperlaw04.TxnTips', WHERE WHAT IT READS IS OF BULK AT MOST 1048576: true; the input reads as it did. -/
def txnTipsUptoRow : OpenClaim := { program := "ytihlogdmdmhefaa", sum := "b694cb44ea3d0ee6cb1785ed2fc9567e88d5b6c800ddae1504dc35ddf541e99a", func := "hopper/hopperlaw04.TxnTips", spec := "txnTips", inPlace := ["internal/abi.NoEscape", "internal/bytealg.abigen_runtime_cmpstring"], apart := false, narrowed := true }
def TxnTipsUptoSaid : Prop := txnTipsUptoRow.holds Try.pinned (OpenSpec.upto txnTipsSpec)

/-- 'hopperlaw04.TxnSlots', WHERE WHAT IT READS IS OF BULK AT MOST 1048576: true; the input reads as it did. -/
def txnSlotsUptoRow : OpenClaim := { program := "ytihlogdmdmhefaa", sum := "b694cb44ea3d0ee6cb1785ed2fc9567e88d5b6c800ddae1504dc35ddf541e99a", func := "hopper/hopperlaw04.TxnSlots", spec := "txnSlots", inPlace := ["internal/abi.NoEscape", "internal/bytealg.abigen_runtime_cmpstring"], apart := false, narrowed := true }
def TxnSlotsUptoSaid : Prop := txnSlotsUptoRow.holds Try.pinned (OpenSpec.upto txnSlotsSpec)

/-- 'hopperlaw05.QueueTells', WHERE WHAT IT READS IS OF BULK AT MOST 1048576: true; the input reads as it did. -/
def queueTellsUptoRow : OpenClaim := { program := "ytihlogdmdmhefaa", sum := "b694cb44ea3d0ee6cb1785ed2fc9567e88d5b6c800ddae1504dc35ddf541e99a", func := "hopper/hopperlaw05.QueueTells", spec := "queueTells", inPlace := ["internal/abi.NoEscape", "slices.overlaps[hopper/api.Tx]"], unfollowed := true, recurses := true, apart := false, narrowed := true }
def QueueTellsUptoSaid : Prop := queueTellsUptoRow.holds Try.pinned (OpenSpec.upto queueTellsSpec)

/-- 'hopperlaw05.QueueChanges', WHERE WHAT IT READS IS OF BULK AT MOST 1048576: true; the input reads as it did. -/
def queueChangesUptoRow : OpenClaim := { program := "ytihlogdmdmhefaa", sum := "b694cb44ea3d0ee6cb1785ed2fc9567e88d5b6c800ddae1504dc35ddf541e99a", func := "hopper/hopperlaw05.QueueChanges", spec := "queueChanges", inPlace := ["internal/abi.NoEscape", "slices.overlaps[hopper/api.Tx]"], unfollowed := true, recurses := true, apart := false, narrowed := true }
def QueueChangesUptoSaid : Prop := queueChangesUptoRow.holds Try.pinned (OpenSpec.upto queueChangesSpec)

/-- 'hopperlaw05.QueueMay', WHERE WHAT IT READS IS OF BULK AT MOST 1048576: true; the input reads as it did. -/
def queueMayUptoRow : OpenClaim := { program := "ytihlogdmdmhefaa", sum := "b694cb44ea3d0ee6cb1785ed2fc9567e88d5b6c800ddae1504dc35ddf541e99a", func := "hopper/hopperlaw05.QueueMay", spec := "queueMay", inPlace := ["internal/abi.NoEscape", "slices.overlaps[hopper/api.Tx]"], unfollowed := true, recurses := true, apart := false, narrowed := true }
def QueueMayUptoSaid : Prop := queueMayUptoRow.holds Try.pinned (OpenSpec.upto queueMaySpec)

/-- 'hopperlaw05.QueueReady', WHERE WHAT IT READS IS OF BULK AT MOST 1048576: true; the input reads as it did. -/
def queueReadyUptoRow : OpenClaim := { program := "ytihlogdmdmhefaa", sum := "b694cb44ea3d0ee6cb1785ed2fc9567e88d5b6c800ddae1504dc35ddf541e99a", func := "hopper/hopperlaw05.QueueReady", spec := "queueReady", inPlace := ["internal/abi.NoEscape", "slices.overlaps[hopper/api.Tx]"], unfollowed := true, recurses := true, apart := false, narrowed := true }
def QueueReadyUptoSaid : Prop := queueReadyUptoRow.holds Try.pinned (OpenSpec.upto queueReadySpec)

/-- 'hopperlaw05.QueuePuts', WHERE WHAT IT READS IS OF BULK AT MOST 1048576: true; the input reads as it did. -/
def queuePutsUptoRow : OpenClaim := { program := "ytihlogdmdmhefaa", sum := "b694cb44ea3d0ee6cb1785ed2fc9567e88d5b6c800ddae1504dc35ddf541e99a", func := "hopper/hopperlaw05.QueuePuts", spec := "queuePuts", inPlace := ["internal/abi.NoEscape", "slices.overlaps[hopper/api.Tx]"], unfollowed := true, recurses := true, apart := false, narrowed := true }
def QueuePutsUptoSaid : Prop := queuePutsUptoRow.holds Try.pinned (OpenSpec.upto queuePutsSpec)

/-- 'hopperlaw05.QueueBases', WHERE WHAT IT READS IS OF BULK AT MOST 1048576: true; the input reads as it did. -/
def queueBasesUptoRow : OpenClaim := { program := "ytihlogdmdmhefaa", sum := "b694cb44ea3d0ee6cb1785ed2fc9567e88d5b6c800ddae1504dc35ddf541e99a", func := "hopper/hopperlaw05.QueueBases", spec := "queueBases", inPlace := ["internal/abi.NoEscape", "slices.overlaps[hopper/api.Tx]"], unfollowed := true, recurses := true, apart := false, narrowed := true }
def QueueBasesUptoSaid : Prop := queueBasesUptoRow.holds Try.pinned (OpenSpec.upto queueBasesSpec)

/-- 'hopperlaw05.QueuePlaces', WHERE WHAT IT READS IS OF BULK AT MOST 1048576: true; the input reads as it did. -/
def queuePlacesUptoRow : OpenClaim := { program := "ytihlogdmdmhefaa", sum := "b694cb44ea3d0ee6cb1785ed2fc9567e88d5b6c800ddae1504dc35ddf541e99a", func := "hopper/hopperlaw05.QueuePlaces", spec := "queuePlaces", inPlace := ["internal/abi.NoEscape", "slices.overlaps[hopper/api.Tx]"], unfollowed := true, recurses := true, apart := false, narrowed := true }
def QueuePlacesUptoSaid : Prop := queuePlacesUptoRow.holds Try.pinned (OpenSpec.upto queuePlacesSpec)

/-- 'hopperlaw06.HeapTells', WHERE WHAT IT READS IS OF BULK AT MOST 1048576: true; the input reads as it did. -/
def heapTellsUptoRow : OpenClaim := { program := "ytihlogdmdmhefaa", sum := "b694cb44ea3d0ee6cb1785ed2fc9567e88d5b6c800ddae1504dc35ddf541e99a", func := "hopper/hopperlaw06.HeapTells", spec := "heapTells", inPlace := ["internal/abi.NoEscape", "internal/bytealg.abigen_runtime_cmpstring"], unfollowed := true, recurses := true, apart := false, narrowed := true }
def HeapTellsUptoSaid : Prop := heapTellsUptoRow.holds Try.pinned (OpenSpec.upto heapTellsSpec)

/-- 'hopperlaw06.HeapStays', WHERE WHAT IT READS IS OF BULK AT MOST 1048576: true; the input reads as it did. -/
def heapStaysUptoRow : OpenClaim := { program := "ytihlogdmdmhefaa", sum := "b694cb44ea3d0ee6cb1785ed2fc9567e88d5b6c800ddae1504dc35ddf541e99a", func := "hopper/hopperlaw06.HeapStays", spec := "heapStays", inPlace := ["internal/abi.NoEscape", "internal/bytealg.abigen_runtime_cmpstring"], unfollowed := true, recurses := true, apart := false, narrowed := true }
def HeapStaysUptoSaid : Prop := heapStaysUptoRow.holds Try.pinned (OpenSpec.upto heapStaysSpec)

/-- 'hopperlaw06.HeapOrders', WHERE WHAT IT READS IS OF BULK AT MOST 1048576: true; the input reads as it did. -/
def heapOrdersUptoRow : OpenClaim := { program := "ytihlogdmdmhefaa", sum := "b694cb44ea3d0ee6cb1785ed2fc9567e88d5b6c800ddae1504dc35ddf541e99a", func := "hopper/hopperlaw06.HeapOrders", spec := "heapOrders", inPlace := ["internal/abi.NoEscape", "internal/bytealg.abigen_runtime_cmpstring"], unfollowed := true, recurses := true, apart := false, narrowed := true }
def HeapOrdersUptoSaid : Prop := heapOrdersUptoRow.holds Try.pinned (OpenSpec.upto heapOrdersSpec)

/-- 'hopperlaw06.HeapWorst', WHERE WHAT IT READS IS OF BULK AT MOST 1048576: true; the input reads as it did. -/
def heapWorstUptoRow : OpenClaim := { program := "ytihlogdmdmhefaa", sum := "b694cb44ea3d0ee6cb1785ed2fc9567e88d5b6c800ddae1504dc35ddf541e99a", func := "hopper/hopperlaw06.HeapWorst", spec := "heapWorst", inPlace := ["internal/abi.NoEscape", "internal/bytealg.abigen_runtime_cmpstring"], unfollowed := true, recurses := true, apart := false, narrowed := true }
def HeapWorstUptoSaid : Prop := heapWorstUptoRow.holds Try.pinned (OpenSpec.upto heapWorstSpec)

/-- 'hopperlaw06.HeapPops', WHERE WHAT IT READS IS OF BULK AT MOST 1048576: true; the input reads as it did. -/
def heapPopsUptoRow : OpenClaim := { program := "ytihlogdmdmhefaa", sum := "b694cb44ea3d0ee6cb1785ed2fc9567e88d5b6c800ddae1504dc35ddf541e99a", func := "hopper/hopperlaw06.HeapPops", spec := "heapPops", inPlace := ["internal/abi.NoEscape", "internal/bytealg.abigen_runtime_cmpstring"], unfollowed := true, recurses := true, apart := false, narrowed := true }
def HeapPopsUptoSaid : Prop := heapPopsUptoRow.holds Try.pinned (OpenSpec.upto heapPopsSpec)

/-- 'hopperlaw06.HeapKeeps', WHERE WHAT IT READS IS OF BULK AT MOST 1048576: true; the input reads as it did. -/
def heapKeepsUptoRow : OpenClaim := { program := "ytihlogdmdmhefaa", sum := "b694cb44ea3d0ee6cb1785ed2fc9567e88d5b6c800ddae1504dc35ddf541e99a", func := "hopper/hopperlaw06.HeapKeeps", spec := "heapKeeps", inPlace := ["internal/abi.NoEscape", "internal/bytealg.abigen_runtime_cmpstring"], unfollowed := true, recurses := true, apart := false, narrowed := true }
def HeapKeepsUptoSaid : Prop := heapKeepsUptoRow.holds Try.pinned (OpenSpec.upto heapKeepsSpec)

/-- 'hopperlaw11.ShardJoins', WHERE WHAT IT READS IS OF BULK AT MOST 1048576: true; the input reads as it did. -/
def shardJoinsUptoRow : OpenClaim := { program := "ytihlogdmdmhefaa", sum := "b694cb44ea3d0ee6cb1785ed2fc9567e88d5b6c800ddae1504dc35ddf541e99a", func := "hopper/hopperlaw11.ShardJoins", spec := "shardJoins", inPlace := ["slices.overlaps[hopper/api.Account]", "internal/abi.NoEscape", "internal/bytealg.abigen_runtime_cmpstring"], unfollowed := true, recurses := true, apart := false, narrowed := true }
def ShardJoinsUptoSaid : Prop := shardJoinsUptoRow.holds Try.pinned (OpenSpec.upto shardJoinsSpec)

/-- 'hopperlaw11.ShardWorst', WHERE WHAT IT READS IS OF BULK AT MOST 1048576: true; the input reads as it did. -/
def shardWorstUptoRow : OpenClaim := { program := "ytihlogdmdmhefaa", sum := "b694cb44ea3d0ee6cb1785ed2fc9567e88d5b6c800ddae1504dc35ddf541e99a", func := "hopper/hopperlaw11.ShardWorst", spec := "shardWorst", inPlace := ["slices.overlaps[hopper/api.Account]", "internal/abi.NoEscape", "internal/bytealg.abigen_runtime_cmpstring"], unfollowed := true, recurses := true, apart := false, narrowed := true }
def ShardWorstUptoSaid : Prop := shardWorstUptoRow.holds Try.pinned (OpenSpec.upto shardWorstSpec)

/-- 'hopperlaw11.ShardOrder', WHERE WHAT IT READS IS OF BULK AT MOST 1048576: true; the input reads as it did. -/
def shardOrderUptoRow : OpenClaim := { program := "ytihlogdmdmhefaa", sum := "b694cb44ea3d0ee6cb1785ed2fc9567e88d5b6c800ddae1504dc35ddf541e99a", func := "hopper/hopperlaw11.ShardOrder", spec := "shardOrder", inPlace := ["slices.overlaps[hopper/api.Account]", "internal/abi.NoEscape", "internal/bytealg.abigen_runtime_cmpstring"], unfollowed := true, recurses := true, apart := false, narrowed := true }
def ShardOrderUptoSaid : Prop := shardOrderUptoRow.holds Try.pinned (OpenSpec.upto shardOrderSpec)

/-- 'hopperlaw11.ShardSlots', WHERE WHAT IT READS IS OF BULK AT MOST 1048576: true; the input reads as it did. -/
def shardSlotsUptoRow : OpenClaim := { program := "ytihlogdmdmhefaa", sum := "b694cb44ea3d0ee6cb1785ed2fc9567e88d5b6c800ddae1504dc35ddf541e99a", func := "hopper/hopperlaw11.ShardSlots", spec := "shardSlots", inPlace := ["slices.overlaps[hopper/api.Account]", "internal/abi.NoEscape", "internal/bytealg.abigen_runtime_cmpstring"], unfollowed := true, recurses := true, apart := false, narrowed := true }
def ShardSlotsUptoSaid : Prop := shardSlotsUptoRow.holds Try.pinned (OpenSpec.upto shardSlotsSpec)

/-- 'hopperlaw12.GreedyTells', WHERE WHAT IT READS IS OF BULK AT MOST 1048576: true; the input reads as it did. -/
def greedyTellsUptoRow : OpenClaim := { program := "ytihlogdmdmhefaa", sum := "b694cb44ea3d0ee6cb1785ed2fc9567e88d5b6c800ddae1504dc35ddf541e99a", func := "hopper/hopperlaw12.GreedyTells", spec := "greedyTells", inPlace := ["internal/abi.NoEscape", "internal/bytealg.abigen_runtime_cmpstring"], unfollowed := true, recurses := true, apart := false, narrowed := true }
def GreedyTellsUptoSaid : Prop := greedyTellsUptoRow.holds Try.pinned (OpenSpec.upto greedyTellsSpec)

/-- 'hopperlaw12.GreedyTakes', WHERE WHAT IT READS IS OF BULK AT MOST 1048576: true; the input reads as it did. -/
def greedyTakesUptoRow : OpenClaim := { program := "ytihlogdmdmhefaa", sum := "b694cb44ea3d0ee6cb1785ed2fc9567e88d5b6c800ddae1504dc35ddf541e99a", func := "hopper/hopperlaw12.GreedyTakes", spec := "greedyTakes", inPlace := ["internal/abi.NoEscape", "internal/bytealg.abigen_runtime_cmpstring"], unfollowed := true, recurses := true, apart := false, narrowed := true }
def GreedyTakesUptoSaid : Prop := greedyTakesUptoRow.holds Try.pinned (OpenSpec.upto greedyTakesSpec)

/-- 'hopperlaw12.GreedyMore', WHERE WHAT IT READS IS OF BULK AT MOST 1048576: true; the input reads as it did. -/
def greedyMoreUptoRow : OpenClaim := { program := "ytihlogdmdmhefaa", sum := "b694cb44ea3d0ee6cb1785ed2fc9567e88d5b6c800ddae1504dc35ddf541e99a", func := "hopper/hopperlaw12.GreedyMore", spec := "greedyMore", inPlace := ["internal/abi.NoEscape", "internal/bytealg.abigen_runtime_cmpstring"], unfollowed := true, recurses := true, apart := false, narrowed := true }
def GreedyMoreUptoSaid : Prop := greedyMoreUptoRow.holds Try.pinned (OpenSpec.upto greedyMoreSpec)

/-- 'hopperlaw12.GreedyGas', WHERE WHAT IT READS IS OF BULK AT MOST 1048576: true; the input reads as it did. -/
def greedyGasUptoRow : OpenClaim := { program := "ytihlogdmdmhefaa", sum := "b694cb44ea3d0ee6cb1785ed2fc9567e88d5b6c800ddae1504dc35ddf541e99a", func := "hopper/hopperlaw12.GreedyGas", spec := "greedyGas", inPlace := ["internal/abi.NoEscape", "internal/bytealg.abigen_runtime_cmpstring"], unfollowed := true, recurses := true, apart := false, narrowed := true }
def GreedyGasUptoSaid : Prop := greedyGasUptoRow.holds Try.pinned (OpenSpec.upto greedyGasSpec)

/-- 'hopperlaw12.GreedyHeads', WHERE WHAT IT READS IS OF BULK AT MOST 1048576: true; the input reads as it did. -/
def greedyHeadsUptoRow : OpenClaim := { program := "ytihlogdmdmhefaa", sum := "b694cb44ea3d0ee6cb1785ed2fc9567e88d5b6c800ddae1504dc35ddf541e99a", func := "hopper/hopperlaw12.GreedyHeads", spec := "greedyHeads", inPlace := ["internal/abi.NoEscape", "internal/bytealg.abigen_runtime_cmpstring"], unfollowed := true, recurses := true, apart := false, narrowed := true }
def GreedyHeadsUptoSaid : Prop := greedyHeadsUptoRow.holds Try.pinned (OpenSpec.upto greedyHeadsSpec)

end Rows
end Go.Proofs.Ytihlogdmdmhefaa
