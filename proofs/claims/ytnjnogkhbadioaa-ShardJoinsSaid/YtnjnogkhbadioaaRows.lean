/-
  No cell of these rows narrows 'for every input' (looked for: loops, veiled, ifaces, maps, wideKeys, modest, calm, conditions, laid).
  DERIVED. THE GIVEN ROWS OF THIS SEAT. 4 by the template 'for every input the law returns true; each argument reads behind the call as it read before'; 0 by the template 'total and deterministic' (their statements: YtnjnogkhbadioaaTotals.lean).
  GIVEN WITH THE SEED: the statements are not yours to turn. If you find one false, say at which input.
  Laid BY PROGRAM, IN A SANDBOX (cutbox-rows.mjs): the forced cells as the released guide's own fill.sh prints them over the translation 2ad2c9b2959a7759… (all of the seat's roots in one cut). By AI agents, Wed Nov 11 2026. No macro, syntax, notation, axiom, sorry.
-/
import Derived.Test.YtnjnogkhbadioaaChecked
import GoSem.Claim
import GoSem.ClaimJoined
import GoSem.ClaimMapViews
import Derived.JoinedTies
import Derived.KernelRfl
namespace Go.Proofs.Ytnjnogkhbadioaa
/- THE CELL 'sum', in the pinned program and in every row, IS THE sha256 OF THE DUMP (.gsa) THAT YtnjnogkhbadioaaProg.lean LOADS. Nothing in Lean hashes anything: it is a label: what it is worth is what the hold of that sum in a sandbox is worth. -/
noncomputable def Try.pinned : Pinned := { name := "ytnjnogkhbadioaa", sum := "2ad2c9b2959a77591a4f32142400e47930fdee5c84d7b54e5ea5d370fbaae080", checked := Try.checked }
namespace Rows
def none {H : Type} : Left H := { results := [], args := [] }

/-- 'hopperlaw11.ShardJoins': WHATEVER THE INPUT: true; the input reads as it did. -/
def shardJoinsSpec : ChangeSpec := { name := "shardJoins", fn := fun _ => fun
  | [d] => { results := [.lit (.bool true)], args := [d] }
  | _ => none }
def shardJoinsRow : OpenClaim := { program := "ytnjnogkhbadioaa", sum := "2ad2c9b2959a77591a4f32142400e47930fdee5c84d7b54e5ea5d370fbaae080", func := "hopper/hopperlaw11.ShardJoins", spec := "shardJoins", inPlace := ["slices.overlaps[hopper/api.Account]", "internal/abi.NoEscape", "internal/bytealg.abigen_runtime_cmpstring"], unfollowed := true, recurses := true, apart := false }
def ShardJoinsSaid : Prop := shardJoinsRow.holds Try.pinned (OpenSpec.ofChange shardJoinsSpec)

/-- ITS FALSE NEIGHBOUR: 'it returns false'. Refute it at one input. -/
def shardJoinsWrong : ChangeSpec := { name := "shardJoins", fn := fun _ => fun
  | [d] => { results := [.lit (.bool false)], args := [d] }
  | _ => none }
def ShardJoinsWrongFalsely : Prop := shardJoinsRow.holds Try.pinned (OpenSpec.ofChange shardJoinsWrong)

/-- 'hopperlaw11.ShardWorst': WHATEVER THE INPUT: true; the input reads as it did. -/
def shardWorstSpec : ChangeSpec := { name := "shardWorst", fn := fun _ => fun
  | [d] => { results := [.lit (.bool true)], args := [d] }
  | _ => none }
def shardWorstRow : OpenClaim := { program := "ytnjnogkhbadioaa", sum := "2ad2c9b2959a77591a4f32142400e47930fdee5c84d7b54e5ea5d370fbaae080", func := "hopper/hopperlaw11.ShardWorst", spec := "shardWorst", inPlace := ["slices.overlaps[hopper/api.Account]", "internal/abi.NoEscape", "internal/bytealg.abigen_runtime_cmpstring"], unfollowed := true, recurses := true, apart := false }
def ShardWorstSaid : Prop := shardWorstRow.holds Try.pinned (OpenSpec.ofChange shardWorstSpec)

/-- ITS FALSE NEIGHBOUR: 'it returns false'. Refute it at one input. -/
def shardWorstWrong : ChangeSpec := { name := "shardWorst", fn := fun _ => fun
  | [d] => { results := [.lit (.bool false)], args := [d] }
  | _ => none }
def ShardWorstWrongFalsely : Prop := shardWorstRow.holds Try.pinned (OpenSpec.ofChange shardWorstWrong)

/-- 'hopperlaw11.ShardOrder': WHATEVER THE INPUT: true; the input reads as it did. -/
def shardOrderSpec : ChangeSpec := { name := "shardOrder", fn := fun _ => fun
  | [d1, d2, d3] => { results := [.lit (.bool true)], args := [d1, d2, d3] }
  | _ => none }
def shardOrderRow : OpenClaim := { program := "ytnjnogkhbadioaa", sum := "2ad2c9b2959a77591a4f32142400e47930fdee5c84d7b54e5ea5d370fbaae080", func := "hopper/hopperlaw11.ShardOrder", spec := "shardOrder", inPlace := ["slices.overlaps[hopper/api.Account]", "internal/abi.NoEscape", "internal/bytealg.abigen_runtime_cmpstring"], unfollowed := true, recurses := true, apart := false }
def ShardOrderSaid : Prop := shardOrderRow.holds Try.pinned (OpenSpec.ofChange shardOrderSpec)

/-- ITS FALSE NEIGHBOUR: 'it returns false'. Refute it at one input. -/
def shardOrderWrong : ChangeSpec := { name := "shardOrder", fn := fun _ => fun
  | [d1, d2, d3] => { results := [.lit (.bool false)], args := [d1, d2, d3] }
  | _ => none }
def ShardOrderWrongFalsely : Prop := shardOrderRow.holds Try.pinned (OpenSpec.ofChange shardOrderWrong)

/-- 'hopperlaw11.ShardSlots': WHATEVER THE INPUT: true; the input reads as it did. -/
def shardSlotsSpec : ChangeSpec := { name := "shardSlots", fn := fun _ => fun
  | [d] => { results := [.lit (.bool true)], args := [d] }
  | _ => none }
def shardSlotsRow : OpenClaim := { program := "ytnjnogkhbadioaa", sum := "2ad2c9b2959a77591a4f32142400e47930fdee5c84d7b54e5ea5d370fbaae080", func := "hopper/hopperlaw11.ShardSlots", spec := "shardSlots", inPlace := ["slices.overlaps[hopper/api.Account]", "internal/abi.NoEscape", "internal/bytealg.abigen_runtime_cmpstring"], unfollowed := true, recurses := true, apart := false }
def ShardSlotsSaid : Prop := shardSlotsRow.holds Try.pinned (OpenSpec.ofChange shardSlotsSpec)

/-- ITS FALSE NEIGHBOUR: 'it returns false'. Refute it at one input. -/
def shardSlotsWrong : ChangeSpec := { name := "shardSlots", fn := fun _ => fun
  | [d] => { results := [.lit (.bool false)], args := [d] }
  | _ => none }
def ShardSlotsWrongFalsely : Prop := shardSlotsRow.holds Try.pinned (OpenSpec.ofChange shardSlotsWrong)

/- THE SECOND FORM. 'bulk': how many values and letters a reading holds, each counted each time it is reached (what is shared counts as often as it is met; a slice's spare places count too). A statement '..UptoSaid' is the law's where the arguments, and the package variables that the reading takes, are together of bulk at most 1048576: NARROWER than '..Said'. Prove '..Said' where nothing that the law and all that it calls make is longer than what came in: it says more and counts as full. Else prove '..UptoSaid'. A law counts once. -/
mutual
def uptoBulk {H : Type} : DataW H → Nat
  | .lit (.string bytes) => bytes.length + 1
  | .lit _ => 1
  | .nil => 1
  | .ptr d => uptoBulk d + 1
  | .slice elems spare => uptoBulkAll elems + uptoBulkAll spare + 1
  | .agg parts => uptoBulkAll parts + 1
  | .iface _ d => uptoBulk d + 1
  | .map entries => uptoBulkEntries entries + 1
  | .held _ => 1
def uptoBulkAll {H : Type} : List (DataW H) → Nat
  | [] => 0
  | d :: r => uptoBulk d + uptoBulkAll r
def uptoBulkEntries {H : Type} : List (Lit × DataW H) → Nat
  | [] => 0
  | x :: r => uptoBulkEntry x + uptoBulkEntries r
def uptoBulkEntry {H : Type} : Lit × DataW H → Nat
  | (.string bytes, d) => bytes.length + uptoBulk d + 1
  | (_, d) => uptoBulk d + 1
 end
def uptoSmall : (H : Type) → List (DataW H) → Bool := fun _ ds => decide (uptoBulkAll ds ≤ 1048576)
def OpenSpec.upto (s : _root_.Go.ChangeSpec) : _root_.Go.OpenSpec := { _root_.Go.OpenSpec.ofChange s with cond := some uptoSmall }

/-- 'hopperlaw11.ShardJoins', WHERE WHAT IT READS IS OF BULK AT MOST 1048576: true; the input reads as it did. -/
def shardJoinsUptoRow : OpenClaim := { program := "ytnjnogkhbadioaa", sum := "2ad2c9b2959a77591a4f32142400e47930fdee5c84d7b54e5ea5d370fbaae080", func := "hopper/hopperlaw11.ShardJoins", spec := "shardJoins", inPlace := ["slices.overlaps[hopper/api.Account]", "internal/abi.NoEscape", "internal/bytealg.abigen_runtime_cmpstring"], unfollowed := true, recurses := true, apart := false, narrowed := true }
def ShardJoinsUptoSaid : Prop := shardJoinsUptoRow.holds Try.pinned (OpenSpec.upto shardJoinsSpec)

/-- 'hopperlaw11.ShardWorst', WHERE WHAT IT READS IS OF BULK AT MOST 1048576: true; the input reads as it did. -/
def shardWorstUptoRow : OpenClaim := { program := "ytnjnogkhbadioaa", sum := "2ad2c9b2959a77591a4f32142400e47930fdee5c84d7b54e5ea5d370fbaae080", func := "hopper/hopperlaw11.ShardWorst", spec := "shardWorst", inPlace := ["slices.overlaps[hopper/api.Account]", "internal/abi.NoEscape", "internal/bytealg.abigen_runtime_cmpstring"], unfollowed := true, recurses := true, apart := false, narrowed := true }
def ShardWorstUptoSaid : Prop := shardWorstUptoRow.holds Try.pinned (OpenSpec.upto shardWorstSpec)

/-- 'hopperlaw11.ShardOrder', WHERE WHAT IT READS IS OF BULK AT MOST 1048576: true; the input reads as it did. -/
def shardOrderUptoRow : OpenClaim := { program := "ytnjnogkhbadioaa", sum := "2ad2c9b2959a77591a4f32142400e47930fdee5c84d7b54e5ea5d370fbaae080", func := "hopper/hopperlaw11.ShardOrder", spec := "shardOrder", inPlace := ["slices.overlaps[hopper/api.Account]", "internal/abi.NoEscape", "internal/bytealg.abigen_runtime_cmpstring"], unfollowed := true, recurses := true, apart := false, narrowed := true }
def ShardOrderUptoSaid : Prop := shardOrderUptoRow.holds Try.pinned (OpenSpec.upto shardOrderSpec)

/-- 'hopperlaw11.ShardSlots', WHERE WHAT IT READS IS OF BULK AT MOST 1048576: true; the input reads as it did. -/
def shardSlotsUptoRow : OpenClaim := { program := "ytnjnogkhbadioaa", sum := "2ad2c9b2959a77591a4f32142400e47930fdee5c84d7b54e5ea5d370fbaae080", func := "hopper/hopperlaw11.ShardSlots", spec := "shardSlots", inPlace := ["slices.overlaps[hopper/api.Account]", "internal/abi.NoEscape", "internal/bytealg.abigen_runtime_cmpstring"], unfollowed := true, recurses := true, apart := false, narrowed := true }
def ShardSlotsUptoSaid : Prop := shardSlotsUptoRow.holds Try.pinned (OpenSpec.upto shardSlotsSpec)

end Rows
end Go.Proofs.Ytnjnogkhbadioaa
