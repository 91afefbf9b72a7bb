/-
  No cell of these rows narrows 'for every input' (looked for: loops, veiled, ifaces, maps, wideKeys, modest, calm, conditions, laid).
  DERIVED. THE GIVEN ROWS OF THIS SEAT. 5 by the template 'for every input the law returns true; each argument reads behind the call as it read before'; 0 by the template 'total and deterministic' (their statements: YtahopljippfadaaTotals.lean).
  GIVEN WITH THE SEED: the statements are not yours to turn. If you find one false, say at which input.
  Laid BY PROGRAM, IN A SANDBOX (cutbox-rows.mjs): the forced cells as the released guide's own fill.sh prints them over the translation 5146f387318a5cc3… (all of the seat's roots in one cut). By AI agents, Wed Nov 11 2026. No macro, syntax, notation, axiom, sorry.
-/
import Derived.Test.YtahopljippfadaaChecked
import GoSem.Claim
import GoSem.ClaimJoined
import GoSem.ClaimMapViews
import Derived.JoinedTies
import Derived.KernelRfl
namespace Go.Proofs.Ytahopljippfadaa
/- THE CELL 'sum', in the pinned program and in every row, IS THE sha256 OF THE DUMP (.gsa) THAT YtahopljippfadaaProg.lean LOADS. Nothing in Lean hashes anything: it is a label: what it is worth is what the hold of that sum in a sandbox is worth. -/
noncomputable def Try.pinned : Pinned := { name := "ytahopljippfadaa", sum := "5146f387318a5cc3351b01af80c508919d19c0539f7579cc9e87f7f1c1933459", checked := Try.checked }
namespace Rows
def none {H : Type} : Left H := { results := [], args := [] }

/-- 'hopperlaw12.GreedyTells': WHATEVER THE INPUT: true; the input reads as it did. -/
def greedyTellsSpec : ChangeSpec := { name := "greedyTells", fn := fun _ => fun
  | [d1, d2, d3] => { results := [.lit (.bool true)], args := [d1, d2, d3] }
  | _ => none }
def greedyTellsRow : OpenClaim := { program := "ytahopljippfadaa", sum := "5146f387318a5cc3351b01af80c508919d19c0539f7579cc9e87f7f1c1933459", func := "hopper/hopperlaw12.GreedyTells", spec := "greedyTells", inPlace := ["internal/abi.NoEscape", "internal/bytealg.abigen_runtime_cmpstring"], unfollowed := true, recurses := true, apart := false }
def GreedyTellsSaid : Prop := greedyTellsRow.holds Try.pinned (OpenSpec.ofChange greedyTellsSpec)

/-- ITS FALSE NEIGHBOUR: 'it returns false'. Refute it at one input. -/
def greedyTellsWrong : ChangeSpec := { name := "greedyTells", fn := fun _ => fun
  | [d1, d2, d3] => { results := [.lit (.bool false)], args := [d1, d2, d3] }
  | _ => none }
def GreedyTellsWrongFalsely : Prop := greedyTellsRow.holds Try.pinned (OpenSpec.ofChange greedyTellsWrong)

/-- 'hopperlaw12.GreedyTakes': WHATEVER THE INPUT: true; the input reads as it did. -/
def greedyTakesSpec : ChangeSpec := { name := "greedyTakes", fn := fun _ => fun
  | [d1, d2] => { results := [.lit (.bool true)], args := [d1, d2] }
  | _ => none }
def greedyTakesRow : OpenClaim := { program := "ytahopljippfadaa", sum := "5146f387318a5cc3351b01af80c508919d19c0539f7579cc9e87f7f1c1933459", func := "hopper/hopperlaw12.GreedyTakes", spec := "greedyTakes", inPlace := ["internal/abi.NoEscape", "internal/bytealg.abigen_runtime_cmpstring"], unfollowed := true, recurses := true, apart := false }
def GreedyTakesSaid : Prop := greedyTakesRow.holds Try.pinned (OpenSpec.ofChange greedyTakesSpec)

/-- ITS FALSE NEIGHBOUR: 'it returns false'. Refute it at one input. -/
def greedyTakesWrong : ChangeSpec := { name := "greedyTakes", fn := fun _ => fun
  | [d1, d2] => { results := [.lit (.bool false)], args := [d1, d2] }
  | _ => none }
def GreedyTakesWrongFalsely : Prop := greedyTakesRow.holds Try.pinned (OpenSpec.ofChange greedyTakesWrong)

/-- 'hopperlaw12.GreedyMore': WHATEVER THE INPUT: true; the input reads as it did. -/
def greedyMoreSpec : ChangeSpec := { name := "greedyMore", fn := fun _ => fun
  | [d] => { results := [.lit (.bool true)], args := [d] }
  | _ => none }
def greedyMoreRow : OpenClaim := { program := "ytahopljippfadaa", sum := "5146f387318a5cc3351b01af80c508919d19c0539f7579cc9e87f7f1c1933459", func := "hopper/hopperlaw12.GreedyMore", spec := "greedyMore", inPlace := ["internal/abi.NoEscape", "internal/bytealg.abigen_runtime_cmpstring"], unfollowed := true, recurses := true, apart := false }
def GreedyMoreSaid : Prop := greedyMoreRow.holds Try.pinned (OpenSpec.ofChange greedyMoreSpec)

/-- ITS FALSE NEIGHBOUR: 'it returns false'. Refute it at one input. -/
def greedyMoreWrong : ChangeSpec := { name := "greedyMore", fn := fun _ => fun
  | [d] => { results := [.lit (.bool false)], args := [d] }
  | _ => none }
def GreedyMoreWrongFalsely : Prop := greedyMoreRow.holds Try.pinned (OpenSpec.ofChange greedyMoreWrong)

/-- 'hopperlaw12.GreedyGas': WHATEVER THE INPUT: true; the input reads as it did. -/
def greedyGasSpec : ChangeSpec := { name := "greedyGas", fn := fun _ => fun
  | [d1, d2] => { results := [.lit (.bool true)], args := [d1, d2] }
  | _ => none }
def greedyGasRow : OpenClaim := { program := "ytahopljippfadaa", sum := "5146f387318a5cc3351b01af80c508919d19c0539f7579cc9e87f7f1c1933459", func := "hopper/hopperlaw12.GreedyGas", spec := "greedyGas", inPlace := ["internal/abi.NoEscape", "internal/bytealg.abigen_runtime_cmpstring"], unfollowed := true, recurses := true, apart := false }
def GreedyGasSaid : Prop := greedyGasRow.holds Try.pinned (OpenSpec.ofChange greedyGasSpec)

/-- ITS FALSE NEIGHBOUR: 'it returns false'. Refute it at one input. -/
def greedyGasWrong : ChangeSpec := { name := "greedyGas", fn := fun _ => fun
  | [d1, d2] => { results := [.lit (.bool false)], args := [d1, d2] }
  | _ => none }
def GreedyGasWrongFalsely : Prop := greedyGasRow.holds Try.pinned (OpenSpec.ofChange greedyGasWrong)

/-- 'hopperlaw12.GreedyHeads': WHATEVER THE INPUT: true; the input reads as it did. -/
def greedyHeadsSpec : ChangeSpec := { name := "greedyHeads", fn := fun _ => fun
  | [d1, d2] => { results := [.lit (.bool true)], args := [d1, d2] }
  | _ => none }
def greedyHeadsRow : OpenClaim := { program := "ytahopljippfadaa", sum := "5146f387318a5cc3351b01af80c508919d19c0539f7579cc9e87f7f1c1933459", func := "hopper/hopperlaw12.GreedyHeads", spec := "greedyHeads", inPlace := ["internal/abi.NoEscape", "internal/bytealg.abigen_runtime_cmpstring"], unfollowed := true, recurses := true, apart := false }
def GreedyHeadsSaid : Prop := greedyHeadsRow.holds Try.pinned (OpenSpec.ofChange greedyHeadsSpec)

/-- ITS FALSE NEIGHBOUR: 'it returns false'. Refute it at one input. -/
def greedyHeadsWrong : ChangeSpec := { name := "greedyHeads", fn := fun _ => fun
  | [d1, d2] => { results := [.lit (.bool false)], args := [d1, d2] }
  | _ => none }
def GreedyHeadsWrongFalsely : Prop := greedyHeadsRow.holds Try.pinned (OpenSpec.ofChange greedyHeadsWrong)

/- THE SECOND FORM. 'bulk': how many values and letters a reading holds, each counted each time it is reached (what is shared counts as often as it is met; a slice's spare places count too). A statement '..UptoSaid' is the law's where the arguments, and the package variables that the reading takes, are together of bulk at most 1048576: NARROWER than '..Said'. Prove '..Said' where nothing that the law and all that it calls make is longer than what came in: it says more and counts as full. Else prove '..UptoSaid'. A law counts once. -/
mutual
def uptoBulk {H : Type} : DataW H → Nat
  | .lit (.string bytes) => bytes.length + 1
  | .lit _ => 1
  | .nil => 1
  | .ptr d => uptoBulk d + 1
  | .slice elems spare => uptoBulkAll elems + uptoBulkAll spare + 1
  | .agg parts => uptoBulkAll parts + 1
  | .iface _ d => uptoBulk d + 1
  | .map entries => uptoBulkEntries entries + 1
  | .held _ => 1
def uptoBulkAll {H : Type} : List (DataW H) → Nat
  | [] => 0
  | d :: r => uptoBulk d + uptoBulkAll r
def uptoBulkEntries {H : Type} : List (Lit × DataW H) → Nat
  | [] => 0
  | x :: r => uptoBulkEntry x + uptoBulkEntries r
def uptoBulkEntry {H : Type} : Lit × DataW H → Nat
  | (.string bytes, d) => bytes.length + uptoBulk d + 1
  | (_, d) => uptoBulk d + 1
 end
def uptoSmall : (H : Type) → List (DataW H) → Bool := fun _ ds => decide (uptoBulkAll ds ≤ 1048576)
def OpenSpec.upto (s : _root_.Go.ChangeSpec) : _root_.Go.OpenSpec := { _root_.Go.OpenSpec.ofChange s with cond := some uptoSmall }

/-- 'hopperlaw12.GreedyTells', WHERE WHAT IT READS IS OF BULK AT MOST 1048576: true; the input reads as it did. -/
def greedyTellsUptoRow : OpenClaim := { program := "ytahopljippfadaa", sum := "5146f387318a5cc3351b01af80c508919d19c0539f7579cc9e87f7f1c1933459", func := "hopper/hopperlaw12.GreedyTells", spec := "greedyTells", inPlace := ["internal/abi.NoEscape", "internal/bytealg.abigen_runtime_cmpstring"], unfollowed := true, recurses := true, apart := false, narrowed := true }
def GreedyTellsUptoSaid : Prop := greedyTellsUptoRow.holds Try.pinned (OpenSpec.upto greedyTellsSpec)

/-- 'hopperlaw12.GreedyTakes', WHERE WHAT IT READS IS OF BULK AT MOST 1048576: true; the input reads as it did. -/
def greedyTakesUptoRow : OpenClaim := { program := "ytahopljippfadaa", sum := "5146f387318a5cc3351b01af80c508919d19c0539f7579cc9e87f7f1c1933459", func := "hopper/hopperlaw12.GreedyTakes", spec := "greedyTakes", inPlace := ["internal/abi.NoEscape", "internal/bytealg.abigen_runtime_cmpstring"], unfollowed := true, recurses := true, apart := false, narrowed := true }
def GreedyTakesUptoSaid : Prop := greedyTakesUptoRow.holds Try.pinned (OpenSpec.upto greedyTakesSpec)

/-- 'hopperlaw12.GreedyMore', WHERE WHAT IT READS IS OF BULK AT MOST 1048576: true; the input reads as it did. -/
def greedyMoreUptoRow : OpenClaim := { program := "ytahopljippfadaa", sum := "5146f387318a5cc3351b01af80c508919d19c0539f7579cc9e87f7f1c1933459", func := "hopper/hopperlaw12.GreedyMore", spec := "greedyMore", inPlace := ["internal/abi.NoEscape", "internal/bytealg.abigen_runtime_cmpstring"], unfollowed := true, recurses := true, apart := false, narrowed := true }
def GreedyMoreUptoSaid : Prop := greedyMoreUptoRow.holds Try.pinned (OpenSpec.upto greedyMoreSpec)

/-- 'hopperlaw12.GreedyGas', WHERE WHAT IT READS IS OF BULK AT MOST 1048576: true; the input reads as it did. -/
def greedyGasUptoRow : OpenClaim := { program := "ytahopljippfadaa", sum := "5146f387318a5cc3351b01af80c508919d19c0539f7579cc9e87f7f1c1933459", func := "hopper/hopperlaw12.GreedyGas", spec := "greedyGas", inPlace := ["internal/abi.NoEscape", "internal/bytealg.abigen_runtime_cmpstring"], unfollowed := true, recurses := true, apart := false, narrowed := true }
def GreedyGasUptoSaid : Prop := greedyGasUptoRow.holds Try.pinned (OpenSpec.upto greedyGasSpec)

/-- 'hopperlaw12.GreedyHeads', WHERE WHAT IT READS IS OF BULK AT MOST 1048576: true; the input reads as it did. -/
def greedyHeadsUptoRow : OpenClaim := { program := "ytahopljippfadaa", sum := "5146f387318a5cc3351b01af80c508919d19c0539f7579cc9e87f7f1c1933459", func := "hopper/hopperlaw12.GreedyHeads", spec := "greedyHeads", inPlace := ["internal/abi.NoEscape", "internal/bytealg.abigen_runtime_cmpstring"], unfollowed := true, recurses := true, apart := false, narrowed := true }
def GreedyHeadsUptoSaid : Prop := greedyHeadsUptoRow.holds Try.pinned (OpenSpec.upto greedyHeadsSpec)

end Rows
end Go.Proofs.Ytahopljippfadaa
