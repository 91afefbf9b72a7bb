/-
  No cell of these rows narrows 'for every input' (looked for: loops, veiled, ifaces, maps, wideKeys, modest, calm, conditions, laid).
  DERIVED. THE GIVEN ROWS OF THIS SEAT. 11 by the template 'for every input the law returns true; each argument reads behind the call as it read before'; 0 by the template 'total and deterministic' (their statements: YtfpomamhcjkoeabTotals.lean).
  GIVEN WITH THE SEED: the statements are not yours to turn. If you find one false, say at which input.
  Laid BY PROGRAM, IN A SANDBOX (cutbox-rows.mjs): the forced cells as the released guide's own fill.sh prints them over the translation 6da8f91c665375b7… (all of the seat's roots in one cut). By AI agents, Wed Nov 11 2026. No macro, syntax, notation, axiom, sorry.
-/
import Derived.Test.YtfpomamhcjkoeabChecked
import GoSem.Claim
import GoSem.ClaimJoined
import GoSem.ClaimMapViews
import Derived.JoinedTies
import Derived.KernelRfl
namespace Go.Proofs.Ytfpomamhcjkoeab
/- THE CELL 'sum', in the pinned program and in every row, IS THE sha256 OF THE DUMP (.gsa) THAT YtfpomamhcjkoeabProg.lean LOADS. Nothing in Lean hashes anything: it is a label: what it is worth is what the hold of that sum in a sandbox is worth. -/
noncomputable def Try.pinned : Pinned := { name := "ytfpomamhcjkoeab", sum := "6da8f91c665375b783ef9a909ba1f98a93a28b76ec68e93b865a449a83eed2f8", checked := Try.checked }
namespace Rows
def none {H : Type} : Left H := { results := [], args := [] }

/-- 'hopperlaw07.PotTells': WHATEVER THE INPUT: true; the input reads as it did. -/
def potTellsSpec : ChangeSpec := { name := "potTells", fn := fun _ => fun
  | [d1, d2, d3] => { results := [.lit (.bool true)], args := [d1, d2, d3] }
  | _ => none }
def potTellsRow : OpenClaim := { program := "ytfpomamhcjkoeab", sum := "6da8f91c665375b783ef9a909ba1f98a93a28b76ec68e93b865a449a83eed2f8", func := "hopper/hopperlaw07.PotTells", spec := "potTells", apart := false }
def PotTellsSaid : Prop := potTellsRow.holds Try.pinned (OpenSpec.ofChange potTellsSpec)

/-- ITS FALSE NEIGHBOUR: 'it returns false'. Refute it at one input. -/
def potTellsWrong : ChangeSpec := { name := "potTells", fn := fun _ => fun
  | [d1, d2, d3] => { results := [.lit (.bool false)], args := [d1, d2, d3] }
  | _ => none }
def PotTellsWrongFalsely : Prop := potTellsRow.holds Try.pinned (OpenSpec.ofChange potTellsWrong)

/-- 'hopperlaw07.PotRuns': WHATEVER THE INPUT: true; the input reads as it did. -/
def potRunsSpec : ChangeSpec := { name := "potRuns", fn := fun _ => fun
  | [d1, d2] => { results := [.lit (.bool true)], args := [d1, d2] }
  | _ => none }
def potRunsRow : OpenClaim := { program := "ytfpomamhcjkoeab", sum := "6da8f91c665375b783ef9a909ba1f98a93a28b76ec68e93b865a449a83eed2f8", func := "hopper/hopperlaw07.PotRuns", spec := "potRuns", apart := false }
def PotRunsSaid : Prop := potRunsRow.holds Try.pinned (OpenSpec.ofChange potRunsSpec)

/-- ITS FALSE NEIGHBOUR: 'it returns false'. Refute it at one input. -/
def potRunsWrong : ChangeSpec := { name := "potRuns", fn := fun _ => fun
  | [d1, d2] => { results := [.lit (.bool false)], args := [d1, d2] }
  | _ => none }
def PotRunsWrongFalsely : Prop := potRunsRow.holds Try.pinned (OpenSpec.ofChange potRunsWrong)

/-- 'hopperlaw07.PotOrder': WHATEVER THE INPUT: true; the input reads as it did. -/
def potOrderSpec : ChangeSpec := { name := "potOrder", fn := fun _ => fun
  | [d1, d2, d3] => { results := [.lit (.bool true)], args := [d1, d2, d3] }
  | _ => none }
def potOrderRow : OpenClaim := { program := "ytfpomamhcjkoeab", sum := "6da8f91c665375b783ef9a909ba1f98a93a28b76ec68e93b865a449a83eed2f8", func := "hopper/hopperlaw07.PotOrder", spec := "potOrder", apart := false }
def PotOrderSaid : Prop := potOrderRow.holds Try.pinned (OpenSpec.ofChange potOrderSpec)

/-- ITS FALSE NEIGHBOUR: 'it returns false'. Refute it at one input. -/
def potOrderWrong : ChangeSpec := { name := "potOrder", fn := fun _ => fun
  | [d1, d2, d3] => { results := [.lit (.bool false)], args := [d1, d2, d3] }
  | _ => none }
def PotOrderWrongFalsely : Prop := potOrderRow.holds Try.pinned (OpenSpec.ofChange potOrderWrong)

/-- 'hopperlaw07.PotFull': WHATEVER THE INPUT: true; the input reads as it did. -/
def potFullSpec : ChangeSpec := { name := "potFull", fn := fun _ => fun
  | [d1, d2] => { results := [.lit (.bool true)], args := [d1, d2] }
  | _ => none }
def potFullRow : OpenClaim := { program := "ytfpomamhcjkoeab", sum := "6da8f91c665375b783ef9a909ba1f98a93a28b76ec68e93b865a449a83eed2f8", func := "hopper/hopperlaw07.PotFull", spec := "potFull", apart := false }
def PotFullSaid : Prop := potFullRow.holds Try.pinned (OpenSpec.ofChange potFullSpec)

/-- ITS FALSE NEIGHBOUR: 'it returns false'. Refute it at one input. -/
def potFullWrong : ChangeSpec := { name := "potFull", fn := fun _ => fun
  | [d1, d2] => { results := [.lit (.bool false)], args := [d1, d2] }
  | _ => none }
def PotFullWrongFalsely : Prop := potFullRow.holds Try.pinned (OpenSpec.ofChange potFullWrong)

/-- 'hopperlaw03.CodecWrites': WHATEVER THE INPUT: true; the input reads as it did. -/
def codecWritesSpec : ChangeSpec := { name := "codecWrites", fn := fun _ => fun
  | [d1, d2] => { results := [.lit (.bool true)], args := [d1, d2] }
  | _ => none }
def codecWritesRow : OpenClaim := { program := "ytfpomamhcjkoeab", sum := "6da8f91c665375b783ef9a909ba1f98a93a28b76ec68e93b865a449a83eed2f8", func := "hopper/hopperlaw03.CodecWrites", spec := "codecWrites", recurses := true, apart := false }
def CodecWritesSaid : Prop := codecWritesRow.holds Try.pinned (OpenSpec.ofChange codecWritesSpec)

/-- ITS FALSE NEIGHBOUR: 'it returns false'. Refute it at one input. -/
def codecWritesWrong : ChangeSpec := { name := "codecWrites", fn := fun _ => fun
  | [d1, d2] => { results := [.lit (.bool false)], args := [d1, d2] }
  | _ => none }
def CodecWritesWrongFalsely : Prop := codecWritesRow.holds Try.pinned (OpenSpec.ofChange codecWritesWrong)

/-- 'hopperlaw03.CodecTakes': WHATEVER THE INPUT: true; the input reads as it did. -/
def codecTakesSpec : ChangeSpec := { name := "codecTakes", fn := fun _ => fun
  | [d1, d2] => { results := [.lit (.bool true)], args := [d1, d2] }
  | _ => none }
def codecTakesRow : OpenClaim := { program := "ytfpomamhcjkoeab", sum := "6da8f91c665375b783ef9a909ba1f98a93a28b76ec68e93b865a449a83eed2f8", func := "hopper/hopperlaw03.CodecTakes", spec := "codecTakes", recurses := true, apart := false }
def CodecTakesSaid : Prop := codecTakesRow.holds Try.pinned (OpenSpec.ofChange codecTakesSpec)

/-- ITS FALSE NEIGHBOUR: 'it returns false'. Refute it at one input. -/
def codecTakesWrong : ChangeSpec := { name := "codecTakes", fn := fun _ => fun
  | [d1, d2] => { results := [.lit (.bool false)], args := [d1, d2] }
  | _ => none }
def CodecTakesWrongFalsely : Prop := codecTakesRow.holds Try.pinned (OpenSpec.ofChange codecTakesWrong)

/-- 'hopperlaw03.CodecBack': WHATEVER THE INPUT: true; the input reads as it did. -/
def codecBackSpec : ChangeSpec := { name := "codecBack", fn := fun _ => fun
  | [d1, d2, d3] => { results := [.lit (.bool true)], args := [d1, d2, d3] }
  | _ => none }
def codecBackRow : OpenClaim := { program := "ytfpomamhcjkoeab", sum := "6da8f91c665375b783ef9a909ba1f98a93a28b76ec68e93b865a449a83eed2f8", func := "hopper/hopperlaw03.CodecBack", spec := "codecBack", apart := false }
def CodecBackSaid : Prop := codecBackRow.holds Try.pinned (OpenSpec.ofChange codecBackSpec)

/-- ITS FALSE NEIGHBOUR: 'it returns false'. Refute it at one input. -/
def codecBackWrong : ChangeSpec := { name := "codecBack", fn := fun _ => fun
  | [d1, d2, d3] => { results := [.lit (.bool false)], args := [d1, d2, d3] }
  | _ => none }
def CodecBackWrongFalsely : Prop := codecBackRow.holds Try.pinned (OpenSpec.ofChange codecBackWrong)

/-- 'hopperlaw03.CodecOne': WHATEVER THE INPUT: true; the input reads as it did. -/
def codecOneSpec : ChangeSpec := { name := "codecOne", fn := fun _ => fun
  | [d1, d2] => { results := [.lit (.bool true)], args := [d1, d2] }
  | _ => none }
def codecOneRow : OpenClaim := { program := "ytfpomamhcjkoeab", sum := "6da8f91c665375b783ef9a909ba1f98a93a28b76ec68e93b865a449a83eed2f8", func := "hopper/hopperlaw03.CodecOne", spec := "codecOne", apart := false }
def CodecOneSaid : Prop := codecOneRow.holds Try.pinned (OpenSpec.ofChange codecOneSpec)

/-- ITS FALSE NEIGHBOUR: 'it returns false'. Refute it at one input. -/
def codecOneWrong : ChangeSpec := { name := "codecOne", fn := fun _ => fun
  | [d1, d2] => { results := [.lit (.bool false)], args := [d1, d2] }
  | _ => none }
def CodecOneWrongFalsely : Prop := codecOneRow.holds Try.pinned (OpenSpec.ofChange codecOneWrong)

/-- 'hopperlaw03.CodecRow': WHATEVER THE INPUT: true; the input reads as it did. -/
def codecRowSpec : ChangeSpec := { name := "codecRow", fn := fun _ => fun
  | [d1, d2] => { results := [.lit (.bool true)], args := [d1, d2] }
  | _ => none }
def codecRowRow : OpenClaim := { program := "ytfpomamhcjkoeab", sum := "6da8f91c665375b783ef9a909ba1f98a93a28b76ec68e93b865a449a83eed2f8", func := "hopper/hopperlaw03.CodecRow", spec := "codecRow", apart := false }
def CodecRowSaid : Prop := codecRowRow.holds Try.pinned (OpenSpec.ofChange codecRowSpec)

/-- ITS FALSE NEIGHBOUR: 'it returns false'. Refute it at one input. -/
def codecRowWrong : ChangeSpec := { name := "codecRow", fn := fun _ => fun
  | [d1, d2] => { results := [.lit (.bool false)], args := [d1, d2] }
  | _ => none }
def CodecRowWrongFalsely : Prop := codecRowRow.holds Try.pinned (OpenSpec.ofChange codecRowWrong)

/-- 'hopperlaw03.CodecCut': WHATEVER THE INPUT: true; the input reads as it did. -/
def codecCutSpec : ChangeSpec := { name := "codecCut", fn := fun _ => fun
  | [d1, d2, d3] => { results := [.lit (.bool true)], args := [d1, d2, d3] }
  | _ => none }
def codecCutRow : OpenClaim := { program := "ytfpomamhcjkoeab", sum := "6da8f91c665375b783ef9a909ba1f98a93a28b76ec68e93b865a449a83eed2f8", func := "hopper/hopperlaw03.CodecCut", spec := "codecCut", apart := false }
def CodecCutSaid : Prop := codecCutRow.holds Try.pinned (OpenSpec.ofChange codecCutSpec)

/-- ITS FALSE NEIGHBOUR: 'it returns false'. Refute it at one input. -/
def codecCutWrong : ChangeSpec := { name := "codecCut", fn := fun _ => fun
  | [d1, d2, d3] => { results := [.lit (.bool false)], args := [d1, d2, d3] }
  | _ => none }
def CodecCutWrongFalsely : Prop := codecCutRow.holds Try.pinned (OpenSpec.ofChange codecCutWrong)

/-- 'hopperlaw03.CodecOrder': WHATEVER THE INPUT: true; the input reads as it did. -/
def codecOrderSpec : ChangeSpec := { name := "codecOrder", fn := fun _ => fun
  | [d1, d2, d3] => { results := [.lit (.bool true)], args := [d1, d2, d3] }
  | _ => none }
def codecOrderRow : OpenClaim := { program := "ytfpomamhcjkoeab", sum := "6da8f91c665375b783ef9a909ba1f98a93a28b76ec68e93b865a449a83eed2f8", func := "hopper/hopperlaw03.CodecOrder", spec := "codecOrder", apart := false }
def CodecOrderSaid : Prop := codecOrderRow.holds Try.pinned (OpenSpec.ofChange codecOrderSpec)

/-- ITS FALSE NEIGHBOUR: 'it returns false'. Refute it at one input. -/
def codecOrderWrong : ChangeSpec := { name := "codecOrder", fn := fun _ => fun
  | [d1, d2, d3] => { results := [.lit (.bool false)], args := [d1, d2, d3] }
  | _ => none }
def CodecOrderWrongFalsely : Prop := codecOrderRow.holds Try.pinned (OpenSpec.ofChange codecOrderWrong)

/- THE SECOND FORM. 'bulk': how many values and letters a reading holds, each counted each time it is reached (what is shared counts as often as it is met; a slice's spare places count too). A statement '..UptoSaid' is the law's where the arguments, and the package variables that the reading takes, are together of bulk at most 1048576: NARROWER than '..Said'. Prove '..Said' where nothing that the law and all that it calls make is longer than what came in: it says more and counts as full. Else prove '..UptoSaid'. A law counts once. -/
mutual
def uptoBulk {H : Type} : DataW H → Nat
  | .lit (.string bytes) => bytes.length + 1
  | .lit _ => 1
  | .nil => 1
  | .ptr d => uptoBulk d + 1
  | .slice elems spare => uptoBulkAll elems + uptoBulkAll spare + 1
  | .agg parts => uptoBulkAll parts + 1
  | .iface _ d => uptoBulk d + 1
  | .map entries => uptoBulkEntries entries + 1
  | .held _ => 1
def uptoBulkAll {H : Type} : List (DataW H) → Nat
  | [] => 0
  | d :: r => uptoBulk d + uptoBulkAll r
def uptoBulkEntries {H : Type} : List (Lit × DataW H) → Nat
  | [] => 0
  | x :: r => uptoBulkEntry x + uptoBulkEntries r
def uptoBulkEntry {H : Type} : Lit × DataW H → Nat
  | (.string bytes, d) => bytes.length + uptoBulk d + 1
  | (_, d) => uptoBulk d + 1
 end
def uptoSmall : (H : Type) → List (DataW H) → Bool := fun _ ds => decide (uptoBulkAll ds ≤ 1048576)
def OpenSpec.upto (s : _root_.Go.ChangeSpec) : _root_.Go.OpenSpec := { _root_.Go.OpenSpec.ofChange s with cond := some uptoSmall }

/-- 'hopperlaw07.PotTells', WHERE WHAT IT READS IS OF BULK AT MOST 1048576: true; the input reads as it did. -/
def potTellsUptoRow : OpenClaim := { program := "ytfpomamhcjkoeab", sum := "6da8f91c665375b783ef9a909ba1f98a93a28b76ec68e93b865a449a83eed2f8", func := "hopper/hopperlaw07.PotTells", spec := "potTells", apart := false, narrowed := true }
def PotTellsUptoSaid : Prop := potTellsUptoRow.holds Try.pinned (OpenSpec.upto potTellsSpec)

/-- 'hopperlaw07.PotRuns', WHERE WHAT IT READS IS OF BULK AT MOST 1048576: true; the input reads as it did. -/
def potRunsUptoRow : OpenClaim := { program := "ytfpomamhcjkoeab", sum := "6da8f91c665375b783ef9a909ba1f98a93a28b76ec68e93b865a449a83eed2f8", func := "hopper/hopperlaw07.PotRuns", spec := "potRuns", apart := false, narrowed := true }
def PotRunsUptoSaid : Prop := potRunsUptoRow.holds Try.pinned (OpenSpec.upto potRunsSpec)

/-- 'hopperlaw07.PotOrder', WHERE WHAT IT READS IS OF BULK AT MOST 1048576: true; the input reads as it did. -/
def potOrderUptoRow : OpenClaim := { program := "ytfpomamhcjkoeab", sum := "6da8f91c665375b783ef9a909ba1f98a93a28b76ec68e93b865a449a83eed2f8", func := "hopper/hopperlaw07.PotOrder", spec := "potOrder", apart := false, narrowed := true }
def PotOrderUptoSaid : Prop := potOrderUptoRow.holds Try.pinned (OpenSpec.upto potOrderSpec)

/-- 'hopperlaw07.PotFull', WHERE WHAT IT READS IS OF BULK AT MOST 1048576: true; the input reads as it did. -/
def potFullUptoRow : OpenClaim := { program := "ytfpomamhcjkoeab", sum := "6da8f91c665375b783ef9a909ba1f98a93a28b76ec68e93b865a449a83eed2f8", func := "hopper/hopperlaw07.PotFull", spec := "potFull", apart := false, narrowed := true }
def PotFullUptoSaid : Prop := potFullUptoRow.holds Try.pinned (OpenSpec.upto potFullSpec)

/-- 'hopperlaw03.CodecWrites', WHERE WHAT IT READS IS OF BULK AT MOST 1048576: true; the input reads as it did. -/
def codecWritesUptoRow : OpenClaim := { program := "ytfpomamhcjkoeab", sum := "6da8f91c665375b783ef9a909ba1f98a93a28b76ec68e93b865a449a83eed2f8", func := "hopper/hopperlaw03.CodecWrites", spec := "codecWrites", recurses := true, apart := false, narrowed := true }
def CodecWritesUptoSaid : Prop := codecWritesUptoRow.holds Try.pinned (OpenSpec.upto codecWritesSpec)

/-- 'hopperlaw03.CodecTakes', WHERE WHAT IT READS IS OF BULK AT MOST 1048576: true; the input reads as it did. -/
def codecTakesUptoRow : OpenClaim := { program := "ytfpomamhcjkoeab", sum := "6da8f91c665375b783ef9a909ba1f98a93a28b76ec68e93b865a449a83eed2f8", func := "hopper/hopperlaw03.CodecTakes", spec := "codecTakes", recurses := true, apart := false, narrowed := true }
def CodecTakesUptoSaid : Prop := codecTakesUptoRow.holds Try.pinned (OpenSpec.upto codecTakesSpec)

/-- 'hopperlaw03.CodecBack', WHERE WHAT IT READS IS OF BULK AT MOST 1048576: true; the input reads as it did. -/
def codecBackUptoRow : OpenClaim := { program := "ytfpomamhcjkoeab", sum := "6da8f91c665375b783ef9a909ba1f98a93a28b76ec68e93b865a449a83eed2f8", func := "hopper/hopperlaw03.CodecBack", spec := "codecBack", apart := false, narrowed := true }
def CodecBackUptoSaid : Prop := codecBackUptoRow.holds Try.pinned (OpenSpec.upto codecBackSpec)

/-- 'hopperlaw03.CodecOne', WHERE WHAT IT READS IS OF BULK AT MOST 1048576: true; the input reads as it did. -/
def codecOneUptoRow : OpenClaim := { program := "ytfpomamhcjkoeab", sum := "6da8f91c665375b783ef9a909ba1f98a93a28b76ec68e93b865a449a83eed2f8", func := "hopper/hopperlaw03.CodecOne", spec := "codecOne", apart := false, narrowed := true }
def CodecOneUptoSaid : Prop := codecOneUptoRow.holds Try.pinned (OpenSpec.upto codecOneSpec)

/-- 'hopperlaw03.CodecRow', WHERE WHAT IT READS IS OF BULK AT MOST 1048576: true; the input reads as it did. -/
def codecRowUptoRow : OpenClaim := { program := "ytfpomamhcjkoeab", sum := "6da8f91c665375b783ef9a909ba1f98a93a28b76ec68e93b865a449a83eed2f8", func := "hopper/hopperlaw03.CodecRow", spec := "codecRow", apart := false, narrowed := true }
def CodecRowUptoSaid : Prop := codecRowUptoRow.holds Try.pinned (OpenSpec.upto codecRowSpec)

/-- 'hopperlaw03.CodecCut', WHERE WHAT IT READS IS OF BULK AT MOST 1048576: true; the input reads as it did. -/
def codecCutUptoRow : OpenClaim := { program := "ytfpomamhcjkoeab", sum := "6da8f91c665375b783ef9a909ba1f98a93a28b76ec68e93b865a449a83eed2f8", func := "hopper/hopperlaw03.CodecCut", spec := "codecCut", apart := false, narrowed := true }
def CodecCutUptoSaid : Prop := codecCutUptoRow.holds Try.pinned (OpenSpec.upto codecCutSpec)

/-- 'hopperlaw03.CodecOrder', WHERE WHAT IT READS IS OF BULK AT MOST 1048576: true; the input reads as it did. -/
def codecOrderUptoRow : OpenClaim := { program := "ytfpomamhcjkoeab", sum := "6da8f91c665375b783ef9a909ba1f98a93a28b76ec68e93b865a449a83eed2f8", func := "hopper/hopperlaw03.CodecOrder", spec := "codecOrder", apart := false, narrowed := true }
def CodecOrderUptoSaid : Prop := codecOrderUptoRow.holds Try.pinned (OpenSpec.upto codecOrderSpec)

end Rows
end Go.Proofs.Ytfpomamhcjkoeab
