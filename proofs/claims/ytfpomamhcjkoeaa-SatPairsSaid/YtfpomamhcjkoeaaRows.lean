/-
  No cell of these rows narrows 'for every input' (looked for: loops, veiled, ifaces, maps, wideKeys, modest, calm, conditions, laid).
  DERIVED. THE GIVEN ROWS OF THIS SEAT. 12 by the template 'for every input the law returns true; each argument reads behind the call as it read before'; 0 by the template 'total and deterministic' (their statements: YtfpomamhcjkoeaaTotals.lean).
  GIVEN WITH THE SEED: the statements are not yours to turn. If you find one false, say at which input.
  Laid BY PROGRAM, IN A SANDBOX (cutbox-rows.mjs): the forced cells as the released guide's own fill.sh prints them over the translation 7b46ee1474ef6cf4… (all of the seat's roots in one cut). By AI agents, Wed Nov 11 2026. No macro, syntax, notation, axiom, sorry.
-/
import Derived.Test.YtfpomamhcjkoeaaChecked
import GoSem.Claim
import GoSem.ClaimJoined
import GoSem.ClaimMapViews
import Derived.JoinedTies
import Derived.KernelRfl
namespace Go.Proofs.Ytfpomamhcjkoeaa
/- THE CELL 'sum', in the pinned program and in every row, IS THE sha256 OF THE DUMP (.gsa) THAT YtfpomamhcjkoeaaProg.lean LOADS. Nothing in Lean hashes anything: it is a label: what it is worth is what the hold of that sum in a sandbox is worth. -/
noncomputable def Try.pinned : Pinned := { name := "ytfpomamhcjkoeaa", sum := "7b46ee1474ef6cf489eb0593eb5169c046802ba5c5b6b7c2893829a5fb343199", checked := Try.checked }
namespace Rows
def none {H : Type} : Left H := { results := [], args := [] }

/-- 'hopperlaw01.SatTells': WHATEVER THE INPUT: true; the input reads as it did. -/
def satTellsSpec : ChangeSpec := { name := "satTells", fn := fun _ => fun
  | [d1, d2, d3] => { results := [.lit (.bool true)], args := [d1, d2, d3] }
  | _ => none }
def satTellsRow : OpenClaim := { program := "ytfpomamhcjkoeaa", sum := "7b46ee1474ef6cf489eb0593eb5169c046802ba5c5b6b7c2893829a5fb343199", func := "hopper/hopperlaw01.SatTells", spec := "satTells", apart := false }
def SatTellsSaid : Prop := satTellsRow.holds Try.pinned (OpenSpec.ofChange satTellsSpec)

/-- ITS FALSE NEIGHBOUR: 'it returns false'. Refute it at one input. -/
def satTellsWrong : ChangeSpec := { name := "satTells", fn := fun _ => fun
  | [d1, d2, d3] => { results := [.lit (.bool false)], args := [d1, d2, d3] }
  | _ => none }
def SatTellsWrongFalsely : Prop := satTellsRow.holds Try.pinned (OpenSpec.ofChange satTellsWrong)

/-- 'hopperlaw01.SatTotals': WHATEVER THE INPUT: true; the input reads as it did. -/
def satTotalsSpec : ChangeSpec := { name := "satTotals", fn := fun _ => fun
  | [d1, d2] => { results := [.lit (.bool true)], args := [d1, d2] }
  | _ => none }
def satTotalsRow : OpenClaim := { program := "ytfpomamhcjkoeaa", sum := "7b46ee1474ef6cf489eb0593eb5169c046802ba5c5b6b7c2893829a5fb343199", func := "hopper/hopperlaw01.SatTotals", spec := "satTotals", apart := false }
def SatTotalsSaid : Prop := satTotalsRow.holds Try.pinned (OpenSpec.ofChange satTotalsSpec)

/-- ITS FALSE NEIGHBOUR: 'it returns false'. Refute it at one input. -/
def satTotalsWrong : ChangeSpec := { name := "satTotals", fn := fun _ => fun
  | [d1, d2] => { results := [.lit (.bool false)], args := [d1, d2] }
  | _ => none }
def SatTotalsWrongFalsely : Prop := satTotalsRow.holds Try.pinned (OpenSpec.ofChange satTotalsWrong)

/-- 'hopperlaw01.SatOrder': WHATEVER THE INPUT: true; the input reads as it did. -/
def satOrderSpec : ChangeSpec := { name := "satOrder", fn := fun _ => fun
  | [d1, d2, d3] => { results := [.lit (.bool true)], args := [d1, d2, d3] }
  | _ => none }
def satOrderRow : OpenClaim := { program := "ytfpomamhcjkoeaa", sum := "7b46ee1474ef6cf489eb0593eb5169c046802ba5c5b6b7c2893829a5fb343199", func := "hopper/hopperlaw01.SatOrder", spec := "satOrder", apart := false }
def SatOrderSaid : Prop := satOrderRow.holds Try.pinned (OpenSpec.ofChange satOrderSpec)

/-- ITS FALSE NEIGHBOUR: 'it returns false'. Refute it at one input. -/
def satOrderWrong : ChangeSpec := { name := "satOrder", fn := fun _ => fun
  | [d1, d2, d3] => { results := [.lit (.bool false)], args := [d1, d2, d3] }
  | _ => none }
def SatOrderWrongFalsely : Prop := satOrderRow.holds Try.pinned (OpenSpec.ofChange satOrderWrong)

/-- 'hopperlaw01.SatRaises': WHATEVER THE INPUT: true; the input reads as it did. -/
def satRaisesSpec : ChangeSpec := { name := "satRaises", fn := fun _ => fun
  | [d1, d2, d3] => { results := [.lit (.bool true)], args := [d1, d2, d3] }
  | _ => none }
def satRaisesRow : OpenClaim := { program := "ytfpomamhcjkoeaa", sum := "7b46ee1474ef6cf489eb0593eb5169c046802ba5c5b6b7c2893829a5fb343199", func := "hopper/hopperlaw01.SatRaises", spec := "satRaises", apart := false }
def SatRaisesSaid : Prop := satRaisesRow.holds Try.pinned (OpenSpec.ofChange satRaisesSpec)

/-- ITS FALSE NEIGHBOUR: 'it returns false'. Refute it at one input. -/
def satRaisesWrong : ChangeSpec := { name := "satRaises", fn := fun _ => fun
  | [d1, d2, d3] => { results := [.lit (.bool false)], args := [d1, d2, d3] }
  | _ => none }
def SatRaisesWrongFalsely : Prop := satRaisesRow.holds Try.pinned (OpenSpec.ofChange satRaisesWrong)

/-- 'hopperlaw01.SatBounds': WHATEVER THE INPUT: true; the input reads as it did. -/
def satBoundsSpec : ChangeSpec := { name := "satBounds", fn := fun _ => fun
  | [d1, d2, d3] => { results := [.lit (.bool true)], args := [d1, d2, d3] }
  | _ => none }
def satBoundsRow : OpenClaim := { program := "ytfpomamhcjkoeaa", sum := "7b46ee1474ef6cf489eb0593eb5169c046802ba5c5b6b7c2893829a5fb343199", func := "hopper/hopperlaw01.SatBounds", spec := "satBounds", apart := false }
def SatBoundsSaid : Prop := satBoundsRow.holds Try.pinned (OpenSpec.ofChange satBoundsSpec)

/-- ITS FALSE NEIGHBOUR: 'it returns false'. Refute it at one input. -/
def satBoundsWrong : ChangeSpec := { name := "satBounds", fn := fun _ => fun
  | [d1, d2, d3] => { results := [.lit (.bool false)], args := [d1, d2, d3] }
  | _ => none }
def SatBoundsWrongFalsely : Prop := satBoundsRow.holds Try.pinned (OpenSpec.ofChange satBoundsWrong)

/-- 'hopperlaw01.SatSlots': WHATEVER THE INPUT: true; the input reads as it did. -/
def satSlotsSpec : ChangeSpec := { name := "satSlots", fn := fun _ => fun
  | [d1, d2] => { results := [.lit (.bool true)], args := [d1, d2] }
  | _ => none }
def satSlotsRow : OpenClaim := { program := "ytfpomamhcjkoeaa", sum := "7b46ee1474ef6cf489eb0593eb5169c046802ba5c5b6b7c2893829a5fb343199", func := "hopper/hopperlaw01.SatSlots", spec := "satSlots", apart := false }
def SatSlotsSaid : Prop := satSlotsRow.holds Try.pinned (OpenSpec.ofChange satSlotsSpec)

/-- ITS FALSE NEIGHBOUR: 'it returns false'. Refute it at one input. -/
def satSlotsWrong : ChangeSpec := { name := "satSlots", fn := fun _ => fun
  | [d1, d2] => { results := [.lit (.bool false)], args := [d1, d2] }
  | _ => none }
def SatSlotsWrongFalsely : Prop := satSlotsRow.holds Try.pinned (OpenSpec.ofChange satSlotsWrong)

/-- 'hopperlaw01.SatPairs': WHATEVER THE INPUT: true; the input reads as it did. -/
def satPairsSpec : ChangeSpec := { name := "satPairs", fn := fun _ => fun
  | [d1, d2] => { results := [.lit (.bool true)], args := [d1, d2] }
  | _ => none }
def satPairsRow : OpenClaim := { program := "ytfpomamhcjkoeaa", sum := "7b46ee1474ef6cf489eb0593eb5169c046802ba5c5b6b7c2893829a5fb343199", func := "hopper/hopperlaw01.SatPairs", spec := "satPairs", apart := false }
def SatPairsSaid : Prop := satPairsRow.holds Try.pinned (OpenSpec.ofChange satPairsSpec)

/-- ITS FALSE NEIGHBOUR: 'it returns false'. Refute it at one input. -/
def satPairsWrong : ChangeSpec := { name := "satPairs", fn := fun _ => fun
  | [d1, d2] => { results := [.lit (.bool false)], args := [d1, d2] }
  | _ => none }
def SatPairsWrongFalsely : Prop := satPairsRow.holds Try.pinned (OpenSpec.ofChange satPairsWrong)

/-- 'hopperlaw02.FnvTells': WHATEVER THE INPUT: true; the input reads as it did. -/
def fnvTellsSpec : ChangeSpec := { name := "fnvTells", fn := fun _ => fun
  | [d1, d2, d3] => { results := [.lit (.bool true)], args := [d1, d2, d3] }
  | _ => none }
def fnvTellsRow : OpenClaim := { program := "ytfpomamhcjkoeaa", sum := "7b46ee1474ef6cf489eb0593eb5169c046802ba5c5b6b7c2893829a5fb343199", func := "hopper/hopperlaw02.FnvTells", spec := "fnvTells", apart := false }
def FnvTellsSaid : Prop := fnvTellsRow.holds Try.pinned (OpenSpec.ofChange fnvTellsSpec)

/-- ITS FALSE NEIGHBOUR: 'it returns false'. Refute it at one input. -/
def fnvTellsWrong : ChangeSpec := { name := "fnvTells", fn := fun _ => fun
  | [d1, d2, d3] => { results := [.lit (.bool false)], args := [d1, d2, d3] }
  | _ => none }
def FnvTellsWrongFalsely : Prop := fnvTellsRow.holds Try.pinned (OpenSpec.ofChange fnvTellsWrong)

/-- 'hopperlaw02.FnvRolls': WHATEVER THE INPUT: true; the input reads as it did. -/
def fnvRollsSpec : ChangeSpec := { name := "fnvRolls", fn := fun _ => fun
  | [d1, d2, d3] => { results := [.lit (.bool true)], args := [d1, d2, d3] }
  | _ => none }
def fnvRollsRow : OpenClaim := { program := "ytfpomamhcjkoeaa", sum := "7b46ee1474ef6cf489eb0593eb5169c046802ba5c5b6b7c2893829a5fb343199", func := "hopper/hopperlaw02.FnvRolls", spec := "fnvRolls", apart := false }
def FnvRollsSaid : Prop := fnvRollsRow.holds Try.pinned (OpenSpec.ofChange fnvRollsSpec)

/-- ITS FALSE NEIGHBOUR: 'it returns false'. Refute it at one input. -/
def fnvRollsWrong : ChangeSpec := { name := "fnvRolls", fn := fun _ => fun
  | [d1, d2, d3] => { results := [.lit (.bool false)], args := [d1, d2, d3] }
  | _ => none }
def FnvRollsWrongFalsely : Prop := fnvRollsRow.holds Try.pinned (OpenSpec.ofChange fnvRollsWrong)

/-- 'hopperlaw02.FnvTexts': WHATEVER THE INPUT: true; the input reads as it did. -/
def fnvTextsSpec : ChangeSpec := { name := "fnvTexts", fn := fun _ => fun
  | [d1, d2] => { results := [.lit (.bool true)], args := [d1, d2] }
  | _ => none }
def fnvTextsRow : OpenClaim := { program := "ytfpomamhcjkoeaa", sum := "7b46ee1474ef6cf489eb0593eb5169c046802ba5c5b6b7c2893829a5fb343199", func := "hopper/hopperlaw02.FnvTexts", spec := "fnvTexts", apart := false }
def FnvTextsSaid : Prop := fnvTextsRow.holds Try.pinned (OpenSpec.ofChange fnvTextsSpec)

/-- ITS FALSE NEIGHBOUR: 'it returns false'. Refute it at one input. -/
def fnvTextsWrong : ChangeSpec := { name := "fnvTexts", fn := fun _ => fun
  | [d1, d2] => { results := [.lit (.bool false)], args := [d1, d2] }
  | _ => none }
def FnvTextsWrongFalsely : Prop := fnvTextsRow.holds Try.pinned (OpenSpec.ofChange fnvTextsWrong)

/-- 'hopperlaw02.FnvShards': WHATEVER THE INPUT: true; the input reads as it did. -/
def fnvShardsSpec : ChangeSpec := { name := "fnvShards", fn := fun _ => fun
  | [d1, d2] => { results := [.lit (.bool true)], args := [d1, d2] }
  | _ => none }
def fnvShardsRow : OpenClaim := { program := "ytfpomamhcjkoeaa", sum := "7b46ee1474ef6cf489eb0593eb5169c046802ba5c5b6b7c2893829a5fb343199", func := "hopper/hopperlaw02.FnvShards", spec := "fnvShards", apart := false }
def FnvShardsSaid : Prop := fnvShardsRow.holds Try.pinned (OpenSpec.ofChange fnvShardsSpec)

/-- ITS FALSE NEIGHBOUR: 'it returns false'. Refute it at one input. -/
def fnvShardsWrong : ChangeSpec := { name := "fnvShards", fn := fun _ => fun
  | [d1, d2] => { results := [.lit (.bool false)], args := [d1, d2] }
  | _ => none }
def FnvShardsWrongFalsely : Prop := fnvShardsRow.holds Try.pinned (OpenSpec.ofChange fnvShardsWrong)

/-- 'hopperlaw02.FnvBytes': WHATEVER THE INPUT: true; the input reads as it did. -/
def fnvBytesSpec : ChangeSpec := { name := "fnvBytes", fn := fun _ => fun
  | [d1, d2] => { results := [.lit (.bool true)], args := [d1, d2] }
  | _ => none }
def fnvBytesRow : OpenClaim := { program := "ytfpomamhcjkoeaa", sum := "7b46ee1474ef6cf489eb0593eb5169c046802ba5c5b6b7c2893829a5fb343199", func := "hopper/hopperlaw02.FnvBytes", spec := "fnvBytes", apart := false }
def FnvBytesSaid : Prop := fnvBytesRow.holds Try.pinned (OpenSpec.ofChange fnvBytesSpec)

/-- ITS FALSE NEIGHBOUR: 'it returns false'. Refute it at one input. -/
def fnvBytesWrong : ChangeSpec := { name := "fnvBytes", fn := fun _ => fun
  | [d1, d2] => { results := [.lit (.bool false)], args := [d1, d2] }
  | _ => none }
def FnvBytesWrongFalsely : Prop := fnvBytesRow.holds Try.pinned (OpenSpec.ofChange fnvBytesWrong)

/- THE SECOND FORM. 'bulk': how many values and letters a reading holds, each counted each time it is reached (what is shared counts as often as it is met; a slice's spare places count too). A statement '..UptoSaid' is the law's where the arguments, and the package variables that the reading takes, are together of bulk at most 1048576: NARROWER than '..Said'. Prove '..Said' where nothing that the law and all that it calls make is longer than what came in: it says more and counts as full. Else prove '..UptoSaid'. A law counts once. -/
mutual
def uptoBulk {H : Type} : DataW H → Nat
  | .lit (.string bytes) => bytes.length + 1
  | .lit _ => 1
  | .nil => 1
  | .ptr d => uptoBulk d + 1
  | .slice elems spare => uptoBulkAll elems + uptoBulkAll spare + 1
  | .agg parts => uptoBulkAll parts + 1
  | .iface _ d => uptoBulk d + 1
  | .map entries => uptoBulkEntries entries + 1
  | .held _ => 1
def uptoBulkAll {H : Type} : List (DataW H) → Nat
  | [] => 0
  | d :: r => uptoBulk d + uptoBulkAll r
def uptoBulkEntries {H : Type} : List (Lit × DataW H) → Nat
  | [] => 0
  | x :: r => uptoBulkEntry x + uptoBulkEntries r
def uptoBulkEntry {H : Type} : Lit × DataW H → Nat
  | (.string bytes, d) => bytes.length + uptoBulk d + 1
  | (_, d) => uptoBulk d + 1
 end
def uptoSmall : (H : Type) → List (DataW H) → Bool := fun _ ds => decide (uptoBulkAll ds ≤ 1048576)
def OpenSpec.upto (s : _root_.Go.ChangeSpec) : _root_.Go.OpenSpec := { _root_.Go.OpenSpec.ofChange s with cond := some uptoSmall }

/-- 'hopperlaw01.SatTells', WHERE WHAT IT READS IS OF BULK AT MOST 1048576: true; the input reads as it did. -/
def satTellsUptoRow : OpenClaim := { program := "ytfpomamhcjkoeaa", sum := "7b46ee1474ef6cf489eb0593eb5169c046802ba5c5b6b7c2893829a5fb343199", func := "hopper/hopperlaw01.SatTells", spec := "satTells", apart := false, narrowed := true }
def SatTellsUptoSaid : Prop := satTellsUptoRow.holds Try.pinned (OpenSpec.upto satTellsSpec)

/-- 'hopperlaw01.SatTotals', WHERE WHAT IT READS IS OF BULK AT MOST 1048576: true; the input reads as it did. -/
def satTotalsUptoRow : OpenClaim := { program := "ytfpomamhcjkoeaa", sum := "7b46ee1474ef6cf489eb0593eb5169c046802ba5c5b6b7c2893829a5fb343199", func := "hopper/hopperlaw01.SatTotals", spec := "satTotals", apart := false, narrowed := true }
def SatTotalsUptoSaid : Prop := satTotalsUptoRow.holds Try.pinned (OpenSpec.upto satTotalsSpec)

/-- 'hopperlaw01.SatOrder', WHERE WHAT IT READS IS OF BULK AT MOST 1048576: true; the input reads as it did. -/
def satOrderUptoRow : OpenClaim := { program := "ytfpomamhcjkoeaa", sum := "7b46ee1474ef6cf489eb0593eb5169c046802ba5c5b6b7c2893829a5fb343199", func := "hopper/hopperlaw01.SatOrder", spec := "satOrder", apart := false, narrowed := true }
def SatOrderUptoSaid : Prop := satOrderUptoRow.holds Try.pinned (OpenSpec.upto satOrderSpec)

/-- 'hopperlaw01.SatRaises', WHERE WHAT IT READS IS OF BULK AT MOST 1048576: true; the input reads as it did. -/
def satRaisesUptoRow : OpenClaim := { program := "ytfpomamhcjkoeaa", sum := "7b46ee1474ef6cf489eb0593eb5169c046802ba5c5b6b7c2893829a5fb343199", func := "hopper/hopperlaw01.SatRaises", spec := "satRaises", apart := false, narrowed := true }
def SatRaisesUptoSaid : Prop := satRaisesUptoRow.holds Try.pinned (OpenSpec.upto satRaisesSpec)

/-- 'hopperlaw01.SatBounds', WHERE WHAT IT READS IS OF BULK AT MOST 1048576: true; the input reads as it did. -/
def satBoundsUptoRow : OpenClaim := { program := "ytfpomamhcjkoeaa", sum := "7b46ee1474ef6cf489eb0593eb5169c046802ba5c5b6b7c2893829a5fb343199", func := "hopper/hopperlaw01.SatBounds", spec := "satBounds", apart := false, narrowed := true }
def SatBoundsUptoSaid : Prop := satBoundsUptoRow.holds Try.pinned (OpenSpec.upto satBoundsSpec)

/-- 'hopperlaw01.SatSlots', WHERE WHAT IT READS IS OF BULK AT MOST 1048576: true; the input reads as it did. -/
def satSlotsUptoRow : OpenClaim := { program := "ytfpomamhcjkoeaa", sum := "7b46ee1474ef6cf489eb0593eb5169c046802ba5c5b6b7c2893829a5fb343199", func := "hopper/hopperlaw01.SatSlots", spec := "satSlots", apart := false, narrowed := true }
def SatSlotsUptoSaid : Prop := satSlotsUptoRow.holds Try.pinned (OpenSpec.upto satSlotsSpec)

/-- 'hopperlaw01.SatPairs', WHERE WHAT IT READS IS OF BULK AT MOST 1048576: true; the input reads as it did. -/
def satPairsUptoRow : OpenClaim := { program := "ytfpomamhcjkoeaa", sum := "7b46ee1474ef6cf489eb0593eb5169c046802ba5c5b6b7c2893829a5fb343199", func := "hopper/hopperlaw01.SatPairs", spec := "satPairs", apart := false, narrowed := true }
def SatPairsUptoSaid : Prop := satPairsUptoRow.holds Try.pinned (OpenSpec.upto satPairsSpec)

/-- 'hopperlaw02.FnvTells', WHERE WHAT IT READS IS OF BULK AT MOST 1048576: true; the input reads as it did. -/
def fnvTellsUptoRow : OpenClaim := { program := "ytfpomamhcjkoeaa", sum := "7b46ee1474ef6cf489eb0593eb5169c046802ba5c5b6b7c2893829a5fb343199", func := "hopper/hopperlaw02.FnvTells", spec := "fnvTells", apart := false, narrowed := true }
def FnvTellsUptoSaid : Prop := fnvTellsUptoRow.holds Try.pinned (OpenSpec.upto fnvTellsSpec)

/-- 'hopperlaw02.FnvRolls', WHERE WHAT IT READS IS OF BULK AT MOST 1048576: true; the input reads as it did. -/
def fnvRollsUptoRow : OpenClaim := { program := "ytfpomamhcjkoeaa", sum := "7b46ee1474ef6cf489eb0593eb5169c046802ba5c5b6b7c2893829a5fb343199", func := "hopper/hopperlaw02.FnvRolls", spec := "fnvRolls", apart := false, narrowed := true }
def FnvRollsUptoSaid : Prop := fnvRollsUptoRow.holds Try.pinned (OpenSpec.upto fnvRollsSpec)

/-- 'hopperlaw02.FnvTexts', WHERE WHAT IT READS IS OF BULK AT MOST 1048576: true; the input reads as it did. -/
def fnvTextsUptoRow : OpenClaim := { program := "ytfpomamhcjkoeaa", sum := "7b46ee1474ef6cf489eb0593eb5169c046802ba5c5b6b7c2893829a5fb343199", func := "hopper/hopperlaw02.FnvTexts", spec := "fnvTexts", apart := false, narrowed := true }
def FnvTextsUptoSaid : Prop := fnvTextsUptoRow.holds Try.pinned (OpenSpec.upto fnvTextsSpec)

/-- 'hopperlaw02.FnvShards', WHERE WHAT IT READS IS OF BULK AT MOST 1048576: true; the input reads as it did. -/
def fnvShardsUptoRow : OpenClaim := { program := "ytfpomamhcjkoeaa", sum := "7b46ee1474ef6cf489eb0593eb5169c046802ba5c5b6b7c2893829a5fb343199", func := "hopper/hopperlaw02.FnvShards", spec := "fnvShards", apart := false, narrowed := true }
def FnvShardsUptoSaid : Prop := fnvShardsUptoRow.holds Try.pinned (OpenSpec.upto fnvShardsSpec)

/-- 'hopperlaw02.FnvBytes', WHERE WHAT IT READS IS OF BULK AT MOST 1048576: true; the input reads as it did. -/
def fnvBytesUptoRow : OpenClaim := { program := "ytfpomamhcjkoeaa", sum := "7b46ee1474ef6cf489eb0593eb5169c046802ba5c5b6b7c2893829a5fb343199", func := "hopper/hopperlaw02.FnvBytes", spec := "fnvBytes", apart := false, narrowed := true }
def FnvBytesUptoSaid : Prop := fnvBytesUptoRow.holds Try.pinned (OpenSpec.upto fnvBytesSpec)

end Rows
end Go.Proofs.Ytfpomamhcjkoeaa
