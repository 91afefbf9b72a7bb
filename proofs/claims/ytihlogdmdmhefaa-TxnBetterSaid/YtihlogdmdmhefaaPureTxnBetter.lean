/- The plain statement behind the law TxnBetter, proved for every input; no condition but the types' own bounds. -/
import Derived.Test.YtihlogdmdmhefaaTxnRefBetter
import Derived.Test.YtihlogdmdmhefaaLx24
namespace Go.Proofs.Ytihlogdmdmhefaa.Pure
set_option linter.unusedSimpArgs false
set_option linter.unusedVariables false
open Go.RowKit Go.Proofs.Ytihlogdmdmhefaa.L Go.Proofs.Ytihlogdmdmhefaa.TxnCodec Go.Proofs.Ytihlogdmdmhefaa.TxnLaws Go.Proofs.Ytihlogdmdmhefaa.Row Go.Proofs.YtihlogdmdmhefaaW.PrintWords Go.Proofs.YtihlogdmdmhefaaW.PrintLast
theorem TxnBetter : hopperlaw04_TxnBetter.Pure := by
  intro a b c d e z a' b' c' d' e' z' _ _
  refine ⟨500, ?_⟩
  unfold hopperlaw04_TxnBetter.f hopperref04_Small.f
  rw [better _ _ _ _ _ _ _ _ _ _ _ _ _ (by omega), ref_better _ _ _ _ _ _ _ _ _ _ _ _ _ (by omega), live _ (by omega)]
  simp only [Option.bind_some, beq_self_eq_true, if_true]
  split
  · split <;> rfl
  · rfl
end Go.Proofs.Ytihlogdmdmhefaa.Pure
