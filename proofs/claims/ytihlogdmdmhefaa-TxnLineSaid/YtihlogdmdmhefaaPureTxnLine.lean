/- The plain statement behind the law TxnLine, proved for every input; no condition but the types' own bounds. -/
import Derived.Test.YtihlogdmdmhefaaTxnMore
import Derived.Test.YtihlogdmdmhefaaLx25
namespace Go.Proofs.Ytihlogdmdmhefaa.Pure
set_option linter.unusedSimpArgs false
set_option linter.unusedVariables false
open Go.RowKit Go.Proofs.Ytihlogdmdmhefaa.L Go.Proofs.Ytihlogdmdmhefaa.TxnCodec Go.Proofs.Ytihlogdmdmhefaa.TxnLaws Go.Proofs.Ytihlogdmdmhefaa.Row Go.Proofs.YtihlogdmdmhefaaW.PrintWords Go.Proofs.YtihlogdmdmhefaaW.PrintLast
theorem TxnLine : hopperlaw04_TxnLine.Pure := by
  intro a b c d e z a' b' c' d' e' z' x y u v n s _ _ _
  refine ⟨50, ?_⟩
  have skip : hopperlaw04_TxnLine.j0 50 true a b c d e z a' b' c' d' e' z' x y u v n s = some true := by
    simp only [hopperlaw04_TxnLine.j0]
    rw [if_pos trivial, live _ (by omega)]
    rfl
  have last : hopperlaw04_TxnLine.j1 49 (decide (Better a b c d e z a' b' c' d' e' z')) false a b c d e z a' b' c' d' e' z' x y u v n s = some true := by
    simp only [hopperlaw04_TxnLine.j1]
    rw [if_neg (by decide), better _ _ _ _ _ _ _ _ _ _ _ _ _ (by omega), better _ _ _ _ _ _ _ _ _ _ _ _ _ (by omega), live _ (by omega)]
    simp only [Option.bind_some]
    by_cases h1 : Better a b c d e z a' b' c' d' e' z'
    · rw [decide_eq_true h1, if_pos rfl]
      by_cases h2 : Better a' b' c' d' e' z' x y u v n s
      · rw [decide_eq_true h2, if_pos rfl, decide_eq_true (better_trans _ _ _ _ _ _ _ _ _ _ _ _ _ _ _ _ _ _ h1 h2), if_pos rfl]
        split <;> rfl
      · rw [decide_eq_false h2, if_neg (by decide)]
        split <;> rfl
    · rw [decide_eq_false h1, if_neg (by decide), if_pos]
      unfold Better at h1
      omega
  have main : hopperlaw04_TxnLine.j0 50 false a b c d e z a' b' c' d' e' z' x y u v n s = some true := by
    simp only [hopperlaw04_TxnLine.j0]
    rw [if_neg (by decide), better _ _ _ _ _ _ _ _ _ _ _ _ _ (by omega), better _ _ _ _ _ _ _ _ _ _ _ _ _ (by omega), better _ _ _ _ _ _ _ _ _ _ _ _ _ (by omega), decide_eq_false (better_irrefl a b c d e z)]
    simp only [Option.bind_some]
    rw [if_neg (by decide)]
    by_cases h1 : Better a b c d e z a' b' c' d' e' z'
    · have h2 : ¬ Better a' b' c' d' e' z' a b c d e z := fun q => better_asymm _ _ _ _ _ _ _ _ _ _ _ _ h1 q
      rw [decide_eq_true h1] at last ⊢
      rw [if_pos rfl, decide_eq_false h2, if_neg (by decide)]
      split
      · split <;> exact last
      · exact last
    · rw [decide_eq_false h1] at last ⊢
      rw [if_neg (by decide)]
      by_cases e1 : a = a'
      · by_cases e2 : b = b'
        · rw [if_pos e1, if_pos e2]; exact last
        · rw [if_pos e1, if_neg e2]
          rcases better_total a b c d e z a' b' c' d' e' z' (.inr e2) with q | q
          · exact absurd q h1
          · rw [decide_eq_true q]; exact last
      · rw [if_neg e1]
        rcases better_total a b c d e z a' b' c' d' e' z' (.inl e1) with q | q
        · exact absurd q h1
        · rw [decide_eq_true q]; exact last
  unfold hopperlaw04_TxnLine.f hopperref04_Small.f
  simp only [Option.bind_some]
  split
  · split
    · cases decide ((s.size : Int) ≤ 500) with
      | true => exact main
      | false => exact skip
    · exact skip
  · exact skip
end Go.Proofs.Ytihlogdmdmhefaa.Pure
