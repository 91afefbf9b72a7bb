/- The plain statement behind the law TxnTells, proved for every input; no condition but the types' own bounds. -/
import Derived.Test.YtihlogdmdmhefaaTxnRefDecode
import Derived.Test.YtihlogdmdmhefaaLx21
namespace Go.Proofs.Ytihlogdmdmhefaa.Pure
set_option linter.unusedSimpArgs false
set_option linter.unusedVariables false
open Go.RowKit Go.Proofs.Ytihlogdmdmhefaa.L Go.Proofs.Ytihlogdmdmhefaa.TxnCodec Go.Proofs.Ytihlogdmdmhefaa.TxnLaws Go.Proofs.Ytihlogdmdmhefaa.Row Go.Proofs.YtihlogdmdmhefaaW.PrintWords Go.Proofs.YtihlogdmdmhefaaW.PrintLast
theorem TxnTells : hopperlaw04_TxnTells.Pure := by
  intro a b c d e z s _ _
  refine ⟨500, ?_⟩
  have skip : hopperlaw04_TxnTells.j0 500 s true a b c d e z = some true := by
    simp only [hopperlaw04_TxnTells.j0]
    rw [if_pos trivial, live _ (by omega)]
    rfl
  unfold hopperlaw04_TxnTells.f hopperref04_Small.f
  rw [Option.bind_some]
  by_cases c1 : (z.size : Int) ≤ 500
  · rw [decide_eq_true c1, if_pos rfl]
    by_cases c2 : (s.size : Int) > 2000
    · rw [decide_eq_true c2]; exact skip
    · rw [decide_eq_false c2]
      simp only [hopperlaw04_TxnTells.j0]
      obtain ⟨r, hr⟩ : ∃ r, txn_Decode.f s = some r := by
        rcases decode_cases s (by omega) with ⟨a, b, c, d, e, z, _, _, h⟩ | ⟨_, h⟩
        · exact ⟨_, h⟩
        · exact ⟨_, h⟩
      rw [if_neg (by decide), encode, ref_encode _ _ _ _ _ _ _ (by omega), ref_decode s (by omega), hr, check, ref_check, slots, ref_slots _ _ _ _ _ _ _ (by omega), id_, ref_id _ _ _ _ _ _ _ (by omega), live _ (by omega)]
      simp
  · rw [decide_eq_false c1, if_neg (by decide)]; exact skip
end Go.Proofs.Ytihlogdmdmhefaa.Pure
