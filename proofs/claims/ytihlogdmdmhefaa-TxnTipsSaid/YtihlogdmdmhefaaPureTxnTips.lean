/- The plain statement behind the law TxnTips, proved for every input; no condition but the types' own bounds. -/
import Derived.Test.YtihlogdmdmhefaaTxnMore
import Derived.Test.YtihlogdmdmhefaaLx27
namespace Go.Proofs.Ytihlogdmdmhefaa.Pure
set_option linter.unusedSimpArgs false
set_option linter.unusedVariables false
open Go.RowKit Go.Proofs.Ytihlogdmdmhefaa.L Go.Proofs.Ytihlogdmdmhefaa.TxnCodec Go.Proofs.Ytihlogdmdmhefaa.TxnLaws Go.Proofs.Ytihlogdmdmhefaa.Row Go.Proofs.YtihlogdmdmhefaaW.PrintWords Go.Proofs.YtihlogdmdmhefaaW.PrintLast
theorem TxnTips : hopperlaw04_TxnTips.Pure := by
  intro a b c d e z m hx _
  refine ⟨50, ?_⟩
  have skip : hopperlaw04_TxnTips.j0 50 m true a b c d e z = some true := by
    simp only [hopperlaw04_TxnTips.j0]
    unfold hopperref04_Small.f
    rw [if_pos trivial, live _ (by omega), check, id_]
    simp only [Option.bind_some]
    split
    · by_cases h : Chk a b c d e z
      · rw [decide_eq_true h, if_pos rfl]
      · rw [decide_eq_false h, if_neg (by decide), if_pos]
        rw [to_nil, id_size, if_neg h]
    · rfl
  have main : Chk a b c d e z → 1 ≤ m → m ≤ 1048576 → c + m ≤ d → hopperlaw04_TxnTips.j0 50 m false a b c d e z = some true := by
    intro h h1 h2 h3
    have h' : Chk a b (c + m) d e z := by unfold Chk at h ⊢; omega
    have hw : wrap64 (c + m) = c + m := by unfold Chk at h; unfold wrap64; omega
    have r := enc_range a b (c + m) d e z h'
    have b1 : Better a b (c + m) d e z a b c d e z := .inl (by omega)
    have b2 : ¬ Better a b c d e z a b (c + m) d e z := fun q => better_asymm _ _ _ _ _ _ _ _ _ _ _ _ b1 q
    have s1 := slots_range a b (c + m) d e z
    have s2 := s1.2.2 h'
    have s3 : slotsOf a b (c + m) d e z = slo (enc a b (c + m) d e z).size := by unfold slotsOf; rw [if_pos h']
    have hw2 : wrap64 (32 * slotsOf a b (c + m) d e z) = 32 * slotsOf a b (c + m) d e z := by unfold wrap64; omega
    simp only [hopperlaw04_TxnTips.j0]
    rw [if_neg (by decide), hw, encode, Option.bind_some, if_pos h', check, decide_eq_true h', Option.bind_some, if_pos rfl, better _ _ _ _ _ _ _ _ _ _ _ _ _ (by omega), decide_eq_true b1, Option.bind_some, if_pos rfl, better _ _ _ _ _ _ _ _ _ _ _ _ _ (by omega), decide_eq_false b2, Option.bind_some, if_neg (by decide), if_pos rfl, slots, Option.bind_some, if_pos (by omega), Option.bind_some, hw2, if_pos (by rw [s3]; unfold slo; show _ ≥ ((enc a b (c + m) d e z).size : Int); omega), id_, Option.bind_some, if_pos (by rw [id_size, if_pos h']; rfl), live _ (by omega)]
    rfl
  unfold hopperlaw04_TxnTips.f
  have hs : hopperref04_Small.f a b c d e z = some (decide ((z.size : Int) ≤ 500)) := rfl
  rw [hs, Option.bind_some]
  split
  · by_cases c1 : m < 1
    · rw [if_pos c1]; exact skip
    · by_cases c2 : m > 1048576
      · rw [if_neg c1, if_pos c2]; exact skip
      · rw [if_neg c1, if_neg c2, check, Option.bind_some]
        by_cases h : Chk a b c d e z
        · have hw : wrap64 (d - m) = d - m := by unfold Chk at h; unfold wrap64; omega
          rw [decide_eq_true h, if_pos rfl, hw]
          by_cases c3 : c > d - m
          · rw [decide_eq_true c3]; exact skip
          · rw [decide_eq_false c3]; exact main h (by omega) (by omega) (by omega)
        · rw [decide_eq_false h, if_neg (by decide)]; exact skip
  · exact skip
end Go.Proofs.Ytihlogdmdmhefaa.Pure
