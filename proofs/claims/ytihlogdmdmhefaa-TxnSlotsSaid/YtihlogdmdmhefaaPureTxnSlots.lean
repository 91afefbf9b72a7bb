/- The plain statement behind the law TxnSlots, proved for every input; no condition but the types' own bounds. -/
import Derived.Test.YtihlogdmdmhefaaTxnMore
import Derived.Test.YtihlogdmdmhefaaLx28
namespace Go.Proofs.Ytihlogdmdmhefaa.Pure
set_option linter.unusedSimpArgs false
set_option linter.unusedVariables false
open Go.RowKit Go.Proofs.Ytihlogdmdmhefaa.L Go.Proofs.Ytihlogdmdmhefaa.TxnCodec Go.Proofs.Ytihlogdmdmhefaa.TxnLaws Go.Proofs.Ytihlogdmdmhefaa.Row Go.Proofs.YtihlogdmdmhefaaW.PrintWords Go.Proofs.YtihlogdmdmhefaaW.PrintLast
theorem wrap_sub (x y : Int) (h : 0 ≤ x ∧ x ≤ 10) (k : 0 ≤ y ∧ y ≤ 10) : wrap64 (x - y) = x - y := by unfold wrap64; omega
theorem wrap_mul (x y : Int) (h : 0 ≤ x ∧ x ≤ 10) (k : 0 ≤ y ∧ y ≤ 10) : wrap64 (32 * (x - y)) = 32 * (x - y) := by unfold wrap64; omega
theorem wrap_add (n : Nat) (h : n ≤ 1000) : wrap64 ((n : Int) + 32) = (n : Int) + 32 := by unfold wrap64; omega
theorem wrap_29 (n : Nat) (h : n ≤ 1000) : wrap64 (29 + (n : Int)) = 29 + (n : Int) := by unfold wrap64; omega
theorem slo_more (n m : Nat) : slo (n + m) ≥ slo n ∧ 32 * (slo (n + m) - slo n) < (m : Int) + 32 := by unfold slo; omega
theorem TxnSlots : hopperlaw04_TxnSlots.Pure := by
  intro a b c d e z m _ _
  refine ⟨50, ?_⟩
  have skip : hopperlaw04_TxnSlots.j0 50 m true a b c d e z = some true := by
    simp only [hopperlaw04_TxnSlots.j0]
    rw [if_pos trivial, live _ (by omega)]
    rfl
  have main : Chk a b c d e z → m.size ≤ 256 → hopperlaw04_TxnSlots.j0 50 m false a b c d e z = some true := by
    intro h hm
    have h' := h
    unfold Chk at h'
    have mo := enc_most a b c d e z h
    have hz : (z ++ m).size = z.size + m.size := ByteArray.size_append
    simp only [hopperlaw04_TxnSlots.j0]
    rw [if_neg (by decide), if_pos (by omega), encode, if_pos h, Option.bind_some, wrap_29 z.size (by omega), if_neg (by show ¬ ((enc a b c d e z).size : Int) > _; omega), check, Option.bind_some]
    simp only [hopperlaw04_TxnSlots.j1]
    by_cases hu : Chk a b c d e (z ++ m)
    · have s1 : slotsOf a b c d e z = slo (enc a b c d e z).size := by unfold slotsOf; rw [if_pos h]
      have s2 : slotsOf a b c d e (z ++ m) = slo (enc a b c d e (z ++ m)).size := by unfold slotsOf; rw [if_pos hu]
      have l1 := enc_len a b c d e z (by omega)
      have l2 := enc_len a b c d e (z ++ m) (by unfold Chk at hu; omega)
      have l3 : (enc a b c d e (z ++ m)).size = (enc a b c d e z).size + m.size := by rw [l1, l2, hz]; omega
      have hr := slots_range a b c d e (z ++ m)
      have hr2 := slots_range a b c d e z
      have w1 := wrap_sub (slotsOf a b c d e (z ++ m)) (slotsOf a b c d e z) ⟨hr.1, hr.2.1⟩ ⟨hr2.1, hr2.2.1⟩
      have w2 := wrap_mul (slotsOf a b c d e (z ++ m)) (slotsOf a b c d e z) ⟨hr.1, hr.2.1⟩ ⟨hr2.1, hr2.2.1⟩
      have w3 := wrap_add m.size (by omega)
      have sm := slo_more (enc a b c d e z).size m.size
      rw [← l3, ← s1, ← s2] at sm
      have g1 := sm.1
      have g2 := sm.2
      clear sm hr hr2 l1 l2 l3 s1 s2
      rw [decide_eq_true hu, if_neg (by decide), slots, slots, Option.bind_some, Option.bind_some, if_pos g1, w1, w2, w3, if_pos g2, live _ (by omega)]
      rfl
    · rw [decide_eq_false hu, if_pos (by decide), wrap_29 z.size (by omega), if_pos (by show ((enc a b c d e z).size : Int) ≤ _; omega), live _ (by omega)]
      rfl
  unfold hopperlaw04_TxnSlots.f hopperref04_Small.f
  rw [Option.bind_some]
  split
  · by_cases c1 : (m.size : Int) > 256
    · rw [if_pos c1]; exact skip
    · rw [if_neg c1, check, Option.bind_some]
      by_cases h : Chk a b c d e z
      · rw [decide_eq_true h]; exact main h (by omega)
      · rw [decide_eq_false h]; exact skip
  · exact skip
end Go.Proofs.Ytihlogdmdmhefaa.Pure
