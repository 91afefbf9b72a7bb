/- Plain facts, of my own wider texts, that the queues' laws need. -/
import Derived.Test.YtehncbhmdgdkjaaQx12
import Derived.Test.YtehncbhmdgdkjaaQueueSat
namespace Go.Proofs.Ytehncbhmdgdkjaa.SatLaws
set_option linter.unusedSimpArgs false
set_option linter.unusedVariables false
open Go.Proofs.Ytehncbhmdgdkjaa.Q Go.Proofs.YtehncbhmdgdkjaaW.PrintLast Go.Proofs.YtehncbhmdgdkjaaW.PrintWords Go.RowKit
theorem tmod100 (x : Int) (h : 0 ≤ x) : Int.tmod x 100 = x % 100 := Int.tmod_eq_emod_of_nonneg h
theorem ref_raise (t p : Int) (k : Nat) : hopperref01_Raise.f (k + 1) t p = some (rai t p) := by
  unfold hopperref01_Raise.f rai
  by_cases h0 : t < 0
  · rw [if_pos h0, if_neg (by omega)]
    simp [hopperref01_Raise.j0]
  · by_cases h1 : t > 1099511627776
    · rw [if_neg h0, if_pos h1, if_neg (by omega)]
      simp [hopperref01_Raise.j0]
    · by_cases h2 : p < 0
      · rw [if_neg h0, if_neg h1, if_pos h2, if_neg (by omega)]
        simp [hopperref01_Raise.j0]
      · by_cases h3 : p > 100
        · rw [if_neg h0, if_neg h1, if_neg h2, decide_eq_true h3, if_neg (by omega)]
          simp [hopperref01_Raise.j0]
        · rw [if_neg h0, if_neg h1, if_neg h2, decide_eq_false h3]
          simp only [hopperref01_Raise.j0]
          rw [if_neg (by decide)]
          obtain ⟨q0, q1, q2, q3⟩ := prod_range t p (by omega) (by omega) (by omega) (by omega)
          rw [wr (100 + p) (by unfold In; omega), Int.mul_add]
          generalize t * p = q at *
          have hs : 0 ≤ t ∧ t ≤ 1099511627776 ∧ 0 ≤ p ∧ p ≤ 100 := by omega
          have e : wrap64 (t * 100 + q) = t * 100 + q := wr _ (by unfold In; omega)
          rw [e, tmod100 _ (by omega), tdiv100 _ (by omega), wr ((t * 100 + q) / 100) (by unfold In; omega), wr ((t * 100 + q) / 100 + 1) (by unfold In; omega), wr (t + 1) (by unfold In; omega)]
          unfold up mx
          by_cases c : q = 0
          · have v : (if (t * 100 + q) / 100 < t + 1 then t + 1 else (t * 100 + q) / 100) = t + 1 := by split <;> omega
            rw [if_neg (show ¬ (t * 100 + q) % 100 > 0 by omega), if_pos c, v]
            by_cases d : t + 1 > 1099511627776
            · rw [if_pos (by omega), if_neg (by omega)]
            · rw [if_neg (by omega), if_pos (by omega)]
          · rw [if_neg c]
            by_cases m : (t * 100 + q) % 100 > 0
            · have v : (if (t * 100 + q) / 100 + 1 < t + 1 then t + 1 else (t * 100 + q) / 100 + 1) = t + (q + 99) / 100 := by split <;> omega
              rw [if_pos m, v]
              by_cases d : t + (q + 99) / 100 > 1099511627776
              · rw [if_pos (by omega), if_neg (by omega)]
              · rw [if_neg (by omega), if_pos (by omega)]
            · have v : (if (t * 100 + q) / 100 < t + 1 then t + 1 else (t * 100 + q) / 100) = t + (q + 99) / 100 := by split <;> omega
              rw [if_neg m, v]
              by_cases d : t + (q + 99) / 100 > 1099511627776
              · rw [if_pos (by omega), if_neg (by omega)]
              · rw [if_neg (by omega), if_pos (by omega)]
end Go.Proofs.Ytehncbhmdgdkjaa.SatLaws
