/- Plain facts, of my own wider texts, that the queues' laws need. -/
import Derived.Test.YtehncbhmdgdkjaaQx7
namespace Go.Proofs.Ytehncbhmdgdkjaa.SatLaws
set_option linter.unusedSimpArgs false
set_option linter.unusedVariables false
open Go.Proofs.Ytehncbhmdgdkjaa.Q Go.Proofs.YtehncbhmdgdkjaaW.PrintLast Go.Proofs.YtehncbhmdgdkjaaW.PrintWords Go.RowKit
/-- A whole number of 64 bits. -/
def In (a : Int) : Prop := -9223372036854775808 ≤ a ∧ a ≤ 9223372036854775807
instance (a : Int) : Decidable (In a) := by unfold In; infer_instance
theorem wr (a : Int) (h : In a) : wrap64 a = a := by unfold In at h; unfold wrap64; omega
def up (t q : Int) : Int := if q = 0 then t + 1 else t + (q + 99) / 100
def rai (t p : Int) : Int × Bool := if 0 ≤ t ∧ t ≤ 1099511627776 ∧ 0 ≤ p ∧ p ≤ 100 ∧ up t (t * p) ≤ 1099511627776 then (up t (t * p), true) else (0, false)
theorem prod_range (t p : Int) (h0 : 0 ≤ t) (h1 : t ≤ 1099511627776) (h2 : 0 ≤ p) (h3 : p ≤ 100) : 0 ≤ t * p ∧ t * p ≤ 109951162777600 ∧ (t = 0 → t * p = 0) ∧ t * p ≤ 100 * t := by
  have a : t * p ≤ t * 100 := Int.mul_le_mul_of_nonneg_left h3 h0
  have b : t * 100 ≤ 109951162777600 := by omega
  refine ⟨Int.mul_nonneg h0 h2, by omega, fun h => by rw [h, Int.zero_mul], by omega⟩
theorem tdiv100 (x : Int) (h : 0 ≤ x) : Int.tdiv x 100 = x / 100 := Int.tdiv_eq_ediv_of_nonneg h
theorem raise (t p : Int) (k : Nat) : sat_Raise.f (k + 1) t p = some (rai t p) := by
  unfold sat_Raise.f rai
  by_cases h0 : t < 0
  · rw [if_pos h0, if_neg (by omega)]
    simp [sat_Raise.j0]
  · by_cases h1 : t > 1099511627776
    · rw [if_neg h0, if_pos h1, if_neg (by omega)]
      simp [sat_Raise.j0]
    · by_cases h2 : p < 0
      · rw [if_neg h0, if_neg h1, if_pos h2, if_neg (by omega)]
        simp [sat_Raise.j0]
      · by_cases h3 : p > 100
        · rw [if_neg h0, if_neg h1, if_neg h2, decide_eq_true h3, if_neg (by omega)]
          simp [sat_Raise.j0]
        · rw [if_neg h0, if_neg h1, if_neg h2, decide_eq_false h3]
          simp only [sat_Raise.j0]
          rw [if_neg (by decide)]
          obtain ⟨q0, q1, q2, q3⟩ := prod_range t p (by omega) (by omega) (by omega) (by omega)
          generalize t * p = q at *
          have hs : 0 ≤ t ∧ t ≤ 1099511627776 ∧ 0 ≤ p ∧ p ≤ 100 := by omega
          have hq : 0 ≤ (q + 99) / 100 ∧ (q + 99) / 100 ≤ 1099511627776 := by omega
          rw [wr q (by unfold In; omega), wr (q + 100) (by unfold In; omega), wr (q + 100 - 1) (by unfold In; omega), tdiv100 _ (by omega), show q + 100 - 1 = q + 99 by omega, wr ((q + 99) / 100) (by unfold In; omega), wr (t + (q + 99) / 100) (by unfold In; omega), wr (t + (q + 99) / 100 + 1) (by unfold In; omega)]
          unfold up
          by_cases c : q = 0
          · rw [if_pos c, if_pos (by omega)]
            by_cases d : t + 1 > 1099511627776
            · rw [if_pos (by omega), if_neg (by omega)]
            · rw [if_neg (by omega), if_pos (by omega)]
              congr 2
              omega
          · rw [if_neg c, if_neg (by omega)]
            by_cases d : t + (q + 99) / 100 > 1099511627776
            · rw [if_pos (by omega), if_neg (by omega)]
            · rw [if_neg (by omega), if_pos (by omega)]
end Go.Proofs.Ytehncbhmdgdkjaa.SatLaws
