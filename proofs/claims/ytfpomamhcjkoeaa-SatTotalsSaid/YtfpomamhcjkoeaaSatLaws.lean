/- Plain facts on the sums' functions: what each comes to; no condition but the numbers' ranges. -/
import Derived.Test.YtfpomamhcjkoeaaSx3
import Derived.Test.YtfpomamhcjkoeaaSx2
import Derived.Test.YtfpomamhcjkoeaaSx2
import Derived.Test.YtfpomamhcjkoeaaSx2
import Derived.Test.YtfpomamhcjkoeaaSx2
import Derived.Test.YtfpomamhcjkoeaaSx2
import Derived.Test.YtfpomamhcjkoeaaSx2
import Derived.Test.YtfpomamhcjkoeaaSx2
import Derived.Test.YtfpomamhcjkoeaaSx2
import Derived.Test.YtfpomamhcjkoeaaSx3
namespace Go.Proofs.Ytfpomamhcjkoeaa.SatLaws
set_option linter.unusedSimpArgs false
set_option linter.unusedVariables false
open Go.RowKit Go.Proofs.Ytfpomamhcjkoeaa.S Go.Proofs.YtfpomamhcjkoeaaW.PrintWords Go.Proofs.YtfpomamhcjkoeaaW.PrintLast
/-- A whole number of 64 bits. -/
def In (a : Int) : Prop := -9223372036854775808 ≤ a ∧ a ≤ 9223372036854775807
instance (a : Int) : Decidable (In a) := by unfold In; infer_instance
theorem wr (a : Int) (h : In a) : wrap64 a = a := by unfold In at h; unfold wrap64; omega
def sum' (a b m : Int) : Int × Bool := if 0 ≤ a ∧ 0 ≤ b ∧ a + b ≤ m then (a + b, true) else (0, false)
def mul' (a b m : Int) : Int × Bool := if 0 ≤ a ∧ 0 ≤ b ∧ 0 ≤ m ∧ a * b ≤ m then (a * b, true) else (0, false)
def up (t q : Int) : Int := if q = 0 then t + 1 else t + (q + 99) / 100
def rai (t p : Int) : Int × Bool := if 0 ≤ t ∧ t ≤ 1099511627776 ∧ 0 ≤ p ∧ p ≤ 100 ∧ up t (t * p) ≤ 1099511627776 then (up t (t * p), true) else (0, false)
def slo (s : Int) : Int := if 0 ≤ s ∧ s ≤ 400 then (if s = 0 then 1 else (s + 31) / 32) else 0
theorem add (a b m : Int) (hm : In m) : sat_Add.f a b m = some (sum' a b m) := by
  unfold sat_Add.f sum'
  unfold In at hm
  by_cases h0 : a < 0
  · rw [if_pos h0, if_neg (by omega)]
  · by_cases h1 : b < 0
    · rw [if_neg h0, if_pos h1, if_neg (by omega)]
    · by_cases h2 : m < a
      · rw [if_neg h0, if_neg h1, if_pos h2, if_neg (by omega)]
      · rw [if_neg h0, if_neg h1, if_neg h2, wr (m - a) (by unfold In; omega)]
        by_cases h3 : m - a < b
        · rw [if_pos h3, if_neg (by omega)]
        · rw [if_neg h3, if_pos (by omega), wr (a + b) (by unfold In; omega)]
theorem ref_add (a b m : Int) (hm : In m) : hopperref01_Add.f a b m = some (sum' a b m) := by
  unfold hopperref01_Add.f sum'
  unfold In at hm
  by_cases h0 : a < 0
  · rw [if_pos h0, if_neg (by omega)]
  · by_cases h1 : b < 0
    · rw [if_neg h0, if_pos h1, if_neg (by omega)]
    · by_cases h5 : m < 0
      · rw [if_neg h0, if_neg h1, if_pos h5, if_neg (by omega)]
      · by_cases h2 : a > m
        · rw [if_neg h0, if_neg h1, if_neg h5, if_pos h2, if_neg (by omega)]
        · rw [if_neg h0, if_neg h1, if_neg h5, if_neg h2, wr (m - a) (by unfold In; omega)]
          by_cases h3 : b > m - a
          · rw [if_pos h3, if_neg (by omega)]
          · rw [if_neg h3, if_pos (by omega), wr (a + b) (by unfold In; omega)]
theorem quot (a b m : Int) (ha : 0 < a) (hm0 : 0 ≤ m) (hm : m ≤ 9223372036854775807) : wrap64 (Int.tdiv m a) = m / a ∧ (m / a < b ↔ m < a * b) := by
  have e : Int.tdiv m a = m / a := Int.tdiv_eq_ediv_of_nonneg hm0
  have h1 : 0 ≤ m / a := Int.ediv_nonneg hm0 (by omega)
  have h2 : m / a ≤ m := Int.ediv_le_self _ hm0
  refine ⟨by rw [e]; exact wr _ (by unfold In; omega), ?_⟩
  rw [Int.ediv_lt_iff_lt_mul ha, Int.mul_comm]
theorem mul (a b m : Int) (hm : In m) (k : Nat) : sat_Mul.f (k + 1) a b m = some (mul' a b m) := by
  unfold sat_Mul.f mul'
  unfold In at hm
  by_cases h0 : a < 0
  · rw [if_pos h0, if_neg (by omega)]
    simp [sat_Mul.j0]
  · by_cases h1 : b < 0
    · rw [if_neg h0, if_pos h1, if_neg (by omega)]
      simp [sat_Mul.j0]
    · by_cases h2 : m < 0
      · rw [if_neg h0, if_neg h1, decide_eq_true h2, if_neg (by omega)]
        simp [sat_Mul.j0]
      · rw [if_neg h0, if_neg h1, decide_eq_false h2]
        simp only [sat_Mul.j0]
        rw [if_neg (by decide)]
        by_cases h3 : a = 0
        · subst h3
          rw [if_pos rfl, Int.zero_mul, if_pos (by omega)]
        · obtain ⟨q1, q2⟩ := quot a b m (by omega) (by omega) hm.2
          rw [if_neg h3, q1]
          have hp : 0 ≤ a * b := Int.mul_nonneg (by omega) (by omega)
          by_cases h4 : m / a < b
          · rw [if_pos h4, if_neg (by have := q2.1 h4; omega)]
          · have : ¬ m < a * b := fun h => h4 (q2.2 h)
            rw [if_neg h4, if_pos (by omega), wr (a * b) (by unfold In; omega)]
theorem ref_mul (a b m : Int) (hm : In m) : hopperref01_Mul.f a b m = some (mul' a b m) := by
  unfold hopperref01_Mul.f mul'
  unfold In at hm
  by_cases h0 : a < 0
  · rw [if_pos h0, if_neg (by omega)]
  · by_cases h1 : b < 0
    · rw [if_neg h0, if_pos h1, if_neg (by omega)]
    · by_cases h2 : m < 0
      · rw [if_neg h0, if_neg h1, if_pos h2, if_neg (by omega)]
      · rw [if_neg h0, if_neg h1, if_neg h2]
        by_cases h3 : a > 0
        · obtain ⟨q1, q2⟩ := quot a b m h3 (by omega) hm.2
          rw [if_pos h3, if_neg (by omega), q1]
          have hp : 0 ≤ a * b := Int.mul_nonneg (by omega) (by omega)
          by_cases h4 : b > m / a
          · rw [if_pos h4, if_neg (by have := q2.1 h4; omega)]
          · have : ¬ m < a * b := fun h => h4 (q2.2 h)
            rw [if_neg h4, if_pos (by omega), wr (a * b) (by unfold In; omega)]
        · have e : a = 0 := by omega
          subst e
          rw [if_neg h3, Int.zero_mul, if_pos (by omega), wr 0 (by decide)]
theorem prod_range (t p : Int) (h0 : 0 ≤ t) (h1 : t ≤ 1099511627776) (h2 : 0 ≤ p) (h3 : p ≤ 100) : 0 ≤ t * p ∧ t * p ≤ 109951162777600 ∧ (t = 0 → t * p = 0) ∧ t * p ≤ 100 * t := by
  have a : t * p ≤ t * 100 := Int.mul_le_mul_of_nonneg_left h3 h0
  have b : t * 100 ≤ 109951162777600 := by omega
  refine ⟨Int.mul_nonneg h0 h2, by omega, fun h => by rw [h, Int.zero_mul], by omega⟩
theorem tdiv100 (x : Int) (h : 0 ≤ x) : Int.tdiv x 100 = x / 100 := Int.tdiv_eq_ediv_of_nonneg h
theorem tmod100 (x : Int) (h : 0 ≤ x) : Int.tmod x 100 = x % 100 := Int.tmod_eq_emod_of_nonneg h
theorem raise (t p : Int) (k : Nat) : sat_Raise.f (k + 1) t p = some (rai t p) := by
  unfold sat_Raise.f rai
  by_cases h0 : t < 0
  · rw [if_pos h0, if_neg (by omega)]
    simp [sat_Raise.j0]
  · by_cases h1 : t > 1099511627776
    · rw [if_neg h0, if_pos h1, if_neg (by omega)]
      simp [sat_Raise.j0]
    · by_cases h2 : p < 0
      · rw [if_neg h0, if_neg h1, if_pos h2, if_neg (by omega)]
        simp [sat_Raise.j0]
      · by_cases h3 : p > 100
        · rw [if_neg h0, if_neg h1, if_neg h2, decide_eq_true h3, if_neg (by omega)]
          simp [sat_Raise.j0]
        · rw [if_neg h0, if_neg h1, if_neg h2, decide_eq_false h3]
          simp only [sat_Raise.j0]
          rw [if_neg (by decide)]
          obtain ⟨q0, q1, q2, q3⟩ := prod_range t p (by omega) (by omega) (by omega) (by omega)
          generalize t * p = q at *
          have hs : 0 ≤ t ∧ t ≤ 1099511627776 ∧ 0 ≤ p ∧ p ≤ 100 := by omega
          have hq : 0 ≤ (q + 99) / 100 ∧ (q + 99) / 100 ≤ 1099511627776 := by omega
          rw [wr q (by unfold In; omega), wr (q + 100) (by unfold In; omega), wr (q + 100 - 1) (by unfold In; omega), tdiv100 _ (by omega), show q + 100 - 1 = q + 99 by omega, wr ((q + 99) / 100) (by unfold In; omega), wr (t + (q + 99) / 100) (by unfold In; omega), wr (t + (q + 99) / 100 + 1) (by unfold In; omega)]
          unfold up
          by_cases c : q = 0
          · rw [if_pos c, if_pos (by omega)]
            by_cases d : t + 1 > 1099511627776
            · rw [if_pos (by omega), if_neg (by omega)]
            · rw [if_neg (by omega), if_pos (by omega)]
              congr 2
              omega
          · rw [if_neg c, if_neg (by omega)]
            by_cases d : t + (q + 99) / 100 > 1099511627776
            · rw [if_pos (by omega), if_neg (by omega)]
            · rw [if_neg (by omega), if_pos (by omega)]
theorem ref_raise (t p : Int) (k : Nat) : hopperref01_Raise.f (k + 1) t p = some (rai t p) := by
  unfold hopperref01_Raise.f rai
  by_cases h0 : t < 0
  · rw [if_pos h0, if_neg (by omega)]
    simp [hopperref01_Raise.j0]
  · by_cases h1 : t > 1099511627776
    · rw [if_neg h0, if_pos h1, if_neg (by omega)]
      simp [hopperref01_Raise.j0]
    · by_cases h2 : p < 0
      · rw [if_neg h0, if_neg h1, if_pos h2, if_neg (by omega)]
        simp [hopperref01_Raise.j0]
      · by_cases h3 : p > 100
        · rw [if_neg h0, if_neg h1, if_neg h2, decide_eq_true h3, if_neg (by omega)]
          simp [hopperref01_Raise.j0]
        · rw [if_neg h0, if_neg h1, if_neg h2, decide_eq_false h3]
          simp only [hopperref01_Raise.j0]
          rw [if_neg (by decide)]
          obtain ⟨q0, q1, q2, q3⟩ := prod_range t p (by omega) (by omega) (by omega) (by omega)
          rw [wr (100 + p) (by unfold In; omega), Int.mul_add]
          generalize t * p = q at *
          have hs : 0 ≤ t ∧ t ≤ 1099511627776 ∧ 0 ≤ p ∧ p ≤ 100 := by omega
          have e : wrap64 (t * 100 + q) = t * 100 + q := wr _ (by unfold In; omega)
          rw [e, tmod100 _ (by omega), tdiv100 _ (by omega), wr ((t * 100 + q) / 100) (by unfold In; omega), wr ((t * 100 + q) / 100 + 1) (by unfold In; omega), wr (t + 1) (by unfold In; omega)]
          unfold up mx
          by_cases c : q = 0
          · have v : (if (t * 100 + q) / 100 < t + 1 then t + 1 else (t * 100 + q) / 100) = t + 1 := by split <;> omega
            rw [if_neg (show ¬ (t * 100 + q) % 100 > 0 by omega), if_pos c, v]
            by_cases d : t + 1 > 1099511627776
            · rw [if_pos (by omega), if_neg (by omega)]
            · rw [if_neg (by omega), if_pos (by omega)]
          · rw [if_neg c]
            by_cases m : (t * 100 + q) % 100 > 0
            · have v : (if (t * 100 + q) / 100 + 1 < t + 1 then t + 1 else (t * 100 + q) / 100 + 1) = t + (q + 99) / 100 := by split <;> omega
              rw [if_pos m, v]
              by_cases d : t + (q + 99) / 100 > 1099511627776
              · rw [if_pos (by omega), if_neg (by omega)]
              · rw [if_neg (by omega), if_pos (by omega)]
            · have v : (if (t * 100 + q) / 100 < t + 1 then t + 1 else (t * 100 + q) / 100) = t + (q + 99) / 100 := by split <;> omega
              rw [if_neg m, v]
              by_cases d : t + (q + 99) / 100 > 1099511627776
              · rw [if_pos (by omega), if_neg (by omega)]
              · rw [if_neg (by omega), if_pos (by omega)]
theorem tdiv32 (x : Int) (h : 0 ≤ x) : Int.tdiv x 32 = x / 32 := Int.tdiv_eq_ediv_of_nonneg h
theorem slots (s : Int) : sat_Slots.f s = some (slo s) := by
  unfold sat_Slots.f slo
  by_cases h0 : s < 0
  · rw [if_pos h0, if_neg (by omega)]
  · by_cases h1 : s > 400
    · rw [if_neg h0, if_pos h1, if_neg (by omega)]
    · rw [if_neg h0, if_neg h1, if_pos (by omega), wr (s + 32) (by unfold In; omega), wr (s + 32 - 1) (by unfold In; omega), tdiv32 _ (by omega), wr ((s + 32 - 1) / 32) (by unfold In; omega)]
      unfold mx
      congr 1
      split <;> split <;> omega
theorem ref_slots (s : Int) : hopperref01_Slots.f s = some (slo s) := by
  unfold hopperref01_Slots.f slo
  by_cases h0 : s < 0
  · rw [if_pos h0, if_neg (by omega)]
  · by_cases h1 : s > 400
    · rw [if_neg h0, if_pos h1, if_neg (by omega)]
    · rw [if_neg h0, if_neg h1, if_pos (by omega), wr (s + 31) (by unfold In; omega), tdiv32 _ (by omega), wr ((s + 31) / 32) (by unfold In; omega)]
      unfold mx
      congr 1
      split <;> split <;> omega
theorem live (k : Nat) : hopperlaw01_live.f (k + 1) = some true := by
  have i7 : In 7 := by decide
  have i9 : In 4611686018427387905 := by decide
  have i5 : In 15 := by decide
  have i4 : In 4611686018427387904 := by decide
  have a1 : sum' 3 4 7 = (7, true) := by decide
  have a2 : sum' 3 5 7 = (0, false) := by decide
  have a3 : sum' 4611686018427387904 4611686018427387904 4611686018427387905 = (0, false) := by decide
  have m1 : mul' 3 5 15 = (15, true) := by decide
  have m2 : mul' 1099511627776 1099511627776 4611686018427387904 = (0, false) := by decide
  have r1 : rai 101 10 = (112, true) := by decide
  have r2 : rai 0 100 = (1, true) := by decide
  have r3 : rai 1099511627776 0 = (0, false) := by decide
  have t1 : sat_Totals.f [⟨1, 2⟩, ⟨3, 4⟩] = some (4, 6, true) := by unfold sat_Totals.f; rw [show totF [⟨1, 2⟩, ⟨3, 4⟩] = (4, 6, true) by decide]
  have s1 : slo 0 = 1 := by decide
  have s2 : slo 33 = 2 := by decide
  have s3 : slo (-1) = 0 := by decide
  unfold hopperlaw01_live.f
  rw [add _ _ _ i7, add _ _ _ i7, add _ _ _ i9, mul _ _ _ i5, mul _ _ _ i4, raise, raise, raise, t1, a1, a2, a3, m1, m2, r1, r2, r3]
  simp only [Option.bind_some, slots, s1, s2, s3]
  decide
end Go.Proofs.Ytfpomamhcjkoeaa.SatLaws
