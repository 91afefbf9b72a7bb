/- The plain statement behind the law SatBounds, proved for every input; no condition but the types' own bounds. -/
import Derived.Test.YtfpomamhcjkoeaaSatLaws
import Derived.Test.YtfpomamhcjkoeaaSx5
namespace Go.Proofs.Ytfpomamhcjkoeaa.Pure
set_option linter.unusedSimpArgs false
set_option linter.unusedVariables false
open Go.RowKit Go.Proofs.Ytfpomamhcjkoeaa.S Go.Proofs.Ytfpomamhcjkoeaa.SatLaws Go.Proofs.Ytfpomamhcjkoeaa.Row Go.Proofs.YtfpomamhcjkoeaaW.PrintWords Go.Proofs.YtfpomamhcjkoeaaW.PrintLast
theorem SatBounds : hopperlaw01_SatBounds.Pure := by
  intro a b m ha hb hm
  have ha : In a := bounds_i64 ha
  have hb : In b := bounds_i64 hb
  have hm : In m := bounds_i64 hm
  refine ⟨1, ?_⟩
  unfold hopperlaw01_SatBounds.f
  rw [add _ _ _ hm, mul _ _ _ hm, live]
  simp only [Option.bind_some]
  -- the product's part
  have prod : ∀ h : 0 ≤ a ∧ 0 ≤ b ∧ 0 ≤ m ∧ a * b ≤ m, (if a * b ≥ 0 then (if a * b ≤ m then (if a = 0 then some true else (if b = 0 then some true else (if a * b ≥ a then (if a * b ≥ b then (if (wrap64 (Int.tdiv (a * b) a)) = b then (if (Int.tmod (a * b) a) = 0 then some true else none) else none) else none) else none))) else none) else none) = some true := by
    intro h
    have h0 : 0 ≤ a * b := Int.mul_nonneg h.1 h.2.1
    rw [if_pos h0, if_pos h.2.2.2]
    by_cases c : a = 0
    · rw [if_pos c]
    · by_cases d : b = 0
      · rw [if_neg c, if_pos d]
      · have g1 : a * 1 ≤ a * b := Int.mul_le_mul_of_nonneg_left (by omega) h.1
        have g2 : 1 * b ≤ a * b := Int.mul_le_mul_of_nonneg_right (by omega) h.2.1
        have q : Int.tdiv (a * b) a = b := Int.mul_tdiv_cancel_left b c
        have r : Int.tmod (a * b) a = 0 := Int.mul_tmod_right a b
        rw [if_neg c, if_neg d, if_pos (by omega), if_pos (by omega), q, wr b hb, if_pos rfl, r, if_pos rfl]
  unfold In at ha hb hm
  by_cases s : 0 ≤ a ∧ 0 ≤ b ∧ a + b ≤ m
  · have s1 : sum' a b m = (a + b, true) := by unfold sum'; rw [if_pos s]
    rw [s1]
    have w : wrap64 (a + b - a) = b := by rw [show a + b - a = b by omega]; exact wr b (by unfold In; omega)
    have l1 : ¬ a + b < a := by omega
    have l2 : ¬ a + b < b := by omega
    have l3 : ¬ a + b > m := by omega
    simp only [if_pos]
    by_cases p : 0 ≤ a ∧ 0 ≤ b ∧ 0 ≤ m ∧ a * b ≤ m
    · have p1 : mul' a b m = (a * b, true) := by unfold mul'; rw [if_pos p]
      rw [p1]
      simp only [if_pos]
      rw [if_neg l1, if_neg l2, if_neg l3, w, if_pos rfl]
      exact prod p
    · have p1 : mul' a b m = (0, false) := by unfold mul'; rw [if_neg p]
      rw [p1, if_neg (by simp), if_pos rfl, if_neg l1, if_neg l2, if_neg l3, w, if_pos rfl]
  · have s1 : sum' a b m = (0, false) := by unfold sum'; rw [if_neg s]
    rw [s1]
    rw [if_neg (by simp), if_pos rfl]
    by_cases p : 0 ≤ a ∧ 0 ≤ b ∧ 0 ≤ m ∧ a * b ≤ m
    · have p1 : mul' a b m = (a * b, true) := by unfold mul'; rw [if_pos p]
      rw [p1]
      simp only [if_pos]
      exact prod p
    · have p1 : mul' a b m = (0, false) := by unfold mul'; rw [if_neg p]
      rw [p1, if_neg (by simp), if_pos rfl]
end Go.Proofs.Ytfpomamhcjkoeaa.Pure
