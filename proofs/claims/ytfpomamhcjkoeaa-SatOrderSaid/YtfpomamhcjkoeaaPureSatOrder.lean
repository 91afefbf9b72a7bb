/- The plain statement behind the law SatOrder, proved for every input; no condition but the types' own bounds. -/
import Derived.Test.YtfpomamhcjkoeaaSatLaws
import Derived.Test.YtfpomamhcjkoeaaSx4
namespace Go.Proofs.Ytfpomamhcjkoeaa.Pure
set_option linter.unusedSimpArgs false
set_option linter.unusedVariables false
open Go.RowKit Go.Proofs.Ytfpomamhcjkoeaa.S Go.Proofs.Ytfpomamhcjkoeaa.SatLaws Go.Proofs.Ytfpomamhcjkoeaa.Row Go.Proofs.YtfpomamhcjkoeaaW.PrintWords Go.Proofs.YtfpomamhcjkoeaaW.PrintLast
theorem SatOrder : hopperlaw01_SatOrder.Pure := by
  intro a b m n _ _ hmn
  have hm : In m := bounds_i64 hmn.1
  have hn : In n := bounds_i64 hmn.2
  have e1 : sum' b a m = sum' a b m := by unfold sum'; rw [Int.add_comm b a]; simp only [and_left_comm]
  have e2 : mul' b a m = mul' a b m := by unfold mul'; rw [Int.mul_comm b a]; simp only [and_left_comm]
  refine ⟨2, ?_⟩
  unfold hopperlaw01_SatOrder.f
  rw [add _ _ _ hm, add _ _ _ hm, mul _ _ _ hm, mul _ _ _ hm, e1, e2]
  simp only [Option.bind_some]
  rw [if_pos trivial, if_neg (by simp), if_pos trivial, bne_self_eq_false]
  simp only [hopperlaw01_SatOrder.j0]
  rw [if_neg (by decide), live]
  simp only [Option.bind_some]
  by_cases c : n < m
  · rw [if_pos c]
  · rw [if_neg c, add _ _ _ hn, mul _ _ _ hn]
    simp only [Option.bind_some]
    by_cases s : 0 ≤ a ∧ 0 ≤ b ∧ a + b ≤ m
    · have s1 : sum' a b m = (a + b, true) := by unfold sum'; rw [if_pos s]
      have s2 : sum' a b n = (a + b, true) := by unfold sum'; rw [if_pos (by omega)]
      rw [s1, s2]
      have g1 : a + b ≥ a := by omega
      have g2 : a + b ≥ b := by omega
      have g3 : a + b ≤ m := s.2.2
      by_cases p : 0 ≤ a ∧ 0 ≤ b ∧ 0 ≤ m ∧ a * b ≤ m
      · have p1 : mul' a b m = (a * b, true) := by unfold mul'; rw [if_pos p]
        have p2 : mul' a b n = (a * b, true) := by unfold mul'; rw [if_pos (by omega)]
        rw [p1, p2]
        simp [g1, g2, g3, -ge_iff_le]
      · have p1 : mul' a b m = (0, false) := by unfold mul'; rw [if_neg p]
        rw [p1]
        simp [g1, g2, g3, -ge_iff_le]
    · have s1 : sum' a b m = (0, false) := by unfold sum'; rw [if_neg s]
      rw [s1]
      by_cases p : 0 ≤ a ∧ 0 ≤ b ∧ 0 ≤ m ∧ a * b ≤ m
      · have p1 : mul' a b m = (a * b, true) := by unfold mul'; rw [if_pos p]
        have p2 : mul' a b n = (a * b, true) := by unfold mul'; rw [if_pos (by omega)]
        rw [p1, p2]
        simp
      · have p1 : mul' a b m = (0, false) := by unfold mul'; rw [if_neg p]
        rw [p1]
        simp
end Go.Proofs.Ytfpomamhcjkoeaa.Pure
