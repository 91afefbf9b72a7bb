/- The plain statement behind the law SatSlots, proved for every input; no condition but the types' own bounds. -/
import Derived.Test.YtfpomamhcjkoeaaSatLaws
import Derived.Test.YtfpomamhcjkoeaaSx6
namespace Go.Proofs.Ytfpomamhcjkoeaa.Pure
set_option linter.unusedSimpArgs false
set_option linter.unusedVariables false
open Go.RowKit Go.Proofs.Ytfpomamhcjkoeaa.S Go.Proofs.Ytfpomamhcjkoeaa.SatLaws Go.Proofs.Ytfpomamhcjkoeaa.Row Go.Proofs.YtfpomamhcjkoeaaW.PrintWords Go.Proofs.YtfpomamhcjkoeaaW.PrintLast
theorem SatSlots : hopperlaw01_SatSlots.Pure := by
  intro s l hs hl
  have hs : In s := bounds_i64 hs
  have hl : In l := bounds_i64 hl
  unfold In at hs hl
  refine ⟨3, ?_⟩
  unfold hopperlaw01_SatSlots.f
  rw [slots]
  simp only [Option.bind_some]
  by_cases c : 0 ≤ s ∧ s ≤ 400
  · have n1 : slo s = if s = 0 then 1 else (s + 31) / 32 := by unfold slo; rw [if_pos c]
    have n2 : 1 ≤ slo s ∧ slo s ≤ 13 ∧ s ≤ 32 * slo s ∧ (1 < slo s → 32 * (slo s - 1) < s) := by rw [n1]; split <;> omega
    generalize hn : slo s = n at *
    rw [if_neg (by omega), decide_eq_false (by omega)]
    simp only [hopperlaw01_SatSlots.j0]
    rw [if_neg (by decide), if_neg (by omega), wr (32 * n) (by unfold In; omega), if_neg (by omega), wr (n - 1) (by unfold In; omega), wr (32 * (n - 1)) (by unfold In; omega)]
    have fin : hopperlaw01_SatSlots.j1 2 s l n (decide (n > 13)) = some true := by
      rw [decide_eq_false (by omega)]
      simp only [hopperlaw01_SatSlots.j1]
      rw [if_neg (by decide), live]
      simp only [Option.bind_some]
      by_cases d : l < 0
      · rw [if_pos d]
      · by_cases e : l > s
        · rw [if_neg d, if_pos e]
        · rw [if_neg d, if_neg e, wr (s - l) (by unfold In; omega), slots]
          simp only [Option.bind_some]
          have m1 : slo (s - l) ≤ n := by rw [n1]; unfold slo; split <;> split <;> (try split) <;> omega
          rw [if_pos m1]
    by_cases g : n > 1
    · rw [if_pos g, if_neg (by omega)]
      exact fin
    · rw [if_neg g]
      exact fin
  · have n1 : slo s = 0 := by unfold slo; rw [if_neg c]
    rw [n1]
    by_cases d : s < 0
    · rw [if_pos d]
      simp only [hopperlaw01_SatSlots.j0]
      rw [if_pos trivial, if_pos trivial, live]
      rfl
    · rw [if_neg d, decide_eq_true (by omega)]
      simp only [hopperlaw01_SatSlots.j0]
      rw [if_pos trivial, if_pos trivial, live]
      rfl
end Go.Proofs.Ytfpomamhcjkoeaa.Pure
