/- The plain statement behind the law SatRaises, proved for every input; no condition but the types' own bounds. -/
import Derived.Test.YtfpomamhcjkoeaaSatLaws
import Derived.Test.YtfpomamhcjkoeaaSx5
namespace Go.Proofs.Ytfpomamhcjkoeaa.Pure
set_option linter.unusedSimpArgs false
set_option linter.unusedVariables false
open Go.RowKit Go.Proofs.Ytfpomamhcjkoeaa.S Go.Proofs.Ytfpomamhcjkoeaa.SatLaws Go.Proofs.Ytfpomamhcjkoeaa.Row Go.Proofs.YtfpomamhcjkoeaaW.PrintWords Go.Proofs.YtfpomamhcjkoeaaW.PrintLast
theorem SatRaises : hopperlaw01_SatRaises.Pure := by
  intro t p u v ht hp huv
  have ht : In t := bounds_i64 ht
  have hp : In p := bounds_i64 hp
  have hu : In u := bounds_i64 huv.1
  have hv : In v := bounds_i64 huv.2
  refine ⟨4, ?_⟩
  unfold hopperlaw01_SatRaises.f
  rw [raise]
  simp only [Option.bind_some]
  by_cases c : 0 ≤ t ∧ t ≤ 1099511627776 ∧ 0 ≤ p ∧ p ≤ 100 ∧ SatLaws.up t (t * p) ≤ 1099511627776
  · have r1 : rai t p = (SatLaws.up t (t * p), true) := by unfold rai; rw [if_pos c]
    rw [r1]
    simp only [if_pos]
    obtain ⟨c0, c1, c2, c3, c4⟩ := c
    obtain ⟨q0, q1, q2, q3⟩ := prod_range t p c0 c1 c2 c3
    have fin : hopperlaw01_SatRaises.j0 4 t p (SatLaws.up t (t * p)) false u v = some true := by
      simp only [hopperlaw01_SatRaises.j0]
      rw [if_neg (by decide)]
      have skip : hopperlaw01_SatRaises.j1 3 t p (SatLaws.up t (t * p)) true u v = some true := by
        simp only [hopperlaw01_SatRaises.j1]
        rw [if_pos trivial, live]
        rfl
      by_cases d1 : u < 0
      · rw [if_pos d1]; exact skip
      · by_cases d2 : u > t
        · rw [if_neg d1, if_pos d2]; exact skip
        · by_cases d3 : v < 0
          · rw [if_neg d1, if_neg d2, if_pos d3]; exact skip
          · by_cases d4 : v > p
            · rw [if_neg d1, if_neg d2, if_neg d3, decide_eq_true d4]; exact skip
            · rw [if_neg d1, if_neg d2, if_neg d3, decide_eq_false d4]
              simp only [hopperlaw01_SatRaises.j1]
              rw [if_neg (by decide), wr (t - u) (by unfold In; omega), wr (p - v) (by unfold In; omega), raise, live]
              simp only [Option.bind_some]
              have a1 : (t - u) * (p - v) ≤ t * (p - v) := Int.mul_le_mul_of_nonneg_right (by omega) (by omega)
              have a2 : t * (p - v) ≤ t * p := Int.mul_le_mul_of_nonneg_left (by omega) c0
              obtain ⟨z0, z1, z2, z3⟩ := prod_range (t - u) (p - v) (by omega) (by omega) (by omega) (by omega)
              have le : SatLaws.up (t - u) ((t - u) * (p - v)) ≤ SatLaws.up t (t * p) := by
                generalize t * (p - v) = g at *
                generalize (t - u) * (p - v) = q' at *
                generalize t * p = q at *
                unfold SatLaws.up
                split <;> split <;> omega
              have r2 : rai (t - u) (p - v) = (SatLaws.up (t - u) ((t - u) * (p - v)), true) := by unfold rai; rw [if_pos (by omega)]
              rw [r2]
              simp only [if_pos]
              rw [if_pos le]
    have w0 : wrap64 (t * wrap64 (100 + p)) = 100 * t + t * p := by
      rw [wr (100 + p) (by unfold In; omega), Int.mul_add, wr _ (by unfold In; omega)]; omega
    rw [w0]
    have hn : t < SatLaws.up t (t * p) ∧ 100 * t + t * p ≤ 100 * SatLaws.up t (t * p) ∧ (SatLaws.up t (t * p) > t + 1 → 100 * (SatLaws.up t (t * p) - 1) < 100 * t + t * p) := by
      generalize t * p = q at *
      unfold SatLaws.up
      split <;> omega
    generalize SatLaws.up t (t * p) = n at *
    generalize t * p = q at *
    rw [if_neg (by omega), if_neg (by omega), wr (100 * n) (by unfold In; omega), if_neg (by omega), wr (t + 1) (by unfold In; omega), wr (n - 1) (by unfold In; omega), wr (100 * (n - 1)) (by unfold In; omega)]
    by_cases e : n > t + 1
    · rw [if_pos e, decide_eq_false (by omega)]
      exact fin
    · rw [if_neg e]
      exact fin
  · have r1 : rai t p = (0, false) := by unfold rai; rw [if_neg c]
    rw [r1, live, if_neg (by simp), if_pos rfl]
    rfl
end Go.Proofs.Ytfpomamhcjkoeaa.Pure
