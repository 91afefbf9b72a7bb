/- The plain statement behind the law PotFull, proved for every input; no condition but the types' own bounds. -/
import Derived.Test.YtfpomamhcjkoeabPotLaws
import Derived.Test.YtfpomamhcjkoeabLx7
namespace Go.Proofs.Ytfpomamhcjkoeab.Pure
set_option linter.unusedSimpArgs false
set_option linter.unusedVariables false
open Go.RowKit Go.Proofs.Ytfpomamhcjkoeab.L Go.Proofs.Ytfpomamhcjkoeab.PotLaws Go.Proofs.Ytfpomamhcjkoeab.Row Go.Proofs.YtfpomamhcjkoeabW.PrintWords Go.Proofs.YtfpomamhcjkoeabW.PrintLast
theorem PotFull : hopperlaw07_PotFull.Pure := by
  intro t m d _ _
  refine ⟨1, ?_⟩
  unfold hopperlaw07_PotFull.f
  rw [adjust]
  simp only [Option.bind_some]
  rw [ref_may]
  simp only [Option.bind_some]
  by_cases h : May t m
  · obtain ⟨h1, h2, h3, h4⟩ := id h
    rw [decide_eq_true h, if_pos rfl]
    by_cases c : d < -t
    · have e : adj t m d = (t, m, 1) := by unfold adj; rw [if_pos h, if_pos c]
      have w := w_neg t h3 (by omega)
      simp [e, w, c, live]
    · by_cases f : m - t < d
      · have e : adj t m d = (t, m, 6) := by unfold adj; rw [if_pos h, if_neg c, if_pos f]
        have w : wrap64 (m - t) = m - t := by unfold wrap64; omega
        simp [e, w, f, live]
      · have e : adj t m d = (t + d, m, 0) := by unfold adj; rw [if_pos h, if_neg c, if_neg f]
        have w : wrap64 (t + d - t) = d := by unfold wrap64; omega
        have h2 : May (t + d) m := ⟨by omega, by omega, by omega, by omega⟩
        simp [e, w, ref_may, h2, live]
  · have e : adj t m d = (t, m, 1) := by unfold adj; rw [if_neg h]
    rw [decide_eq_false h]
    simp [e, live]
end Go.Proofs.Ytfpomamhcjkoeab.Pure
