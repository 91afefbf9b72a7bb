/- The plain statement behind the law PotRuns, proved for every input; no condition but the types' own bounds. -/
import Derived.Test.YtfpomamhcjkoeabPotLaws
import Derived.Test.YtfpomamhcjkoeabLx5
namespace Go.Proofs.Ytfpomamhcjkoeab.Pure
set_option linter.unusedSimpArgs false
set_option linter.unusedVariables false
open Go.RowKit Go.Proofs.Ytfpomamhcjkoeab.L Go.Proofs.Ytfpomamhcjkoeab.PotLaws Go.Proofs.Ytfpomamhcjkoeab.Row Go.Proofs.YtfpomamhcjkoeabW.PrintWords Go.Proofs.YtfpomamhcjkoeabW.PrintLast
theorem runs_loop (m : Int) (l : List Int) (hl : l.length ≤ 1000) (d : Nat) : ∀ (k i : Nat) (t : Int), i + d = l.length → 2 * d + 2 ≤ k → May t m → hopperlaw07_PotRuns.l0 k m l t (i : Int) t m = some true := by
  induction d with
  | zero =>
    intro k i t hi hk h
    obtain ⟨k, rfl⟩ : ∃ q, k = q + 2 := ⟨k - 2, by omega⟩
    rw [show k + 2 = (k + 1) + 1 by omega]
    simp only [hopperlaw07_PotRuns.l0]
    rw [if_neg (by omega), live]
    rfl
  | succ d ih =>
    intro k i t hi hk h
    obtain ⟨k, rfl⟩ : ∃ q, k = q + 3 := ⟨k - 3, by omega⟩
    obtain ⟨h1, h2, h3, h4⟩ := id h
    have wi : wrap64 ((i : Int) + 1) = ((i + 1 : Nat) : Int) := by unfold wrap64; omega
    rw [show k + 3 = (k + 2) + 1 by omega]
    simp only [hopperlaw07_PotRuns.l0]
    rw [if_pos (by omega), if_pos (by omega), show k + 2 = (k + 1) + 1 by omega, adjust]
    simp only [Option.bind_some]
    obtain ⟨z, hz⟩ : ∃ z, rd l (i : Int) = z := ⟨_, rfl⟩
    rw [hz]
    have wf : wrap64 (m - t) = m - t := by unfold wrap64; omega
    have keep : ∀ e : Int, e ≠ 0 → adj t m z = (t, m, e) → (if (adj t m z).2.2 = 0 then ((pot_Pot_Adjust.f (k + 1 + 1) (adj t m z).1 (adj t m z).2.1 (wrap64 (-z))).bind fun bt179 => (if bt179.2.2 = 0 then (hopperlaw07_PotRuns.j2 (k + 1 + 1) m l t (i : Int) (!(bt179.1 == t) || (!(bt179.2.1 == m))) (adj t m z).1 (adj t m z).2.1) else (hopperlaw07_PotRuns.j2 (k + 1 + 1) m l t (i : Int) true (adj t m z).1 (adj t m z).2.1))) else (if (!((adj t m z).1 == t) || (!((adj t m z).2.1 == m))) = true then (none) else (if (adj t m z).1 = t then (if (adj t m z).1 < 0 then (none) else (if (adj t m z).1 > m then (none) else ((pot_Pot_Free.f (adj t m z).1 (adj t m z).2.1).bind fun t185 => (if t185 = (wrap64 (m - t)) then (if (adj t m z).2.1 = m then (hopperlaw07_PotRuns.l0 (k + 1 + 1) m l t (wrap64 ((i : Int) + 1)) (adj t m z).1 (adj t m z).2.1) else (none)) else (none))))) else (none)))) = some true := by
      intro e he hq
      rw [hq]
      simp only
      rw [if_neg he, if_neg (by simp), if_pos trivial, if_neg (by omega), if_neg (by omega), free]
      simp only [Option.bind_some]
      rw [show fre t m = m - t by unfold fre; rw [if_pos h], wf, if_pos rfl, if_pos trivial, wi]
      exact ih (k + 1 + 1) (i + 1) t (by omega) (by omega) h
    by_cases c : z < -t
    · exact keep 1 (by omega) (by unfold adj; rw [if_pos h, if_pos c])
    · by_cases f : m - t < z
      · exact keep 6 (by omega) (by unfold adj; rw [if_pos h, if_neg c, if_pos f])
      · have e : adj t m z = (t + z, m, 0) := by unfold adj; rw [if_pos h, if_neg c, if_neg f]
        have hn : May (t + z) m := ⟨by omega, by omega, by omega, by omega⟩
        have w1 : wrap64 (-z) = -z := by unfold wrap64; omega
        have w2 : wrap64 (t + z) = t + z := by unfold wrap64; omega
        have w3 : wrap64 (m - (t + z)) = m - (t + z) := by unfold wrap64; omega
        have e2 : adj (t + z) m (-z) = (t, m, 0) := by
          unfold adj; rw [if_pos hn, if_neg (by omega), if_neg (by omega), show t + z + -z = t by omega]
        rw [e]
        simp only
        rw [if_pos trivial, w1, adjust, e2]
        simp only [Option.bind_some]
        rw [if_pos trivial]
        simp only [hopperlaw07_PotRuns.j2]
        rw [hz, w2, w3, if_neg (by simp), if_pos (by omega), if_pos (by omega), if_pos rfl, if_neg (by omega), if_neg (by omega), free]
        simp only [Option.bind_some]
        rw [show fre (t + z) m = m - (t + z) by unfold fre; rw [if_pos hn], if_pos rfl, if_pos trivial, wi]
        exact ih (k + 1) (i + 1) (t + z) (by omega) (by omega) hn
theorem PotRuns : hopperlaw07_PotRuns.Pure := by
  intro m l _ _
  refine ⟨2 * l.length + 4, ?_⟩
  unfold hopperlaw07_PotRuns.f
  rw [new]
  simp only [Option.bind_some]
  by_cases hl : (l.length : Int) > 1000
  · rw [if_pos hl, show 2 * l.length + 4 = (2 * l.length + 3) + 1 by omega]
    simp only [hopperlaw07_PotRuns.j0]
    rw [if_pos trivial, if_pos hl, show 2 * l.length + 3 = (2 * l.length + 2) + 1 by omega, live]
    rfl
  · rw [if_neg hl, show 2 * l.length + 4 = (2 * l.length + 3) + 1 by omega]
    simp only [hopperlaw07_PotRuns.j0]
    by_cases hm : m < 1 ∨ 1000 < m
    · rw [if_pos hm]
      simp only
      rw [if_pos (by decide), if_neg hl, if_pos (by decide), show 2 * l.length + 3 = (2 * l.length + 2) + 1 by omega, live]
      rfl
    · rw [if_neg hm]
      simp only
      rw [if_neg (by decide)]
      have := runs_loop m l (by omega) l.length (2 * l.length + 3) 0 0 (by omega) (by omega) ⟨by omega, by omega, by omega, by omega⟩
      exact this
end Go.Proofs.Ytfpomamhcjkoeab.Pure
