/- The plain statement behind the law PotOrder, proved for every input; no condition but the types' own bounds. -/
import Derived.Test.YtfpomamhcjkoeabPotLaws
import Derived.Test.YtfpomamhcjkoeabLx6
namespace Go.Proofs.Ytfpomamhcjkoeab.Pure
set_option linter.unusedSimpArgs false
set_option linter.unusedVariables false
open Go.RowKit Go.Proofs.Ytfpomamhcjkoeab.L Go.Proofs.Ytfpomamhcjkoeab.PotLaws Go.Proofs.Ytfpomamhcjkoeab.Row Go.Proofs.YtfpomamhcjkoeabW.PrintWords Go.Proofs.YtfpomamhcjkoeabW.PrintLast
theorem order_end (t m : Int) (hm : m ≤ 9223372036854775807) (k : Nat) : hopperlaw07_PotOrder.j0 (k + 2) false t m t m = some true := by
  rw [show k + 2 = (k + 1) + 1 by omega]
  simp only [hopperlaw07_PotOrder.j0]
  rw [if_neg (by decide), ref_may]
  simp only [Option.bind_some]
  by_cases h : May t m
  · obtain ⟨h1, h2, h3, h4⟩ := id h
    have w : wrap64 (m - t + t) = m := by unfold wrap64; omega
    have o1 : ovr t m 0 = t := by unfold ovr; rw [if_pos h, if_neg (by omega)]; split <;> omega
    have o2 : ovr t m m = 0 := by unfold ovr; rw [if_pos h, if_neg (by omega), if_neg (by omega)]
    rw [decide_eq_true h, if_pos rfl, free, show fre t m = m - t by unfold fre; rw [if_pos h]]
    simp only [Option.bind_some]
    rw [w, if_pos rfl, over t m 0 (by omega), o1]
    simp only [Option.bind_some]
    rw [if_pos trivial, over t m m hm, o2]
    simp only [Option.bind_some]
    rw [if_pos trivial, live]
    rfl
  · have o2 : ovr t m m = 0 := by unfold ovr; rw [if_neg h]
    rw [decide_eq_false h, if_neg (by decide), over t m m hm, o2]
    simp only [Option.bind_some]
    rw [if_pos trivial, live]
    rfl
theorem PotOrder : hopperlaw07_PotOrder.Pure := by
  intro t m a b htm _ _
  have hm := bounds_i64 htm.2
  simp only at hm
  have fin := order_end t m (by omega) 3
  refine ⟨5, ?_⟩
  unfold hopperlaw07_PotOrder.f
  rw [show (5 : Nat) = 4 + 1 from rfl, adjust]
  simp only [Option.bind_some]
  rw [adjust]
  simp only [Option.bind_some]
  rw [adjust]
  simp only [Option.bind_some]
  rw [adjust]
  simp only [Option.bind_some]
  by_cases c1 : (adj t m a).2.2 = 0
  · rw [if_pos c1]
    by_cases c2 : (adj (adj t m a).1 (adj t m a).2.1 b).2.2 = 0
    · rw [if_pos c2]
      by_cases c3 : (adj t m b).2.2 = 0
      · rw [if_pos c3]
        by_cases c4 : (adj (adj t m b).1 (adj t m b).2.1 a).2.2 = 0
        · rw [if_pos c4]
          have key : ∀ t m d : Int, (adj t m d).2.2 = 0 → (adj t m d).1 = t + d ∧ (adj t m d).2.1 = m := by
            intro t m d h
            unfold adj at h ⊢
            split at h
            · rename_i h1
              rw [if_pos h1]
              split at h
              · simp at h
              · rename_i h2
                rw [if_neg h2]
                split at h
                · simp at h
                · rename_i h3
                  rw [if_neg h3]
                  exact ⟨rfl, rfl⟩
            · simp at h
          have k1 := key t m a c1
          have k2 := key _ _ b c2
          have k3 := key t m b c3
          have k4 := key _ _ a c4
          have e1 : (adj (adj t m a).1 (adj t m a).2.1 b).1 = (adj (adj t m b).1 (adj t m b).2.1 a).1 := by rw [k2.1, k4.1, k1.1, k3.1]; omega
          have e2 : (adj (adj t m a).1 (adj t m a).2.1 b).2.1 = (adj (adj t m b).1 (adj t m b).2.1 a).2.1 := by rw [k2.2, k4.2, k1.2, k3.2]
          rw [e1, e2]
          simp only [BEq.rfl, Bool.not_true, Bool.or_self]
          exact fin
        · rw [if_neg c4]; exact fin
      · rw [if_neg c3]; exact fin
    · rw [if_neg c2]; exact fin
  · rw [if_neg c1]; exact fin
end Go.Proofs.Ytfpomamhcjkoeab.Pure
