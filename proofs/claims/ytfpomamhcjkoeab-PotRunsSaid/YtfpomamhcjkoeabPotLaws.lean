/- Plain facts on a pot's functions: what each comes to; no condition but the numbers' ranges. -/
import Derived.Test.YtfpomamhcjkoeabLx4
import Derived.Test.YtfpomamhcjkoeabLx4
import Derived.Test.YtfpomamhcjkoeabLx3
import Derived.Test.YtfpomamhcjkoeabLx3
import Derived.Test.YtfpomamhcjkoeabLx3
import Derived.Test.YtfpomamhcjkoeabLx3
import Derived.Test.YtfpomamhcjkoeabLx3
namespace Go.Proofs.Ytfpomamhcjkoeab.PotLaws
set_option linter.unusedSimpArgs false
set_option linter.unusedVariables false
open Go.RowKit Go.Proofs.Ytfpomamhcjkoeab.L Go.Proofs.YtfpomamhcjkoeabW.PrintWords Go.Proofs.YtfpomamhcjkoeabW.PrintLast
def May (t m : Int) : Prop := 1 ≤ m ∧ m ≤ 1000 ∧ 0 ≤ t ∧ t ≤ m
instance (t m : Int) : Decidable (May t m) := by unfold May; infer_instance
/-- What a pot comes to by a delta: taken, most, the error. -/
def adj (t m d : Int) : Int × Int × Int := if May t m then (if d < -t then (t, m, 1) else if m - t < d then (t, m, 6) else (t + d, m, 0)) else (t, m, 1)
theorem may (t m : Int) : pot_Pot_may.f t m = some (decide (May t m)) := by
  by_cases h : May t m
  · rw [(pot_may_true t m).2 h, decide_eq_true h]
  · obtain ⟨b, hb⟩ := pot_may_some t m
    cases b with
    | true => exact absurd ((pot_may_true t m).1 hb) h
    | false => rw [hb, decide_eq_false h]
theorem ref_may (t m : Int) : hopperref07_May.f t m = some (decide (May t m)) := by
  have e : hopperref07_May.f t m = pot_Pot_may.f t m := rfl
  rw [e, may]
theorem w_neg (t : Int) (h0 : 0 ≤ t) (h1 : t ≤ 1000) : wrap64 (-t) = -t := by unfold wrap64; omega
theorem add_ok (t d m : Int) (h0 : 0 ≤ t) (h1 : t ≤ m) (h2 : m ≤ 1000) (h3 : 0 ≤ d) : sat_Add.f t d m = some (if m - t < d then (0, false) else (t + d, true)) := by
  have w1 : wrap64 (m - t) = m - t := by unfold wrap64; omega
  unfold sat_Add.f
  rw [if_neg (by omega), if_neg (by omega), if_neg (by omega), w1]
  by_cases c : m - t < d
  · rw [if_pos c, if_pos c]
  · have w2 : wrap64 (t + d) = t + d := by unfold wrap64; omega
    rw [if_neg c, if_neg c, w2]
theorem adjust (t m d : Int) (k : Nat) : pot_Pot_Adjust.f (k + 1) t m d = some (adj t m d) := by
  unfold pot_Pot_Adjust.f adj
  rw [may]
  by_cases h : May t m
  · rw [decide_eq_true h, if_pos h]
    obtain ⟨h1, h2, h3, h4⟩ := h
    simp only [Option.bind_some, if_pos]
    rw [w_neg t h3 (by omega)]
    simp only [pot_Pot_Adjust.j0]
    by_cases c : d < -t
    · rw [if_pos c, if_pos (decide_eq_true c)]
    · rw [if_neg c, if_neg (by simpa using c)]
      by_cases e : d < 0
      · rw [if_pos e, if_neg (by omega)]
        have w : wrap64 (t + d) = t + d := by unfold wrap64; omega
        rw [w]
      · rw [if_neg e, add_ok t d m h3 h4 h2 (by omega)]
        by_cases f : m - t < d
        · simp [f]
        · simp [f]
  · rw [decide_eq_false h, if_neg h]
    simp [pot_Pot_Adjust.j0]
theorem ref_adjust (t m d : Int) (k : Nat) : hopperref07_Adjust.f (k + 1) t m d = some (adj t m d) := by
  unfold hopperref07_Adjust.f adj
  rw [ref_may]
  by_cases h : May t m
  · rw [decide_eq_true h, if_pos h]
    obtain ⟨h1, h2, h3, h4⟩ := h
    simp only [Option.bind_some, if_pos]
    rw [w_neg t h3 (by omega)]
    simp only [hopperref07_Adjust.j0]
    have w1 : wrap64 (m - t) = m - t := by unfold wrap64; omega
    by_cases c : d < -t
    · rw [if_pos c, if_pos (decide_eq_true c)]
    · rw [if_neg c, if_neg (by simpa using c), w1]
      by_cases f : m - t < d
      · rw [if_pos f, if_pos (by omega)]
      · have w : wrap64 (t + d) = t + d := by unfold wrap64; omega
        rw [if_neg f, if_neg (by omega), w]
  · rw [decide_eq_false h, if_neg h]
    simp [hopperref07_Adjust.j0]
def fre (t m : Int) : Int := if May t m then m - t else 0
def ovr (t m s : Int) : Int := if May t m then (if s < 0 then 0 else if s < t then t - s else 0) else 0
theorem free (t m : Int) : pot_Pot_Free.f t m = some (fre t m) := by
  unfold pot_Pot_Free.f fre
  rw [may]
  by_cases h : May t m <;> simp [h]
theorem ref_free (t m : Int) : hopperref07_Free.f t m = some (fre t m) := by
  unfold hopperref07_Free.f fre
  rw [ref_may]
  by_cases h : May t m
  · have w1 : wrap64 (m - t) = m - t := by obtain ⟨h1, h2, h3, h4⟩ := h; unfold wrap64; omega
    simp [h, w1]
  · simp [h]
theorem over (t m s : Int) (hs : s ≤ 9223372036854775807) : pot_Pot_Over.f t m s = some (ovr t m s) := by
  unfold pot_Pot_Over.f ovr
  rw [may]
  by_cases h : May t m
  · by_cases c : s < 0
    · simp [h, c]
    · simp [h, c, hs]
  · simp [h]
theorem ref_over (t m s : Int) : hopperref07_Over.f t m s = some (ovr t m s) := by
  unfold hopperref07_Over.f ovr
  rw [ref_may]
  by_cases h : May t m
  · obtain ⟨h1, h2, h3, h4⟩ := id h
    by_cases c : s < 0
    · simp [h, c]
    · by_cases e : s < t
      · have w1 : wrap64 (t - s) = t - s := by unfold wrap64; omega
        have e2 : ¬ t ≤ s := by omega
        simp [h, c, e, e2, w1]
      · have e2 : t ≤ s := by omega
        simp [h, c, e, e2]
  · simp [h]
theorem new (m : Int) : pot_New.f m = some (if m < 1 ∨ 1000 < m then (0, 0, 1) else (0, m, 0)) := by
  unfold pot_New.f
  by_cases a : m < 1
  · simp [a]
  · by_cases b : m > 1000
    · have : 1000 < m := b
      simp [a, this]
    · have : ¬ 1000 < m := b
      simp [a, this]
theorem ref_new (m : Int) : hopperref07_New.f m = pot_New.f m := rfl
theorem live (k : Nat) : hopperlaw07_live.f (k + 1) = some true := by
  have e1 : adj 0 10 7 = (7, 10, 0) := by decide
  have e2 : adj 7 10 4 = (7, 10, 6) := by decide
  have e3 : adj 7 10 (-7) = (0, 10, 0) := by decide
  have e4 : adj 7 10 (-8) = (7, 10, 1) := by decide
  have f1 : fre 7 10 = 3 := by decide
  have f2 : ovr 7 10 5 = 2 := by decide
  have f3 : ovr 7 10 7 = 0 := by decide
  unfold hopperlaw07_live.f
  simp [new, adjust, free, over, e1, e2, e3, e4, f1, f2, f3]
end Go.Proofs.Ytfpomamhcjkoeab.PotLaws
