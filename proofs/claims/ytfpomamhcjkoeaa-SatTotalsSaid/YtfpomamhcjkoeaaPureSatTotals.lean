/- The plain statement behind the law SatTotals, proved for every input; no condition but the types' own bounds. -/
import Derived.Test.YtfpomamhcjkoeaaSatLaws
import Derived.Test.YtfpomamhcjkoeaaSx4
namespace Go.Proofs.Ytfpomamhcjkoeaa.Pure
set_option linter.unusedSimpArgs false
set_option linter.unusedVariables false
open Go.RowKit Go.Proofs.Ytfpomamhcjkoeaa.S Go.Proofs.Ytfpomamhcjkoeaa.SatLaws Go.Proofs.Ytfpomamhcjkoeaa.Row Go.Proofs.YtfpomamhcjkoeaaW.PrintWords Go.Proofs.YtfpomamhcjkoeaaW.PrintLast
theorem sum_append (l m : List S29) : sum0 (l ++ m) = sum0 l + sum0 m ∧ sum1 (l ++ m) = sum1 l + sum1 m := by
  unfold sum0 sum1
  simp
theorem SatTotals : hopperlaw01_SatTotals.Pure := by
  intro l c _ hc
  have hc : In c := bounds_i64 hc
  unfold In at hc
  refine ⟨4, ?_⟩
  unfold hopperlaw01_SatTotals.f
  have skip : hopperlaw01_SatTotals.j0 4 l c true = some true := by
    simp only [hopperlaw01_SatTotals.j0]
    rw [if_pos trivial, live]
    rfl
  by_cases d1 : (l.length : Int) > 2000
  · rw [if_pos d1]; exact skip
  · by_cases d2 : c < 0
    · rw [if_neg d1, if_pos d2]; exact skip
    · by_cases d3 : c > (l.length : Int)
      · rw [if_neg d1, if_neg d2, decide_eq_true d3]; exact skip
      · rw [if_neg d1, if_neg d2, decide_eq_false d3]
        simp only [hopperlaw01_SatTotals.j0]
        rw [if_neg (by decide)]
        unfold sat_Totals.f hopperref01_Totals.f
        simp only [Option.bind_some]
        rw [if_neg (by simp), bne_self_eq_false]
        simp only [hopperlaw01_SatTotals.j1]
        rw [if_neg (by decide), if_pos (by omega), if_pos (by omega)]
        unfold sat_Totals.f
        rw [live]
        simp only [Option.bind_some]
        by_cases g : l.length ≤ 1000 ∧ ∀ x ∈ l, pairOk x
        · have h1 : ∀ x ∈ l.take c.toNat, pairOk x := fun x hx => g.2 x (List.mem_of_mem_take hx)
          have h2 : ∀ x ∈ l.drop c.toNat, pairOk x := fun x hx => g.2 x (List.mem_of_mem_drop hx)
          rw [totF_good l g.1 g.2, totF_good (l.take c.toNat) (by rw [List.length_take]; omega) h1, totF_good (l.drop c.toNat) (by rw [List.length_drop]; omega) h2]
          simp only [if_pos]
          obtain ⟨e1, e2⟩ := sum_append (l.take c.toNat) (l.drop c.toNat)
          rw [List.take_append_drop] at e1 e2
          obtain ⟨b1, b2, b3, b4⟩ := sums_range l g.2
          have b5 : (l.length : Int) ≤ 1000 := by omega
          rw [← e1, ← e2, wr (sum0 l) (by unfold In; omega), wr (sum1 l) (by unfold In; omega), if_pos rfl, if_pos rfl]
        · have e : totF l = (0, 0, false) := by
            unfold totF
            split
            · rfl
            · rename_i h
              rw [if_neg (fun h2 => g ⟨by omega, h2⟩)]
          rw [e]
          rfl
end Go.Proofs.Ytfpomamhcjkoeaa.Pure
