/- The plain statement behind the law SatPairs, proved for every input; no condition but the types' own bounds. -/
import Derived.Test.YtfpomamhcjkoeaaSatLaws
import Derived.Test.YtfpomamhcjkoeaaSx7
namespace Go.Proofs.Ytfpomamhcjkoeaa.Pure
set_option linter.unusedSimpArgs false
set_option linter.unusedVariables false
open Go.RowKit Go.Proofs.Ytfpomamhcjkoeaa.S Go.Proofs.Ytfpomamhcjkoeaa.SatLaws Go.Proofs.Ytfpomamhcjkoeaa.Row Go.Proofs.YtfpomamhcjkoeaaW.PrintWords Go.Proofs.YtfpomamhcjkoeaaW.PrintLast
def swap (x : S29) : S29 := ⟨x.f1, x.f0⟩
theorem sum_swap (l : List S29) : sum0 (l.map swap) = sum1 l ∧ sum1 (l.map swap) = sum0 l := by
  unfold sum0 sum1
  rw [List.map_map, List.map_map]
  exact ⟨rfl, rfl⟩
theorem ok_swap (l : List S29) : (∀ x ∈ l.map swap, pairOk x) ↔ ∀ x ∈ l, pairOk x := by
  rw [List.forall_mem_map]
  constructor
  · intro h x hx
    have := h x hx
    unfold pairOk swap at *
    exact ⟨this.2.2.1, this.2.2.2, this.1, this.2.1⟩
  · intro h x hx
    have := h x hx
    unfold pairOk swap at *
    exact ⟨this.2.2.1, this.2.2.2, this.1, this.2.1⟩
theorem tot_swap (l : List S29) : totF (l.map swap) = ((totF l).2.1, (totF l).1, (totF l).2.2) := by
  unfold totF
  rw [List.length_map, (sum_swap l).1, (sum_swap l).2]
  by_cases c : 1000 < l.length
  · rw [if_pos c, if_pos c]
  · rw [if_neg c, if_neg c]
    by_cases d : ∀ x ∈ l, pairOk x
    · rw [if_pos d, if_pos ((ok_swap l).2 d)]
    · rw [if_neg d, if_neg (fun h => d ((ok_swap l).1 h))]
theorem sum_turn (a b : List S29) : totF (b ++ a) = totF (a ++ b) := by
  unfold totF
  have s : sum0 (b ++ a) = sum0 (a ++ b) ∧ sum1 (b ++ a) = sum1 (a ++ b) := by
    unfold sum0 sum1
    simp only [List.map_append, List.sum_append]
    omega
  have l : (b ++ a).length = (a ++ b).length := by simp; omega
  rw [s.1, s.2, l]
  have m : (∀ x ∈ b ++ a, pairOk x) ↔ ∀ x ∈ a ++ b, pairOk x := by
    constructor
    · intro h x hx
      exact h x (by simp at hx ⊢; exact hx.symm)
    · intro h x hx
      exact h x (by simp at hx ⊢; exact hx.symm)
  by_cases c : 1000 < (a ++ b).length
  · rw [if_pos c, if_pos c]
  · rw [if_neg c, if_neg c]
    by_cases d : ∀ x ∈ a ++ b, pairOk x
    · rw [if_pos d, if_pos (m.2 d)]
    · rw [if_neg d, if_neg (fun h => d (m.1 h))]
theorem loop (l : List S29) (hl : l.length ≤ 1000) (k : Nat) : ∀ (n : Nat), n ≤ l.length → hopperlaw01_SatPairs.l0 (l.length - n + k + 2) l (totF l).2.2 (totF l).2.2 ((l.take n).map swap) (n : Int) (totF l).1 (totF l).2.1 (totF l).1 (totF l).2.1 = some true := by
  intro n hn
  generalize hm : l.length - n = m
  induction m generalizing n with
  | zero =>
    rw [show 0 + k + 2 = (k + 1) + 1 by omega]
    simp only [hopperlaw01_SatPairs.l0]
    rw [if_neg (by omega), List.take_of_length_le (by omega)]
    unfold sat_Totals.f
    rw [live]
    simp only [Option.bind_some]
    rw [tot_swap, if_pos (by simp), if_pos (by simp), if_pos (by simp), if_pos (by simp)]
    by_cases c : (l.length : Int) = 1
    · rw [if_pos c, if_pos (show 0 < (l.length : Int) by omega)]
      by_cases g : (totF l).2.2 = true
      · rw [if_pos g]
        match l, c, g with
        | [x], _, g =>
          have r : rd_T29 [x] 0 = x := rfl
          have o : ∀ y ∈ [x], pairOk y := by
            apply Classical.byContradiction
            intro h
            unfold totF at g
            rw [if_neg (by simp), if_neg h] at g
            exact absurd g (by simp)
          rw [r, totF_good [x] (by simp) o]
          have s0 : sum0 [x] = x.f0 := by simp [sum0]
          have s1 : sum1 [x] = x.f1 := by simp [sum1]
          rw [s0, s1, if_pos (by simp)]
      · rw [if_neg g]
    · rw [if_neg c]
  | succ m ih =>
    rw [show m + 1 + k + 2 = (m + k + 2) + 1 by omega]
    simp only [hopperlaw01_SatPairs.l0]
    rw [if_pos (by omega), if_pos (by omega), if_pos (by rw [List.length_map, List.length_take]; omega), wr ((n : Int) + 1) (by unfold In; omega)]
    have e : (l.take n).map swap ++ [(⟨(rd_T29 l n).f1, (rd_T29 l n).f0⟩ : S29)] = (l.take (n + 1)).map swap := by
      rw [take_snoc2 l n (by omega), List.map_append]
      rfl
    rw [e]
    exact ih (n + 1) (by omega) (by omega)
theorem SatPairs : hopperlaw01_SatPairs.Pure := by
  intro l c _ hc
  have hc : In c := bounds_i64 hc
  unfold In at hc
  refine ⟨l.length + 3, ?_⟩
  unfold hopperlaw01_SatPairs.f
  have skip : hopperlaw01_SatPairs.j0 (l.length + 3) l c true = some true := by
    simp only [hopperlaw01_SatPairs.j0]
    rw [if_pos trivial, live]
    rfl
  by_cases d1 : (l.length : Int) > 1000
  · rw [if_pos d1]; exact skip
  · by_cases d2 : c < 0
    · rw [if_neg d1, if_pos d2]; exact skip
    · by_cases d3 : c > (l.length : Int)
      · rw [if_neg d1, if_neg d2, decide_eq_true d3]; exact skip
      · rw [if_neg d1, if_neg d2, decide_eq_false d3]
        simp only [hopperlaw01_SatPairs.j0]
        rw [if_neg (by decide)]
        unfold sat_Totals.f
        simp only [Option.bind_some, List.nil_append]
        rw [if_pos (by omega), if_pos (by omega), if_pos (by rw [List.length_nil, List.length_drop]; omega), if_pos (by rw [List.length_drop, List.length_take]; omega), sum_turn, List.take_append_drop]
        exact loop l (by omega) 0 0 (by omega)
end Go.Proofs.Ytfpomamhcjkoeaa.Pure
