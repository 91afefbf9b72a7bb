/- The plain statement behind the law GreedyGas, proved for every input; no condition but the types' own bounds. -/
import Derived.Test.YtahopljippfadaaGreedyTot
import Derived.Test.YtahopljippfadaaDx21
namespace Go.Proofs.Ytahopljippfadaa.Pure
set_option linter.unusedSimpArgs false
set_option linter.unusedVariables false
open Go.RowKit Go.Proofs.Ytahopljippfadaa.D Go.Proofs.Ytahopljippfadaa.GreedyLaws Go.Proofs.Ytahopljippfadaa.Row Go.Proofs.YtahopljippfadaaW.PrintWords Go.Proofs.YtahopljippfadaaW.PrintLast
theorem gas_from (K : Nat) (hK : 2000 ≤ K) (l : List Ac) (gas : Int) (hf : FewA l) (h0 : 0 ≤ gas) (h1 : gas ≤ 1099511627776) : ∀ (n i : Nat), i + n = l.length → hopperlaw12_GreedyGas.l0 (K + n + 1) l gas (i : Int) = some true
  | 0, i, hn => by
    have hlen := tmA_len l gas hf
    obtain ⟨s, hs⟩ := totals_good K (tmA l gas) (by omega) (fun x hx => tmA_good l gas x hx) (by omega)
    obtain ⟨s', hs'⟩ := totals_good K [] (by simp) (fun x hx => absurd hx List.not_mem_nil) (by simp; omega)
    have hz : tmA l 0 = [] := by
      have := tmA_fits l 0 (Int.le_refl _)
      cases e : tmA l 0 with
      | nil => rfl
      | cons x r =>
        rw [e] at this
        have h2 := this.1
        have h3 := this.2.1
        omega
    have hsum := (fits_sum gas _ h0 (tmA_fits l gas h0)).2
    unfold hopperlaw12_GreedyGas.l0
    rw [if_neg (by omega), template_run l gas hf (by omega), Option.bind_some, hs, Option.bind_some, hs', Option.bind_some, template_run l 0 hf (by omega), Option.bind_some, hz]
    dsimp only
    rw [if_pos (by simp), if_pos hsum, if_pos (by simp [sum4]), if_pos (by omega), live_at _ (by omega)]
    rfl
  | n + 1, i, hn => by
    have hi : i < l.length := by omega
    have hx := hf.2.1 l[i] (List.getElem_mem hi)
    unfold hopperlaw12_GreedyGas.l0
    rw [if_pos (by omega), if_pos (by omega), rd_eq l i hi, rqcheck_eq _ _ _ _ _ (by omega) (by omega), Option.bind_some, step_ i (by have := hf.1; omega), show K + (n + 1) = K + n + 1 from rfl, gas_from K hK l gas hf h0 h1 n (i + 1) (by omega), live_at _ (by omega)]
    split <;> rfl
theorem GreedyGas : hopperlaw12_GreedyGas.Pure := by
  intro l gas hl hg
  obtain ⟨m, hm⟩ : ∃ m, m = l.length + most l + 3000 := ⟨_, rfl⟩
  obtain ⟨b, h1, h2⟩ := few_start (m + 1) l hl (by omega)
  refine ⟨m + 1, ?_⟩
  unfold hopperlaw12_GreedyGas.f
  rw [h1, Option.bind_some]
  have skip : hopperlaw12_GreedyGas.j0 (m + 1) l gas true = some true := by
    rw [hopperlaw12_GreedyGas.j0]
    rw [if_pos rfl, live_at _ (by omega)]
    rfl
  cases b with
  | false => rw [if_neg (by decide)]; exact skip
  | true =>
    have hf := h2 rfl
    rw [if_pos rfl]
    by_cases g0 : gas < 0
    · rw [if_pos g0]; exact skip
    · rw [if_neg g0]
      by_cases g1 : gas > 1099511627776
      · rw [decide_eq_true g1]; exact skip
      · rw [decide_eq_false g1]
        rw [hopperlaw12_GreedyGas.j0]
        rw [if_neg (by decide)]
        have := gas_from (most l + 2999) (by omega) l gas hf (by omega) (by omega) l.length 0 (by omega)
        rw [show most l + 2999 + l.length + 1 = m by omega] at this
        exact this
end Go.Proofs.Ytahopljippfadaa.Pure
