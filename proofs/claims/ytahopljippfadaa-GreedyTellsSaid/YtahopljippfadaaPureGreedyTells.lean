/- The plain statement behind the law GreedyTells, proved for every input; no condition but the types' own bounds. -/
import Derived.Test.YtahopljippfadaaGreedyT
import Derived.Test.YtahopljippfadaaDx17
namespace Go.Proofs.Ytahopljippfadaa.Pure
set_option linter.unusedSimpArgs false
set_option linter.unusedVariables false
open Go.RowKit Go.Proofs.Ytahopljippfadaa.D Go.Proofs.Ytahopljippfadaa.GreedyLaws Go.Proofs.Ytahopljippfadaa.Row Go.Proofs.YtahopljippfadaaW.PrintWords Go.Proofs.YtahopljippfadaaW.PrintLast
theorem headsF_len (R : List (List Tx)) : (headsF R).length ≤ R.length := List.length_filterMap_le _ _
theorem GreedyTells : hopperlaw12_GreedyTells.Pure := by
  intro l gas t hl hg ht
  have hg1 : gas ≤ 9223372036854775807 := (bounds_i64 hg).2
  obtain ⟨m, hm⟩ : ∃ m, m = l.length + most l + t.length + 10000 := ⟨_, rfl⟩
  obtain ⟨b, h1, h2⟩ := few_start (m + 1) l hl (by omega)
  obtain ⟨c, h3, h4⟩ := few04_eq (m + 1) 60 t ht.1 (by omega)
  refine ⟨m + 1, ?_⟩
  unfold hopperlaw12_GreedyTells.f
  rw [h1, Option.bind_some]
  have skip : hopperlaw12_GreedyTells.j0 (m + 1) l gas t true = some true := by
    rw [hopperlaw12_GreedyTells.j0, if_pos rfl, live_at _ (by omega)]
    rfl
  cases b with
  | false => rw [if_neg (by decide)]; exact skip
  | true =>
    have hf := h2 rfl
    rw [if_pos rfl, h3, Option.bind_some]
    cases c with
    | false => exact skip
    | true =>
      have ht60 : t.length ≤ 60 := by have := h4 rfl; omega
      obtain ⟨w1, w2⟩ := lns_len l hf
      have hh := headsF_len (lns l)
      have hlen := tmA_len l gas hf
      obtain ⟨x, e1, e2⟩ := follows_run l t hf (by omega) (fun a ha => (ht.2 a ha).1)
      obtain ⟨y, e3, e4⟩ := rfollows_run m l hf t ht60 (by omega)
      have exy : x = y := Bool.eq_iff_iff.2 (e2.trans e4.symm)
      rw [Bool.not_true, hopperlaw12_GreedyTells.j0, if_neg (by decide), totals_run m t (by omega) (by omega), Option.bind_some, rtotals_run m t (by omega) (by omega), Option.bind_some, heads_run l hf, Option.bind_some, rheads_run m l hf (by omega), Option.bind_some, txs_same m _ (by omega) (by omega), Option.bind_some, if_pos rfl, template_run l gas hf hg1, Option.bind_some, rtemplate_run m l gas hf hg1 (by omega), Option.bind_some, txs_same m _ (by omega) (by omega), Option.bind_some, if_pos rfl, if_pos rfl, if_pos rfl, e1, Option.bind_some, e3, Option.bind_some, exy, if_pos (by simp), live_at _ (by omega)]
      rfl
end Go.Proofs.Ytahopljippfadaa.Pure
