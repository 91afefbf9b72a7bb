/- Who is better, by the document's own rule; no condition but the numbers' ranges. -/
import Derived.Test.YtihlogdmdmhefaaTxnRef
import Derived.Test.YtihlogdmdmhefaaLx23
namespace Go.Proofs.Ytihlogdmdmhefaa.TxnLaws
set_option linter.unusedSimpArgs false
set_option linter.unusedVariables false
open Go.RowKit Go.Proofs.Ytihlogdmdmhefaa.L Go.Proofs.Ytihlogdmdmhefaa.TxnCodec Go.Proofs.YtihlogdmdmhefaaW.PrintWords Go.Proofs.YtihlogdmdmhefaaW.PrintLast
theorem ref_better (a b c d e : Int) (z : ByteArray) (a' b' c' d' e' : Int) (z' : ByteArray) (k : Nat) (hk : 400 ≤ k) : hopperref04_Better.f k a b c d e z a' b' c' d' e' z' = some (decide (Better a b c d e z a' b' c' d' e' z')) := by
  unfold hopperref04_Better.f
  rw [ref_id _ _ _ _ _ _ k hk, ref_id _ _ _ _ _ _ k hk]
  simp only [Option.bind_some]
  rw [ByteArray.toList_eq, ByteArray.toList_eq]
  obtain ⟨l, hl⟩ : ∃ l, l = (idOf a b c d e z).data.toList := ⟨_, rfl⟩
  obtain ⟨m, hm⟩ : ∃ m, m = (idOf a' b' c' d' e' z').data.toList := ⟨_, rfl⟩
  have hB : Better a b c d e z a' b' c' d' e' z' ↔ c' < c ∨ (c = c' ∧ (Op.bytesLess l m = true ∨ (l = m ∧ (a < a' ∨ (a = a' ∧ b < b'))))) := by unfold Better; rw [← hl, ← hm]
  rw [← hl, ← hm]
  have key : ∀ (p : Bool), (p = true ↔ c' < c ∨ (c = c' ∧ (Op.bytesLess l m = true ∨ (l = m ∧ (a < a' ∨ (a = a' ∧ b < b')))))) → some p = some (decide (Better a b c d e z a' b' c' d' e' z')) := by
    intro p hp
    congr 1
    rw [Bool.eq_iff_iff, hp, decide_eq_true_iff, hB]
  by_cases h1 : c = c'
  · rw [if_pos h1]
    by_cases h3 : l = m
    · rw [if_pos h3]
      by_cases h4 : a = a'
      · rw [if_pos h4]
        apply key
        rw [h3, less_irrefl, decide_eq_true_iff]
        exact ⟨fun h => .inr ⟨h1, .inr ⟨rfl, .inr ⟨h4, h⟩⟩⟩, fun h => by rcases h with h | ⟨_, h | ⟨_, h | ⟨_, h⟩⟩⟩ <;> first | omega | cases h⟩
      · rw [if_neg h4]
        apply key
        rw [h3, less_irrefl, decide_eq_true_iff]
        exact ⟨fun h => .inr ⟨h1, .inr ⟨rfl, .inl h⟩⟩, fun h => by rcases h with h | ⟨_, h | ⟨_, h | ⟨h, _⟩⟩⟩ <;> first | omega | cases h⟩
    · rw [if_neg h3]
      apply key
      exact ⟨fun h => .inr ⟨h1, .inl h⟩, fun h => by rcases h with h | ⟨_, h | ⟨h, _⟩⟩ <;> first | omega | exact h | exact absurd h h3⟩
  · rw [if_neg h1]
    apply key
    rw [decide_eq_true_iff]
    exact ⟨fun h => .inl (by omega), fun h => by rcases h with h | ⟨h, _⟩ <;> omega⟩
end Go.Proofs.Ytihlogdmdmhefaa.TxnLaws
