/- The plain statement behind the law ShardWorst, proved for every input; no condition but the types' own bounds. -/
import Derived.Test.YtnjnogkhbadioaaShardLast
import Derived.Test.YtnjnogkhbadioaaDx13
namespace Go.Proofs.Ytnjnogkhbadioaa.Pure
set_option linter.unusedSimpArgs false
set_option linter.unusedVariables false
open Go.RowKit Go.Proofs.Ytnjnogkhbadioaa.D Go.Proofs.Ytnjnogkhbadioaa.ShardLaws Go.Proofs.Ytnjnogkhbadioaa.Row Go.Proofs.YtnjnogkhbadioaaW.PrintWords Go.Proofs.YtnjnogkhbadioaaW.PrintLast
theorem ShardWorst_end (K : Nat) (l : List Ac) (L : List Tx) (hL : L.length ≤ l.length) (b : Bool) (t : Tx) (i : Nat) (hi : L.length ≤ i) (hi2 : i ≤ 1000) : hopperlaw11_ShardWorst.l0 (K + 1) l b L b b (i : Int) t.f0 t.f1 t.f2 t.f3 t.f4 t.f5 = some true := by
  unfold hopperlaw11_ShardWorst.l0
  rw [if_neg (by omega), if_pos (by cases b <;> rfl), if_pos (by cases b <;> rfl), if_pos (by omega), live]
  rfl
theorem ShardWorst_from (K : Nat) (hK : 400 ≤ K) (l : List Ac) (L : List Tx) (hL : L.length ≤ l.length) (hl : l.length ≤ 1000) (v : Nat) (hv : HeapLaws.Wst L v) : ∀ (n i : Nat) (found : Bool), i + n = L.length → (found = true ∨ i ≤ v) → 0 < L.length → hopperlaw11_ShardWorst.l0 (K + n + 1) l true L true found (i : Int) (L.getD v HeapLaws.d).f0 (L.getD v HeapLaws.d).f1 (L.getD v HeapLaws.d).f2 (L.getD v HeapLaws.d).f3 (L.getD v HeapLaws.d).f4 (L.getD v HeapLaws.d).f5 = some true
  | 0, i, found, hi, hf, h0 => by
    have hvl := hv.2.1 (fun e => by rw [e] at h0; cases h0)
    obtain rfl : found = true := hf.resolve_right (by omega)
    exact ShardWorst_end K l L hL true _ i (by omega) (by omega)
  | n + 1, i, found, hi, hf, h0 => by
    have hb : HeapLaws.B (L.getD v HeapLaws.d) (rd_T32 L (i : Int)) = false := hv.2.2.1 i (by omega)
    unfold hopperlaw11_ShardWorst.l0
    rw [if_pos (by omega), if_pos rfl, if_pos (by omega), HeapLaws.rbt (K + (n + 1)) (by omega) (L.getD v HeapLaws.d) (rd_T32 L (i : Int)), Option.bind_some, hb, if_neg (by decide), step_ i (by omega), show K + (n + 1) = K + n + 1 from rfl]
    cases found with
    | true =>
      rw [if_pos rfl]
      exact ShardWorst_from K hK l L hL hl v hv n (i + 1) true (by omega) (Or.inl rfl) h0
    | false =>
      rw [if_neg (by decide)]
      refine ShardWorst_from K hK l L hL hl v hv n (i + 1) _ (by omega) ?_ h0
      have h1 : i ≤ v := hf.resolve_left (by decide)
      by_cases e : i = v
      · subst e
        exact Or.inl (HeapLaws.same_refl (rd_T32 L (i : Int)))
      · exact Or.inr (by omega)
theorem ShardWorst : hopperlaw11_ShardWorst.Pure := by
  intro l hl
  obtain ⟨K, hK⟩ : ∃ K, K = l.length + most l + 2000000 := ⟨_, rfl⟩
  refine ⟨K, ?_⟩
  obtain ⟨p, hp, hpf⟩ := few11_eq K 20 l hl.1 (fun x h => (hl.2 x h).2.2.1) (by omega)
  unfold hopperlaw11_ShardWorst.f
  rw [hp, Option.bind_some]
  cases p with
  | false => rw [if_neg (by decide), live]; rfl
  | true =>
    obtain ⟨h1, h2⟩ := hpf rfl
    have hx : ∀ x ∈ l, x.f2.length ≤ 1000 := fun x h => by have := h2 x h; omega
    obtain ⟨v, hv, hw⟩ := sworst_eq K l (by omega) hx (by omega)
    have hL := lasts_len l
    rw [if_pos rfl, hw, Option.bind_some, slasts_eq K l (by omega) hx (by omega), Option.bind_some, HeapLaws.rworst_eq K (lasts l) v (by omega) hv (by omega), Option.bind_some]
    dsimp only
    by_cases e : lasts l = []
    · rw [W, if_pos e, decide_eq_false (by rw [e]; decide)]
      dsimp only
      obtain ⟨k, rfl⟩ : ∃ k, K = k + 1 := ⟨K - 1, by omega⟩
      exact ShardWorst_end k l _ hL false ⟨0, 0, 0, 0, 0, ⟨#[]⟩⟩ 0 (by rw [e]; exact Nat.le_refl _) (by omega)
    · have h0 := List.length_pos_iff.2 e
      rw [W, if_neg e, decide_eq_true (by omega)]
      dsimp only
      obtain ⟨k, rfl⟩ : ∃ k, K = k + (lasts l).length + 1 := ⟨K - (lasts l).length - 1, by omega⟩
      exact ShardWorst_from k (by omega) l (lasts l) hL (by omega) v hv _ 0 false (by omega) (Or.inr (Nat.zero_le _)) h0
end Go.Proofs.Ytnjnogkhbadioaa.Pure
