/- The plain statement behind the law ShardJoins, proved for every input; no condition but the types' own bounds. -/
import Derived.Test.YtnjnogkhbadioaaShardJ
import Derived.Test.YtnjnogkhbadioaaDx18
namespace Go.Proofs.Ytnjnogkhbadioaa.Pure
set_option linter.unusedSimpArgs false
set_option linter.unusedVariables false
open Go.RowKit Go.Proofs.Ytnjnogkhbadioaa.D Go.Proofs.Ytnjnogkhbadioaa.ShardLaws Go.Proofs.Ytnjnogkhbadioaa.Row Go.Proofs.YtnjnogkhbadioaaW.PrintWords Go.Proofs.YtnjnogkhbadioaaW.PrintLast
theorem ShardJoins_end (K : Nat) (l : List Sh) (hl : l.length ≤ 8) (hf : Fews l l.length) (hK : 3000000 ≤ K) : hopperlaw11_ShardJoins.l0 (K + 1) l (l.length : Int) = some true := by
  obtain ⟨h1, h2⟩ := fews_all l l.length (Nat.le_refl _) hf
  rw [List.take_length] at h1 h2
  have hp := sort_perm (all l)
  have hpl := hp.length_eq
  have hx : ∀ x ∈ shard_Join.sort (all l), x.f2.length ≤ 1000 := fun x h => by have := h2 x (hp.mem_iff.1 h); omega
  have hj := rjoin_eq K l hl (fun j h => (hf j h h).1) (by omega)
  have hL := lasts_len (shard_Join.sort (all l))
  unfold hopperlaw11_ShardJoins.l0
  rw [if_neg (by omega), own_eq K l (by omega) (by omega), Option.bind_some, join_eq l (by omega), Option.bind_some]
  generalize shard_Join.sort (all l) = J at hp hpl hx hj hL ⊢
  obtain ⟨v, hv, hw⟩ := sworst_eq K J (by omega) hx (by omega)
  rw [hw, Option.bind_some, hj, Option.bind_some, rworst_eq K J (by omega) hx v hv (by omega), Option.bind_some, Option.bind_some, accounts_eq K J (by omega) hx (by omega), Option.bind_some, if_pos rfl, if_pos (by simp), if_pos (by simp), slasts_eq K J (by omega) hx (by omega), Option.bind_some, rlasts_eq K J (by omega) hx (by omega), Option.bind_some, txs_eq K _ (by omega) (by omega), Option.bind_some, if_pos rfl, live]
  rfl
theorem ShardJoins_from (K : Nat) (l : List Sh) (hl : l.length ≤ 9223372036854775807) (hx : ∀ s ∈ l, s.f0.length ≤ 9223372036854775807 ∧ ∀ x ∈ s.f0, x.f2.length ≤ 9223372036854775807) (hK : mosts l + 3000000 ≤ K) : ∀ (n i : Nat), i + n = l.length → Fews l i → (0 < i → l.length ≤ 8) → hopperlaw11_ShardJoins.l0 (K + n + 1) l (i : Int) = some true
  | 0, i, hi, hf, h8 => by
    have hl8 : l.length ≤ 8 := by
      by_cases c : 0 < i
      · exact h8 c
      · omega
    obtain rfl : i = l.length := by omega
    exact ShardJoins_end K l hl8 hf (by omega)
  | n + 1, i, hi, hf, h8 => by
    have hil : i < l.length := by omega
    have hm : l[i] ∈ l := List.getElem_mem hil
    have hms := mosts_le l _ hm
    obtain ⟨p, hp, hpf⟩ := few11_eq (K + (n + 1)) 20 l[i].f0 (hx _ hm).1 (hx _ hm).2 (by omega)
    unfold hopperlaw11_ShardJoins.l0
    rw [if_pos (by omega), if_pos (by omega), rdS_eq l i hil, hp, Option.bind_some]
    cases p with
    | false => rw [if_neg (by decide), live]; rfl
    | true =>
      rw [if_pos rfl]
      by_cases h9 : (l.length : Int) > 8
      · rw [if_pos h9, live]; rfl
      · obtain ⟨h1, h2⟩ := hpf rfl
        rw [if_neg h9, step_ i (by omega), show K + (n + 1) = K + n + 1 from rfl]
        refine ShardJoins_from K l hl hx hK n (i + 1) (by omega) (fun j hj2 hj3 => ?_) (fun _ => by omega)
        by_cases e : j = i
        · subst e
          exact ⟨by omega, h2⟩
        · exact hf j (by omega) hj3
theorem ShardJoins : hopperlaw11_ShardJoins.Pure := by
  intro l hl
  refine ⟨mosts l + 3000000 + l.length + 1, ?_⟩
  exact ShardJoins_from (mosts l + 3000000) l hl.1 (fun s hs => ⟨(hl.2 s hs).1.1, fun x hx => ((hl.2 s hs).1.2 x hx).2.2.1⟩) (Nat.le_refl _) l.length 0 (by omega) (fun j hj => absurd hj (by omega)) (fun h => absurd h (by omega))
end Go.Proofs.Ytnjnogkhbadioaa.Pure
