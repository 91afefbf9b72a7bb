/- The plain statement behind the law ShardSlots, proved for every input; no condition but the types' own bounds. -/
import Derived.Test.YtnjnogkhbadioaaShardMore
import Derived.Test.YtnjnogkhbadioaaDx19
namespace Go.Proofs.Ytnjnogkhbadioaa.Pure
set_option linter.unusedSimpArgs false
set_option linter.unusedVariables false
open Go.RowKit Go.Proofs.Ytnjnogkhbadioaa.D Go.Proofs.Ytnjnogkhbadioaa.ShardLaws Go.Proofs.Ytnjnogkhbadioaa.Row Go.Proofs.YtnjnogkhbadioaaW.PrintWords Go.Proofs.YtnjnogkhbadioaaW.PrintLast
theorem ShardSlots_up (K : Nat) (J : List Ac) (x3 : Int) (hJ : J.Pairwise fun x y => x.f0 ≤ y.f0) (hl : J.length ≤ 1000) (hx : ∀ x ∈ J, x.f2.length ≤ 20) (h3 : x3 = wrap64 (J.map aq).sum) (hK : 2000 ≤ K) : ∀ (n i : Nat), 0 < i → i + n = J.length ∨ (n = 0 ∧ J.length ≤ i) → hopperlaw11_ShardSlots.l1 (K + n + 1) x3 (J.length : Int) J (i : Int) = some true
  | 0, i, hi, hin => by
    unfold hopperlaw11_ShardSlots.l1
    rw [if_neg (by omega), if_pos rfl, sslots_eq K J 0 20 (by omega) (fun x h => ⟨by have := hx x h; omega, hx x h⟩) (by omega), Option.bind_some, if_pos h3.symm, live]
    rfl
  | n + 1, i, hi, hin => by
    have hil : i < J.length := by omega
    unfold hopperlaw11_ShardSlots.l1
    rw [if_pos (by omega), back_ i hi (by omega), if_pos (by omega), if_pos (by omega), if_pos (by omega), rd_eq J (i - 1) (by omega), rd_eq J i hil, if_neg (by
      have := List.pairwise_iff_getElem.1 hJ (i - 1) i (by omega) hil (by omega)
      omega), step_ i (by omega)]
    exact ShardSlots_up K J x3 hJ hl hx h3 hK n (i + 1) (by omega) (by omega)
theorem ShardSlots_from (K : Nat) (l : List Sh) (hl : l.length ≤ 9223372036854775807) (hx : ∀ s ∈ l, s.f0.length ≤ 9223372036854775807 ∧ ∀ x ∈ s.f0, x.f2.length ≤ 9223372036854775807) (hK : mosts l + 4000 ≤ K) : ∀ (n i : Nat), i + n = l.length → Fews l i → (0 < i → l.length ≤ 8) → hopperlaw11_ShardSlots.l0 (K + 2 * n + 1) l (wrap64 ((all (l.take i)).map aq).sum) ((all (l.take i)).length : Int) (i : Int) = some true
  | 0, i, hi, hf, h8 => by
    have hl8 : l.length ≤ 8 := by
      by_cases c : 0 < i
      · exact h8 c
      · omega
    obtain ⟨h1, h2⟩ := fews_all l i (by omega) hf
    rw [show l.take i = l from List.take_of_length_le (by omega)] at h1 h2 ⊢
    unfold hopperlaw11_ShardSlots.l0
    have hp := sort_perm (all l)
    obtain ⟨k, rfl⟩ : ∃ k, K = k + ((shard_Join.sort (all l)).length - 1) + 1 := ⟨K - ((shard_Join.sort (all l)).length - 1) - 1, by have := hp.length_eq; omega⟩
    rw [if_neg (by omega), own_eq _ l (by omega) (by omega), Option.bind_some, join_eq l (by omega), Option.bind_some, ← hp.length_eq]
    have := hp.length_eq
    exact ShardSlots_up k _ _ (shard_Join.sort_sorted _) (by omega) (fun x hx => h2 x (hp.mem_iff.1 hx)) (congrArg wrap64 (sum_perm ((hp.map aq).symm))) (by omega) _ 1 (by omega) (by omega)
  | n + 1, i, hi, hf, h8 => by
    have hil : i < l.length := by omega
    have hm : l[i] ∈ l := List.getElem_mem hil
    have hms := mosts_le l _ hm
    obtain ⟨p, hp, hpf⟩ := few11_eq (K + 2 * (n + 1)) 20 l[i].f0 (hx _ hm).1 (hx _ hm).2 (by omega)
    have hj : ∀ a b c, hopperlaw11_ShardSlots.j1 (K + 2 * (n + 1)) l a b c true = some true := fun _ _ _ => by
      rw [show K + 2 * (n + 1) = K + 2 * n + 1 + 1 by omega]
      unfold hopperlaw11_ShardSlots.j1
      try dsimp only
      rw [if_pos rfl, live]
      rfl
    unfold hopperlaw11_ShardSlots.l0
    try dsimp only
    rw [if_pos (by omega), if_pos (by omega), rdS_eq l i hil, hp, Option.bind_some]
    cases p with
    | false => rw [if_neg (by decide), hj]
    | true =>
      rw [if_pos rfl]
      by_cases h9 : (l.length : Int) > 8
      · rw [decide_eq_true h9, hj]
      · obtain ⟨h1, h2⟩ := hpf rfl
        rw [decide_eq_false h9, show K + 2 * (n + 1) = K + 2 * n + 1 + 1 by omega]
        unfold hopperlaw11_ShardSlots.j1
        try dsimp only
        obtain ⟨h5, h6⟩ := fews_all l i (by omega) hf
        rw [if_neg (by decide), if_pos (by omega), if_pos (by omega), rdS_eq l i hil, sslots_eq _ l[i].f0 _ 20 (hx _ hm).1 (fun x h => ⟨(hx _ hm).2 x h, h2 x h⟩) (by omega), Option.bind_some, step_ i (by omega), wrap_add, wrap_add2]
        have e1 : wrap64 (((all (l.take i)).length : Int) + (l[i].f0.length : Int)) = ((all (l.take (i + 1))).length : Int) := by
          rw [all_next l i hil, List.length_append]
          unfold wrap64
          omega
        have e2 : ((all (l.take i)).map aq).sum + (l[i].f0.map aq).sum = ((all (l.take (i + 1))).map aq).sum := by
          rw [all_next l i hil, List.map_append, List.sum_append]
        rw [e1, e2]
        refine ShardSlots_from K l hl hx hK n (i + 1) (by omega) (fun j hj2 hj3 => ?_) (fun _ => by omega)
        by_cases e : j = i
        · subst e
          exact ⟨by omega, h2⟩
        · exact hf j (by omega) hj3
theorem ShardSlots : hopperlaw11_ShardSlots.Pure := by
  intro l hl
  refine ⟨mosts l + 4000 + 2 * l.length + 1, ?_⟩
  have := ShardSlots_from (mosts l + 4000) l hl.1 (fun s hs => ⟨(hl.2 s hs).1.1, fun x hx => ((hl.2 s hs).1.2 x hx).2.2.1⟩) (Nat.le_refl _) l.length 0 (by omega) (fun j hj => absurd hj (by omega)) (fun h => absurd h (by omega))
  have e : wrap64 ((all (l.take 0)).map aq).sum = 0 := by
    rw [List.take_zero]
    show wrap64 0 = 0
    unfold wrap64
    omega
  rw [e] at this
  exact this
end Go.Proofs.Ytnjnogkhbadioaa.Pure
