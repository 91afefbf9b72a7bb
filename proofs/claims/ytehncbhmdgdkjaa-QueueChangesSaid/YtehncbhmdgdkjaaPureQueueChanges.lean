/- The plain statement behind the law QueueChanges, proved for every input; no condition but the types' own bounds. -/
import Derived.Test.YtehncbhmdgdkjaaQueueMore
import Derived.Test.YtehncbhmdgdkjaaQueuePlace
import Derived.Test.YtehncbhmdgdkjaaQueueRefMore
import Derived.Test.YtehncbhmdgdkjaaQueueSame
import Derived.Test.YtehncbhmdgdkjaaRow
import Derived.Test.YtehncbhmdgdkjaaQx15
namespace Go.Proofs.Ytehncbhmdgdkjaa.Pure
set_option linter.unusedSimpArgs false
set_option linter.unusedVariables false
open Go.RowKit Go.Proofs.Ytehncbhmdgdkjaa.Q Go.Proofs.Ytehncbhmdgdkjaa.QueueLaws Go.Proofs.Ytehncbhmdgdkjaa.Row Go.Proofs.YtehncbhmdgdkjaaW.PrintWords Go.Proofs.YtehncbhmdgdkjaaW.PrintLast
theorem liveK : hopperlaw05_live.f 40 = some true := by decide +kernel
theorem live (k : Nat) (h : 40 ≤ k) : hopperlaw05_live.f k = some true := at_rounds hopperlaw05_live.mono h liveK
theorem advC (k : Nat) (s b : Int) (l : List Tx) (n : Int) (h : l.length ≤ 1000) (hk : l.length + 1 ≤ k) : queue_Advance.f k s b l n = some (advQ s b l n) := adv_eq k s b l n h hk
theorem adv_len (s b : Int) (l : List Tx) (n : Int) : (advQ s b l n).2.2.1.length ≤ l.length ∧ (advQ s b l n).2.2.2.1.length ≤ l.length := by
  have l1 : (high n l).length ≤ l.length := List.length_filter_le ..
  have l2 : (low n l).length ≤ l.length := List.length_filter_le ..
  unfold advQ
  by_cases h1 : 0 ≤ n ∧ n ≤ 4294967295
  · rw [if_pos h1]
    by_cases h2 : n < b
    · rw [if_pos h2]; exact ⟨Nat.le_refl _, Nat.zero_le _⟩
    · rw [if_neg h2]; exact ⟨l1, l2⟩
  · rw [if_neg h1]; exact ⟨Nat.le_refl _, Nat.zero_le _⟩
theorem QueueChanges_end (k : Nat) (s b : Int) (l : List Tx) (t : Tx) (per bump n : Int) (h : l.length ≤ 30) (hk : 1000 ≤ k) : hopperlaw05_QueueChanges.j1 (k + 1) false s b l t.f0 t.f1 t.f2 t.f3 t.f4 t.f5 per bump n = some true := by
  have hl := live k (by omega)
  have l1 := put_len t l
  have l2 : (l.filter fun x => !(x.f1 == n)).length ≤ l.length := List.length_filter_le ..
  unfold hopperlaw05_QueueChanges.j1
  try dsimp only
  rw [if_neg (by decide), put_eq s b l t (by omega), Option.bind_some, rput_eq k s b l t (by omega) (by omega), Option.bind_some]
  dsimp only
  rw [same_eq k s b (putQ t l) (by omega) (by omega), Option.bind_some, if_pos rfl, drop_eq s b l n (by omega), Option.bind_some, rdrop_eq k s b l n (by omega) (by omega), Option.bind_some]
  dsimp only
  rw [same_eq k s b (l.filter fun x => !(x.f1 == n)) (by omega) (by omega), Option.bind_some, if_pos rfl, hl]
  rfl
theorem QueueChanges_in (k : Nat) (s b : Int) (l : List Tx) (t : Tx) (per bump n : Int) (h : l.length ≤ 30) (hk : 1000 ≤ k) : hopperlaw05_QueueChanges.j0 (k + 2) false s b l t.f0 t.f1 t.f2 t.f3 t.f4 t.f5 per bump n = some true := by
  have fin := QueueChanges_end k s b l t per bump n h hk
  have la := adv_len s b l n
  unfold hopperlaw05_QueueChanges.j0
  try dsimp only
  rw [if_neg (by decide), qplace_eq (k + 1) s b l t per bump (by omega) (by omega), Option.bind_some, rplace_eq (k + 1) s b l t per bump (by omega) (by omega), Option.bind_some, advC (k + 1) s b l n (by omega) (by omega), Option.bind_some, radv_eq (k + 1) s b l n (by omega) (by omega), Option.bind_some, if_pos rfl, if_pos rfl, same_eq (k + 1) _ _ _ (by omega) (by omega), Option.bind_some, if_pos rfl, txs_eq (k + 1) _ (by omega) (by omega), Option.bind_some, if_pos rfl, bne_self_eq_false]
  exact fin
theorem QueueChanges : hopperlaw05_QueueChanges.Pure := by
  intro s b l a0 a1 a2 a3 a4 a5 per bump n hx _ _
  have hlen : l.length ≤ 9223372036854775807 := hx.2.2.1
  refine ⟨l.length + 2002, ?_⟩
  obtain ⟨c, hc, hf⟩ := small_eq (l.length + 2002) s b l hlen (by omega)
  have skip : hopperlaw05_QueueChanges.j0 (l.length + 2001 + 1) true s b l a0 a1 a2 a3 a4 a5 per bump n = some true := by
    unfold hopperlaw05_QueueChanges.j0
    try dsimp only
    rw [if_pos rfl, live _ (by omega)]
    rfl
  unfold hopperlaw05_QueueChanges.f
  rw [hc, Option.bind_some]
  cases c with
  | false => rw [if_neg (by decide)]; exact skip
  | true =>
    have h30 := hf rfl
    rw [if_pos rfl]
    unfold hopperref04_Small.f
    rw [Option.bind_some]
    by_cases hz : (a5.size : Int) ≤ 500
    · rw [decide_eq_true hz]
      exact QueueChanges_in (l.length + 2000) s b l ⟨a0, a1, a2, a3, a4, a5⟩ per bump n h30 (by omega)
    · rw [decide_eq_false hz]; exact skip
end Go.Proofs.Ytehncbhmdgdkjaa.Pure
