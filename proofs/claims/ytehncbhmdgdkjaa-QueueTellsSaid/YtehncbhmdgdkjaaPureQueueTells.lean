/- The plain statement behind the law QueueTells, proved for every input; no condition but the types' own bounds. -/
import Derived.Test.YtehncbhmdgdkjaaQueueRef
import Derived.Test.YtehncbhmdgdkjaaRow
import Derived.Test.YtehncbhmdgdkjaaQx12
namespace Go.Proofs.Ytehncbhmdgdkjaa.Pure
set_option linter.unusedSimpArgs false
set_option linter.unusedVariables false
open Go.RowKit Go.Proofs.Ytehncbhmdgdkjaa.Q Go.Proofs.Ytehncbhmdgdkjaa.QueueLaws Go.Proofs.Ytehncbhmdgdkjaa.Row Go.Proofs.YtehncbhmdgdkjaaW.PrintWords Go.Proofs.YtehncbhmdgdkjaaW.PrintLast
theorem liveK : hopperlaw05_live.f 40 = some true := by decide +kernel
theorem live (k : Nat) (h : 40 ≤ k) : hopperlaw05_live.f k = some true := at_rounds hopperlaw05_live.mono h liveK
theorem QueueTells : hopperlaw05_QueueTells.Pure := by
  intro s b l per n hx _ _
  have hlen : l.length ≤ 9223372036854775807 := hx.2.2.1
  refine ⟨l.length + 2000, ?_⟩
  obtain ⟨c, hc, hf⟩ := small_eq (l.length + 2000) s b l hlen (by omega)
  unfold hopperlaw05_QueueTells.f
  rw [hc, Option.bind_some]
  cases c with
  | false => rw [if_neg (by decide), live _ (by omega)]; rfl
  | true =>
    have h30 := hf rfl
    rw [if_pos rfl, find_eq s b l n (by omega), Option.bind_some, rfind_eq _ s b l n (by omega) (by omega), Option.bind_some, qcheck_eq _ s b l per (by omega) (by omega), rqcheck_eq _ s b l per (by omega) (by omega), ready_eq _ s b l (by omega) (by omega), rready_eq _ s b l (by omega) (by omega)]
    have hr : (rdy b l 0).length ≤ 1000 := Nat.le_trans (rdy_len b l 0) (by omega)
    simp only [Option.bind_some]
    rw [if_pos (by simp), if_pos (by simp), if_pos (by simp), txs_eq _ _ hr (by have := rdy_len b l 0; omega), Option.bind_some, if_pos rfl, qslots_eq _ s b l (by omega) (by omega), rqslots_eq _ s b l (by omega) (by omega), Option.bind_some, Option.bind_some, if_pos rfl, live _ (by omega)]
    rfl
end Go.Proofs.Ytehncbhmdgdkjaa.Pure
