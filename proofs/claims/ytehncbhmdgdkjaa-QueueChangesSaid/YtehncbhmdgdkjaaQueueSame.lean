/- Plain laws: a list of transactions, or an account, is the same as itself; no condition but the list's length. -/
import Derived.Test.YtehncbhmdgdkjaaQueueLaws
import Derived.Test.YtehncbhmdgdkjaaQx2
import Derived.Test.YtehncbhmdgdkjaaQx14
namespace Go.Proofs.Ytehncbhmdgdkjaa.QueueLaws
set_option linter.unusedSimpArgs false
set_option linter.unusedVariables false
open Go.RowKit Go.Proofs.Ytehncbhmdgdkjaa.Q Go.Proofs.Ytehncbhmdgdkjaa.TxnCodec Go.Proofs.Ytehncbhmdgdkjaa.TxnLaws Go.Proofs.YtehncbhmdgdkjaaW.PrintWords Go.Proofs.YtehncbhmdgdkjaaW.PrintLast
theorem txs_from (K : Nat) (l : List Tx) (hl : l.length ≤ 1000) : ∀ (n i : Nat), i + n = l.length → hopperref04_Txs.l0 (K + n + 1) l l (i : Int) = some true
  | 0, i, hn => by
    unfold hopperref04_Txs.l0
    rw [if_neg (by omega)]
  | n + 1, i, hn => by
    unfold hopperref04_Txs.l0
    rw [if_pos (by omega), if_pos (by omega), if_pos (by omega), if_neg (by simp), step_ i (by omega)]
    exact txs_from K l hl n (i + 1) (by omega)
theorem txs_eq (k : Nat) (l : List Tx) (h : l.length ≤ 1000) (hk : l.length + 1 ≤ k) : hopperref04_Txs.f k l l = some true := by
  have := txs_from (k - (l.length + 1)) l h l.length 0 (by omega)
  rw [show k - (l.length + 1) + l.length + 1 = k by omega] at this
  unfold hopperref04_Txs.f
  rw [if_pos rfl]
  exact this
theorem same_eq (k : Nat) (s b : Int) (l : List Tx) (h : l.length ≤ 1000) (hk : l.length + 1 ≤ k) : hopperref05_Same.f k s b l s b l = some true := by
  unfold hopperref05_Same.f
  rw [if_pos rfl, if_pos rfl, txs_eq k l h hk]
  rfl
end Go.Proofs.Ytehncbhmdgdkjaa.QueueLaws
