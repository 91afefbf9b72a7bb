/- Plain facts, of my own wider texts, that the queues' laws need. -/
import Derived.Test.YtehncbhmdgdkjaaQx3
import Derived.Test.YtehncbhmdgdkjaaQueueTxn
namespace Go.Proofs.Ytehncbhmdgdkjaa.TxnLaws
set_option linter.unusedSimpArgs false
set_option linter.unusedVariables false
open Go.Proofs.Ytehncbhmdgdkjaa.Q Go.Proofs.Ytehncbhmdgdkjaa.TxnCodec Go.Proofs.YtehncbhmdgdkjaaW.PrintLast Go.Proofs.YtehncbhmdgdkjaaW.PrintWords Go.RowKit
theorem ref_check (a b c d e : Int) (z : ByteArray) : hopperref04_Check.f a b c d e z = some (decide (Chk a b c d e z)) := by
  unfold hopperref04_Check.f
  by_cases h1 : a < 0
  · rw [if_pos h1, decide_eq_false (by unfold Chk; omega)]
  · by_cases h2 : a > 255
    · rw [if_neg h1, if_pos h2, decide_eq_false (by unfold Chk; omega)]
    · by_cases h3 : b < 0
      · rw [if_neg h1, if_neg h2, if_pos h3, decide_eq_false (by unfold Chk; omega)]
      · by_cases h4 : b ≥ 4294967296
        · rw [if_neg h1, if_neg h2, if_neg h3, if_pos h4, decide_eq_false (by unfold Chk; omega)]
        · by_cases h5 : c < 0
          · rw [if_neg h1, if_neg h2, if_neg h3, if_neg h4, if_pos h5, decide_eq_false (by unfold Chk; omega)]
          · by_cases h6 : c > d
            · rw [if_neg h1, if_neg h2, if_neg h3, if_neg h4, if_neg h5, if_pos h6, decide_eq_false (by unfold Chk; omega)]
            · by_cases h7 : d > 1099511627776
              · rw [if_neg h1, if_neg h2, if_neg h3, if_neg h4, if_neg h5, if_neg h6, if_pos h7, decide_eq_false (by unfold Chk; omega)]
              · rw [if_neg h1, if_neg h2, if_neg h3, if_neg h4, if_neg h5, if_neg h6, if_neg h7]
                by_cases h8 : e ≥ 1
                · by_cases h9 : e ≤ 1073741824
                  · rw [if_pos h8, if_pos h9]; congr 1; apply decide_eq_decide.2; unfold Chk; omega
                  · rw [if_pos h8, if_neg h9, decide_eq_false (by unfold Chk; omega)]
                · rw [if_neg h8, decide_eq_false (by unfold Chk; omega)]
end Go.Proofs.Ytehncbhmdgdkjaa.TxnLaws
