/- The closed answers of the queue's layer are true; no condition but enough rounds. -/
import Derived.Test.YtehncbhmdgdkjaaRow
import Derived.Test.YtehncbhmdgdkjaaQx20
namespace Go.Proofs.Ytehncbhmdgdkjaa.QueueLaws
set_option linter.unusedSimpArgs false
set_option linter.unusedVariables false
open Go.RowKit Go.Proofs.Ytehncbhmdgdkjaa.Q Go.Proofs.YtehncbhmdgdkjaaW.PrintWords Go.Proofs.YtehncbhmdgdkjaaW.PrintLast
theorem liveK : hopperlaw05_live.f 40 = some true := by decide +kernel
theorem live (k : Nat) (h : 40 ≤ k) : hopperlaw05_live.f k = some true := at_rounds hopperlaw05_live.mono h liveK
end Go.Proofs.Ytehncbhmdgdkjaa.QueueLaws
