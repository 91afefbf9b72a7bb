/- The plain statement behind the law CodecWrites, proved for every input; no condition but the types' own bounds. -/
import Derived.Test.YtfpomamhcjkoeabCodecMore
import Derived.Test.YtfpomamhcjkoeabCx3
namespace Go.Proofs.Ytfpomamhcjkoeab.Pure
set_option linter.unusedSimpArgs false
set_option linter.unusedVariables false
open Go.RowKit Go.Proofs.Ytfpomamhcjkoeab.C Go.Proofs.Ytfpomamhcjkoeab.CodecLaws Go.Proofs.Ytfpomamhcjkoeab.Row Go.Proofs.YtfpomamhcjkoeabW.PrintWords Go.Proofs.YtfpomamhcjkoeabW.PrintLast
theorem CodecWrites : hopperlaw03_CodecWrites.Pure := by
  intro n s hn _
  have hn := bounds_i64 hn
  refine ⟨9, ?_⟩
  unfold hopperlaw03_CodecWrites.f
  rw [number n hn.2, ref_number n hn.2, text, ref_text, live]
  simp
end Go.Proofs.Ytfpomamhcjkoeab.Pure
