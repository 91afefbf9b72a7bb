/- The plain statement behind the law PotTells, proved for every input; no condition but the types' own bounds. -/
import Derived.Test.YtfpomamhcjkoeabPotLaws
import Derived.Test.YtfpomamhcjkoeabLx4
namespace Go.Proofs.Ytfpomamhcjkoeab.Pure
set_option linter.unusedSimpArgs false
set_option linter.unusedVariables false
open Go.RowKit Go.Proofs.Ytfpomamhcjkoeab.L Go.Proofs.Ytfpomamhcjkoeab.PotLaws Go.Proofs.Ytfpomamhcjkoeab.Row Go.Proofs.YtfpomamhcjkoeabW.PrintWords Go.Proofs.YtfpomamhcjkoeabW.PrintLast
theorem PotTells : hopperlaw07_PotTells.Pure := by
  intro t m d n _ _ hn
  have hb := bounds_i64 hn
  refine ⟨1, ?_⟩
  unfold hopperlaw07_PotTells.f
  simp [adjust, ref_adjust, new, ref_new, free, ref_free, over t m n (by omega), ref_over, live]
end Go.Proofs.Ytfpomamhcjkoeab.Pure
