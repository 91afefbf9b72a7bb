/- The plain statement behind the law SatTells, proved for every input; no condition but the types' own bounds. -/
import Derived.Test.YtfpomamhcjkoeaaSatLaws
import Derived.Test.YtfpomamhcjkoeaaSx3
namespace Go.Proofs.Ytfpomamhcjkoeaa.Pure
set_option linter.unusedSimpArgs false
set_option linter.unusedVariables false
open Go.RowKit Go.Proofs.Ytfpomamhcjkoeaa.S Go.Proofs.Ytfpomamhcjkoeaa.SatLaws Go.Proofs.Ytfpomamhcjkoeaa.Row Go.Proofs.YtfpomamhcjkoeaaW.PrintWords Go.Proofs.YtfpomamhcjkoeaaW.PrintLast
theorem SatTells : hopperlaw01_SatTells.Pure := by
  intro a b m _ _ hm
  have hm : In m := bounds_i64 hm
  refine ⟨1, ?_⟩
  unfold hopperlaw01_SatTells.f
  rw [add _ _ _ hm, ref_add _ _ _ hm, mul _ _ _ hm, ref_mul _ _ _ hm, raise, ref_raise, slots, ref_slots, live]
  simp
end Go.Proofs.Ytfpomamhcjkoeaa.Pure
