/- The plain statement behind the law FnvTells, proved for every input; no condition but the types' own bounds. -/
import Derived.Test.YtfpomamhcjkoeaaFnvLaws
import Derived.Test.YtfpomamhcjkoeaaLx2
namespace Go.Proofs.Ytfpomamhcjkoeaa.Pure
open Go.RowKit Go.Proofs.Ytfpomamhcjkoeaa.L Go.Proofs.Ytfpomamhcjkoeaa.FnvLaws Go.Proofs.Ytfpomamhcjkoeaa.Row Go.Proofs.YtfpomamhcjkoeaaW.PrintWords Go.Proofs.YtfpomamhcjkoeaaW.PrintLast
theorem FnvTells : hopperlaw02_FnvTells.Pure := by
  intro h s a b hh hs _
  refine ⟨s.size + 2, ?_⟩
  have hb := bounds_u64 hh
  have h0 : 0 ≤ h := hb.1
  have h1 : h < 18446744073709551616 := by omega
  unfold hopperlaw02_FnvTells.f
  by_cases c : (s.size : Int) > 70000
  · rw [if_pos c, live]; rfl
  · have hn : s.size ≤ 9223372036854775806 := by omega
    rw [if_neg c, of_ s hn, ref_of s hn _ (by omega), roll h s hn, ref_roll h s hn _ (by omega), text h h0 h1, ref_text h h0 h1]
    have e : ∃ r, fnv_Shard.f a b = some r ∧ hopperref02_Shard.f (s.size + 2) a b = some r := by
      by_cases o : a < 0 ∨ 255 < a ∨ b < 1 ∨ 8 < b
      · exact ⟨_, (shard_out a b o).1, (shard_out a b o).2 _⟩
      · exact ⟨_, (shard_in a b (by omega) (by omega) (by omega) (by omega)).1, (shard_in a b (by omega) (by omega) (by omega) (by omega)).2 _ (by omega)⟩
    obtain ⟨r, e1, e2⟩ := e
    rw [e1, e2]
    simp [live]
end Go.Proofs.Ytfpomamhcjkoeaa.Pure
