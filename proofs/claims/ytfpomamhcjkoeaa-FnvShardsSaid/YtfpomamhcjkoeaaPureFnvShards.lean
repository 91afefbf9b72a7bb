/- The plain statement behind the law FnvShards, proved for every input; no condition but the types' own bounds. -/
import Derived.Test.YtfpomamhcjkoeaaFnvLaws
import Derived.Test.YtfpomamhcjkoeaaLx3
namespace Go.Proofs.Ytfpomamhcjkoeaa.Pure
open Go.RowKit Go.Proofs.Ytfpomamhcjkoeaa.L Go.Proofs.Ytfpomamhcjkoeaa.FnvLaws Go.Proofs.YtfpomamhcjkoeaaW.PrintWords Go.Proofs.YtfpomamhcjkoeaaW.PrintLast
theorem FnvShards : hopperlaw02_FnvShards.Pure := by
  intro s n _ _
  refine ⟨5, ?_⟩
  unfold hopperlaw02_FnvShards.f
  by_cases h : s < 0 ∨ 255 < s ∨ n < 1 ∨ 8 < n
  · rw [(shard_out s n h).1]
    simp only [Option.bind_some]
    have j : ∀ b, b = true → hopperlaw02_FnvShards.j0 5 s n (-1) b = some true := by
      rintro b rfl
      simp [hopperlaw02_FnvShards.j0, live]
    by_cases a : s < 0
    · rw [if_pos a]; exact j _ rfl
    · rw [if_neg a]
      by_cases b : s > 255
      · rw [if_pos b]; exact j _ rfl
      · rw [if_neg b]
        by_cases c : n < 1
        · rw [if_pos c]; exact j _ rfl
        · rw [if_neg c]; exact j _ (by simp; omega)
  · have hr := shard_range s n (by omega) (by omega)
    rw [(shard_in s n (by omega) (by omega) (by omega) (by omega)).1]
    simp only [Option.bind_some]
    rw [if_neg (by omega), if_neg (by omega), if_neg (by omega)]
    have e : decide (n > 8) = false := by simp; omega
    rw [e]
    have h1 := (shard_in s 1 (by omega) (by omega) (by omega) (by omega)).1
    have r1 := shard_range s 1 (by omega) (by omega)
    have z : shardOf s 1 = 0 := by omega
    simp only [hopperlaw02_FnvShards.j0]
    rw [if_neg (by simp), if_pos hr.1, if_pos hr.2]
    by_cases c : n > 1
    · rw [if_pos c, h1, z]; simp only [Option.bind_some]; rw [if_pos trivial, live]; rfl
    · rw [if_neg c, if_pos (by omega), h1, z]; simp only [Option.bind_some]; rw [if_pos trivial, live]; rfl
end Go.Proofs.Ytfpomamhcjkoeaa.Pure
