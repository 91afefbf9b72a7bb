/- Plain facts on the hash's functions: what the document's own loop comes to, the digits of numbers, the order of digits; no condition but the numbers' ranges. -/
import Derived.Test.YtfpomamhcjkoeaaLx1
import Derived.Test.YtfpomamhcjkoeaaLx1
import Derived.Test.YtfpomamhcjkoeaaLx1
namespace Go.Proofs.Ytfpomamhcjkoeaa.FnvLaws
open Go.RowKit Go.Proofs.Ytfpomamhcjkoeaa.L Go.Proofs.YtfpomamhcjkoeaaW.PrintWords Go.Proofs.YtfpomamhcjkoeaaW.PrintLast
theorem wrap_step {i : Int} {n : Nat} (h0 : 0 ≤ i) (h : i < (n : Int)) (hn : n ≤ 9223372036854775807) : wrap64 (i + 1) = i + 1 := by unfold wrap64; omega
theorem bt_get (s : ByteArray) (i : Nat) (h : i < s.size) : bt s (i : Int) = ((s[i]).toNat : Int) := by
  unfold bt
  have e : (i : Int).toNat = i := by omega
  rw [dif_pos (by rw [e]; exact h)]
  simp only [e]
theorem drop_get (s : ByteArray) (i : Nat) (h : i < s.size) : s.data.toList.drop i = s[i] :: s.data.toList.drop (i + 1) := by
  rw [List.drop_eq_getElem_cons (by simpa using h)]; rfl
theorem ref_roll_l (s : ByteArray) (hn : s.size ≤ 9223372036854775806) (d : Nat) : ∀ (k : Nat) (h : Int) (i : Nat), i + d = s.size → d < k → hopperref02_Roll.l0 k h s (i : Int) = some (rollL h (s.data.toList.drop i)) := by
  induction d with
  | zero =>
    intro k h i hi hk
    obtain ⟨k, rfl⟩ : ∃ m, k = m + 1 := ⟨k - 1, by omega⟩
    simp only [hopperref02_Roll.l0]
    rw [if_neg (by omega), List.drop_of_length_le (by simp; omega)]
    rfl
  | succ d ih =>
    intro k h i hi hk
    obtain ⟨k, rfl⟩ : ∃ m, k = m + 1 := ⟨k - 1, by omega⟩
    simp only [hopperref02_Roll.l0]
    rw [if_pos (by omega), if_pos (by omega), wrap_step (n := s.size) (by omega) (by omega) (by omega), bt_get s i (by omega), drop_get s i (by omega), show (i : Int) + 1 = ((i + 1 : Nat) : Int) by omega, ih k _ (i + 1) (by omega) (by omega)]
    rfl
theorem ref_roll (h : Int) (s : ByteArray) (hn : s.size ≤ 9223372036854775806) (k : Nat) (hk : s.size < k) : hopperref02_Roll.f k h s = some (rollL h s.data.toList) := by
  unfold hopperref02_Roll.f
  have e := ref_roll_l s hn s.size k h 0 (by omega) hk
  rw [List.drop_zero] at e
  exact e
theorem roll (h : Int) (s : ByteArray) (hn : s.size ≤ 9223372036854775806) : fnv_Roll.f h s = some (rollL h s.data.toList) := by
  unfold fnv_Roll.f; rw [if_pos hn]
theorem of_ (s : ByteArray) (hn : s.size ≤ 9223372036854775806) : fnv_Of.f s = some (rollL 14695981039346656037 s.data.toList) := by
  unfold fnv_Of.f; rw [roll _ _ hn]; rfl
theorem ref_of (s : ByteArray) (hn : s.size ≤ 9223372036854775806) (k : Nat) (hk : s.size < k) : hopperref02_Of.f k s = some (rollL 14695981039346656037 s.data.toList) := by
  unfold hopperref02_Of.f; rw [ref_roll _ _ hn k hk]; rfl
theorem live : hopperlaw02_live.f = some true := by decide +kernel
theorem rollB_range (h c : Int) : 0 ≤ rollB h c ∧ rollB h c < 18446744073709551616 := by unfold rollB; rw [IntKind.wrap_u64]; omega
theorem text (h : Int) (h0 : 0 ≤ h) (h1 : h < 18446744073709551616) : fnv_Text.f h = some (strOfNums (hexL h.toNat)) := by
  unfold fnv_Text.f; rw [if_pos h0, if_pos h1]
theorem ref_text (h : Int) (h0 : 0 ≤ h) (h1 : h < 18446744073709551616) : hopperref02_Text.f h = some (strOfNums (hexL h.toNat)) := by
  unfold hopperref02_Text.f; rw [if_pos h0, if_pos h1]
theorem rollL_range (h : Int) (l : List UInt8) (h0 : 0 ≤ h) (h1 : h < 18446744073709551616) : 0 ≤ rollL h l ∧ rollL h l < 18446744073709551616 := by
  induction l generalizing h with
  | nil => exact ⟨h0, h1⟩
  | cons c l ih => exact ih _ (rollB_range _ _).1 (rollB_range _ _).2
theorem shard_out (s n : Int) (h : s < 0 ∨ 255 < s ∨ n < 1 ∨ 8 < n) : fnv_Shard.f s n = some (-1) ∧ ∀ k, hopperref02_Shard.f k s n = some (-1) := by
  unfold fnv_Shard.f hopperref02_Shard.f
  by_cases a : s < 0
  · rw [if_pos a]; exact ⟨rfl, fun k => by rw [if_pos a]⟩
  · by_cases b : s > 255
    · rw [if_neg a, if_pos b]; exact ⟨rfl, fun k => by rw [if_neg a, if_pos b]⟩
    · by_cases c : n < 1
      · rw [if_neg a, if_neg b, if_pos c]; exact ⟨rfl, fun k => by rw [if_neg a, if_neg b, if_pos c]⟩
      · have d : n > 8 := by omega
        rw [if_neg a, if_neg b, if_neg c, if_pos d]; exact ⟨rfl, fun k => by rw [if_neg a, if_neg b, if_neg c, if_pos d]⟩
/-- The shard of a sender. -/
def shardOf (s n : Int) : Int := wrap64 (Int.tmod (rollL 14695981039346656037 (strOfNums [s % 256]).data.toList) (IntKind.u64.wrap n))
theorem shard_in (s n : Int) (a : 0 ≤ s) (b : s ≤ 255) (c : 1 ≤ n) (d : n ≤ 8) : fnv_Shard.f s n = some (shardOf s n) ∧ ∀ k, 1 < k → hopperref02_Shard.f k s n = some (shardOf s n) := by
  have e : IntKind.u64.wrap n = n := by rw [IntKind.wrap_u64]; omega
  have hz : (strOfNums [s % 256]).size = 1 := rfl
  unfold fnv_Shard.f hopperref02_Shard.f shardOf
  refine ⟨?_, fun k hk => ?_⟩
  · rw [if_neg (by omega), if_neg (by omega), if_neg (by omega), if_neg (by omega), of_ _ (by rw [hz]; omega)]
    simp only [Option.bind_some]
    rw [if_neg (by omega)]
  · rw [if_neg (by omega), if_neg (by omega), if_neg (by omega), if_neg (by omega), ref_of _ (by rw [hz]; omega) k (by rw [hz]; omega)]
    simp only [Option.bind_some]
    rw [if_neg (by omega)]
theorem shard_range (s n : Int) (c : 1 ≤ n) (d : n ≤ 8) : 0 ≤ shardOf s n ∧ shardOf s n < n := by
  have e : IntKind.u64.wrap n = n := by rw [IntKind.wrap_u64]; omega
  have r := (rollL_range 14695981039346656037 (strOfNums [s % 256]).data.toList (by omega) (by omega)).1
  unfold shardOf
  rw [e, Int.tmod_eq_emod_of_nonneg r]
  have h1 := Int.emod_nonneg (rollL 14695981039346656037 (strOfNums [s % 256]).data.toList) (show n ≠ 0 by omega)
  have h2 := Int.emod_lt_of_pos (rollL 14695981039346656037 (strOfNums [s % 256]).data.toList) (show 0 < n by omega)
  generalize rollL 14695981039346656037 (strOfNums [s % 256]).data.toList % n = z at h1 h2 ⊢
  unfold wrap64; omega
end Go.Proofs.Ytfpomamhcjkoeaa.FnvLaws
