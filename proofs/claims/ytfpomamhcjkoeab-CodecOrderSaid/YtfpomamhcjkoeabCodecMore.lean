/- More plain facts on the codec: the example, the document's own answer. -/
import Derived.Test.YtfpomamhcjkoeabCodecLaws
import Derived.Test.YtfpomamhcjkoeabCx3
namespace Go.Proofs.Ytfpomamhcjkoeab.CodecLaws
set_option linter.unusedSimpArgs false
set_option linter.unusedVariables false
open Go.RowKit Go.Proofs.Ytfpomamhcjkoeab.C Go.Proofs.YtfpomamhcjkoeabW.PrintWords Go.Proofs.YtfpomamhcjkoeabW.PrintLast
theorem live : hopperlaw03_live.f = some true := by
  have t1 : codec_TakeNumber.f (⟨#[2, 1, 44, 114, 101, 115, 116]⟩ : ByteArray) 300 = some (300, ⟨#[114, 101, 115, 116]⟩, true) := by decide +kernel
  have t2 : codec_TakeNumber.f (⟨#[2, 1, 44]⟩ : ByteArray) 299 = some (0, ⟨#[]⟩, false) := by decide +kernel
  have t3 : codec_TakeNumber.f (⟨#[2, 0, 44]⟩ : ByteArray) 999 = some (0, ⟨#[]⟩, false) := by decide +kernel
  have t4 : codec_TakeText.f (⟨#[0, 2, 97, 98, 99]⟩ : ByteArray) 2 = some (⟨#[97, 98]⟩, ⟨#[99]⟩, true) := by decide +kernel
  have t5 : codec_TakeText.f (⟨#[0, 2, 97]⟩ : ByteArray) 9 = some (⟨#[]⟩, ⟨#[]⟩, false) := by decide +kernel
  have t6 : codec_Number.f 300 = some ⟨#[2, 1, 44]⟩ := by decide +kernel
  have t7 : codec_Number.f 0 = some ⟨#[1, 0]⟩ := by decide +kernel
  have t8 : codec_Number.f (-1) = some ⟨#[]⟩ := by decide +kernel
  have t9 : codec_Text.f (⟨#[97, 98]⟩ : ByteArray) = some ⟨#[0, 2, 97, 98]⟩ := by decide +kernel
  unfold hopperlaw03_live.f
  rw [t1, t2, t3, t4, t5, t6, t7, t8, t9]
  decide +kernel
theorem ref_bytes (m : Nat) (hm : m ≤ 100) : ∀ x : Nat, x / 256 ^ (m + 1) = 0 → (x : Int) ≤ 9223372036854775807 → hopperref03_bytes.f (m + 1) (x : Int) = some (strOfNums (dg m x)) := by
  have tm : ∀ x : Nat, Int.tmod (x : Int) 256 % 256 = ((x % 256 : Nat) : Int) := by
    intro x
    rw [Int.tmod_eq_emod_of_nonneg (by omega)]
    omega
  have td : ∀ x : Nat, Int.tdiv (x : Int) 256 = ((x / 256 : Nat) : Int) := by
    intro x
    rw [Int.tdiv_eq_ediv_of_nonneg (by omega)]
    omega
  induction m with
  | zero =>
    intro x h hx
    have h' : x / 256 = 0 := by simpa using h
    rw [hopperref03_bytes.f]
    simp only [Option.bind_some]
    rw [if_neg (by omega), tm]
    rfl
  | succ m ih =>
    intro x h hx
    rw [hopperref03_bytes.f]
    simp only [Option.bind_some]
    unfold dg
    by_cases c : x / 256 = 0
    · rw [if_neg (by omega), if_pos c, tm]
    · rw [if_pos (by omega), if_neg c, td, wr _ (by omega) (by omega), ih (by omega) (x / 256) (by rw [Nat.div_div_eq_div_mul, ← Nat.pow_succ']; exact h) (by omega), tm]
      simp only [Option.bind_some]
      have hl : (dg m (x / 256)).length ≤ 101 := by rw [dg_len]; have := more256_le m (x / 256); omega
      rw [if_pos (by rw [str_size, str_size]; simp only [List.length_cons, List.length_nil]; omega), str_append]
theorem ref_number (n : Int) (h : n ≤ 9223372036854775807) : hopperref03_Number.f 9 n = some (numStr n) := by
  unfold hopperref03_Number.f numStr
  by_cases c : n < 0
  · rw [if_pos c, if_pos c]
  · obtain ⟨x, rfl⟩ := Int.eq_ofNat_of_zero_le (show 0 ≤ n by omega)
    have hx : x < 9223372036854775808 := by omega
    have hl := dg_len8 x hx
    rw [if_neg c, if_neg c, ref_bytes 8 (by omega) x (Nat.div_eq_of_lt (Nat.lt_of_lt_of_le hx (show 9223372036854775808 ≤ 256 ^ (8 + 1) by decide))) h, Int.toNat_natCast, numL_eq]
    simp only [Option.bind_some]
    rw [if_pos (by rw [str_size, str_size]; simp only [List.length_cons, List.length_nil]; omega), str_size, ← str_append]
    rw [show ((dg 8 x).length : Int) % 256 = ((dg 8 x).length : Int) by omega]
    rfl
theorem takes (s : ByteArray) (most : Int) (h : s.size ≤ 9223372036854775806) : codec_TakeNumber.f s most = some (takeN s most) := by unfold codec_TakeNumber.f; rw [if_pos h]
theorem takesT (s : ByteArray) (most : Int) (h : s.size ≤ 9223372036854775806) : codec_TakeText.f s most = some (C.takeT s most) := by unfold codec_TakeText.f; rw [if_pos h]
end Go.Proofs.Ytfpomamhcjkoeab.CodecLaws
