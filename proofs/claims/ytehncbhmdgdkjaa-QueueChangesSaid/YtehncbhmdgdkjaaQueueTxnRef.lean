/- Plain facts, of my own wider texts, that the queues' laws need. -/
import Derived.Test.YtehncbhmdgdkjaaQx11
import Derived.Test.YtehncbhmdgdkjaaQx11
import Derived.Test.YtehncbhmdgdkjaaQx11
import Derived.Test.YtehncbhmdgdkjaaQx11
import Derived.Test.YtehncbhmdgdkjaaQx11
import Derived.Test.YtehncbhmdgdkjaaQx2
import Derived.Test.YtehncbhmdgdkjaaQueueTxn
namespace Go.Proofs.Ytehncbhmdgdkjaa.TxnCodec
set_option linter.unusedSimpArgs false
set_option linter.unusedVariables false
open Go.Proofs.Ytehncbhmdgdkjaa.Q Go.Proofs.YtehncbhmdgdkjaaW.PrintLast Go.Proofs.YtehncbhmdgdkjaaW.PrintWords Go.RowKit
theorem str_append (a b : List Int) : strOfNums (a ++ b) = strOfNums a ++ strOfNums b := by
  apply ByteArray.ext
  rw [ByteArray.data_append]
  simp [strOfNums]
theorem wr (a : Int) (h0 : 0 ≤ a) (h1 : a ≤ 9223372036854775807) : wrap64 a = a := by unfold wrap64; omega
end Go.Proofs.Ytehncbhmdgdkjaa.TxnCodec
namespace Go.Proofs.Ytehncbhmdgdkjaa.TxnCodec
open Go.Proofs.Ytehncbhmdgdkjaa.Q Go.Proofs.YtehncbhmdgdkjaaW.PrintLast Go.Proofs.YtehncbhmdgdkjaaW.PrintWords Go.RowKit
theorem ref_text (s : ByteArray) : hopperref03_Text.f s = some (textStr s) := by
  rw [← text s]
  rfl
theorem ref_bytes (m : Nat) (hm : m ≤ 100) : ∀ x : Nat, x / 256 ^ (m + 1) = 0 → (x : Int) ≤ 9223372036854775807 → hopperref03_bytes.f (m + 1) (x : Int) = some (strOfNums (dg m x)) := by
  have tm : ∀ x : Nat, Int.tmod (x : Int) 256 % 256 = ((x % 256 : Nat) : Int) := by
    intro x
    rw [Int.tmod_eq_emod_of_nonneg (by omega)]
    omega
  have td : ∀ x : Nat, Int.tdiv (x : Int) 256 = ((x / 256 : Nat) : Int) := by
    intro x
    rw [Int.tdiv_eq_ediv_of_nonneg (by omega)]
    omega
  induction m with
  | zero =>
    intro x h hx
    have h' : x / 256 = 0 := by simpa using h
    rw [hopperref03_bytes.f]
    simp only [Option.bind_some]
    rw [if_neg (by omega), tm]
    rfl
  | succ m ih =>
    intro x h hx
    rw [hopperref03_bytes.f]
    simp only [Option.bind_some]
    unfold dg
    by_cases c : x / 256 = 0
    · rw [if_neg (by omega), if_pos c, tm]
    · rw [if_pos (by omega), if_neg c, td, wr _ (by omega) (by omega), ih (by omega) (x / 256) (by rw [Nat.div_div_eq_div_mul, ← Nat.pow_succ']; exact h) (by omega), tm]
      simp only [Option.bind_some]
      have hl : (dg m (x / 256)).length ≤ 101 := by rw [dg_len]; have := more256_le m (x / 256); omega
      rw [if_pos (by rw [str_size, str_size]; simp only [List.length_cons, List.length_nil]; omega), str_append]
theorem ref_number (n : Int) (h : n ≤ 9223372036854775807) : hopperref03_Number.f 9 n = some (numStr n) := by
  unfold hopperref03_Number.f numStr
  by_cases c : n < 0
  · rw [if_pos c, if_pos c]
  · obtain ⟨x, rfl⟩ := Int.eq_ofNat_of_zero_le (show 0 ≤ n by omega)
    have hx : x < 9223372036854775808 := by omega
    have hl := dg_len8 x hx
    rw [if_neg c, if_neg c, ref_bytes 8 (by omega) x (Nat.div_eq_of_lt (Nat.lt_of_lt_of_le hx (show 9223372036854775808 ≤ 256 ^ (8 + 1) by decide))) h, Int.toNat_natCast, numL_eq]
    simp only [Option.bind_some]
    rw [if_pos (by rw [str_size, str_size]; simp only [List.length_cons, List.length_nil]; omega), str_size, ← str_append]
    rw [show ((dg 8 x).length : Int) % 256 = ((dg 8 x).length : Int) by omega]
    rfl
end Go.Proofs.Ytehncbhmdgdkjaa.TxnCodec
namespace Go.Proofs.Ytehncbhmdgdkjaa.TxnLaws
open Go.Proofs.Ytehncbhmdgdkjaa.Q Go.Proofs.Ytehncbhmdgdkjaa.TxnCodec Go.Proofs.YtehncbhmdgdkjaaW.PrintLast Go.Proofs.YtehncbhmdgdkjaaW.PrintWords Go.RowKit
theorem ref_check (a b c d e : Int) (z : ByteArray) : hopperref04_Check.f a b c d e z = some (decide (Chk a b c d e z)) := by
  unfold hopperref04_Check.f
  by_cases h1 : a < 0
  · rw [if_pos h1, decide_eq_false (by unfold Chk; omega)]
  · by_cases h2 : a > 255
    · rw [if_neg h1, if_pos h2, decide_eq_false (by unfold Chk; omega)]
    · by_cases h3 : b < 0
      · rw [if_neg h1, if_neg h2, if_pos h3, decide_eq_false (by unfold Chk; omega)]
      · by_cases h4 : b ≥ 4294967296
        · rw [if_neg h1, if_neg h2, if_neg h3, if_pos h4, decide_eq_false (by unfold Chk; omega)]
        · by_cases h5 : c < 0
          · rw [if_neg h1, if_neg h2, if_neg h3, if_neg h4, if_pos h5, decide_eq_false (by unfold Chk; omega)]
          · by_cases h6 : c > d
            · rw [if_neg h1, if_neg h2, if_neg h3, if_neg h4, if_neg h5, if_pos h6, decide_eq_false (by unfold Chk; omega)]
            · by_cases h7 : d > 1099511627776
              · rw [if_neg h1, if_neg h2, if_neg h3, if_neg h4, if_neg h5, if_neg h6, if_pos h7, decide_eq_false (by unfold Chk; omega)]
              · rw [if_neg h1, if_neg h2, if_neg h3, if_neg h4, if_neg h5, if_neg h6, if_neg h7]
                by_cases h8 : e ≥ 1
                · by_cases h9 : e ≤ 1073741824
                  · rw [if_pos h8, if_pos h9]; congr 1; apply decide_eq_decide.2; unfold Chk; omega
                  · rw [if_pos h8, if_neg h9, decide_eq_false (by unfold Chk; omega)]
                · rw [if_neg h8, decide_eq_false (by unfold Chk; omega)]
theorem ref_number_k (k : Nat) (hk : 9 ≤ k) (n : Int) (h : n ≤ 9223372036854775807) : hopperref03_Number.f k n = some (numStr n) := at_rounds (hopperref03_Number.mono n) hk (ref_number n h)
theorem ref_encode (a b c d e : Int) (z : ByteArray) (k : Nat) (hk : 20 ≤ k) : hopperref04_Encode.f k a b c d e z = some (if Chk a b c d e z then (enc a b c d e z, true) else (⟨#[]⟩, false)) := by
  unfold hopperref04_Encode.f
  rw [ref_check, Option.bind_some]
  by_cases h : Chk a b c d e z
  · have h' := h
    unfold Chk at h'
    have ha := num_size a (by omega) (by omega)
    have hb := num_size b (by omega) (by omega)
    have hc := num_size c (by omega) (by omega)
    have hd := num_size d (by omega) (by omega)
    have he := num_size e (by omega) (by omega)
    have hz := text_size z (by omega)
    obtain ⟨k, rfl⟩ : ∃ m, k = m + 6 := ⟨k - 6, by omega⟩
    have w0 : wrap64 (0 + 1) = 1 := by unfold wrap64; omega
    have w1 : wrap64 (1 + 1) = 2 := by unfold wrap64; omega
    have w2 : wrap64 (2 + 1) = 3 := by unfold wrap64; omega
    have w3 : wrap64 (3 + 1) = 4 := by unfold wrap64; omega
    have w4 : wrap64 (4 + 1) = 5 := by unfold wrap64; omega
    have hl : (([a, b, c, d, e] : List Int).length : Int) = 5 := rfl
    have s1 : (⟨#[1]⟩ : ByteArray).size = 1 := rfl
    rw [decide_eq_true h, if_pos rfl, if_pos h]
    rw [hopperref04_Encode.l0, hl, if_pos (by decide), if_pos (by decide), show rd [a, b, c, d, e] 0 = a from rfl, ref_number_k _ (by omega) a (by omega), Option.bind_some, if_pos (by omega), w0]
    rw [hopperref04_Encode.l0, hl, if_pos (by decide), if_pos (by decide), show rd [a, b, c, d, e] 1 = b from rfl, ref_number_k _ (by omega) b (by omega), Option.bind_some, if_pos (by simp only [ByteArray.size_append]; omega), w1]
    rw [hopperref04_Encode.l0, hl, if_pos (by decide), if_pos (by decide), show rd [a, b, c, d, e] 2 = c from rfl, ref_number_k _ (by omega) c (by omega), Option.bind_some, if_pos (by simp only [ByteArray.size_append]; omega), w2]
    rw [hopperref04_Encode.l0, hl, if_pos (by decide), if_pos (by decide), show rd [a, b, c, d, e] 3 = d from rfl, ref_number_k _ (by omega) d (by omega), Option.bind_some, if_pos (by simp only [ByteArray.size_append]; omega), w3]
    rw [hopperref04_Encode.l0, hl, if_pos (by decide), if_pos (by decide), show rd [a, b, c, d, e] 4 = e from rfl, ref_number_k _ (by omega) e (by omega), Option.bind_some, if_pos (by simp only [ByteArray.size_append]; omega), w4]
    rw [hopperref04_Encode.l0, hl, if_neg (by decide), ref_text, Option.bind_some, if_pos (by simp only [ByteArray.size_append]; omega)]
    unfold enc tail
    simp only [ByteArray.append_assoc]
  · rw [decide_eq_false h, if_neg (by decide), if_neg h]
theorem ref_slots_pos (n : Nat) (h0 : 1 ≤ n) (h : n ≤ 400) : hopperref01_Slots.f (n : Int) = some (slo n) := by
  have w3 : wrap64 ((n : Int) + 31) = ((n + 31 : Nat) : Int) := by unfold wrap64; omega
  have e : Int.tdiv ((n + 31 : Nat) : Int) 32 = slo n := by
    rw [Int.tdiv_eq_ediv_of_nonneg (by omega)]
    unfold slo
    omega
  have w4 : wrap64 (slo n) = slo n := by unfold slo wrap64; omega
  have g : 1 ≤ slo n := by unfold slo; omega
  unfold hopperref01_Slots.f
  rw [if_neg (by omega), if_neg (by omega), w3, e, w4]
  unfold mx
  congr 1
  split <;> omega
theorem ref_slots (a b c d e : Int) (z : ByteArray) (k : Nat) (hk : 20 ≤ k) : hopperref04_Slots.f k a b c d e z = some (slotsOf a b c d e z) := by
  unfold hopperref04_Slots.f slotsOf
  rw [ref_encode a b c d e z k hk, Option.bind_some]
  by_cases h : Chk a b c d e z
  · have r := enc_range a b c d e z h
    rw [if_pos h, if_pos h, if_pos rfl]
    show ((hopperref01_Slots.f ((enc a b c d e z).size : Int)).bind fun t => some t) = _
    rw [ref_slots_pos _ (by omega) (by omega)]
    rfl
  · rw [if_neg h, if_neg h]; rfl
end Go.Proofs.Ytehncbhmdgdkjaa.TxnLaws
