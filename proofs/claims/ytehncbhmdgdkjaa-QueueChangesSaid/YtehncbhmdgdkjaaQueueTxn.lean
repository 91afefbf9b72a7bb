/- Plain facts, of my own wider texts, that the queues' laws need. -/
import Derived.Test.YtehncbhmdgdkjaaQx6
import Derived.Test.YtehncbhmdgdkjaaQx6
import Derived.Test.YtehncbhmdgdkjaaQx6
import Derived.Test.YtehncbhmdgdkjaaQx6
namespace Go.Proofs.Ytehncbhmdgdkjaa.TxnCodec
set_option linter.unusedSimpArgs false
set_option linter.unusedVariables false
open Go.Proofs.Ytehncbhmdgdkjaa.Q Go.Proofs.YtehncbhmdgdkjaaW.PrintLast Go.Proofs.YtehncbhmdgdkjaaW.PrintWords Go.RowKit
/-- Numbers that are bytes. -/
def Bytes (l : List Int) : Prop := ∀ x ∈ l, 0 ≤ x ∧ x < 256
theorem bytes_str (l : List Int) (h : Bytes l) : bytesOf (strOfNums l) = l := by
  unfold bytesOf strOfNums
  simp only [List.toList_toArray, List.map_map]
  conv => rhs; rw [← List.map_id l]
  apply List.map_congr_left
  intro x hx
  have := h x hx
  simp only [Function.comp, id]
  rw [UInt8.toNat_ofNat']
  omega
theorem bytes_append (s t : ByteArray) : bytesOf (s ++ t) = bytesOf s ++ bytesOf t := by
  unfold bytesOf
  rw [ByteArray.data_append, Array.toList_append, List.map_append]
theorem str_size (l : List Int) : (strOfNums l).size = l.length := by simp [strOfNums, ByteArray.size]
/-- The digits of 256, by the last one. -/
def dg : Nat → Nat → List Int
  | 0, x => [((x % 256 : Nat) : Int)]
  | m + 1, x => if x / 256 = 0 then [((x % 256 : Nat) : Int)] else dg m (x / 256) ++ [((x % 256 : Nat) : Int)]
theorem dg_eq (m : Nat) : ∀ x, (List.range (more256 m x + 1)).map (fun j => ((x / 256 ^ (more256 m x - j) % 256 : Nat) : Int)) = dg m x := by
  induction m with
  | zero => intro x; simp [more256, dg]
  | succ m ih =>
    intro x
    unfold more256 dg
    by_cases h : x / 256 = 0
    · rw [if_pos h, if_pos h]; simp
    · rw [if_neg h, if_neg h, List.range_succ, List.map_append, ← ih (x / 256)]
      congr 1
      · apply List.map_congr_left
        intro j hj
        have hj' := List.mem_range.1 hj
        rw [Nat.div_div_eq_div_mul, ← Nat.pow_succ', show (more256 m (x / 256) - j).succ = more256 m (x / 256) + 1 - j by omega]
      · simp
theorem dg_len (m : Nat) (x : Nat) : (dg m x).length = more256 m x + 1 := by rw [← dg_eq]; simp
theorem numL_eq (x : Nat) : numL x = ((dg 8 x).length : Int) :: dg 8 x := by
  unfold numL
  rw [dg_eq, dg_len]
theorem more_le7 (x : Nat) (h : x < 9223372036854775808) : more256 8 x ≤ 7 := by
  have step : ∀ m c x : Nat, x < 256 ^ (c + 1) → more256 m x ≤ c := by
    intro m
    induction m with
    | zero => intro c x _; unfold more256; omega
    | succ m ih =>
      intro c x hx
      unfold more256
      split
      · omega
      · cases c with
        | zero => exfalso; simp at hx; omega
        | succ c => have := ih c (x / 256) (by rw [Nat.pow_succ] at hx; omega); omega
  exact step 8 7 x (by omega)
theorem dg_len8 (x : Nat) (h : x < 9223372036854775808) : 1 ≤ (dg 8 x).length ∧ (dg 8 x).length ≤ 8 := by
  rw [dg_len]; have := more_le7 x h; omega
/-- A number's bytes. -/
def numStr (n : Int) : ByteArray := if n < 0 then ⟨#[]⟩ else strOfNums (numL n.toNat)
theorem number (n : Int) (h : n ≤ 9223372036854775807) : codec_Number.f n = some (numStr n) := by
  unfold codec_Number.f numStr
  by_cases c : n < 0
  · rw [if_pos c, if_pos c]
  · rw [if_neg c, if_neg c, if_pos h]
theorem num_size (n : Int) (h : n ≤ 9223372036854775807) (h0 : 0 ≤ n) : 2 ≤ (numStr n).size ∧ (numStr n).size ≤ 9 := by
  unfold numStr
  rw [if_neg (by omega), str_size, numL_eq]
  have := dg_len8 n.toNat (by omega)
  simp only [List.length_cons]
  omega
theorem size_bytes (s : ByteArray) : s.size = (bytesOf s).length := (bytesOf_length s).symm
/-- A text's bytes. -/
def textStr (s : ByteArray) : ByteArray := if 65535 < s.size then ⟨#[]⟩ else strOfNums [((s.size / 256 : Nat) : Int), ((s.size % 256 : Nat) : Int)] ++ s
theorem text (s : ByteArray) : codec_Text.f s = some (textStr s) := by
  unfold codec_Text.f textStr
  by_cases c : 65535 < s.size
  · rw [if_pos (by omega), if_pos c]
  · rw [if_neg (by omega), if_neg c]
    simp only [Option.bind_some]
    rw [show ((s.size : Int) / 256) % 256 = ((s.size / 256 : Nat) : Int) by omega, show (s.size : Int) % 256 = ((s.size % 256 : Nat) : Int) by omega, if_pos (by rw [str_size]; simp only [List.length_cons, List.length_nil]; omega)]
theorem text_bytes (s : ByteArray) (h : s.size ≤ 65535) : bytesOf (textStr s) = ((s.size / 256 : Nat) : Int) :: ((s.size % 256 : Nat) : Int) :: bytesOf s := by
  unfold textStr
  rw [if_neg (by omega), bytes_append, bytes_str]
  · rfl
  · intro x hx
    simp at hx
    omega
theorem text_size (s : ByteArray) (h : s.size ≤ 65535) : (textStr s).size = s.size + 2 := by
  rw [size_bytes, text_bytes s h, size_bytes s]
  rfl
end Go.Proofs.Ytehncbhmdgdkjaa.TxnCodec
namespace Go.Proofs.Ytehncbhmdgdkjaa.TxnLaws
open Go.Proofs.Ytehncbhmdgdkjaa.Q Go.Proofs.Ytehncbhmdgdkjaa.TxnCodec Go.Proofs.YtehncbhmdgdkjaaW.PrintLast Go.Proofs.YtehncbhmdgdkjaaW.PrintWords Go.RowKit
/-- May a transaction be? -/
def Chk (a b c d e : Int) (z : ByteArray) : Prop := 0 ≤ a ∧ a ≤ 255 ∧ 0 ≤ b ∧ b ≤ 4294967295 ∧ 0 ≤ c ∧ c ≤ d ∧ d ≤ 1099511627776 ∧ 1 ≤ e ∧ e ≤ 1073741824 ∧ z.size ≤ 256
instance (a b c d e : Int) (z : ByteArray) : Decidable (Chk a b c d e z) := by unfold Chk; infer_instance
theorem in_ (a b c : Int) : txn_in.f a b c = some (decide (b ≤ a ∧ a ≤ c)) := by
  unfold txn_in.f
  by_cases h : a ≥ b
  · rw [if_pos h]; congr 1; apply decide_eq_decide.2; omega
  · rw [if_neg h, decide_eq_false (by omega)]
theorem check (a b c d e : Int) (z : ByteArray) : txn_Check.f a b c d e z = some (decide (Chk a b c d e z)) := by
  unfold txn_Check.f
  simp only [in_, Option.bind_some]
  by_cases h1 : 0 ≤ a ∧ a ≤ 255
  · rw [decide_eq_true h1, if_pos rfl]
    by_cases h2 : 0 ≤ b ∧ b ≤ 4294967295
    · rw [decide_eq_true h2, if_pos rfl]
      by_cases h3 : 0 ≤ c ∧ c ≤ 1099511627776
      · rw [decide_eq_true h3, if_pos rfl]
        by_cases h4 : c ≤ d ∧ d ≤ 1099511627776
        · rw [decide_eq_true h4, if_pos rfl]
          by_cases h5 : 1 ≤ e ∧ e ≤ 1073741824
          · rw [decide_eq_true h5, if_pos rfl]; congr 1; apply decide_eq_decide.2; unfold Chk; omega
          · rw [decide_eq_false h5, if_neg (by decide), decide_eq_false (by unfold Chk; omega)]
        · rw [decide_eq_false h4, if_neg (by decide), decide_eq_false (by unfold Chk; omega)]
      · rw [decide_eq_false h3, if_neg (by decide), decide_eq_false (by unfold Chk; omega)]
    · rw [decide_eq_false h2, if_neg (by decide), decide_eq_false (by unfold Chk; omega)]
  · rw [decide_eq_false h1, if_neg (by decide), decide_eq_false (by unfold Chk; omega)]
/-- What stands behind the first byte. -/
def tail (a b c d e : Int) (z : ByteArray) : ByteArray := numStr a ++ (numStr b ++ (numStr c ++ (numStr d ++ (numStr e ++ textStr z))))
/-- A transaction's bytes. -/
def enc (a b c d e : Int) (z : ByteArray) : ByteArray := (⟨#[1]⟩ : ByteArray) ++ tail a b c d e z
theorem enc_all (a b c d e : Int) (z : ByteArray) : encAll (numStr a) (numStr b) (numStr c) (numStr d) (numStr e) (textStr z) = enc a b c d e z := by
  apply ByteArray.ext
  apply Array.toList_inj.1
  unfold encAll encP enc tail
  simp only [ByteArray.data_append, Array.toList_append]
  simp
theorem tail_size (a b c d e : Int) (z : ByteArray) (h : Chk a b c d e z) : z.size + 12 ≤ (tail a b c d e z).size ∧ (tail a b c d e z).size ≤ z.size + 47 := by
  unfold Chk at h
  have ha := num_size a (by omega) (by omega)
  have hb := num_size b (by omega) (by omega)
  have hc := num_size c (by omega) (by omega)
  have hd := num_size d (by omega) (by omega)
  have he := num_size e (by omega) (by omega)
  have hz := text_size z (by omega)
  unfold tail
  simp only [ByteArray.size_append]
  omega
theorem enc_size (a b c d e : Int) (z : ByteArray) : (enc a b c d e z).size = 1 + (tail a b c d e z).size := by
  unfold enc
  rw [ByteArray.size_append]
  rfl
/-- The bytes of a transaction that may be. -/
theorem encode (a b c d e : Int) (z : ByteArray) : txn_Encode.f a b c d e z = some (if Chk a b c d e z then (enc a b c d e z, true) else (⟨#[]⟩, false)) := by
  unfold txn_Encode.f
  rw [check, Option.bind_some]
  by_cases h : Chk a b c d e z
  · have h' := h
    unfold Chk at h'
    have ha := num_size a (by omega) (by omega)
    have hb := num_size b (by omega) (by omega)
    have hc := num_size c (by omega) (by omega)
    have hd := num_size d (by omega) (by omega)
    have he := num_size e (by omega) (by omega)
    have hz := text_size z (by omega)
    rw [decide_eq_true h, if_pos rfl, if_pos h, number a (by omega), number b (by omega), number c (by omega), number d (by omega), number e (by omega), text]
    simp only [Option.bind_some]
    rw [if_pos (by omega), enc_all]
  · rw [decide_eq_false h, if_neg (by decide), if_neg h]
/-- How many slots so many bytes take. -/
def slo (n : Nat) : Int := ((n + 31) / 32 : Nat)
theorem slots_pos (n : Nat) (h0 : 1 ≤ n) (h : n ≤ 400) : sat_Slots.f (n : Int) = some (slo n) := by
  have w1 : wrap64 ((n : Int) + 32) = (n : Int) + 32 := by unfold wrap64; omega
  have w2 : wrap64 ((n : Int) + 32 - 1) = ((n + 31 : Nat) : Int) := by unfold wrap64; omega
  have e : Int.tdiv ((n + 31 : Nat) : Int) 32 = slo n := by
    rw [Int.tdiv_eq_ediv_of_nonneg (by omega)]
    unfold slo
    omega
  have w4 : wrap64 (slo n) = slo n := by unfold slo wrap64; omega
  have g : 1 ≤ slo n := by unfold slo; omega
  unfold sat_Slots.f
  rw [if_neg (by omega), if_neg (by omega), w1, w2, e, w4]
  unfold mx
  congr 1
  split <;> omega
def slotsOf (a b c d e : Int) (z : ByteArray) : Int := if Chk a b c d e z then slo (enc a b c d e z).size else 0
theorem enc_range (a b c d e : Int) (z : ByteArray) (h : Chk a b c d e z) : z.size + 13 ≤ (enc a b c d e z).size ∧ (enc a b c d e z).size ≤ z.size + 48 ∧ (enc a b c d e z).size ≤ 304 := by
  have h1 := tail_size a b c d e z h
  have h2 := enc_size a b c d e z
  unfold Chk at h
  omega
theorem slots (a b c d e : Int) (z : ByteArray) : txn_Slots.f a b c d e z = some (slotsOf a b c d e z) := by
  unfold txn_Slots.f slotsOf
  rw [encode, Option.bind_some]
  by_cases h : Chk a b c d e z
  · have r := enc_range a b c d e z h
    rw [if_pos h, if_pos h, if_pos rfl]
    show ((sat_Slots.f ((enc a b c d e z).size : Int)).bind fun t => some t) = _
    rw [slots_pos _ (by omega) (by omega)]
    rfl
  · rw [if_neg h, if_neg h]; rfl
theorem slots_range (a b c d e : Int) (z : ByteArray) : 0 ≤ slotsOf a b c d e z ∧ slotsOf a b c d e z ≤ 10 ∧ (Chk a b c d e z → 1 ≤ slotsOf a b c d e z) := by
  unfold slotsOf slo
  by_cases h : Chk a b c d e z
  · have r := enc_range a b c d e z h
    rw [if_pos h]
    exact ⟨by omega, by omega, fun _ => by omega⟩
  · rw [if_neg h]
    exact ⟨by omega, by omega, fun q => absurd q h⟩
end Go.Proofs.Ytehncbhmdgdkjaa.TxnLaws
