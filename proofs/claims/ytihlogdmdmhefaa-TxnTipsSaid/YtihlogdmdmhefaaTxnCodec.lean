/- Plain facts on the bytes of numbers and texts, and on the hash; no condition but the numbers' ranges. -/
import Derived.Test.YtihlogdmdmhefaaLx3
import Derived.Test.YtihlogdmdmhefaaLx6
import Derived.Test.YtihlogdmdmhefaaLx7
import Derived.Test.YtihlogdmdmhefaaLx3
import Derived.Test.YtihlogdmdmhefaaLx10
import Derived.Test.YtihlogdmdmhefaaLx9
namespace Go.Proofs.Ytihlogdmdmhefaa.TxnCodec
set_option linter.unusedSimpArgs false
set_option linter.unusedVariables false
open Go.RowKit Go.Proofs.Ytihlogdmdmhefaa.L Go.Proofs.YtihlogdmdmhefaaW.PrintWords Go.Proofs.YtihlogdmdmhefaaW.PrintLast
/-- Numbers that are bytes. -/
def Bytes (l : List Int) : Prop := ∀ x ∈ l, 0 ≤ x ∧ x < 256
theorem bytes_of (s : ByteArray) : Bytes (bytesOf s) := by
  intro x hx
  unfold bytesOf at hx
  obtain ⟨b, _, rfl⟩ := List.mem_map.1 hx
  have := b.toNat_lt
  omega
theorem bytes_str (l : List Int) (h : Bytes l) : bytesOf (strOfNums l) = l := by
  unfold bytesOf strOfNums
  simp only [List.toList_toArray, List.map_map]
  conv => rhs; rw [← List.map_id l]
  apply List.map_congr_left
  intro x hx
  have := h x hx
  simp only [Function.comp, id]
  rw [UInt8.toNat_ofNat']
  omega
theorem bytes_inj {s t : ByteArray} (h : bytesOf s = bytesOf t) : s = t := by rw [← str_bytesOf s, h, str_bytesOf]
theorem bytes_append (s t : ByteArray) : bytesOf (s ++ t) = bytesOf s ++ bytesOf t := by
  unfold bytesOf
  rw [ByteArray.data_append, Array.toList_append, List.map_append]
theorem bytes_extract (s : ByteArray) (i j : Nat) : bytesOf (s.extract i j) = ((bytesOf s).drop i).take (j - i) := by
  unfold bytesOf
  rw [← List.map_drop, ← List.map_take]
  congr 1
  rw [ByteArray.data_extract, Array.toList_extract]
theorem str_append (a b : List Int) : strOfNums (a ++ b) = strOfNums a ++ strOfNums b := by
  apply ByteArray.ext
  rw [ByteArray.data_append]
  simp [strOfNums]
theorem str_size (l : List Int) : (strOfNums l).size = l.length := by simp [strOfNums, ByteArray.size]
/-- The digits of 256, by the last one. -/
def dg : Nat → Nat → List Int
  | 0, x => [((x % 256 : Nat) : Int)]
  | m + 1, x => if x / 256 = 0 then [((x % 256 : Nat) : Int)] else dg m (x / 256) ++ [((x % 256 : Nat) : Int)]
theorem dg_eq (m : Nat) : ∀ x, (List.range (more256 m x + 1)).map (fun j => ((x / 256 ^ (more256 m x - j) % 256 : Nat) : Int)) = dg m x := by
  induction m with
  | zero => intro x; simp [more256, dg]
  | succ m ih =>
    intro x
    unfold more256 dg
    by_cases h : x / 256 = 0
    · rw [if_pos h, if_pos h]; simp
    · rw [if_neg h, if_neg h, List.range_succ, List.map_append, ← ih (x / 256)]
      congr 1
      · apply List.map_congr_left
        intro j hj
        have hj' := List.mem_range.1 hj
        rw [Nat.div_div_eq_div_mul, ← Nat.pow_succ', show (more256 m (x / 256) - j).succ = more256 m (x / 256) + 1 - j by omega]
      · simp
theorem dg_len (m : Nat) (x : Nat) : (dg m x).length = more256 m x + 1 := by rw [← dg_eq]; simp
theorem dg_bytes (m : Nat) : ∀ x, Bytes (dg m x) := by
  induction m with
  | zero => intro x y hy; simp [dg] at hy; omega
  | succ m ih =>
    intro x y hy
    unfold dg at hy
    split at hy
    · simp at hy; omega
    · rcases List.mem_append.1 hy with h | h
      · exact ih _ y h
      · simp at h; omega
theorem numL_eq (x : Nat) : numL x = ((dg 8 x).length : Int) :: dg 8 x := by
  unfold numL
  rw [dg_eq, dg_len]
theorem wr (a : Int) (h0 : 0 ≤ a) (h1 : a ≤ 9223372036854775807) : wrap64 a = a := by unfold wrap64; omega
theorem val_one (b : Int) (h0 : 0 ≤ b) (h1 : b < 256) : valW [b] = b := by
  have e := valW_snoc [] b
  rw [List.nil_append] at e
  have z : valW [] = 0 := rfl
  rw [e, z, or_step 0 b h0 h1, wr _ (by omega) (by omega)]
  omega
theorem dg_val (m : Nat) : ∀ x : Nat, x / 256 ^ (m + 1) = 0 → (x : Int) ≤ 9223372036854775807 → valW (dg m x) = x := by
  induction m with
  | zero =>
    intro x h _
    show valW [((x % 256 : Nat) : Int)] = _
    have h' : x / 256 = 0 := by simpa using h
    rw [val_one _ (by omega) (by omega), Nat.mod_eq_of_lt (by omega)]
  | succ m ih =>
    intro x h hx
    have q : 256 * (x / 256) + x % 256 = x := Nat.div_add_mod x 256
    unfold dg
    split
    · rename_i hd
      rw [val_one _ (by omega) (by omega)]
      rw [hd] at q
      omega
    · have e := ih (x / 256) (by rw [Nat.div_div_eq_div_mul, ← Nat.pow_succ']; exact h) (by omega)
      rw [valW_snoc, e, or_step _ _ (by omega) (by omega)]
      generalize x / 256 = d at *
      generalize x % 256 = b at *
      rw [wr _ (by omega) (by omega)]
      omega
theorem more_le7 (x : Nat) (h : x < 9223372036854775808) : more256 8 x ≤ 7 := by
  have step : ∀ m c x : Nat, x < 256 ^ (c + 1) → more256 m x ≤ c := by
    intro m
    induction m with
    | zero => intro c x _; unfold more256; omega
    | succ m ih =>
      intro c x hx
      unfold more256
      split
      · omega
      · cases c with
        | zero => exfalso; simp at hx; omega
        | succ c => have := ih c (x / 256) (by rw [Nat.pow_succ] at hx; omega); omega
  exact step 8 7 x (by omega)
theorem dg_len8 (x : Nat) (h : x < 9223372036854775808) : 1 ≤ (dg 8 x).length ∧ (dg 8 x).length ≤ 8 := by
  rw [dg_len]; have := more_le7 x h; omega
theorem dg_val8 (x : Nat) (h : x < 9223372036854775808) : valW (dg 8 x) = x := dg_val 8 x (Nat.div_eq_of_lt (Nat.lt_of_lt_of_le h (show 9223372036854775808 ≤ 256 ^ (8 + 1) by decide))) (by omega)
theorem num_bytes (x : Nat) (h : x < 9223372036854775808) : bytesOf (strOfNums (numL x)) = ((dg 8 x).length : Int) :: dg 8 x := by
  rw [numL_eq]
  apply bytes_str
  intro y hy
  rcases List.mem_cons.1 hy with rfl | hy
  · have := dg_len8 x h; omega
  · exact dg_bytes 8 x y hy
/-- A number's bytes. -/
def numStr (n : Int) : ByteArray := if n < 0 then ⟨#[]⟩ else strOfNums (numL n.toNat)
theorem number (n : Int) (h : n ≤ 9223372036854775807) : codec_Number.f n = some (numStr n) := by
  unfold codec_Number.f numStr
  by_cases c : n < 0
  · rw [if_pos c, if_pos c]
  · rw [if_neg c, if_neg c, if_pos h]
theorem num_size (n : Int) (h : n ≤ 9223372036854775807) (h0 : 0 ≤ n) : 2 ≤ (numStr n).size ∧ (numStr n).size ≤ 9 := by
  unfold numStr
  rw [if_neg (by omega), str_size, numL_eq]
  have := dg_len8 n.toNat (by omega)
  simp only [List.length_cons]
  omega
theorem bt_bytes (s : ByteArray) (i : Int) : bt s i = rd (bytesOf s) i := (rd_bytesOf s i).symm
theorem size_bytes (s : ByteArray) : s.size = (bytesOf s).length := (bytesOf_length s).symm
/-- What is written is taken. -/
theorem take_num (n most : Int) (rest : ByteArray) (h0 : 0 ≤ n) (h : n ≤ 9223372036854775807) : takeN (numStr n ++ rest) most = if most < n then (0, ⟨#[]⟩, false) else (n, rest, true) := by
  obtain ⟨x, rfl⟩ := Int.eq_ofNat_of_zero_le h0
  have hx : x < 9223372036854775808 := by omega
  obtain ⟨l1, l8⟩ := dg_len8 x hx
  have hb : bytesOf (numStr (x : Int) ++ rest) = ((dg 8 x).length : Int) :: (dg 8 x ++ bytesOf rest) := by
    rw [bytes_append]
    unfold numStr
    rw [if_neg (by omega), Int.toNat_natCast, num_bytes x hx]
    rfl
  have hs : (numStr (x : Int) ++ rest).size = 1 + (dg 8 x).length + rest.size := by
    rw [size_bytes, hb, size_bytes rest]
    simp only [List.length_cons, List.length_append]
    omega
  have h0' : bt (numStr (x : Int) ++ rest) 0 = ((dg 8 x).length : Int) := by rw [bt_bytes, hb]; rfl
  have e1 : valW (bytesOf ((numStr (x : Int) ++ rest).extract 1 (1 + (dg 8 x).length))) = x := by
    rw [bytes_extract, hb, show 1 + (dg 8 x).length - 1 = (dg 8 x).length by omega]
    simp only [List.drop_succ_cons, List.drop_zero, List.take_left']
    exact dg_val8 x hx
  have e2 : strOfNums (numL x) = (numStr (x : Int) ++ rest).extract 0 (1 + (dg 8 x).length) := by
    apply bytes_inj
    rw [num_bytes x hx, bytes_extract, hb, show 1 + (dg 8 x).length - 0 = (dg 8 x).length + 1 by omega]
    simp
  have e3 : (numStr (x : Int) ++ rest).extract (1 + (dg 8 x).length) (numStr (x : Int) ++ rest).size = rest := by
    apply bytes_inj
    rw [bytes_extract, hb, hs, show 1 + (dg 8 x).length = (dg 8 x).length + 1 by omega]
    simp only [List.drop_succ_cons, List.drop_left']
    rw [size_bytes rest, show (dg 8 x).length + 1 + (bytesOf rest).length - ((dg 8 x).length + 1) = (bytesOf rest).length by omega, List.take_length]
  unfold takeN
  rw [h0', if_neg (by omega), if_neg (by omega), if_neg (by omega), Int.toNat_natCast, e1]
  simp only
  rw [if_neg (by omega), Int.toNat_natCast]
  by_cases c : most < (x : Int)
  · rw [if_pos c, if_pos c]
  · rw [if_neg c, if_neg c, if_pos e2, e3]
theorem extract_split (s : ByteArray) (k : Nat) (h : k ≤ s.size) : s.extract 0 k ++ s.extract k s.size = s := by
  apply bytes_inj
  rw [bytes_append, bytes_extract, bytes_extract, size_bytes s]
  simp only [Nat.sub_zero, List.drop_zero]
  rw [← List.length_drop, List.take_length, List.take_append_drop]
/-- What is taken was written. -/
theorem num_taken (s : ByteArray) (most : Int) : ((takeN s most).2.2 = true ∧ s = numStr (takeN s most).1 ++ (takeN s most).2.1 ∧ 0 ≤ (takeN s most).1 ∧ (takeN s most).1 ≤ most ∧ (takeN s most).1 ≤ 9223372036854775807) ∨ takeN s most = (0, ⟨#[]⟩, false) := by
  unfold takeN
  by_cases a : s.size = 0
  · rw [if_pos a]; exact .inr rfl
  · by_cases b : 8 < bt s 0
    · rw [if_neg a, if_pos b]; exact .inr rfl
    · by_cases c : (s.size : Int) - 1 < bt s 0
      · rw [if_neg a, if_neg b, if_pos c]; exact .inr rfl
      · rw [if_neg a, if_neg b, if_neg c]
        simp only
        have hr := bt_range s 0
        have hle := valW_le (bytesOf (s.extract 1 (1 + (bt s 0).toNat)))
        generalize valW (bytesOf (s.extract 1 (1 + (bt s 0).toNat))) = n at *
        by_cases d : n < 0
        · rw [if_pos d]; exact .inr rfl
        · by_cases e : most < n
          · rw [if_neg d, if_pos e]; exact .inr rfl
          · by_cases f : strOfNums (numL n.toNat) = s.extract 0 (1 + (bt s 0).toNat)
            · rw [if_neg d, if_neg e, if_pos f]
              refine .inl ⟨rfl, ?_, by simp only; omega, by simp only; omega, hle⟩
              simp only [numStr]
              rw [if_neg d, f, extract_split s _ (by omega)]
            · rw [if_neg d, if_neg e, if_neg f]; exact .inr rfl
/-- A text's bytes. -/
def textStr (s : ByteArray) : ByteArray := if 65535 < s.size then ⟨#[]⟩ else strOfNums [((s.size / 256 : Nat) : Int), ((s.size % 256 : Nat) : Int)] ++ s
theorem text (s : ByteArray) : codec_Text.f s = some (textStr s) := by
  unfold codec_Text.f textStr
  by_cases c : 65535 < s.size
  · rw [if_pos (by omega), if_pos c]
  · rw [if_neg (by omega), if_neg c]
    simp only [Option.bind_some]
    rw [show ((s.size : Int) / 256) % 256 = ((s.size / 256 : Nat) : Int) by omega, show (s.size : Int) % 256 = ((s.size % 256 : Nat) : Int) by omega, if_pos (by rw [str_size]; simp only [List.length_cons, List.length_nil]; omega)]
theorem text_bytes (s : ByteArray) (h : s.size ≤ 65535) : bytesOf (textStr s) = ((s.size / 256 : Nat) : Int) :: ((s.size % 256 : Nat) : Int) :: bytesOf s := by
  unfold textStr
  rw [if_neg (by omega), bytes_append, bytes_str]
  · rfl
  · intro x hx
    simp at hx
    omega
theorem text_size (s : ByteArray) (h : s.size ≤ 65535) : (textStr s).size = s.size + 2 := by
  rw [size_bytes, text_bytes s h, size_bytes s]
  rfl
theorem text_nat (s : ByteArray) : ∃ n : Nat, bt s 0 * 256 + bt s 1 = n ∧ n ≤ 65535 := by
  have h0 := bt_range s 0
  have h1 := bt_range s 1
  exact ⟨(bt s 0 * 256 + bt s 1).toNat, by omega, by omega⟩
theorem take_text (s rest : ByteArray) (most : Int) (h : s.size ≤ 65535) : L.takeT (textStr s ++ rest) most = if most < s.size then (⟨#[]⟩, ⟨#[]⟩, false) else (s, rest, true) := by
  have hb : bytesOf (textStr s ++ rest) = ((s.size / 256 : Nat) : Int) :: ((s.size % 256 : Nat) : Int) :: (bytesOf s ++ bytesOf rest) := by
    rw [bytes_append, text_bytes s h]; rfl
  have hs : (textStr s ++ rest).size = s.size + rest.size + 2 := by
    rw [size_bytes, hb, size_bytes s, size_bytes rest]
    simp
  have h0 : bt (textStr s ++ rest) 0 = ((s.size / 256 : Nat) : Int) := by rw [bt_bytes, hb]; rfl
  have h1 : bt (textStr s ++ rest) 1 = ((s.size % 256 : Nat) : Int) := by rw [bt_bytes, hb]; rfl
  have e : ((s.size / 256 : Nat) : Int) * 256 + ((s.size % 256 : Nat) : Int) = (s.size : Int) := by omega
  have e1 : (textStr s ++ rest).extract 2 (2 + s.size) = s := by
    apply bytes_inj
    rw [bytes_extract, hb, show 2 + s.size - 2 = s.size by omega, size_bytes s]
    simp
  have e2 : (textStr s ++ rest).extract (2 + s.size) (textStr s ++ rest).size = rest := by
    apply bytes_inj
    rw [bytes_extract, hb, hs, show s.size + rest.size + 2 - (2 + s.size) = rest.size by omega, size_bytes s, size_bytes rest, show 2 + (bytesOf s).length = (bytesOf s).length + 1 + 1 by omega]
    simp
  unfold L.takeT
  rw [h0, h1, e, if_neg (by omega), Int.toNat_natCast]
  by_cases c : most < (s.size : Int)
  · rw [if_pos c, if_pos c]
  · rw [if_neg c, if_neg c, if_neg (by omega), e1, e2]
theorem text_taken (s : ByteArray) (most : Int) : ((L.takeT s most).2.2 = true ∧ s = textStr (L.takeT s most).1 ++ (L.takeT s most).2.1 ∧ ((L.takeT s most).1.size : Int) ≤ most ∧ (L.takeT s most).1.size ≤ 65535) ∨ L.takeT s most = (⟨#[]⟩, ⟨#[]⟩, false) := by
  unfold L.takeT
  by_cases a : s.size < 2
  · rw [if_pos a]; exact .inr rfl
  · obtain ⟨n, hn, hn6⟩ := text_nat s
    have h0 := bt_range s 0
    have h1 := bt_range s 1
    rw [if_neg a, hn]
    by_cases b : most < (n : Int)
    · rw [if_pos b]; exact .inr rfl
    · by_cases c : (s.size : Int) - 2 < (n : Int)
      · rw [if_neg b, if_pos c]; exact .inr rfl
      · rw [if_neg b, if_neg c, Int.toNat_natCast]
        have hz : (s.extract 2 (2 + n)).size = n := by rw [ByteArray.size_extract]; omega
        refine .inl ⟨rfl, ?_, by simp only; rw [hz]; omega, by simp only; rw [hz]; exact hn6⟩
        apply bytes_inj
        simp only
        rw [bytes_append, text_bytes _ (by rw [hz]; exact hn6), hz, bytes_extract, bytes_extract, size_bytes s]
        have hl := size_bytes s
        have b0 := bt_bytes s 0
        have b1 := bt_bytes s 1
        rw [b0, b1] at hn
        rw [b0] at h0
        rw [b1] at h1
        rw [hl] at a c
        clear b0 b1 hl hz
        generalize bytesOf s = l at *
        match l with
        | [] => simp at a
        | [x] => simp at a
        | x :: y :: r =>
          have hx : x * 256 + y = (n : Int) := hn
          have hx0 : 0 ≤ x ∧ x ≤ 255 := h0
          have hy0 : 0 ≤ y ∧ y ≤ 255 := h1
          have ex : ((n / 256 : Nat) : Int) = x := by omega
          have ey : ((n % 256 : Nat) : Int) = y := by omega
          simp only [List.length_cons] at a c
          rw [ex, ey, show 2 + n = n + 1 + 1 by omega]
          simp only [List.drop_succ_cons, List.drop_zero, List.length_cons, List.cons_append]
          rw [show n + 1 + 1 - 2 = n by omega, List.take_of_length_le (l := r.drop n) (by rw [List.length_drop]; omega), List.take_append_drop]
theorem takes (s : ByteArray) (most : Int) (h : s.size ≤ 9223372036854775806) : codec_TakeNumber.f s most = some (takeN s most) := by unfold codec_TakeNumber.f; rw [if_pos h]
theorem takesT (s : ByteArray) (most : Int) (h : s.size ≤ 9223372036854775806) : codec_TakeText.f s most = some (L.takeT s most) := by unfold codec_TakeText.f; rw [if_pos h]
theorem app_empty (s : ByteArray) : s ++ (⟨#[]⟩ : ByteArray) = s := by
  apply bytes_inj
  rw [bytes_append]
  simp [bytesOf]
namespace Fnv
theorem roll (h : Int) (s : ByteArray) (hn : s.size ≤ 9223372036854775806) : fnv_Roll.f h s = some (rollL h s.data.toList) := by
  unfold fnv_Roll.f; rw [if_pos hn]
theorem of_ (s : ByteArray) (hn : s.size ≤ 9223372036854775806) : fnv_Of.f s = some (rollL 14695981039346656037 s.data.toList) := by
  unfold fnv_Of.f; rw [roll _ _ hn]; rfl
theorem rollB_range (h c : Int) : 0 ≤ rollB h c ∧ rollB h c < 18446744073709551616 := by unfold rollB; rw [IntKind.wrap_u64]; omega
theorem text (h : Int) (h0 : 0 ≤ h) (h1 : h < 18446744073709551616) : fnv_Text.f h = some (strOfNums (hexL h.toNat)) := by
  unfold fnv_Text.f; rw [if_pos h0, if_pos h1]
theorem rollL_range (h : Int) (l : List UInt8) (h0 : 0 ≤ h) (h1 : h < 18446744073709551616) : 0 ≤ rollL h l ∧ rollL h l < 18446744073709551616 := by
  induction l generalizing h with
  | nil => exact ⟨h0, h1⟩
  | cons c l ih => exact ih _ (rollB_range _ _).1 (rollB_range _ _).2
end Fnv
end Go.Proofs.Ytihlogdmdmhefaa.TxnCodec
