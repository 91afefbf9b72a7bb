/- Plain facts, of my own wider texts, that the heaps' laws need. -/
import Derived.Test.YtehncbhmdgdkjaaLx7
import Derived.Test.YtehncbhmdgdkjaaLx7
import Derived.Test.YtehncbhmdgdkjaaLx9
import Derived.Test.YtehncbhmdgdkjaaLx8
import Derived.Test.YtehncbhmdgdkjaaLx8
import Derived.Test.YtehncbhmdgdkjaaLx9
import Derived.Test.YtehncbhmdgdkjaaLx10
import Derived.WalkMore
import Derived.Test.YtehncbhmdgdkjaaLx14
import Derived.Test.YtehncbhmdgdkjaaLx13
import Derived.Test.YtehncbhmdgdkjaaLx4
import Derived.Test.YtehncbhmdgdkjaaLx12
import Derived.Test.YtehncbhmdgdkjaaLx11
import Derived.Test.YtehncbhmdgdkjaaLx2
import Derived.Test.YtehncbhmdgdkjaaRow
import Derived.Test.YtehncbhmdgdkjaaLx15
namespace Go.Proofs.Ytehncbhmdgdkjaa.TxnCodec
set_option linter.unusedSimpArgs false
set_option linter.unusedVariables false
open Go.Proofs.Ytehncbhmdgdkjaa.L Go.Proofs.YtehncbhmdgdkjaaW.PrintLast Go.Proofs.YtehncbhmdgdkjaaW.PrintWords Go.RowKit
/-- Numbers that are bytes. -/
def Bytes (l : List Int) : Prop := ∀ x ∈ l, 0 ≤ x ∧ x < 256
theorem bytes_str (l : List Int) (h : Bytes l) : bytesOf (strOfNums l) = l := by
  unfold bytesOf strOfNums
  simp only [List.toList_toArray, List.map_map]
  conv => rhs; rw [← List.map_id l]
  apply List.map_congr_left
  intro x hx
  have := h x hx
  simp only [Function.comp, id]
  rw [UInt8.toNat_ofNat']
  omega
theorem bytes_append (s t : ByteArray) : bytesOf (s ++ t) = bytesOf s ++ bytesOf t := by
  unfold bytesOf
  rw [ByteArray.data_append, Array.toList_append, List.map_append]
theorem str_size (l : List Int) : (strOfNums l).size = l.length := by simp [strOfNums, ByteArray.size]
/-- The digits of 256, by the last one. -/
def dg : Nat → Nat → List Int
  | 0, x => [((x % 256 : Nat) : Int)]
  | m + 1, x => if x / 256 = 0 then [((x % 256 : Nat) : Int)] else dg m (x / 256) ++ [((x % 256 : Nat) : Int)]
theorem dg_eq (m : Nat) : ∀ x, (List.range (more256 m x + 1)).map (fun j => ((x / 256 ^ (more256 m x - j) % 256 : Nat) : Int)) = dg m x := by
  induction m with
  | zero => intro x; simp [more256, dg]
  | succ m ih =>
    intro x
    unfold more256 dg
    by_cases h : x / 256 = 0
    · rw [if_pos h, if_pos h]; simp
    · rw [if_neg h, if_neg h, List.range_succ, List.map_append, ← ih (x / 256)]
      congr 1
      · apply List.map_congr_left
        intro j hj
        have hj' := List.mem_range.1 hj
        rw [Nat.div_div_eq_div_mul, ← Nat.pow_succ', show (more256 m (x / 256) - j).succ = more256 m (x / 256) + 1 - j by omega]
      · simp
theorem dg_len (m : Nat) (x : Nat) : (dg m x).length = more256 m x + 1 := by rw [← dg_eq]; simp
theorem numL_eq (x : Nat) : numL x = ((dg 8 x).length : Int) :: dg 8 x := by
  unfold numL
  rw [dg_eq, dg_len]
theorem more_le7 (x : Nat) (h : x < 9223372036854775808) : more256 8 x ≤ 7 := by
  have step : ∀ m c x : Nat, x < 256 ^ (c + 1) → more256 m x ≤ c := by
    intro m
    induction m with
    | zero => intro c x _; unfold more256; omega
    | succ m ih =>
      intro c x hx
      unfold more256
      split
      · omega
      · cases c with
        | zero => exfalso; simp at hx; omega
        | succ c => have := ih c (x / 256) (by rw [Nat.pow_succ] at hx; omega); omega
  exact step 8 7 x (by omega)
theorem dg_len8 (x : Nat) (h : x < 9223372036854775808) : 1 ≤ (dg 8 x).length ∧ (dg 8 x).length ≤ 8 := by
  rw [dg_len]; have := more_le7 x h; omega
/-- A number's bytes. -/
def numStr (n : Int) : ByteArray := if n < 0 then ⟨#[]⟩ else strOfNums (numL n.toNat)
theorem number (n : Int) (h : n ≤ 9223372036854775807) : codec_Number.f n = some (numStr n) := by
  unfold codec_Number.f numStr
  by_cases c : n < 0
  · rw [if_pos c, if_pos c]
  · rw [if_neg c, if_neg c, if_pos h]
theorem num_size (n : Int) (h : n ≤ 9223372036854775807) (h0 : 0 ≤ n) : 2 ≤ (numStr n).size ∧ (numStr n).size ≤ 9 := by
  unfold numStr
  rw [if_neg (by omega), str_size, numL_eq]
  have := dg_len8 n.toNat (by omega)
  simp only [List.length_cons]
  omega
theorem size_bytes (s : ByteArray) : s.size = (bytesOf s).length := (bytesOf_length s).symm
/-- A text's bytes. -/
def textStr (s : ByteArray) : ByteArray := if 65535 < s.size then ⟨#[]⟩ else strOfNums [((s.size / 256 : Nat) : Int), ((s.size % 256 : Nat) : Int)] ++ s
theorem text (s : ByteArray) : codec_Text.f s = some (textStr s) := by
  unfold codec_Text.f textStr
  by_cases c : 65535 < s.size
  · rw [if_pos (by omega), if_pos c]
  · rw [if_neg (by omega), if_neg c]
    simp only [Option.bind_some]
    rw [show ((s.size : Int) / 256) % 256 = ((s.size / 256 : Nat) : Int) by omega, show (s.size : Int) % 256 = ((s.size % 256 : Nat) : Int) by omega, if_pos (by rw [str_size]; simp only [List.length_cons, List.length_nil]; omega)]
theorem text_bytes (s : ByteArray) (h : s.size ≤ 65535) : bytesOf (textStr s) = ((s.size / 256 : Nat) : Int) :: ((s.size % 256 : Nat) : Int) :: bytesOf s := by
  unfold textStr
  rw [if_neg (by omega), bytes_append, bytes_str]
  · rfl
  · intro x hx
    simp at hx
    omega
theorem text_size (s : ByteArray) (h : s.size ≤ 65535) : (textStr s).size = s.size + 2 := by
  rw [size_bytes, text_bytes s h, size_bytes s]
  rfl
end Go.Proofs.Ytehncbhmdgdkjaa.TxnCodec
namespace Go.Proofs.Ytehncbhmdgdkjaa.TxnCodec.Fnv
open Go.Proofs.Ytehncbhmdgdkjaa.L Go.Proofs.YtehncbhmdgdkjaaW.PrintLast Go.Proofs.YtehncbhmdgdkjaaW.PrintWords Go.RowKit
theorem roll (h : Int) (s : ByteArray) (hn : s.size ≤ 9223372036854775806) : fnv_Roll.f h s = some (rollL h s.data.toList) := by
  unfold fnv_Roll.f; rw [if_pos hn]
theorem of_ (s : ByteArray) (hn : s.size ≤ 9223372036854775806) : fnv_Of.f s = some (rollL 14695981039346656037 s.data.toList) := by
  unfold fnv_Of.f; rw [roll _ _ hn]; rfl
theorem rollB_range (h c : Int) : 0 ≤ rollB h c ∧ rollB h c < 18446744073709551616 := by unfold rollB; rw [IntKind.wrap_u64]; omega
theorem text (h : Int) (h0 : 0 ≤ h) (h1 : h < 18446744073709551616) : fnv_Text.f h = some (strOfNums (hexL h.toNat)) := by
  unfold fnv_Text.f; rw [if_pos h0, if_pos h1]
theorem rollL_range (h : Int) (l : List UInt8) (h0 : 0 ≤ h) (h1 : h < 18446744073709551616) : 0 ≤ rollL h l ∧ rollL h l < 18446744073709551616 := by
  induction l generalizing h with
  | nil => exact ⟨h0, h1⟩
  | cons c l ih => exact ih _ (rollB_range _ _).1 (rollB_range _ _).2
end Go.Proofs.Ytehncbhmdgdkjaa.TxnCodec.Fnv
namespace Go.Proofs.Ytehncbhmdgdkjaa.TxnLaws
open Go.Proofs.Ytehncbhmdgdkjaa.L Go.Proofs.Ytehncbhmdgdkjaa.TxnCodec Go.Proofs.YtehncbhmdgdkjaaW.PrintLast Go.Proofs.YtehncbhmdgdkjaaW.PrintWords Go.RowKit
/-- May a transaction be? -/
def Chk (a b c d e : Int) (z : ByteArray) : Prop := 0 ≤ a ∧ a ≤ 255 ∧ 0 ≤ b ∧ b ≤ 4294967295 ∧ 0 ≤ c ∧ c ≤ d ∧ d ≤ 1099511627776 ∧ 1 ≤ e ∧ e ≤ 1073741824 ∧ z.size ≤ 256
instance (a b c d e : Int) (z : ByteArray) : Decidable (Chk a b c d e z) := by unfold Chk; infer_instance
theorem in_ (a b c : Int) : txn_in.f a b c = some (decide (b ≤ a ∧ a ≤ c)) := by
  unfold txn_in.f
  by_cases h : a ≥ b
  · rw [if_pos h]; congr 1; apply decide_eq_decide.2; omega
  · rw [if_neg h, decide_eq_false (by omega)]
theorem check (a b c d e : Int) (z : ByteArray) : txn_Check.f a b c d e z = some (decide (Chk a b c d e z)) := by
  unfold txn_Check.f
  simp only [in_, Option.bind_some]
  by_cases h1 : 0 ≤ a ∧ a ≤ 255
  · rw [decide_eq_true h1, if_pos rfl]
    by_cases h2 : 0 ≤ b ∧ b ≤ 4294967295
    · rw [decide_eq_true h2, if_pos rfl]
      by_cases h3 : 0 ≤ c ∧ c ≤ 1099511627776
      · rw [decide_eq_true h3, if_pos rfl]
        by_cases h4 : c ≤ d ∧ d ≤ 1099511627776
        · rw [decide_eq_true h4, if_pos rfl]
          by_cases h5 : 1 ≤ e ∧ e ≤ 1073741824
          · rw [decide_eq_true h5, if_pos rfl]; congr 1; apply decide_eq_decide.2; unfold Chk; omega
          · rw [decide_eq_false h5, if_neg (by decide), decide_eq_false (by unfold Chk; omega)]
        · rw [decide_eq_false h4, if_neg (by decide), decide_eq_false (by unfold Chk; omega)]
      · rw [decide_eq_false h3, if_neg (by decide), decide_eq_false (by unfold Chk; omega)]
    · rw [decide_eq_false h2, if_neg (by decide), decide_eq_false (by unfold Chk; omega)]
  · rw [decide_eq_false h1, if_neg (by decide), decide_eq_false (by unfold Chk; omega)]
/-- What stands behind the first byte. -/
def tail (a b c d e : Int) (z : ByteArray) : ByteArray := numStr a ++ (numStr b ++ (numStr c ++ (numStr d ++ (numStr e ++ textStr z))))
/-- A transaction's bytes. -/
def enc (a b c d e : Int) (z : ByteArray) : ByteArray := (⟨#[1]⟩ : ByteArray) ++ tail a b c d e z
theorem enc_all (a b c d e : Int) (z : ByteArray) : encAll (numStr a) (numStr b) (numStr c) (numStr d) (numStr e) (textStr z) = enc a b c d e z := by
  apply ByteArray.ext
  apply Array.toList_inj.1
  unfold encAll encP enc tail
  simp only [ByteArray.data_append, Array.toList_append]
  simp
theorem tail_size (a b c d e : Int) (z : ByteArray) (h : Chk a b c d e z) : z.size + 12 ≤ (tail a b c d e z).size ∧ (tail a b c d e z).size ≤ z.size + 47 := by
  unfold Chk at h
  have ha := num_size a (by omega) (by omega)
  have hb := num_size b (by omega) (by omega)
  have hc := num_size c (by omega) (by omega)
  have hd := num_size d (by omega) (by omega)
  have he := num_size e (by omega) (by omega)
  have hz := text_size z (by omega)
  unfold tail
  simp only [ByteArray.size_append]
  omega
theorem enc_size (a b c d e : Int) (z : ByteArray) : (enc a b c d e z).size = 1 + (tail a b c d e z).size := by
  unfold enc
  rw [ByteArray.size_append]
  rfl
/-- The bytes of a transaction that may be. -/
theorem encode (a b c d e : Int) (z : ByteArray) : txn_Encode.f a b c d e z = some (if Chk a b c d e z then (enc a b c d e z, true) else (⟨#[]⟩, false)) := by
  unfold txn_Encode.f
  rw [check, Option.bind_some]
  by_cases h : Chk a b c d e z
  · have h' := h
    unfold Chk at h'
    have ha := num_size a (by omega) (by omega)
    have hb := num_size b (by omega) (by omega)
    have hc := num_size c (by omega) (by omega)
    have hd := num_size d (by omega) (by omega)
    have he := num_size e (by omega) (by omega)
    have hz := text_size z (by omega)
    rw [decide_eq_true h, if_pos rfl, if_pos h, number a (by omega), number b (by omega), number c (by omega), number d (by omega), number e (by omega), text]
    simp only [Option.bind_some]
    rw [if_pos (by omega), enc_all]
  · rw [decide_eq_false h, if_neg (by decide), if_neg h]
theorem enc_range (a b c d e : Int) (z : ByteArray) (h : Chk a b c d e z) : z.size + 13 ≤ (enc a b c d e z).size ∧ (enc a b c d e z).size ≤ z.size + 48 ∧ (enc a b c d e z).size ≤ 304 := by
  have h1 := tail_size a b c d e z h
  have h2 := enc_size a b c d e z
  unfold Chk at h
  omega
/-- The digits of a transaction's hash. -/
def idOf (a b c d e : Int) (z : ByteArray) : ByteArray := if Chk a b c d e z then strOfNums (hexL (rollL 14695981039346656037 (enc a b c d e z).data.toList).toNat) else ⟨#[]⟩
theorem id_ (a b c d e : Int) (z : ByteArray) : txn_ID.f a b c d e z = some (idOf a b c d e z) := by
  unfold txn_ID.f idOf
  rw [encode, Option.bind_some]
  by_cases h : Chk a b c d e z
  · have r := enc_range a b c d e z h
    have q := Fnv.rollL_range 14695981039346656037 (enc a b c d e z).data.toList (by omega) (by omega)
    rw [if_pos h, if_pos h, if_pos rfl, Fnv.of_ _ (by show (enc a b c d e z).size ≤ _; omega), Option.bind_some, Fnv.text _ q.1 q.2]
    rfl
  · rw [if_neg h, if_neg h]; rfl
theorem less_irrefl (l : List UInt8) : Op.bytesLess l l = false := by
  induction l with
  | nil => rfl
  | cons a l ih => simp [Op.bytesLess, ih]
theorem less_cons (a b : UInt8) (l m : List UInt8) : Op.bytesLess (a :: l) (b :: m) = true ↔ a < b ∨ (a = b ∧ Op.bytesLess l m = true) := by
  simp [Op.bytesLess]
theorem less_trans (l : List UInt8) : ∀ m n, Op.bytesLess l m = true → Op.bytesLess m n = true → Op.bytesLess l n = true := by
  induction l with
  | nil =>
    intro m n h1 h2
    cases m with
    | nil => cases n <;> simp_all [Op.bytesLess]
    | cons b m => cases n with
      | nil => simp [Op.bytesLess] at h2
      | cons c n => rfl
  | cons a l ih =>
    intro m n h1 h2
    cases m with
    | nil => simp [Op.bytesLess] at h1
    | cons b m =>
      cases n with
      | nil => simp [Op.bytesLess] at h2
      | cons c n =>
        rw [less_cons] at h1 h2 ⊢
        rcases h1 with h1 | ⟨rfl, h1⟩
        · rcases h2 with h2 | ⟨rfl, h2⟩
          · exact .inl (UInt8.lt_trans h1 h2)
          · exact .inl h1
        · rcases h2 with h2 | ⟨rfl, h2⟩
          · exact .inl h2
          · exact .inr ⟨rfl, ih _ _ h1 h2⟩
theorem less_total (l : List UInt8) : ∀ m, l ≠ m → Op.bytesLess l m = true ∨ Op.bytesLess m l = true := by
  induction l with
  | nil =>
    intro m h
    cases m with
    | nil => exact absurd rfl h
    | cons b m => exact .inl rfl
  | cons a l ih =>
    intro m h
    cases m with
    | nil => exact .inr rfl
    | cons b m =>
      rw [less_cons, less_cons]
      by_cases e : a = b
      · subst e
        rcases ih m (fun q => h (by rw [q])) with h1 | h1
        · exact .inl (.inr ⟨rfl, h1⟩)
        · exact .inr (.inr ⟨rfl, h1⟩)
      · rcases UInt8.lt_or_lt_of_ne e with h1 | h1
        · exact .inl (.inl h1)
        · exact .inr (.inl h1)
theorem compare_less (l : List UInt8) : ∀ m, Lib.compareBytes l m = if l = m then 0 else if Op.bytesLess l m = true then -1 else 1 := by
  induction l with
  | nil =>
    intro m
    cases m with
    | nil => rfl
    | cons b m => rfl
  | cons a l ih =>
    intro m
    cases m with
    | nil => rfl
    | cons b m =>
      simp only [Lib.compareBytes]
      by_cases h1 : a < b
      · rw [if_pos h1, if_neg (by intro q; injection q with q; subst q; exact UInt8.lt_irrefl _ h1), if_pos ((less_cons _ _ _ _).2 (.inl h1))]
      · by_cases h2 : b < a
        · rw [if_neg h1, if_pos h2, if_neg (by intro q; injection q with q; subst q; exact UInt8.lt_irrefl _ h2), if_neg]
          intro q
          rcases (less_cons _ _ _ _).1 q with h | ⟨h, _⟩
          · exact h1 h
          · subst h; exact UInt8.lt_irrefl _ h2
        · have e : a = b := by
            by_cases e : a = b
            · exact e
            · rcases UInt8.lt_or_lt_of_ne e with h | h
              · exact absurd h h1
              · exact absurd h h2
          subst e
          rw [if_neg h1, if_neg h2, ih]
          by_cases e : l = m
          · subst e; rw [if_pos rfl, if_pos rfl]
          · rw [if_neg e, if_neg (show ¬ (a :: l = a :: m) from fun q => e (List.cons.inj q).2)]
            by_cases q : Op.bytesLess l m = true
            · rw [if_pos q, if_pos ((less_cons _ _ _ _).2 (.inr ⟨rfl, q⟩))]
            · rw [if_neg q, if_neg]
              intro q'
              rcases (less_cons _ _ _ _).1 q' with h | ⟨_, h⟩
              · exact h1 h
              · exact q h
def Better (a b c d e : Int) (z : ByteArray) (a' b' c' d' e' : Int) (z' : ByteArray) : Prop :=
  c' < c ∨ (c = c' ∧ (Op.bytesLess (idOf a b c d e z).data.toList (idOf a' b' c' d' e' z').data.toList = true ∨ ((idOf a b c d e z).data.toList = (idOf a' b' c' d' e' z').data.toList ∧ (a < a' ∨ (a = a' ∧ b < b')))))
instance (a b c d e : Int) (z : ByteArray) (a' b' c' d' e' : Int) (z' : ByteArray) : Decidable (Better a b c d e z a' b' c' d' e' z') := by unfold Better; infer_instance
def cmpI (a b : Int) : Int := if a < b then -1 else if b < a then 1 else 0
theorem cmp_ (a b : Int) : cmp_Compare_int.f a b = some (cmpI a b) := by
  unfold cmp_Compare_int.f cmp_isNaN_int.f cmpI
  simp only [bne_self_eq_false, Option.bind_some]
  rw [if_neg (by decide), if_neg (by decide)]
  by_cases h : a < b
  · rw [if_pos h, if_pos h]
  · rw [if_neg h, if_neg h]
    by_cases h2 : b < a
    · rw [if_pos h2, if_pos (show a > b from h2)]
    · rw [if_neg h2, if_neg (show ¬ a > b from h2)]
def or4 (x y u v : Int) : Int := if x = 0 then (if y = 0 then (if u = 0 then v else u) else y) else x
theorem or_ (x y u v : Int) (k : Nat) : cmp_Or_int.f (k + 5) [x, y, u, v] = some (or4 x y u v) := by
  have w0 : wrap64 (0 + 1) = 1 := by unfold wrap64; omega
  have w1 : wrap64 (1 + 1) = 2 := by unfold wrap64; omega
  have w2 : wrap64 (2 + 1) = 3 := by unfold wrap64; omega
  have w3 : wrap64 (3 + 1) = 4 := by unfold wrap64; omega
  have hl : (([x, y, u, v] : List Int).length : Int) = 4 := rfl
  unfold cmp_Or_int.f or4
  rw [cmp_Or_int.l0, hl, if_pos (by decide), if_pos (by decide), if_pos (by decide), show rd [x, y, u, v] 0 = x from rfl]
  by_cases hx : x = 0
  · rw [if_pos hx, if_pos hx, w0, cmp_Or_int.l0, hl, if_pos (by decide), if_pos (by decide), if_pos (by decide), show rd [x, y, u, v] 1 = y from rfl]
    by_cases hy : y = 0
    · rw [if_pos hy, if_pos hy, w1, cmp_Or_int.l0, hl, if_pos (by decide), if_pos (by decide), if_pos (by decide), show rd [x, y, u, v] 2 = u from rfl]
      by_cases hu : u = 0
      · rw [if_pos hu, if_pos hu, w2, cmp_Or_int.l0, hl, if_pos (by decide), if_pos (by decide), if_pos (by decide), show rd [x, y, u, v] 3 = v from rfl]
        by_cases hv : v = 0
        · rw [if_pos hv, w3, cmp_Or_int.l0, if_neg (by decide), hv]
        · rw [if_neg hv]
      · rw [if_neg hu, if_neg hu]
    · rw [if_neg hy, if_neg hy]
  · rw [if_neg hx, if_neg hx]
theorem better (a b c d e : Int) (z : ByteArray) (a' b' c' d' e' : Int) (z' : ByteArray) (k : Nat) (hk : 5 ≤ k) : txn_Better.f k a b c d e z a' b' c' d' e' z' = some (decide (Better a b c d e z a' b' c' d' e' z')) := by
  obtain ⟨k, rfl⟩ : ∃ m, k = m + 5 := ⟨k - 5, by omega⟩
  unfold txn_Better.f
  rw [cmp_, id_, id_, cmp_, cmp_]
  simp only [Option.bind_some]
  unfold strings_Compare.f
  rw [Option.bind_some, or_, Option.bind_some]
  congr 1
  apply decide_eq_decide.2
  rw [compare_less]
  unfold or4 cmpI Better
  generalize (idOf a b c d e z).data.toList = l
  generalize (idOf a' b' c' d' e' z').data.toList = m
  by_cases h1 : c' < c
  · rw [if_pos h1, if_neg (by decide)]; exact ⟨fun _ => .inl h1, fun _ => by decide⟩
  · by_cases h2 : c < c'
    · rw [if_neg h1, if_pos h2, if_neg (by decide)]; exact ⟨fun h => absurd h (by decide), fun h => by rcases h with h | ⟨h, _⟩ <;> omega⟩
    · have hc : c = c' := by omega
      rw [if_neg h1, if_neg h2, if_pos rfl]
      by_cases h3 : l = m
      · rw [if_pos h3, if_pos rfl, h3, less_irrefl]
        by_cases h4 : a < a'
        · rw [if_pos h4, if_neg (by decide)]; exact ⟨fun _ => .inr ⟨hc, .inr ⟨rfl, .inl h4⟩⟩, fun _ => by decide⟩
        · by_cases h5 : a' < a
          · rw [if_neg h4, if_pos h5, if_neg (by decide)]
            exact ⟨fun h => absurd h (by decide), fun h => by rcases h with h | ⟨_, h | ⟨_, h | ⟨h, _⟩⟩⟩ <;> first | omega | cases h⟩
          · rw [if_neg h4, if_neg h5, if_pos rfl]
            by_cases h6 : b < b'
            · rw [if_pos h6]; exact ⟨fun _ => .inr ⟨hc, .inr ⟨rfl, .inr ⟨by omega, h6⟩⟩⟩, fun _ => by decide⟩
            · rw [if_neg h6]
              refine ⟨fun h => ?_, fun h => by rcases h with h | ⟨_, h | ⟨_, h | ⟨_, h⟩⟩⟩ <;> first | omega | cases h⟩
              split at h <;> omega
      · by_cases h4 : Op.bytesLess l m = true
        · rw [if_neg h3, if_pos h4, if_neg (by decide)]; exact ⟨fun _ => .inr ⟨hc, .inl h4⟩, fun _ => by decide⟩
        · rw [if_neg h3, if_neg h4, if_neg (by decide)]
          exact ⟨fun h => absurd h (by decide), fun h => by rcases h with h | ⟨_, h | ⟨h, _⟩⟩ <;> first | omega | exact absurd h h4 | exact absurd h h3⟩
theorem better_irrefl (a b c d e : Int) (z : ByteArray) : ¬ Better a b c d e z a b c d e z := by
  unfold Better
  rw [less_irrefl]
  intro h
  rcases h with h | ⟨_, h | ⟨_, h | ⟨_, h⟩⟩⟩ <;> first | omega | cases h
theorem better_trans (a b c d e : Int) (z : ByteArray) (a' b' c' d' e' : Int) (z' : ByteArray) (x y u v n : Int) (s : ByteArray) (h1 : Better a b c d e z a' b' c' d' e' z') (h2 : Better a' b' c' d' e' z' x y u v n s) : Better a b c d e z x y u v n s := by
  unfold Better at h1 h2 ⊢
  generalize (idOf a b c d e z).data.toList = l at *
  generalize (idOf a' b' c' d' e' z').data.toList = m at *
  generalize (idOf x y u v n s).data.toList = q at *
  rcases h1 with h1 | ⟨h1, k1⟩
  · rcases h2 with h2 | ⟨h2, _⟩
    · exact .inl (by omega)
    · exact .inl (by omega)
  · rcases h2 with h2 | ⟨h2, k2⟩
    · exact .inl (by omega)
    · refine .inr ⟨by omega, ?_⟩
      rcases k1 with k1 | ⟨e1, k1⟩
      · rcases k2 with k2 | ⟨e2, _⟩
        · exact .inl (less_trans _ _ _ k1 k2)
        · rw [← e2]; exact .inl k1
      · rcases k2 with k2 | ⟨e2, k2⟩
        · rw [e1]; exact .inl k2
        · exact .inr ⟨e1.trans e2, by omega⟩
theorem better_asymm (a b c d e : Int) (z : ByteArray) (a' b' c' d' e' : Int) (z' : ByteArray) (h1 : Better a b c d e z a' b' c' d' e' z') (h2 : Better a' b' c' d' e' z' a b c d e z) : False :=
  better_irrefl _ _ _ _ _ _ (better_trans _ _ _ _ _ _ _ _ _ _ _ _ _ _ _ _ _ _ h1 h2)
theorem better_total (a b c d e : Int) (z : ByteArray) (a' b' c' d' e' : Int) (z' : ByteArray) (h : a ≠ a' ∨ b ≠ b') : Better a b c d e z a' b' c' d' e' z' ∨ Better a' b' c' d' e' z' a b c d e z := by
  unfold Better
  generalize (idOf a b c d e z).data.toList = l at *
  generalize (idOf a' b' c' d' e' z').data.toList = m at *
  by_cases hc : c = c'
  · by_cases hl : l = m
    · by_cases ha : a < a' ∨ (a = a' ∧ b < b')
      · exact .inl (.inr ⟨hc, .inr ⟨hl, ha⟩⟩)
      · exact .inr (.inr ⟨hc.symm, .inr ⟨hl.symm, by omega⟩⟩)
    · rcases less_total l m hl with q | q
      · exact .inl (.inr ⟨hc, .inl q⟩)
      · exact .inr (.inr ⟨hc.symm, .inl q⟩)
  · rcases (show c' < c ∨ c < c' by omega) with q | q
    · exact .inl (.inl q)
    · exact .inr (.inl q)
end Go.Proofs.Ytehncbhmdgdkjaa.TxnLaws
namespace Go.Proofs.Ytehncbhmdgdkjaa.HeapPlain
set_option linter.unusedSectionVars false
section
variable {α : Type} (d : α) (B : α → α → Bool)
/-- Two places exchanged. -/
def sw (l : List α) (i k : Nat) : List α := (l.set i (l.getD k d)).set k (l.getD i d)
theorem sw_length (l : List α) (i k : Nat) : (sw d l i k).length = l.length := by simp [sw]
theorem getD_set (l : List α) (i j : Nat) (x : α) (hi : i < l.length) : (l.set i x).getD j d = if j = i then x else l.getD j d := by
  simp only [List.getD_eq_getElem?_getD, List.getElem?_set]
  by_cases h : i = j
  · subst h; simp [hi]
  · simp [h, Ne.symm h]
theorem getD_sw (l : List α) (i k j : Nat) (hi : i < l.length) (hk : k < l.length) : (sw d l i k).getD j d = if j = k then l.getD i d else if j = i then l.getD k d else l.getD j d := by
  unfold sw
  rw [getD_set _ _ _ _ _ (by simpa using hk), getD_set _ _ _ _ _ hi]
theorem sw_perm (l : List α) (i k : Nat) (hi : i < l.length) (hk : k < l.length) : (sw d l i k).Perm l := by
  have := @List.set_set_perm _ l _ _ hi hk
  simp only [sw, List.getD_eq_getElem?_getD, List.getElem?_eq_getElem hi, List.getElem?_eq_getElem hk, Option.getD_some]
  exact this
/-- Brought up, from one place. -/
def up : Nat → List α → Nat → List α
  | 0, l, _ => l
  | m + 1, l, i => if 0 < i ∧ B (l.getD i d) (l.getD ((i - 1) / 2) d) = true then up m (sw d l i ((i - 1) / 2)) ((i - 1) / 2) else l
/-- The better one of the two below. -/
def child (l : List α) (i : Nat) : Nat := if 2 * i + 2 < l.length ∧ B (l.getD (2 * i + 2) d) (l.getD (2 * i + 1) d) = true then 2 * i + 2 else 2 * i + 1
/-- Brought down, from one place. -/
def down : Nat → List α → Nat → List α
  | 0, l, _ => l
  | m + 1, l, i => if child d B l i < l.length ∧ B (l.getD (child d B l i) d) (l.getD i d) = true then down m (sw d l i (child d B l i)) (child d B l i) else l
theorem up_perm : ∀ (m : Nat) (l : List α) (i : Nat), i < l.length → (up d B m l i).Perm l
  | 0, _, _, _ => List.Perm.refl _
  | m + 1, l, i, h => by
    unfold up
    split
    · exact (up_perm m _ _ (by rw [sw_length]; omega)).trans (sw_perm d l i _ h (by omega))
    · exact List.Perm.refl _
theorem down_perm : ∀ (m : Nat) (l : List α) (i : Nat), i < l.length ∨ l = [] → (down d B m l i).Perm l
  | 0, _, _, _ => List.Perm.refl _
  | m + 1, l, i, h => by
    unfold down
    split
    · next hc =>
      rcases h with h | h
      · exact (down_perm m _ _ (.inl (by rw [sw_length]; exact hc.1))).trans (sw_perm d l i _ h hc.1)
      · subst h; exact absurd hc.1 (by simp)
    · exact List.Perm.refl _
/-- None is better than the one above it. -/
def H (l : List α) : Prop := ∀ j, 0 < j → j < l.length → B (l.getD j d) (l.getD ((j - 1) / 2) d) = false
def HU (l : List α) (i : Nat) : Prop := (∀ j, 0 < j → j < l.length → j ≠ i → B (l.getD j d) (l.getD ((j - 1) / 2) d) = false) ∧ (∀ j, 0 < j → j < l.length → (j - 1) / 2 = i → 0 < i → B (l.getD j d) (l.getD ((i - 1) / 2) d) = false)
def HD (l : List α) (i : Nat) : Prop := (∀ j, 0 < j → j < l.length → (j - 1) / 2 ≠ i → B (l.getD j d) (l.getD ((j - 1) / 2) d) = false) ∧ (∀ j, 0 < j → j < l.length → (j - 1) / 2 = i → 0 < i → B (l.getD j d) (l.getD ((i - 1) / 2) d) = false)
variable (asym : ∀ x y, B x y = true → B y x = false) (ntr : ∀ x y z, B x y = false → B y z = false → B x z = false)
include asym ntr
theorem up_heap : ∀ (m : Nat) (l : List α) (i : Nat), i < l.length → i ≤ m → HU d B l i → H d B (up d B m l i)
  | 0, l, i, _, hm, h => fun j h0 h1 => h.1 j h0 h1 (by omega)
  | m + 1, l, i, hi, hm, h => by
    unfold up
    split
    · next hc =>
      obtain ⟨p, hp⟩ : ∃ p, p = (i - 1) / 2 := ⟨_, rfl⟩
      rw [← hp] at hc ⊢
      have hpi : p < i := by omega
      have g := fun j => getD_sw d l i p j hi (by omega)
      refine up_heap m _ _ (by rw [sw_length]; omega) (by omega) ⟨fun j h0 h1 hj => ?_, fun j h0 h1 hj hp0 => ?_⟩
      · rw [sw_length] at h1
        rw [g, g, if_neg hj]
        by_cases e : j = i
        · subst e; rw [← hp, if_pos rfl, if_pos rfl]; exact asym _ _ hc.2
        · rw [if_neg e]
          by_cases e1 : (j - 1) / 2 = p
          · rw [if_pos e1]
            have a := h.1 j h0 h1 e
            rw [e1] at a
            exact ntr _ _ _ a (asym _ _ hc.2)
          · rw [if_neg e1]
            by_cases e2 : (j - 1) / 2 = i
            · rw [if_pos e2]
              have a := h.2 j h0 h1 e2 hc.1
              rwa [← hp] at a
            · rw [if_neg e2]; exact h.1 j h0 h1 e
      · rw [sw_length] at h1
        rw [g, g, if_neg (show j ≠ p by omega), if_neg (show ¬ (p - 1) / 2 = p by omega), if_neg (show ¬ (p - 1) / 2 = i by omega)]
        by_cases e : j = i
        · rw [if_pos e]; exact h.1 p hp0 (by omega) (by omega)
        · rw [if_neg e]
          have a := h.1 j h0 h1 e
          rw [hj] at a
          exact ntr _ _ _ a (h.1 p hp0 (by omega) (by omega))
    · next hc =>
      intro j h0 h1
      by_cases e : j = i
      · subst e
        exact Bool.eq_false_iff.2 (fun q => hc ⟨h0, q⟩)
      · exact h.1 j h0 h1 e
theorem child_is (l : List α) (i j : Nat) (h0 : 0 < j) (h1 : j < l.length) (hj : (j - 1) / 2 = i) : child d B l i < l.length ∧ B (l.getD j d) (l.getD (child d B l i) d) = false := by
  have e : j = 2 * i + 1 ∨ j = 2 * i + 2 := by omega
  have irr : ∀ x, B x x = false := fun x => Bool.eq_false_iff.2 (fun q => by rw [asym x x q] at q; cases q)
  unfold child
  split
  · next hc =>
    refine ⟨hc.1, ?_⟩
    rcases e with e | e
    · rw [e]; exact asym _ _ hc.2
    · rw [e]; exact irr _
  · next hc =>
    refine ⟨by omega, ?_⟩
    rcases e with e | e
    · rw [e]; exact irr _
    · rw [e]; exact Bool.eq_false_iff.2 (fun q => hc ⟨by omega, q⟩)
theorem down_heap : ∀ (m : Nat) (l : List α) (i : Nat), l.length ≤ i + m → HD d B l i → H d B (down d B m l i)
  | 0, l, i, hm, h => fun j h0 h1 => h.1 j h0 h1 (by have h1 : j < l.length := h1; omega)
  | m + 1, l, i, hm, h => by
    unfold down
    have hci : (child d B l i - 1) / 2 = i ∧ i < child d B l i := by unfold child; split <;> omega
    have hch := child_is d B asym ntr l i
    obtain ⟨c, hcd⟩ : ∃ c, c = child d B l i := ⟨_, rfl⟩
    rw [← hcd] at hci hch ⊢
    split
    · next hc =>
      have g := fun j => getD_sw d l i c j (by omega) hc.1
      refine down_heap m _ _ (by rw [sw_length]; omega) ⟨fun j h0 h1 hj => ?_, fun j h0 h1 hj hp0 => ?_⟩
      · rw [sw_length] at h1
        rw [g, g, if_neg hj]
        by_cases e : j = c
        · rw [if_pos e, e, if_pos hci.1]; exact asym _ _ hc.2
        · rw [if_neg e]
          by_cases e1 : j = i
          · rw [if_pos e1, e1, if_neg (show ¬ (i - 1) / 2 = i by omega)]
            exact h.2 c (by omega) hc.1 hci.1 (by omega)
          · rw [if_neg e1]
            by_cases e2 : (j - 1) / 2 = i
            · rw [if_pos e2]; exact (hch j h0 h1 e2).2
            · rw [if_neg e2]; exact h.1 j h0 h1 e2
      · rw [sw_length] at h1
        rw [g, g, hci.1, if_neg (show ¬ i = c by omega), if_pos rfl, if_neg (show ¬ j = c by omega), if_neg (show ¬ j = i by omega)]
        have a := h.1 j h0 h1 (by omega)
        rwa [hj] at a
    · next hc =>
      intro j h0 h1
      by_cases e : (j - 1) / 2 = i
      · obtain ⟨c1, c2⟩ := hch j h0 h1 e
        rw [e]
        exact ntr _ _ _ c2 (Bool.eq_false_iff.2 (fun q => hc ⟨c1, q⟩))
      · exact h.1 j h0 h1 e
/-- The first one is the best one. -/
theorem first_best (l : List α) (h : H d B l) : ∀ (n j : Nat), j < n → j < l.length → B (l.getD j d) (l.getD 0 d) = false
  | 0, j, hn, _ => absurd hn (by omega)
  | n + 1, j, hn, hj => by
    have irr : ∀ x, B x x = false := fun x => Bool.eq_false_iff.2 (fun q => by rw [asym x x q] at q; cases q)
    by_cases e : j = 0
    · subst e; exact irr _
    · exact ntr _ _ _ (h j (by omega) hj) (first_best l h n ((j - 1) / 2) (by omega) (by omega))
/-- One more. -/
def push (l : List α) (t : α) : List α := up d B (l.length + 1) (l ++ [t]) l.length
/-- One less. -/
def pop (l : List α) : List α := down d B (l.length + 1) ((l.set 0 (l.getD (l.length - 1) d)).take (l.length - 1)) 0
omit asym ntr in
theorem push_perm (l : List α) (t : α) : (push d B l t).Perm (t :: l) :=
  (up_perm d B _ _ _ (by simp)).trans List.perm_append_comm
omit asym ntr in
theorem pop_perm (x : α) (l : List α) : (pop d B (x :: l)).Perm l := by
  refine (down_perm d B _ _ _ ?_).trans ?_
  · cases l with
    | nil => right; rfl
    | cons y l => left; simp
  · cases l with
    | nil => exact List.Perm.refl _
    | cons y l =>
      have e : (y :: l) = (y :: l).dropLast ++ [(y :: l).getLast (by simp)] := (List.dropLast_concat_getLast (by simp)).symm
      have e2 : ((x :: y :: l).set 0 ((x :: y :: l).getD ((x :: y :: l).length - 1) d)).take ((x :: y :: l).length - 1) = (y :: l).getLast (by simp) :: (y :: l).dropLast := by
        rw [List.set_cons_zero, show (x :: y :: l).length - 1 = l.length + 1 from rfl, List.take_succ_cons, List.dropLast_eq_take]
        congr 1
        rw [List.getLast_eq_getElem, List.getD_eq_getElem?_getD, List.getElem?_cons_succ, List.getElem?_eq_getElem (show l.length < (y :: l).length by simp)]
        rfl
      rw [e2]
      conv => rhs; rw [e]
      exact (List.perm_append_comm (l₁ := [(y :: l).getLast (by simp)]) (l₂ := (y :: l).dropLast))
theorem push_heap (l : List α) (t : α) (h : H d B l) : H d B (push d B l t) := by
  refine up_heap d B asym ntr _ _ _ (by simp) (Nat.le_succ _) ⟨fun j h0 h1 hj => ?_, fun j h0 h1 hj _ => ?_⟩
  · rw [List.length_append, List.length_singleton] at h1
    have g : ∀ q, q < l.length → (l ++ [t]).getD q d = l.getD q d := fun q hq => by
      rw [List.getD_eq_getElem?_getD, List.getD_eq_getElem?_getD, List.getElem?_append_left hq]
    rw [g _ (by omega), g _ (by omega)]
    exact h j h0 (by omega)
  · rw [List.length_append, List.length_singleton] at h1; omega
theorem pop_heap (l : List α) (h : H d B l) : H d B (pop d B l) := by
  refine down_heap d B asym ntr _ _ _ (by simp; omega) ⟨fun j h0 h1 hj => ?_, fun j h0 h1 hj h2 => absurd h2 (by omega)⟩
  rw [List.length_take, List.length_set] at h1
  have g : ∀ q, 0 < q → q < l.length - 1 → ((l.set 0 (l.getD (l.length - 1) d)).take (l.length - 1)).getD q d = l.getD q d := fun q hq hq1 => by
    rw [List.getD_eq_getElem?_getD, List.getD_eq_getElem?_getD, List.getElem?_take, if_pos hq1, List.getElem?_set_ne (by omega), ← List.getD_eq_getElem?_getD]
  rw [g _ h0 (by omega), g _ (by omega) (by omega)]
  exact h j h0 (by omega)
/-- All, one behind the other, a heap that is pushed. -/
def make (l : List α) : List α := l.foldl (push d B) []
omit asym ntr in
theorem fold_perm : ∀ (l a : List α), (l.foldl (push d B) a).Perm (a ++ l)
  | [], a => by simp
  | x :: l, a => by
    rw [List.foldl_cons]
    refine (fold_perm l _).trans ((List.Perm.append_right l (push_perm d B a x)).trans ?_)
    exact (List.perm_middle (a := x) (l₁ := a) (l₂ := l)).symm
omit asym ntr in
theorem make_perm (l : List α) : (make d B l).Perm l := (fold_perm d B l []).trans (by simp)
theorem fold_heap : ∀ (l a : List α), H d B a → H d B (l.foldl (push d B) a)
  | [], _, h => h
  | x :: l, a, h => fold_heap l _ (push_heap d B asym ntr a x h)
theorem make_heap (l : List α) : H d B (make d B l) := fold_heap d B asym ntr l [] (fun j _ h => absurd h (by simp))
/-- Popped until nothing is left. -/
def order : Nat → List α → List α
  | 0, _ => []
  | _ + 1, [] => []
  | m + 1, x :: l => x :: order m (pop d B (x :: l))
omit asym ntr in
theorem order_perm : ∀ (m : Nat) (l : List α), l.length ≤ m → (order d B m l).Perm l
  | 0, [], _ => List.Perm.refl _
  | 0, _ :: _, h => absurd h (by simp)
  | _ + 1, [], _ => List.Perm.refl _
  | m + 1, x :: l, h => by
    have q := pop_perm d B x l
    exact List.Perm.cons x ((order_perm m _ (by rw [q.length_eq]; simpa using h)).trans q)
theorem order_sorted : ∀ (m : Nat) (l : List α), l.length ≤ m → H d B l → (order d B m l).Pairwise (fun x y => B y x = false)
  | 0, _, _, _ => List.Pairwise.nil
  | _ + 1, [], _, _ => List.Pairwise.nil
  | m + 1, x :: l, h, hh => by
    have q := pop_perm d B x l
    have hl : (pop d B (x :: l)).length ≤ m := by rw [q.length_eq]; simpa using h
    refine List.Pairwise.cons (fun y hy => ?_) (order_sorted m _ hl (pop_heap d B asym ntr _ hh))
    have hy' : y ∈ l := q.mem_iff.1 ((order_perm d B m _ hl).mem_iff.1 hy)
    obtain ⟨j, hj, e⟩ := List.getElem_of_mem hy'
    have := first_best d B asym ntr (x :: l) hh (j + 2) (j + 1) (by omega) (by simpa using hj)
    rw [List.getD_eq_getElem?_getD, List.getElem?_cons_succ, List.getElem?_eq_getElem hj, Option.getD_some, e] at this
    exact this
end
end Go.Proofs.Ytehncbhmdgdkjaa.HeapPlain
namespace Go.Proofs.Ytehncbhmdgdkjaa.HeapLaws
open Go.RowKit Go.Proofs.Ytehncbhmdgdkjaa.L Go.Proofs.Ytehncbhmdgdkjaa.TxnCodec Go.Proofs.Ytehncbhmdgdkjaa.TxnLaws Go.Proofs.Ytehncbhmdgdkjaa.HeapPlain Go.Proofs.YtehncbhmdgdkjaaW.PrintWords Go.Proofs.YtehncbhmdgdkjaaW.PrintLast
abbrev Tx := S24
abbrev d : Tx := z24
/-- Is the one better than the other? -/
def B (x y : Tx) : Bool := decide (Better x.f0 x.f1 x.f2 x.f3 x.f4 x.f5 y.f0 y.f1 y.f2 y.f3 y.f4 y.f5)
theorem asym (x y : Tx) (h : B x y = true) : B y x = false := decide_eq_false (fun q => better_asymm _ _ _ _ _ _ _ _ _ _ _ _ (of_decide_eq_true h) q)
theorem ntr (x y z : Tx) (h1 : B x y = false) (h2 : B y z = false) : B x z = false := by
  have h1 := of_decide_eq_false h1
  have h2 := of_decide_eq_false h2
  refine decide_eq_false (fun h => ?_)
  unfold Better at h h1 h2
  generalize (idOf x.f0 x.f1 x.f2 x.f3 x.f4 x.f5).data.toList = l at *
  generalize (idOf y.f0 y.f1 y.f2 y.f3 y.f4 y.f5).data.toList = m at *
  generalize (idOf z.f0 z.f1 z.f2 z.f3 z.f4 z.f5).data.toList = q at *
  have a1 : ¬ y.f2 < x.f2 := fun k => h1 (.inl k)
  have a2 : ¬ z.f2 < y.f2 := fun k => h2 (.inl k)
  rcases h with h | ⟨h, k⟩
  · omega
  · have e1 : x.f2 = y.f2 := by omega
    have e2 : y.f2 = z.f2 := by omega
    have b1 : ¬ Op.bytesLess l m = true := fun k => h1 (.inr ⟨e1, .inl k⟩)
    have b2 : ¬ Op.bytesLess m q = true := fun k => h2 (.inr ⟨e2, .inl k⟩)
    have t1 : l = m ∨ Op.bytesLess m l = true := by
      by_cases e : l = m
      · exact .inl e
      · exact (less_total l m e).elim (fun k => absurd k b1) .inr
    have t2 : m = q ∨ Op.bytesLess q m = true := by
      by_cases e : m = q
      · exact .inl e
      · exact (less_total m q e).elim (fun k => absurd k b2) .inr
    have lq : ¬ Op.bytesLess q l = true → l = m ∧ m = q := fun nq => by
      rcases t1 with t1 | t1
      · rcases t2 with t2 | t2
        · exact ⟨t1, t2⟩
        · rw [t1] at nq; exact absurd t2 nq
      · rcases t2 with t2 | t2
        · rw [← t2] at nq; exact absurd t1 nq
        · exact absurd (less_trans _ _ _ t2 t1) nq
    have nq : ¬ Op.bytesLess q l = true := fun k2 => by
      rcases k with k | ⟨e, k⟩
      · have := less_trans _ _ _ k k2
        rw [less_irrefl] at this; cases this
      · rw [e, less_irrefl] at k2; cases k2
    obtain ⟨e3, e4⟩ := lq nq
    have c1 : ¬ (x.f0 < y.f0 ∨ (x.f0 = y.f0 ∧ x.f1 < y.f1)) := fun k => h1 (.inr ⟨e1, .inr ⟨e3, k⟩⟩)
    have c2 : ¬ (y.f0 < z.f0 ∨ (y.f0 = z.f0 ∧ y.f1 < z.f1)) := fun k => h2 (.inr ⟨e2, .inr ⟨e4, k⟩⟩)
    rcases k with k | ⟨_, k⟩
    · rw [e3, e4, less_irrefl] at k; cases k
    · omega
theorem bt (x y : Tx) : bt_ x y = some (B x y) := better _ _ _ _ _ _ _ _ _ _ _ _ _ (by omega)
theorem upL_eq : ∀ (m : Nat) (l : List Tx) (i : Nat), i ≤ m → upL (m + 1) l (i : Int) = some (HeapPlain.up d B m l i)
  | 0, l, i, h => by
    obtain rfl : i = 0 := by omega
    unfold upL HeapPlain.up
    rw [if_pos (show ((0 : Nat) : Int) = 0 from rfl)]
  | m + 1, l, i, h => by
    unfold upL HeapPlain.up
    by_cases h0 : i = 0
    · subst h0
      rw [if_pos (show ((0 : Nat) : Int) = 0 from rfl), if_neg (fun q => absurd q.1 (by omega))]
    · have e : ((i : Int) - 1) / 2 = (((i - 1) / 2 : Nat) : Int) := by omega
      rw [if_neg (by omega), e, bt, Option.bind_some]
      by_cases hb : B (l.getD i d) (l.getD ((i - 1) / 2) d) = true
      · rw [if_pos (show B (rd_T24 l (i : Int)) (rd_T24 l (((i - 1) / 2 : Nat) : Int)) = true from hb), if_pos ⟨by omega, hb⟩]
        exact upL_eq m _ _ (by omega)
      · rw [if_neg (show ¬ B (rd_T24 l (i : Int)) (rd_T24 l (((i - 1) / 2 : Nat) : Int)) = true from hb), if_neg (fun q => hb q.2)]
theorem downL_eq : ∀ (m : Nat) (l : List Tx) (i : Nat), l.length ≤ i + m → downL (m + 1) l (i : Int) = some (down d B m l i)
  | 0, l, i, h => by
    unfold downL down
    rw [if_neg (by omega), Option.bind_some, if_neg (by decide), if_neg (by omega)]
  | m + 1, l, i, h => by
    unfold downL down
    have e2 : 2 * (i : Int) + 1 + 1 = ((2 * i + 2 : Nat) : Int) := by omega
    have e1 : 2 * (i : Int) + 1 = ((2 * i + 1 : Nat) : Int) := by omega
    rw [e2, e1]
    by_cases hc : 2 * i + 2 < l.length ∧ B (l.getD (2 * i + 2) d) (l.getD (2 * i + 1) d) = true
    · have hch : child d B l i = 2 * i + 2 := by unfold child; rw [if_pos hc]
      rw [hch, if_pos (show ((2 * i + 2 : Nat) : Int) < (l.length : Int) by have := hc.1; omega), bt]
      rw [show B (rd_T24 l ((2 * i + 2 : Nat) : Int)) (rd_T24 l ((2 * i + 1 : Nat) : Int)) = true from hc.2, Option.bind_some, if_pos rfl, bt, Option.bind_some]
      by_cases hb : B (l.getD (2 * i + 2) d) (l.getD i d) = true
      · rw [if_pos (show B (rd_T24 l ((2 * i + 2 : Nat) : Int)) (rd_T24 l (i : Int)) = true from hb), if_pos ⟨hc.1, hb⟩]
        exact downL_eq m _ _ (by rw [swapL_length]; omega)
      · rw [if_neg (show ¬ B (rd_T24 l ((2 * i + 2 : Nat) : Int)) (rd_T24 l (i : Int)) = true from hb), if_neg (fun q => hb q.2)]
    · have hch : child d B l i = 2 * i + 1 := by unfold child; rw [if_neg hc]
      have hf : (if ((2 * i + 2 : Nat) : Int) < (l.length : Int) then bt_ (rd_T24 l ((2 * i + 2 : Nat) : Int)) (rd_T24 l ((2 * i + 1 : Nat) : Int)) else some false) = some false := by
        split
        · next h2 =>
          rw [bt]
          exact congrArg some (Bool.eq_false_iff.2 (fun q => hc ⟨by omega, q⟩))
        · rfl
      rw [hch, hf, Option.bind_some, if_neg (by decide)]
      by_cases h1 : 2 * i + 1 < l.length
      · rw [if_pos (by omega), bt, Option.bind_some]
        by_cases hb : B (l.getD (2 * i + 1) d) (l.getD i d) = true
        · rw [if_pos (show B (rd_T24 l ((2 * i + 1 : Nat) : Int)) (rd_T24 l (i : Int)) = true from hb), if_pos ⟨h1, hb⟩]
          exact downL_eq m _ _ (by rw [swapL_length]; omega)
        · rw [if_neg (show ¬ B (rd_T24 l ((2 * i + 1 : Nat) : Int)) (rd_T24 l (i : Int)) = true from hb), if_neg (fun q => hb q.2)]
      · rw [if_neg (by omega), if_neg (fun q => h1 q.1)]
theorem push_eq (l : List Tx) (t : Tx) (h : l.length ≤ 1000) : heap_Push.f l t.f0 t.f1 t.f2 t.f3 t.f4 t.f5 = some (push d B l t) := by
  unfold heap_Push.f
  rw [if_pos (by omega)]
  exact upL_eq (l.length + 1) _ _ (by omega)
theorem pop_nil : heap_Pop.f [] = some ([], 0, 0, 0, 0, 0, ⟨#[]⟩, false) := rfl
theorem pop_cons (x : Tx) (l : List Tx) (h : l.length ≤ 1000) : heap_Pop.f (x :: l) = some (pop d B (x :: l), x.f0, x.f1, x.f2, x.f3, x.f4, x.f5, true) := by
  unfold heap_Pop.f
  have e : (((x :: l).length : Nat) : Int) - 1 = (((x :: l).length - 1 : Nat) : Int) := by simp
  rw [if_neg (by simp), if_pos (by simp; omega), e]
  have q := downL_eq ((x :: l).length + 1) (((x :: l).set 0 ((x :: l).getD ((x :: l).length - 1) d)).take ((x :: l).length - 1)) 0 (by simp; omega)
  rw [show downL ((x :: l).length + 2) (((x :: l).set 0 (rd_T24 (x :: l) (((x :: l).length - 1 : Nat) : Int))).take ((x :: l).length - 1)) 0 = _ from q, Option.bind_some]
  rfl
theorem make_from (k : Nat) : ∀ (n i : Nat) (l a : List Tx), n = l.length - i → i ≤ l.length → a.length + n ≤ 1000 → l.length ≤ 1000 → heap_Make.l0 (k + n + 1) a l (l.length : Int) (i : Int) = some ((l.drop i).foldl (push d B) a)
  | 0, i, l, a, hn, hi, ha, hl => by
    unfold heap_Make.l0
    rw [if_neg (by omega), List.drop_eq_nil_of_le (by omega)]
    rfl
  | n + 1, i, l, a, hn, hi, ha, hl => by
    unfold heap_Make.l0
    have hp := push_eq a (l.getD i d) (by omega)
    have hw : wrap64 ((i : Int) + 1) = ((i + 1 : Nat) : Int) := by unfold wrap64; omega
    have hlen : (push d B a (l.getD i d)).length = a.length + 1 := (push_perm d B a _).length_eq
    rw [if_pos (by omega), if_pos (by omega), if_pos (by omega)]
    rw [show heap_Push.f a ((rd_T24 l (i : Int)).f0) ((rd_T24 l (i : Int)).f1) ((rd_T24 l (i : Int)).f2) ((rd_T24 l (i : Int)).f3) ((rd_T24 l (i : Int)).f4) ((rd_T24 l (i : Int)).f5) = _ from hp, Option.bind_some, hw, show k + (n + 1) = k + n + 1 from rfl, make_from k n (i + 1) l _ (by omega) (by omega) (by rw [hlen]; omega) hl]
    rw [List.drop_eq_getElem_cons (show i < l.length by omega), List.foldl_cons]
    simp only [List.getD_eq_getElem?_getD, List.getElem?_eq_getElem (show i < l.length by omega), Option.getD_some]
theorem make_eq (k : Nat) (l : List Tx) (h : l.length ≤ 1000) (hk : l.length + 1 ≤ k) : heap_Make.f k l = some (make d B l) := by
  have := make_from (k - (l.length + 1)) l.length 0 l [] (by omega) (by omega) (by simpa using h) h
  rw [show k - (l.length + 1) + l.length + 1 = k by omega] at this
  exact this
theorem orderL_eq : ∀ (m : Nat) (h acc : List Tx), h.length ≤ m → acc.length + h.length ≤ 1000 → orderL (m + 1) h acc = some (acc ++ order d B m h)
  | m, [], acc, hm, hl => by
    unfold orderL
    rw [pop_nil, Option.bind_some, if_neg (by decide)]
    cases m <;> simp [order]
  | 0, _ :: _, _, hm, _ => absurd hm (by simp)
  | m + 1, x :: h, acc, hm, hl => by
    have q := (pop_perm d B x h).length_eq
    rw [List.length_cons] at hm hl
    unfold orderL
    rw [pop_cons x h (by omega), Option.bind_some, if_pos rfl, if_pos (by omega)]
    rw [orderL_eq m (pop d B (x :: h)) _ (by omega) (by rw [List.length_append, List.length_singleton]; omega), List.append_assoc]
    rfl
theorem order_eq (l : List Tx) (h : l.length ≤ 1000) : heap_Order.f l = some (order d B (l.length + 1) (make d B l)) := by
  unfold heap_Order.f
  have q := (make_perm d B l).length_eq
  rw [make_eq _ l h (by omega), Option.bind_some, orderL_eq _ _ _ (by omega) (by rw [q]; simpa using h), q]
  rfl
instance (l : List Tx) : Decidable (H d B l) := by
  unfold H
  exact decidable_of_iff (∀ j, j < l.length → 0 < j → B (l.getD j d) (l.getD ((j - 1) / 2) d) = false) ⟨fun h j a b => h j b a, fun h j a b => h j b a⟩
end Go.Proofs.Ytehncbhmdgdkjaa.HeapLaws
namespace Go.Proofs.Ytehncbhmdgdkjaa.HeapLaws
open Go.RowKit Go.Proofs.Ytehncbhmdgdkjaa.L Go.Proofs.Ytehncbhmdgdkjaa.TxnCodec Go.Proofs.Ytehncbhmdgdkjaa.TxnLaws Go.Proofs.Ytehncbhmdgdkjaa.HeapPlain Go.Proofs.YtehncbhmdgdkjaaW.PrintWords Go.Proofs.YtehncbhmdgdkjaaW.PrintLast
theorem irr (x : Tx) : B x x = false := Bool.eq_false_iff.2 (fun q => by rw [asym x x q] at q; cases q)
theorem step_ (i : Nat) (h : i < 9223372036854775807) : wrap64 ((i : Int) + 1) = ((i + 1 : Nat) : Int) := by unfold wrap64; omega
theorem back_ (i : Nat) (h0 : 0 < i) (h : i ≤ 1000) : wrap64 ((i : Int) - 1) = ((i - 1 : Nat) : Int) := by unfold wrap64; omega
theorem par_ (i : Nat) (h0 : 0 < i) (h1 : i ≤ 1000) : wrap64 (Int.tdiv (wrap64 ((i : Int) - 1)) 2) = (((i - 1) / 2 : Nat) : Int) := by
  rw [back_ i h0 h1, Int.tdiv_eq_ediv_of_nonneg (by omega)]
  unfold wrap64; omega
theorem btk (k : Nat) (hk : 5 ≤ k) (x y : Tx) : txn_Better.f k x.f0 x.f1 x.f2 x.f3 x.f4 x.f5 y.f0 y.f1 y.f2 y.f3 y.f4 y.f5 = some (B x y) := better _ _ _ _ _ _ _ _ _ _ _ _ _ hk
theorem check_from (k : Nat) (hk : 5 ≤ k) : ∀ (n i : Nat) (l : List Tx), n = l.length - i → i ≤ l.length → l.length ≤ 1000 → (∀ j, 0 < j → j < i → B (l.getD j d) (l.getD ((j - 1) / 2) d) = false) → heap_Check.l0 (k + n + 1) l (l.length : Int) (i : Int) = some (decide (H d B l))
  | 0, i, l, hn, hi, hl, h => by
    unfold heap_Check.l0
    rw [if_neg (by omega), decide_eq_true (show H d B l from fun j h0 h1 => h j h0 (by omega))]
  | n + 1, i, l, hn, hi, hl, h => by
    unfold heap_Check.l0
    rw [if_pos (by omega), step_ i (by omega), show k + (n + 1) = k + n + 1 from rfl]
    by_cases h0 : 0 < i
    · rw [if_pos (by omega), if_pos (by omega), if_pos (by omega), par_ i h0 (by omega), if_pos (by omega), if_pos (by omega)]
      rw [btk (k + n + 1) (by omega) (rd_T24 l (i : Int)) (rd_T24 l (((i - 1) / 2 : Nat) : Int)), Option.bind_some]
      by_cases hb : B (rd_T24 l (i : Int)) (rd_T24 l (((i - 1) / 2 : Nat) : Int)) = true
      · rw [if_pos hb, decide_eq_false]
        intro q
        exact absurd (show B (l.getD i d) (l.getD ((i - 1) / 2) d) = true from hb) (by rw [q i h0 (by omega)]; decide)
      · rw [if_neg hb]
        refine check_from k hk n (i + 1) l (by omega) (by omega) hl (fun j a b => ?_)
        by_cases e : j = i
        · subst e; exact Bool.eq_false_iff.2 hb
        · exact h j a (by omega)
    · rw [if_neg (by omega)]
      exact check_from k hk n (i + 1) l (by omega) (by omega) hl (fun j a b => absurd b (by omega))
theorem check_eq (k : Nat) (l : List Tx) (h : l.length ≤ 1000) (hk : l.length + 6 ≤ k) : heap_Check.f k l = some (decide (H d B l)) := by
  have := check_from (k - (l.length + 1)) (by omega) l.length 0 l (by omega) (by omega) h (fun j _ b => absurd b (by omega))
  rw [show k - (l.length + 1) + l.length + 1 = k by omega] at this
  exact this
/-- The worst one's place. -/
def Wst (l : List Tx) (v : Nat) : Prop := (l = [] → v = 0) ∧ (l ≠ [] → v < l.length) ∧ (∀ j, j < l.length → B (l.getD v d) (l.getD j d) = false) ∧ (∀ j, j < v → B (l.getD j d) (l.getD v d) = true)
theorem worst_from (k : Nat) (hk : 5 ≤ k) : ∀ (n i w : Nat) (l : List Tx), n = l.length - i → i ≤ l.length → l.length ≤ 1000 → (l = [] → w = 0) → (l ≠ [] → w < l.length) → (∀ j, j < i → B (l.getD w d) (l.getD j d) = false) → (∀ j, j < w → B (l.getD j d) (l.getD w d) = true) → ∃ v : Nat, heap_Worst.l0 (k + n + 1) l (w : Int) (l.length : Int) (i : Int) = some ((v : Int), decide ((l.length : Int) > 0)) ∧ Wst l v
  | 0, i, w, l, hn, hi, hl, h1, h2, h3, h4 => by
    unfold heap_Worst.l0
    rw [if_neg (by omega)]
    exact ⟨w, rfl, h1, h2, fun j hj => h3 j (by omega), h4⟩
  | n + 1, i, w, l, hn, hi, hl, h1, h2, h3, h4 => by
    have hne : l ≠ [] := fun q => by subst q; simp at hn
    have hw := h2 hne
    unfold heap_Worst.l0
    rw [if_pos (by omega), if_pos (by omega), if_pos (by omega), if_pos (by omega), if_pos (by omega), step_ i (by omega), show k + (n + 1) = k + n + 1 from rfl]
    rw [btk (k + n + 1) (by omega) (rd_T24 l (w : Int)) (rd_T24 l (i : Int)), Option.bind_some]
    by_cases hb : B (l.getD w d) (l.getD i d) = true
    · rw [if_pos (show B (rd_T24 l (w : Int)) (rd_T24 l (i : Int)) = true from hb)]
      refine worst_from k hk n (i + 1) i l (by omega) (by omega) hl (fun q => absurd q hne) (fun _ => by omega) (fun j hj => ?_) (fun j hj => ?_)
      · by_cases e : j = i
        · subst e; exact irr _
        · exact ntr _ _ _ (asym _ _ hb) (h3 j (by omega))
      · cases hx : B (l.getD j d) (l.getD i d) with
        | true => rfl
        | false => rw [ntr _ _ _ (h3 j hj) hx] at hb; cases hb
    · rw [if_neg (show ¬ B (rd_T24 l (w : Int)) (rd_T24 l (i : Int)) = true from hb)]
      refine worst_from k hk n (i + 1) w l (by omega) (by omega) hl h1 h2 (fun j hj => ?_) h4
      by_cases e : j = i
      · subst e; exact Bool.eq_false_iff.2 hb
      · exact h3 j (by omega)
theorem worst_eq (k : Nat) (l : List Tx) (h : l.length ≤ 1000) (hk : l.length + 6 ≤ k) : ∃ v : Nat, heap_Worst.f k l = some ((v : Int), decide ((l.length : Int) > 0)) ∧ Wst l v := by
  have := worst_from (k - (l.length + 1)) (by omega) l.length 0 0 l (by omega) (by omega) h (fun _ => rfl) (fun q => List.length_pos_iff.2 q) (fun j b => absurd b (by omega)) (fun j b => absurd b (by omega))
  rw [show k - (l.length + 1) + l.length + 1 = k by omega] at this
  exact this
/-- Are the two the same? -/
def same (t x : Tx) : Bool := x.f0 == t.f0 && (x.f1 == t.f1 && (x.f2 == t.f2 && (x.f3 == t.f3 && (x.f4 == t.f4 && (x.f5.toList == t.f5.toList)))))
theorem same_refl (t : Tx) : same t t = true := by simp [same]
theorem bytes_list (s t : ByteArray) (h : s.toList = t.toList) : s = t := by
  have e : ∀ b : ByteArray, b.toList = b.data.toList := fun b => by rw [ByteArray.toList_eq]
  rw [e, e] at h
  exact ByteArray.ext (Array.toList_inj.1 h)
theorem same_iff (t x : Tx) : same t x = true ↔ x = t := by
  constructor
  · intro h
    simp only [same, Bool.and_eq_true, beq_iff_eq] at h
    obtain ⟨a, b, c, e, f, g⟩ := h
    cases x; cases t
    simp only at a b c e f g
    rw [a, b, c, e, f, bytes_list _ _ g]
  · rintro rfl; exact same_refl _
/-- How often it is there. -/
def cnt (l : List Tx) (t : Tx) : Nat := l.countP (same t)
theorem cnt_perm (x : Tx) {l m : List Tx} (h : l.Perm m) : cnt l x = cnt m x := h.countP_eq _
theorem cnt_cons (t x : Tx) (l : List Tx) : cnt (t :: l) x = cnt l x + (if same x t = true then 1 else 0) := List.countP_cons
theorem cnt_le (l : List Tx) (x : Tx) : cnt l x ≤ l.length := List.countP_le_length
theorem same_comm (x y : Tx) : same x y = same y x := by
  cases h : same y x with
  | true => rw [(same_iff y x).1 h]; exact same_refl y
  | false =>
    cases h2 : same x y with
    | false => rfl
    | true => rw [(same_iff x y).1 h2, same_refl] at h; cases h
theorem few_from (k : Nat) (m : Int) : ∀ (n i : Nat) (l : List Tx), n = l.length - i → i ≤ l.length → l.length ≤ 9223372036854775807 → ∃ b, hopperref04_Few.l0 (k + n + 1) l m (i : Int) = some b ∧ (b = true → (l.length : Int) ≤ m)
  | 0, i, l, hn, hi, hl => by
    unfold hopperref04_Few.l0
    rw [if_neg (by omega)]
    exact ⟨_, rfl, of_decide_eq_true⟩
  | n + 1, i, l, hn, hi, hl => by
    unfold hopperref04_Few.l0 hopperref04_Small.f
    rw [if_pos (by omega), if_pos (by omega), step_ i (by omega), Option.bind_some]
    split
    · exact few_from k m n (i + 1) l (by omega) (by omega) hl
    · exact ⟨false, rfl, fun q => by cases q⟩
theorem few_eq (k : Nat) (m : Int) (l : List Tx) (h : l.length ≤ 9223372036854775807) (hk : l.length + 1 ≤ k) : ∃ b, hopperref04_Few.f k l m = some b ∧ (b = true → (l.length : Int) ≤ m) := by
  have := few_from (k - (l.length + 1)) m l.length 0 l (by omega) (by omega) h
  rw [show k - (l.length + 1) + l.length + 1 = k by omega] at this
  exact this
end Go.Proofs.Ytehncbhmdgdkjaa.HeapLaws
namespace Go.Proofs.Ytehncbhmdgdkjaa.HeapLaws
open Go.RowKit Go.Proofs.Ytehncbhmdgdkjaa.L Go.Proofs.YtehncbhmdgdkjaaW.PrintWords Go.Proofs.YtehncbhmdgdkjaaW.PrintLast
theorem liveK : hopperlaw06_live.f 40 = some true := by decide +kernel
theorem live (k : Nat) (h : 40 ≤ k) : hopperlaw06_live.f k = some true := at_rounds hopperlaw06_live.mono h liveK
end Go.Proofs.Ytehncbhmdgdkjaa.HeapLaws
