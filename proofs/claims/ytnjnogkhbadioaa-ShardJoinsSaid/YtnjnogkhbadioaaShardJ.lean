/- Plain facts, of my own wider texts, that the heaps' laws need. -/
import Derived.Test.YtnjnogkhbadioaaDx4
import Derived.Test.YtnjnogkhbadioaaDx4
import Derived.Test.YtnjnogkhbadioaaDx3
import Derived.Test.YtnjnogkhbadioaaDx4
import Derived.Test.YtnjnogkhbadioaaDx4
import Derived.Test.YtnjnogkhbadioaaDx4
import Derived.Test.YtnjnogkhbadioaaDx5
import Derived.Test.YtnjnogkhbadioaaShardLaws
import Derived.Test.YtnjnogkhbadioaaDx16
import Derived.Test.YtnjnogkhbadioaaDx2
import Derived.Test.YtnjnogkhbadioaaDx7
import Derived.Test.YtnjnogkhbadioaaDx11
import Derived.Test.YtnjnogkhbadioaaDx11
import Derived.Test.YtnjnogkhbadioaaDx11
import Derived.Test.YtnjnogkhbadioaaDx11
import Derived.Test.YtnjnogkhbadioaaDx11
import Derived.Test.YtnjnogkhbadioaaDx11
import Derived.Test.YtnjnogkhbadioaaDx12
import Derived.Test.YtnjnogkhbadioaaDx12
import Derived.Test.YtnjnogkhbadioaaDx5
import Derived.Test.YtnjnogkhbadioaaDx3
import Derived.Test.YtnjnogkhbadioaaDx5
import Derived.Test.YtnjnogkhbadioaaDx17
import Derived.Test.YtnjnogkhbadioaaDx16
import Derived.Test.YtnjnogkhbadioaaDx16
namespace Go.Proofs.Ytnjnogkhbadioaa.TxnCodec
set_option linter.unusedSimpArgs false
set_option linter.unusedVariables false
open Go.Proofs.Ytnjnogkhbadioaa.D Go.Proofs.YtnjnogkhbadioaaW.PrintLast Go.Proofs.YtnjnogkhbadioaaW.PrintWords Go.RowKit
/-- Numbers that are bytes. -/
def Bytes (l : List Int) : Prop := ∀ x ∈ l, 0 ≤ x ∧ x < 256
theorem bytes_str (l : List Int) (h : Bytes l) : bytesOf (strOfNums l) = l := by
  unfold bytesOf strOfNums
  simp only [List.toList_toArray, List.map_map]
  conv => rhs; rw [← List.map_id l]
  apply List.map_congr_left
  intro x hx
  have := h x hx
  simp only [Function.comp, id]
  rw [UInt8.toNat_ofNat']
  omega
theorem bytes_append (s t : ByteArray) : bytesOf (s ++ t) = bytesOf s ++ bytesOf t := by
  unfold bytesOf
  rw [ByteArray.data_append, Array.toList_append, List.map_append]
theorem str_size (l : List Int) : (strOfNums l).size = l.length := by simp [strOfNums, ByteArray.size]
/-- The digits of 256, by the last one. -/
def dg : Nat → Nat → List Int
  | 0, x => [((x % 256 : Nat) : Int)]
  | m + 1, x => if x / 256 = 0 then [((x % 256 : Nat) : Int)] else dg m (x / 256) ++ [((x % 256 : Nat) : Int)]
theorem dg_eq (m : Nat) : ∀ x, (List.range (more256 m x + 1)).map (fun j => ((x / 256 ^ (more256 m x - j) % 256 : Nat) : Int)) = dg m x := by
  induction m with
  | zero => intro x; simp [more256, dg]
  | succ m ih =>
    intro x
    unfold more256 dg
    by_cases h : x / 256 = 0
    · rw [if_pos h, if_pos h]; simp
    · rw [if_neg h, if_neg h, List.range_succ, List.map_append, ← ih (x / 256)]
      congr 1
      · apply List.map_congr_left
        intro j hj
        have hj' := List.mem_range.1 hj
        rw [Nat.div_div_eq_div_mul, ← Nat.pow_succ', show (more256 m (x / 256) - j).succ = more256 m (x / 256) + 1 - j by omega]
      · simp
theorem dg_len (m : Nat) (x : Nat) : (dg m x).length = more256 m x + 1 := by rw [← dg_eq]; simp
theorem numL_eq (x : Nat) : numL x = ((dg 8 x).length : Int) :: dg 8 x := by
  unfold numL
  rw [dg_eq, dg_len]
theorem more_le7 (x : Nat) (h : x < 9223372036854775808) : more256 8 x ≤ 7 := by
  have step : ∀ m c x : Nat, x < 256 ^ (c + 1) → more256 m x ≤ c := by
    intro m
    induction m with
    | zero => intro c x _; unfold more256; omega
    | succ m ih =>
      intro c x hx
      unfold more256
      split
      · omega
      · cases c with
        | zero => exfalso; simp at hx; omega
        | succ c => have := ih c (x / 256) (by rw [Nat.pow_succ] at hx; omega); omega
  exact step 8 7 x (by omega)
theorem dg_len8 (x : Nat) (h : x < 9223372036854775808) : 1 ≤ (dg 8 x).length ∧ (dg 8 x).length ≤ 8 := by
  rw [dg_len]; have := more_le7 x h; omega
/-- A number's bytes. -/
def numStr (n : Int) : ByteArray := if n < 0 then ⟨#[]⟩ else strOfNums (numL n.toNat)
theorem number (n : Int) (h : n ≤ 9223372036854775807) : codec_Number.f n = some (numStr n) := by
  unfold codec_Number.f numStr
  by_cases c : n < 0
  · rw [if_pos c, if_pos c]
  · rw [if_neg c, if_neg c, if_pos h]
theorem num_size (n : Int) (h : n ≤ 9223372036854775807) (h0 : 0 ≤ n) : 2 ≤ (numStr n).size ∧ (numStr n).size ≤ 9 := by
  unfold numStr
  rw [if_neg (by omega), str_size, numL_eq]
  have := dg_len8 n.toNat (by omega)
  simp only [List.length_cons]
  omega
theorem size_bytes (s : ByteArray) : s.size = (bytesOf s).length := (bytesOf_length s).symm
/-- A text's bytes. -/
def textStr (s : ByteArray) : ByteArray := if 65535 < s.size then ⟨#[]⟩ else strOfNums [((s.size / 256 : Nat) : Int), ((s.size % 256 : Nat) : Int)] ++ s
theorem text (s : ByteArray) : codec_Text.f s = some (textStr s) := by
  unfold codec_Text.f textStr
  by_cases c : 65535 < s.size
  · rw [if_pos (by omega), if_pos c]
  · rw [if_neg (by omega), if_neg c]
    simp only [Option.bind_some]
    rw [show ((s.size : Int) / 256) % 256 = ((s.size / 256 : Nat) : Int) by omega, show (s.size : Int) % 256 = ((s.size % 256 : Nat) : Int) by omega, if_pos (by rw [str_size]; simp only [List.length_cons, List.length_nil]; omega)]
theorem text_bytes (s : ByteArray) (h : s.size ≤ 65535) : bytesOf (textStr s) = ((s.size / 256 : Nat) : Int) :: ((s.size % 256 : Nat) : Int) :: bytesOf s := by
  unfold textStr
  rw [if_neg (by omega), bytes_append, bytes_str]
  · rfl
  · intro x hx
    simp at hx
    omega
theorem text_size (s : ByteArray) (h : s.size ≤ 65535) : (textStr s).size = s.size + 2 := by
  rw [size_bytes, text_bytes s h, size_bytes s]
  rfl
end Go.Proofs.Ytnjnogkhbadioaa.TxnCodec
namespace Go.Proofs.Ytnjnogkhbadioaa.TxnCodec.Fnv
open Go.Proofs.Ytnjnogkhbadioaa.D Go.Proofs.YtnjnogkhbadioaaW.PrintLast Go.Proofs.YtnjnogkhbadioaaW.PrintWords Go.RowKit
theorem roll (h : Int) (s : ByteArray) (hn : s.size ≤ 9223372036854775806) : fnv_Roll.f h s = some (rollL h s.data.toList) := by
  unfold fnv_Roll.f; rw [if_pos hn]
theorem of_ (s : ByteArray) (hn : s.size ≤ 9223372036854775806) : fnv_Of.f s = some (rollL 14695981039346656037 s.data.toList) := by
  unfold fnv_Of.f; rw [roll _ _ hn]; rfl
theorem rollB_range (h c : Int) : 0 ≤ rollB h c ∧ rollB h c < 18446744073709551616 := by unfold rollB; rw [IntKind.wrap_u64]; omega
theorem text (h : Int) (h0 : 0 ≤ h) (h1 : h < 18446744073709551616) : fnv_Text.f h = some (strOfNums (hexL h.toNat)) := by
  unfold fnv_Text.f; rw [if_pos h0, if_pos h1]
theorem rollL_range (h : Int) (l : List UInt8) (h0 : 0 ≤ h) (h1 : h < 18446744073709551616) : 0 ≤ rollL h l ∧ rollL h l < 18446744073709551616 := by
  induction l generalizing h with
  | nil => exact ⟨h0, h1⟩
  | cons c l ih => exact ih _ (rollB_range _ _).1 (rollB_range _ _).2
end Go.Proofs.Ytnjnogkhbadioaa.TxnCodec.Fnv
namespace Go.Proofs.Ytnjnogkhbadioaa.TxnLaws
open Go.Proofs.Ytnjnogkhbadioaa.D Go.Proofs.Ytnjnogkhbadioaa.TxnCodec Go.Proofs.YtnjnogkhbadioaaW.PrintLast Go.Proofs.YtnjnogkhbadioaaW.PrintWords Go.RowKit
/-- May a transaction be? -/
def Chk (a b c d e : Int) (z : ByteArray) : Prop := 0 ≤ a ∧ a ≤ 255 ∧ 0 ≤ b ∧ b ≤ 4294967295 ∧ 0 ≤ c ∧ c ≤ d ∧ d ≤ 1099511627776 ∧ 1 ≤ e ∧ e ≤ 1073741824 ∧ z.size ≤ 256
instance (a b c d e : Int) (z : ByteArray) : Decidable (Chk a b c d e z) := by unfold Chk; infer_instance
theorem in_ (a b c : Int) : txn_in.f a b c = some (decide (b ≤ a ∧ a ≤ c)) := by
  unfold txn_in.f
  by_cases h : a ≥ b
  · rw [if_pos h]; congr 1; apply decide_eq_decide.2; omega
  · rw [if_neg h, decide_eq_false (by omega)]
theorem check (a b c d e : Int) (z : ByteArray) : txn_Check.f a b c d e z = some (decide (Chk a b c d e z)) := by
  unfold txn_Check.f
  simp only [in_, Option.bind_some]
  by_cases h1 : 0 ≤ a ∧ a ≤ 255
  · rw [decide_eq_true h1, if_pos rfl]
    by_cases h2 : 0 ≤ b ∧ b ≤ 4294967295
    · rw [decide_eq_true h2, if_pos rfl]
      by_cases h3 : 0 ≤ c ∧ c ≤ 1099511627776
      · rw [decide_eq_true h3, if_pos rfl]
        by_cases h4 : c ≤ d ∧ d ≤ 1099511627776
        · rw [decide_eq_true h4, if_pos rfl]
          by_cases h5 : 1 ≤ e ∧ e ≤ 1073741824
          · rw [decide_eq_true h5, if_pos rfl]; congr 1; apply decide_eq_decide.2; unfold Chk; omega
          · rw [decide_eq_false h5, if_neg (by decide), decide_eq_false (by unfold Chk; omega)]
        · rw [decide_eq_false h4, if_neg (by decide), decide_eq_false (by unfold Chk; omega)]
      · rw [decide_eq_false h3, if_neg (by decide), decide_eq_false (by unfold Chk; omega)]
    · rw [decide_eq_false h2, if_neg (by decide), decide_eq_false (by unfold Chk; omega)]
  · rw [decide_eq_false h1, if_neg (by decide), decide_eq_false (by unfold Chk; omega)]
/-- What stands behind the first byte. -/
def tail (a b c d e : Int) (z : ByteArray) : ByteArray := numStr a ++ (numStr b ++ (numStr c ++ (numStr d ++ (numStr e ++ textStr z))))
/-- A transaction's bytes. -/
def enc (a b c d e : Int) (z : ByteArray) : ByteArray := (⟨#[1]⟩ : ByteArray) ++ tail a b c d e z
theorem enc_all (a b c d e : Int) (z : ByteArray) : encAll (numStr a) (numStr b) (numStr c) (numStr d) (numStr e) (textStr z) = enc a b c d e z := by
  apply ByteArray.ext
  apply Array.toList_inj.1
  unfold encAll encP enc tail
  simp only [ByteArray.data_append, Array.toList_append]
  simp
theorem tail_size (a b c d e : Int) (z : ByteArray) (h : Chk a b c d e z) : z.size + 12 ≤ (tail a b c d e z).size ∧ (tail a b c d e z).size ≤ z.size + 47 := by
  unfold Chk at h
  have ha := num_size a (by omega) (by omega)
  have hb := num_size b (by omega) (by omega)
  have hc := num_size c (by omega) (by omega)
  have hd := num_size d (by omega) (by omega)
  have he := num_size e (by omega) (by omega)
  have hz := text_size z (by omega)
  unfold tail
  simp only [ByteArray.size_append]
  omega
theorem enc_size (a b c d e : Int) (z : ByteArray) : (enc a b c d e z).size = 1 + (tail a b c d e z).size := by
  unfold enc
  rw [ByteArray.size_append]
  rfl
/-- The bytes of a transaction that may be. -/
theorem encode (a b c d e : Int) (z : ByteArray) : txn_Encode.f a b c d e z = some (if Chk a b c d e z then (enc a b c d e z, true) else (⟨#[]⟩, false)) := by
  unfold txn_Encode.f
  rw [check, Option.bind_some]
  by_cases h : Chk a b c d e z
  · have h' := h
    unfold Chk at h'
    have ha := num_size a (by omega) (by omega)
    have hb := num_size b (by omega) (by omega)
    have hc := num_size c (by omega) (by omega)
    have hd := num_size d (by omega) (by omega)
    have he := num_size e (by omega) (by omega)
    have hz := text_size z (by omega)
    rw [decide_eq_true h, if_pos rfl, if_pos h, number a (by omega), number b (by omega), number c (by omega), number d (by omega), number e (by omega), text]
    simp only [Option.bind_some]
    rw [if_pos (by omega), enc_all]
  · rw [decide_eq_false h, if_neg (by decide), if_neg h]
theorem enc_range (a b c d e : Int) (z : ByteArray) (h : Chk a b c d e z) : z.size + 13 ≤ (enc a b c d e z).size ∧ (enc a b c d e z).size ≤ z.size + 48 ∧ (enc a b c d e z).size ≤ 304 := by
  have h1 := tail_size a b c d e z h
  have h2 := enc_size a b c d e z
  unfold Chk at h
  omega
/-- The digits of a transaction's hash. -/
def idOf (a b c d e : Int) (z : ByteArray) : ByteArray := if Chk a b c d e z then strOfNums (hexL (rollL 14695981039346656037 (enc a b c d e z).data.toList).toNat) else ⟨#[]⟩
theorem id_ (a b c d e : Int) (z : ByteArray) : txn_ID.f a b c d e z = some (idOf a b c d e z) := by
  unfold txn_ID.f idOf
  rw [encode, Option.bind_some]
  by_cases h : Chk a b c d e z
  · have r := enc_range a b c d e z h
    have q := Fnv.rollL_range 14695981039346656037 (enc a b c d e z).data.toList (by omega) (by omega)
    rw [if_pos h, if_pos h, if_pos rfl, Fnv.of_ _ (by show (enc a b c d e z).size ≤ _; omega), Option.bind_some, Fnv.text _ q.1 q.2]
    rfl
  · rw [if_neg h, if_neg h]; rfl
theorem less_irrefl (l : List UInt8) : Op.bytesLess l l = false := by
  induction l with
  | nil => rfl
  | cons a l ih => simp [Op.bytesLess, ih]
theorem less_cons (a b : UInt8) (l m : List UInt8) : Op.bytesLess (a :: l) (b :: m) = true ↔ a < b ∨ (a = b ∧ Op.bytesLess l m = true) := by
  simp [Op.bytesLess]
theorem less_trans (l : List UInt8) : ∀ m n, Op.bytesLess l m = true → Op.bytesLess m n = true → Op.bytesLess l n = true := by
  induction l with
  | nil =>
    intro m n h1 h2
    cases m with
    | nil => cases n <;> simp_all [Op.bytesLess]
    | cons b m => cases n with
      | nil => simp [Op.bytesLess] at h2
      | cons c n => rfl
  | cons a l ih =>
    intro m n h1 h2
    cases m with
    | nil => simp [Op.bytesLess] at h1
    | cons b m =>
      cases n with
      | nil => simp [Op.bytesLess] at h2
      | cons c n =>
        rw [less_cons] at h1 h2 ⊢
        rcases h1 with h1 | ⟨rfl, h1⟩
        · rcases h2 with h2 | ⟨rfl, h2⟩
          · exact .inl (UInt8.lt_trans h1 h2)
          · exact .inl h1
        · rcases h2 with h2 | ⟨rfl, h2⟩
          · exact .inl h2
          · exact .inr ⟨rfl, ih _ _ h1 h2⟩
theorem less_total (l : List UInt8) : ∀ m, l ≠ m → Op.bytesLess l m = true ∨ Op.bytesLess m l = true := by
  induction l with
  | nil =>
    intro m h
    cases m with
    | nil => exact absurd rfl h
    | cons b m => exact .inl rfl
  | cons a l ih =>
    intro m h
    cases m with
    | nil => exact .inr rfl
    | cons b m =>
      rw [less_cons, less_cons]
      by_cases e : a = b
      · subst e
        rcases ih m (fun q => h (by rw [q])) with h1 | h1
        · exact .inl (.inr ⟨rfl, h1⟩)
        · exact .inr (.inr ⟨rfl, h1⟩)
      · rcases UInt8.lt_or_lt_of_ne e with h1 | h1
        · exact .inl (.inl h1)
        · exact .inr (.inl h1)
theorem compare_less (l : List UInt8) : ∀ m, Lib.compareBytes l m = if l = m then 0 else if Op.bytesLess l m = true then -1 else 1 := by
  induction l with
  | nil =>
    intro m
    cases m with
    | nil => rfl
    | cons b m => rfl
  | cons a l ih =>
    intro m
    cases m with
    | nil => rfl
    | cons b m =>
      simp only [Lib.compareBytes]
      by_cases h1 : a < b
      · rw [if_pos h1, if_neg (by intro q; injection q with q; subst q; exact UInt8.lt_irrefl _ h1), if_pos ((less_cons _ _ _ _).2 (.inl h1))]
      · by_cases h2 : b < a
        · rw [if_neg h1, if_pos h2, if_neg (by intro q; injection q with q; subst q; exact UInt8.lt_irrefl _ h2), if_neg]
          intro q
          rcases (less_cons _ _ _ _).1 q with h | ⟨h, _⟩
          · exact h1 h
          · subst h; exact UInt8.lt_irrefl _ h2
        · have e : a = b := by
            by_cases e : a = b
            · exact e
            · rcases UInt8.lt_or_lt_of_ne e with h | h
              · exact absurd h h1
              · exact absurd h h2
          subst e
          rw [if_neg h1, if_neg h2, ih]
          by_cases e : l = m
          · subst e; rw [if_pos rfl, if_pos rfl]
          · rw [if_neg e, if_neg (show ¬ (a :: l = a :: m) from fun q => e (List.cons.inj q).2)]
            by_cases q : Op.bytesLess l m = true
            · rw [if_pos q, if_pos ((less_cons _ _ _ _).2 (.inr ⟨rfl, q⟩))]
            · rw [if_neg q, if_neg]
              intro q'
              rcases (less_cons _ _ _ _).1 q' with h | ⟨_, h⟩
              · exact h1 h
              · exact q h
def Better (a b c d e : Int) (z : ByteArray) (a' b' c' d' e' : Int) (z' : ByteArray) : Prop :=
  c' < c ∨ (c = c' ∧ (Op.bytesLess (idOf a b c d e z).data.toList (idOf a' b' c' d' e' z').data.toList = true ∨ ((idOf a b c d e z).data.toList = (idOf a' b' c' d' e' z').data.toList ∧ (a < a' ∨ (a = a' ∧ b < b')))))
instance (a b c d e : Int) (z : ByteArray) (a' b' c' d' e' : Int) (z' : ByteArray) : Decidable (Better a b c d e z a' b' c' d' e' z') := by unfold Better; infer_instance
def cmpI (a b : Int) : Int := if a < b then -1 else if b < a then 1 else 0
theorem cmp_ (a b : Int) : cmp_Compare_int.f a b = some (cmpI a b) := by
  unfold cmp_Compare_int.f cmp_isNaN_int.f cmpI
  simp only [bne_self_eq_false, Option.bind_some]
  rw [if_neg (by decide), if_neg (by decide)]
  by_cases h : a < b
  · rw [if_pos h, if_pos h]
  · rw [if_neg h, if_neg h]
    by_cases h2 : b < a
    · rw [if_pos h2, if_pos (show a > b from h2)]
    · rw [if_neg h2, if_neg (show ¬ a > b from h2)]
def or4 (x y u v : Int) : Int := if x = 0 then (if y = 0 then (if u = 0 then v else u) else y) else x
theorem or_ (x y u v : Int) (k : Nat) : cmp_Or_int.f (k + 5) [x, y, u, v] = some (or4 x y u v) := by
  have w0 : wrap64 (0 + 1) = 1 := by unfold wrap64; omega
  have w1 : wrap64 (1 + 1) = 2 := by unfold wrap64; omega
  have w2 : wrap64 (2 + 1) = 3 := by unfold wrap64; omega
  have w3 : wrap64 (3 + 1) = 4 := by unfold wrap64; omega
  have hl : (([x, y, u, v] : List Int).length : Int) = 4 := rfl
  unfold cmp_Or_int.f or4
  rw [cmp_Or_int.l0, hl, if_pos (by decide), if_pos (by decide), if_pos (by decide), show rd [x, y, u, v] 0 = x from rfl]
  by_cases hx : x = 0
  · rw [if_pos hx, if_pos hx, w0, cmp_Or_int.l0, hl, if_pos (by decide), if_pos (by decide), if_pos (by decide), show rd [x, y, u, v] 1 = y from rfl]
    by_cases hy : y = 0
    · rw [if_pos hy, if_pos hy, w1, cmp_Or_int.l0, hl, if_pos (by decide), if_pos (by decide), if_pos (by decide), show rd [x, y, u, v] 2 = u from rfl]
      by_cases hu : u = 0
      · rw [if_pos hu, if_pos hu, w2, cmp_Or_int.l0, hl, if_pos (by decide), if_pos (by decide), if_pos (by decide), show rd [x, y, u, v] 3 = v from rfl]
        by_cases hv : v = 0
        · rw [if_pos hv, w3, cmp_Or_int.l0, if_neg (by decide), hv]
        · rw [if_neg hv]
      · rw [if_neg hu, if_neg hu]
    · rw [if_neg hy, if_neg hy]
  · rw [if_neg hx, if_neg hx]
theorem better (a b c d e : Int) (z : ByteArray) (a' b' c' d' e' : Int) (z' : ByteArray) (k : Nat) (hk : 5 ≤ k) : txn_Better.f k a b c d e z a' b' c' d' e' z' = some (decide (Better a b c d e z a' b' c' d' e' z')) := by
  obtain ⟨k, rfl⟩ : ∃ m, k = m + 5 := ⟨k - 5, by omega⟩
  unfold txn_Better.f
  rw [cmp_, id_, id_, cmp_, cmp_]
  simp only [Option.bind_some]
  unfold strings_Compare.f
  rw [Option.bind_some, or_, Option.bind_some]
  congr 1
  apply decide_eq_decide.2
  rw [compare_less]
  unfold or4 cmpI Better
  generalize (idOf a b c d e z).data.toList = l
  generalize (idOf a' b' c' d' e' z').data.toList = m
  by_cases h1 : c' < c
  · rw [if_pos h1, if_neg (by decide)]; exact ⟨fun _ => .inl h1, fun _ => by decide⟩
  · by_cases h2 : c < c'
    · rw [if_neg h1, if_pos h2, if_neg (by decide)]; exact ⟨fun h => absurd h (by decide), fun h => by rcases h with h | ⟨h, _⟩ <;> omega⟩
    · have hc : c = c' := by omega
      rw [if_neg h1, if_neg h2, if_pos rfl]
      by_cases h3 : l = m
      · rw [if_pos h3, if_pos rfl, h3, less_irrefl]
        by_cases h4 : a < a'
        · rw [if_pos h4, if_neg (by decide)]; exact ⟨fun _ => .inr ⟨hc, .inr ⟨rfl, .inl h4⟩⟩, fun _ => by decide⟩
        · by_cases h5 : a' < a
          · rw [if_neg h4, if_pos h5, if_neg (by decide)]
            exact ⟨fun h => absurd h (by decide), fun h => by rcases h with h | ⟨_, h | ⟨_, h | ⟨h, _⟩⟩⟩ <;> first | omega | cases h⟩
          · rw [if_neg h4, if_neg h5, if_pos rfl]
            by_cases h6 : b < b'
            · rw [if_pos h6]; exact ⟨fun _ => .inr ⟨hc, .inr ⟨rfl, .inr ⟨by omega, h6⟩⟩⟩, fun _ => by decide⟩
            · rw [if_neg h6]
              refine ⟨fun h => ?_, fun h => by rcases h with h | ⟨_, h | ⟨_, h | ⟨_, h⟩⟩⟩ <;> first | omega | cases h⟩
              split at h <;> omega
      · by_cases h4 : Op.bytesLess l m = true
        · rw [if_neg h3, if_pos h4, if_neg (by decide)]; exact ⟨fun _ => .inr ⟨hc, .inl h4⟩, fun _ => by decide⟩
        · rw [if_neg h3, if_neg h4, if_neg (by decide)]
          exact ⟨fun h => absurd h (by decide), fun h => by rcases h with h | ⟨_, h | ⟨h, _⟩⟩ <;> first | omega | exact absurd h h4 | exact absurd h h3⟩
theorem better_irrefl (a b c d e : Int) (z : ByteArray) : ¬ Better a b c d e z a b c d e z := by
  unfold Better
  rw [less_irrefl]
  intro h
  rcases h with h | ⟨_, h | ⟨_, h | ⟨_, h⟩⟩⟩ <;> first | omega | cases h
theorem better_trans (a b c d e : Int) (z : ByteArray) (a' b' c' d' e' : Int) (z' : ByteArray) (x y u v n : Int) (s : ByteArray) (h1 : Better a b c d e z a' b' c' d' e' z') (h2 : Better a' b' c' d' e' z' x y u v n s) : Better a b c d e z x y u v n s := by
  unfold Better at h1 h2 ⊢
  generalize (idOf a b c d e z).data.toList = l at *
  generalize (idOf a' b' c' d' e' z').data.toList = m at *
  generalize (idOf x y u v n s).data.toList = q at *
  rcases h1 with h1 | ⟨h1, k1⟩
  · rcases h2 with h2 | ⟨h2, _⟩
    · exact .inl (by omega)
    · exact .inl (by omega)
  · rcases h2 with h2 | ⟨h2, k2⟩
    · exact .inl (by omega)
    · refine .inr ⟨by omega, ?_⟩
      rcases k1 with k1 | ⟨e1, k1⟩
      · rcases k2 with k2 | ⟨e2, _⟩
        · exact .inl (less_trans _ _ _ k1 k2)
        · rw [← e2]; exact .inl k1
      · rcases k2 with k2 | ⟨e2, k2⟩
        · rw [e1]; exact .inl k2
        · exact .inr ⟨e1.trans e2, by omega⟩
theorem better_asymm (a b c d e : Int) (z : ByteArray) (a' b' c' d' e' : Int) (z' : ByteArray) (h1 : Better a b c d e z a' b' c' d' e' z') (h2 : Better a' b' c' d' e' z' a b c d e z) : False :=
  better_irrefl _ _ _ _ _ _ (better_trans _ _ _ _ _ _ _ _ _ _ _ _ _ _ _ _ _ _ h1 h2)
theorem better_total (a b c d e : Int) (z : ByteArray) (a' b' c' d' e' : Int) (z' : ByteArray) (h : a ≠ a' ∨ b ≠ b') : Better a b c d e z a' b' c' d' e' z' ∨ Better a' b' c' d' e' z' a b c d e z := by
  unfold Better
  generalize (idOf a b c d e z).data.toList = l at *
  generalize (idOf a' b' c' d' e' z').data.toList = m at *
  by_cases hc : c = c'
  · by_cases hl : l = m
    · by_cases ha : a < a' ∨ (a = a' ∧ b < b')
      · exact .inl (.inr ⟨hc, .inr ⟨hl, ha⟩⟩)
      · exact .inr (.inr ⟨hc.symm, .inr ⟨hl.symm, by omega⟩⟩)
    · rcases less_total l m hl with q | q
      · exact .inl (.inr ⟨hc, .inl q⟩)
      · exact .inr (.inr ⟨hc.symm, .inl q⟩)
  · rcases (show c' < c ∨ c < c' by omega) with q | q
    · exact .inl (.inl q)
    · exact .inr (.inl q)
end Go.Proofs.Ytnjnogkhbadioaa.TxnLaws
namespace Go.Proofs.Ytnjnogkhbadioaa.ShardLaws
open Go.RowKit Go.Proofs.Ytnjnogkhbadioaa.D Go.Proofs.YtnjnogkhbadioaaW.PrintWords Go.Proofs.YtnjnogkhbadioaaW.PrintLast
abbrev Sh := S26
abbrev Ow := S48
theorem rdS_eq (l : List Sh) (i : Nat) (h : i < l.length) : rd_T26 l (i : Int) = l[i] := by
  unfold rd_T26
  rw [Int.toNat_natCast, List.getD_eq_getElem?_getD, List.getElem?_eq_getElem h]
  rfl
theorem rdT_eq (l : List Tx) (i : Nat) (h : i < l.length) : rd_T32 l (i : Int) = l[i] := by
  unfold rd_T32
  rw [Int.toNat_natCast, List.getD_eq_getElem?_getD, List.getElem?_eq_getElem h]
  rfl
def own (l : List Sh) : List Ow := l.map fun s => ⟨s.f0, s.f1⟩
def all (l : List Sh) : List Ac := l.flatMap fun s => s.f0
theorem own_all (l : List Sh) : ((own l).flatMap fun s => s.f0) = all l := by
  unfold own all
  rw [List.flatMap_map]
theorem own_from (K : Nat) (l : List Sh) (hl : l.length ≤ 1000) : ∀ (n i : Nat) (acc : List Ow), i + n = l.length → acc.length = i → hopperlaw11_Own.l0 (K + n + 1) l acc (i : Int) = some (acc ++ own (l.drop i))
  | 0, i, acc, hn, ha => by
    unfold hopperlaw11_Own.l0
    rw [if_neg (by omega), List.drop_eq_nil_of_le (by omega)]
    exact congrArg some (List.append_nil _).symm
  | n + 1, i, acc, hn, ha => by
    have hil : i < l.length := by omega
    unfold hopperlaw11_Own.l0
    rw [if_pos (by omega), if_pos (by omega), if_pos (by omega), rdS_eq l i hil, step_ i (by omega), show K + (n + 1) = K + n + 1 from rfl, own_from K l hl n (i + 1) _ (by omega) (by simp [ha]), List.drop_eq_getElem_cons hil]
    simp only [own, List.map_cons, List.append_assoc, List.singleton_append]
theorem own_eq (k : Nat) (l : List Sh) (h : l.length ≤ 1000) (hk : l.length + 1 ≤ k) : hopperlaw11_Own.f k l = some (own l) := by
  have := own_from (k - (l.length + 1)) l h l.length 0 [] (by omega) rfl
  rw [show k - (l.length + 1) + l.length + 1 = k by omega] at this
  exact this
theorem lay1_perm (a : Ac) : ∀ l : List Ac, (shard_Join.lay1 a l).Perm (a :: l)
  | [] => List.Perm.refl _
  | b :: l => by
    rw [shard_Join.lay1]
    split
    · exact List.Perm.refl _
    · exact ((lay1_perm a l).cons b).trans (List.Perm.swap a b l)
theorem sort_perm : ∀ l : List Ac, (shard_Join.sort l).Perm l
  | [] => List.Perm.refl _
  | a :: l => (lay1_perm a _).trans ((sort_perm l).cons a)
theorem join_eq (l : List Sh) (h : (all l).length ≤ 1000000) : shard_Join.f (own l) = some (shard_Join.sort (all l)) := by
  unfold shard_Join.f
  rw [own_all, if_pos (by omega)]
theorem wrap_add (s t : Int) : wrap64 (wrap64 s + t) = wrap64 (s + t) := by unfold wrap64; omega
theorem wrap_add2 (s t : Int) : wrap64 (s + wrap64 t) = wrap64 (s + t) := by unfold wrap64; omega
theorem sat_some (x : Int) : ∃ m, sat_Slots.f x = some m := by
  unfold sat_Slots.f
  split
  · exact ⟨_, rfl⟩
  · split <;> exact ⟨_, rfl⟩
theorem tx_some (a b c d e : Int) (z : ByteArray) : ∃ m, txn_Slots.f a b c d e z = some m := by
  unfold txn_Slots.f
  rw [TxnLaws.encode, Option.bind_some]
  by_cases h : TxnLaws.Chk a b c d e z
  · rw [if_pos h]
    dsimp only
    rw [if_pos rfl]
    obtain ⟨m, hm⟩ := sat_some ((TxnLaws.enc a b c d e z).size : Int)
    rw [hm]
    exact ⟨m, rfl⟩
  · rw [if_neg h]
    exact ⟨0, if_neg (by decide)⟩
def tq (t : Tx) : Int := (txn_Slots.f t.f0 t.f1 t.f2 t.f3 t.f4 t.f5).getD 0
theorem tq_eq (t : Tx) : txn_Slots.f t.f0 t.f1 t.f2 t.f3 t.f4 t.f5 = some (tq t) := by
  obtain ⟨m, hm⟩ := tx_some t.f0 t.f1 t.f2 t.f3 t.f4 t.f5
  unfold tq
  rw [hm]
  rfl
theorem qslots_from (k : Nat) (l : List Tx) (hl : l.length ≤ 9223372036854775807) : ∀ (n i : Nat) (s : Int), i + n = l.length → queue_Slots.l0 (k + n + 1) (wrap64 s) l (l.length : Int) (i : Int) = some (wrap64 (s + ((l.drop i).map tq).sum))
  | 0, i, s, hn => by
    unfold queue_Slots.l0
    rw [if_neg (by omega), List.drop_eq_nil_of_le (by omega)]
    simp
  | n + 1, i, s, hn => by
    have hil : i < l.length := by omega
    unfold queue_Slots.l0
    rw [if_pos (by omega), if_pos (by omega), if_pos (by omega), tq_eq, Option.bind_some, step_ i (by omega), wrap_add, show k + (n + 1) = k + n + 1 from rfl, qslots_from k l hl n (i + 1) _ (by omega), rdT_eq l i hil, List.drop_eq_getElem_cons hil, List.map_cons, List.sum_cons, Int.add_assoc]
def aq (a : Ac) : Int := wrap64 (a.f2.map tq).sum
theorem qslots_eq (k : Nat) (s b : Int) (l : List Tx) (h : l.length ≤ 9223372036854775807) (hk : l.length + 1 ≤ k) : queue_Slots.f k s b l = some (wrap64 (l.map tq).sum) := by
  have := qslots_from (k - (l.length + 1)) l h l.length 0 0 (by omega)
  rw [show k - (l.length + 1) + l.length + 1 = k by omega, List.drop_zero, Int.zero_add, show wrap64 0 = 0 by unfold wrap64; omega] at this
  exact this
theorem sslots_from (k : Nat) (l : List Ac) (hl : l.length ≤ 9223372036854775807) (hx : ∀ x ∈ l, x.f2.length ≤ 9223372036854775807 ∧ x.f2.length + 1 ≤ k) : ∀ (n i : Nat) (s : Int), i + n = l.length → shard_Slots.l0 (k + n + 1) (wrap64 s) l (l.length : Int) (i : Int) = some (wrap64 (s + ((l.drop i).map aq).sum))
  | 0, i, s, hn => by
    unfold shard_Slots.l0
    rw [if_neg (by omega), List.drop_eq_nil_of_le (by omega)]
    simp
  | n + 1, i, s, hn => by
    have hil : i < l.length := by omega
    have hm := hx _ (getD_mem l i hil)
    unfold shard_Slots.l0
    rw [if_pos (by omega), if_pos (by omega), if_pos (by omega), qslots_eq (k + (n + 1)) _ _ _ hm.1 (by omega), Option.bind_some, step_ i (by omega), wrap_add, show k + (n + 1) = k + n + 1 from rfl, sslots_from k l hl hx n (i + 1) _ (by omega), rd_eq l i hil, List.drop_eq_getElem_cons hil, List.map_cons, List.sum_cons, Int.add_assoc]
    rfl
theorem sslots_eq (k : Nat) (l : List Ac) (v : Int) (m : Nat) (h : l.length ≤ 9223372036854775807) (hx : ∀ x ∈ l, x.f2.length ≤ 9223372036854775807 ∧ x.f2.length ≤ m) (hk : l.length + m + 2 ≤ k) : shard_Slots.f k l v = some (wrap64 (l.map aq).sum) := by
  have := sslots_from (k - (l.length + 1)) l h (fun x hxl => ⟨(hx x hxl).1, by have := (hx x hxl).2; omega⟩) l.length 0 0 (by omega)
  rw [show k - (l.length + 1) + l.length + 1 = k by omega, List.drop_zero, Int.zero_add, show wrap64 0 = 0 by unfold wrap64; omega] at this
  exact this
theorem sum_perm {l r : List Int} (h : l.Perm r) : l.sum = r.sum := by
  induction h with
  | nil => rfl
  | cons x _ ih => rw [List.sum_cons, List.sum_cons, ih]
  | swap x y l => rw [List.sum_cons, List.sum_cons, List.sum_cons, List.sum_cons]; omega
  | trans _ _ h1 h2 => exact h1.trans h2
theorem all_next (l : List Sh) (i : Nat) (h : i < l.length) : all (l.take (i + 1)) = all (l.take i) ++ l[i].f0 := by
  unfold all
  rw [List.take_add_one, List.getElem?_eq_getElem h, List.flatMap_append]
  simp
/-- How many rounds shards want. -/
def mosts (l : List Sh) : Nat := l.foldr (fun s n => max (s.f0.length + most s.f0) n) 0
theorem mosts_le : ∀ (l : List Sh) (s : Sh), s ∈ l → s.f0.length + most s.f0 ≤ mosts l
  | y :: l, x, h => by
    rcases List.mem_cons.1 h with rfl | h
    · exact Nat.le_max_left _ _
    · exact Nat.le_trans (mosts_le l x h) (Nat.le_max_right _ _)
/-- The shards ahead of i are few and small. -/
def Fews (l : List Sh) (i : Nat) : Prop := ∀ j, j < i → (h : j < l.length) → l[j].f0.length ≤ 20 ∧ ∀ x ∈ l[j].f0, x.f2.length ≤ 20
theorem fews_all (l : List Sh) : ∀ i, i ≤ l.length → Fews l i → (all (l.take i)).length ≤ 20 * i ∧ ∀ x ∈ all (l.take i), x.f2.length ≤ 20
  | 0, _, _ => by simp [all]
  | i + 1, hi, h => by
    obtain ⟨h1, h2⟩ := fews_all l i (by omega) (fun j hj => h j (by omega))
    obtain ⟨h3, h4⟩ := h i (by omega) (by omega)
    rw [all_next l i (by omega), List.length_append]
    refine ⟨by omega, fun x hx => ?_⟩
    rcases List.mem_append.1 hx with hx | hx
    · exact h2 x hx
    · exact h4 x hx
end Go.Proofs.Ytnjnogkhbadioaa.ShardLaws
namespace Go.Proofs.Ytnjnogkhbadioaa.TxnCodec
open Go.Proofs.Ytnjnogkhbadioaa.D Go.Proofs.YtnjnogkhbadioaaW.PrintLast Go.Proofs.YtnjnogkhbadioaaW.PrintWords Go.RowKit
theorem str_append (a b : List Int) : strOfNums (a ++ b) = strOfNums a ++ strOfNums b := by
  apply ByteArray.ext
  rw [ByteArray.data_append]
  simp [strOfNums]
theorem wr (a : Int) (h0 : 0 ≤ a) (h1 : a ≤ 9223372036854775807) : wrap64 a = a := by unfold wrap64; omega
theorem ref_text (s : ByteArray) : hopperref03_Text.f s = some (textStr s) := by
  rw [← text s]
  rfl
theorem ref_bytes (m : Nat) (hm : m ≤ 100) : ∀ x : Nat, x / 256 ^ (m + 1) = 0 → (x : Int) ≤ 9223372036854775807 → hopperref03_bytes.f (m + 1) (x : Int) = some (strOfNums (dg m x)) := by
  have tm : ∀ x : Nat, Int.tmod (x : Int) 256 % 256 = ((x % 256 : Nat) : Int) := by
    intro x
    rw [Int.tmod_eq_emod_of_nonneg (by omega)]
    omega
  have td : ∀ x : Nat, Int.tdiv (x : Int) 256 = ((x / 256 : Nat) : Int) := by
    intro x
    rw [Int.tdiv_eq_ediv_of_nonneg (by omega)]
    omega
  induction m with
  | zero =>
    intro x h hx
    have h' : x / 256 = 0 := by simpa using h
    rw [hopperref03_bytes.f]
    simp only [Option.bind_some]
    rw [if_neg (by omega), tm]
    rfl
  | succ m ih =>
    intro x h hx
    rw [hopperref03_bytes.f]
    simp only [Option.bind_some]
    unfold dg
    by_cases c : x / 256 = 0
    · rw [if_neg (by omega), if_pos c, tm]
    · rw [if_pos (by omega), if_neg c, td, wr _ (by omega) (by omega), ih (by omega) (x / 256) (by rw [Nat.div_div_eq_div_mul, ← Nat.pow_succ']; exact h) (by omega), tm]
      simp only [Option.bind_some]
      have hl : (dg m (x / 256)).length ≤ 101 := by rw [dg_len]; have := more256_le m (x / 256); omega
      rw [if_pos (by rw [str_size, str_size]; simp only [List.length_cons, List.length_nil]; omega), str_append]
theorem ref_number (n : Int) (h : n ≤ 9223372036854775807) : hopperref03_Number.f 9 n = some (numStr n) := by
  unfold hopperref03_Number.f numStr
  by_cases c : n < 0
  · rw [if_pos c, if_pos c]
  · obtain ⟨x, rfl⟩ := Int.eq_ofNat_of_zero_le (show 0 ≤ n by omega)
    have hx : x < 9223372036854775808 := by omega
    have hl := dg_len8 x hx
    rw [if_neg c, if_neg c, ref_bytes 8 (by omega) x (Nat.div_eq_of_lt (Nat.lt_of_lt_of_le hx (show 9223372036854775808 ≤ 256 ^ (8 + 1) by decide))) h, Int.toNat_natCast, numL_eq]
    simp only [Option.bind_some]
    rw [if_pos (by rw [str_size, str_size]; simp only [List.length_cons, List.length_nil]; omega), str_size, ← str_append]
    rw [show ((dg 8 x).length : Int) % 256 = ((dg 8 x).length : Int) by omega]
    rfl
end Go.Proofs.Ytnjnogkhbadioaa.TxnCodec
namespace Go.Proofs.Ytnjnogkhbadioaa.TxnCodec.Fnv
set_option linter.unusedSimpArgs false
set_option linter.unusedVariables false
open Go.Proofs.Ytnjnogkhbadioaa.D Go.Proofs.YtnjnogkhbadioaaW.PrintLast Go.Proofs.YtnjnogkhbadioaaW.PrintWords Go.RowKit
theorem wrap_step {i : Int} {n : Nat} (h0 : 0 ≤ i) (h : i < (n : Int)) (hn : n ≤ 9223372036854775807) : wrap64 (i + 1) = i + 1 := by unfold wrap64; omega
theorem bt_get (s : ByteArray) (i : Nat) (h : i < s.size) : bt s (i : Int) = ((s[i]).toNat : Int) := by
  unfold bt
  have e : (i : Int).toNat = i := by omega
  rw [dif_pos (by rw [e]; exact h)]
  simp only [e]
theorem drop_get (s : ByteArray) (i : Nat) (h : i < s.size) : s.data.toList.drop i = s[i] :: s.data.toList.drop (i + 1) := by
  rw [List.drop_eq_getElem_cons (by simpa using h)]; rfl
theorem ref_roll_l (s : ByteArray) (hn : s.size ≤ 9223372036854775806) (d : Nat) : ∀ (k : Nat) (h : Int) (i : Nat), i + d = s.size → d < k → hopperref02_Roll.l0 k h s (i : Int) = some (rollL h (s.data.toList.drop i)) := by
  induction d with
  | zero =>
    intro k h i hi hk
    obtain ⟨k, rfl⟩ : ∃ m, k = m + 1 := ⟨k - 1, by omega⟩
    simp only [hopperref02_Roll.l0]
    rw [if_neg (by omega), List.drop_of_length_le (by simp; omega)]
    rfl
  | succ d ih =>
    intro k h i hi hk
    obtain ⟨k, rfl⟩ : ∃ m, k = m + 1 := ⟨k - 1, by omega⟩
    simp only [hopperref02_Roll.l0]
    rw [if_pos (by omega), if_pos (by omega), wrap_step (n := s.size) (by omega) (by omega) (by omega), bt_get s i (by omega), drop_get s i (by omega), show (i : Int) + 1 = ((i + 1 : Nat) : Int) by omega, ih k _ (i + 1) (by omega) (by omega)]
    rfl
theorem ref_roll (h : Int) (s : ByteArray) (hn : s.size ≤ 9223372036854775806) (k : Nat) (hk : s.size < k) : hopperref02_Roll.f k h s = some (rollL h s.data.toList) := by
  unfold hopperref02_Roll.f
  have e := ref_roll_l s hn s.size k h 0 (by omega) hk
  rw [List.drop_zero] at e
  exact e
theorem ref_of (s : ByteArray) (hn : s.size ≤ 9223372036854775806) (k : Nat) (hk : s.size < k) : hopperref02_Of.f k s = some (rollL 14695981039346656037 s.data.toList) := by
  unfold hopperref02_Of.f; rw [ref_roll _ _ hn k hk]; rfl
theorem ref_text (h : Int) (h0 : 0 ≤ h) (h1 : h < 18446744073709551616) : hopperref02_Text.f h = some (strOfNums (hexL h.toNat)) := by
  unfold hopperref02_Text.f; rw [if_pos h0, if_pos h1]
end Go.Proofs.Ytnjnogkhbadioaa.TxnCodec.Fnv
namespace Go.Proofs.Ytnjnogkhbadioaa.TxnLaws
set_option linter.unusedSimpArgs false
set_option linter.unusedVariables false
open Go.Proofs.Ytnjnogkhbadioaa.D Go.Proofs.Ytnjnogkhbadioaa.TxnCodec Go.Proofs.YtnjnogkhbadioaaW.PrintLast Go.Proofs.YtnjnogkhbadioaaW.PrintWords Go.RowKit
theorem ref_check (a b c d e : Int) (z : ByteArray) : hopperref04_Check.f a b c d e z = some (decide (Chk a b c d e z)) := by
  unfold hopperref04_Check.f
  by_cases h1 : a < 0
  · rw [if_pos h1, decide_eq_false (by unfold Chk; omega)]
  · by_cases h2 : a > 255
    · rw [if_neg h1, if_pos h2, decide_eq_false (by unfold Chk; omega)]
    · by_cases h3 : b < 0
      · rw [if_neg h1, if_neg h2, if_pos h3, decide_eq_false (by unfold Chk; omega)]
      · by_cases h4 : b ≥ 4294967296
        · rw [if_neg h1, if_neg h2, if_neg h3, if_pos h4, decide_eq_false (by unfold Chk; omega)]
        · by_cases h5 : c < 0
          · rw [if_neg h1, if_neg h2, if_neg h3, if_neg h4, if_pos h5, decide_eq_false (by unfold Chk; omega)]
          · by_cases h6 : c > d
            · rw [if_neg h1, if_neg h2, if_neg h3, if_neg h4, if_neg h5, if_pos h6, decide_eq_false (by unfold Chk; omega)]
            · by_cases h7 : d > 1099511627776
              · rw [if_neg h1, if_neg h2, if_neg h3, if_neg h4, if_neg h5, if_neg h6, if_pos h7, decide_eq_false (by unfold Chk; omega)]
              · rw [if_neg h1, if_neg h2, if_neg h3, if_neg h4, if_neg h5, if_neg h6, if_neg h7]
                by_cases h8 : e ≥ 1
                · by_cases h9 : e ≤ 1073741824
                  · rw [if_pos h8, if_pos h9]; congr 1; apply decide_eq_decide.2; unfold Chk; omega
                  · rw [if_pos h8, if_neg h9, decide_eq_false (by unfold Chk; omega)]
                · rw [if_neg h8, decide_eq_false (by unfold Chk; omega)]
theorem ref_number_k (k : Nat) (hk : 9 ≤ k) (n : Int) (h : n ≤ 9223372036854775807) : hopperref03_Number.f k n = some (numStr n) := at_rounds (hopperref03_Number.mono n) hk (ref_number n h)
theorem ref_encode (a b c d e : Int) (z : ByteArray) (k : Nat) (hk : 20 ≤ k) : hopperref04_Encode.f k a b c d e z = some (if Chk a b c d e z then (enc a b c d e z, true) else (⟨#[]⟩, false)) := by
  unfold hopperref04_Encode.f
  rw [ref_check, Option.bind_some]
  by_cases h : Chk a b c d e z
  · have h' := h
    unfold Chk at h'
    have ha := num_size a (by omega) (by omega)
    have hb := num_size b (by omega) (by omega)
    have hc := num_size c (by omega) (by omega)
    have hd := num_size d (by omega) (by omega)
    have he := num_size e (by omega) (by omega)
    have hz := text_size z (by omega)
    obtain ⟨k, rfl⟩ : ∃ m, k = m + 6 := ⟨k - 6, by omega⟩
    have w0 : wrap64 (0 + 1) = 1 := by unfold wrap64; omega
    have w1 : wrap64 (1 + 1) = 2 := by unfold wrap64; omega
    have w2 : wrap64 (2 + 1) = 3 := by unfold wrap64; omega
    have w3 : wrap64 (3 + 1) = 4 := by unfold wrap64; omega
    have w4 : wrap64 (4 + 1) = 5 := by unfold wrap64; omega
    have hl : (([a, b, c, d, e] : List Int).length : Int) = 5 := rfl
    have s1 : (⟨#[1]⟩ : ByteArray).size = 1 := rfl
    rw [decide_eq_true h, if_pos rfl, if_pos h]
    rw [hopperref04_Encode.l0, hl, if_pos (by decide), if_pos (by decide), show rd [a, b, c, d, e] 0 = a from rfl, ref_number_k _ (by omega) a (by omega), Option.bind_some, if_pos (by omega), w0]
    rw [hopperref04_Encode.l0, hl, if_pos (by decide), if_pos (by decide), show rd [a, b, c, d, e] 1 = b from rfl, ref_number_k _ (by omega) b (by omega), Option.bind_some, if_pos (by simp only [ByteArray.size_append]; omega), w1]
    rw [hopperref04_Encode.l0, hl, if_pos (by decide), if_pos (by decide), show rd [a, b, c, d, e] 2 = c from rfl, ref_number_k _ (by omega) c (by omega), Option.bind_some, if_pos (by simp only [ByteArray.size_append]; omega), w2]
    rw [hopperref04_Encode.l0, hl, if_pos (by decide), if_pos (by decide), show rd [a, b, c, d, e] 3 = d from rfl, ref_number_k _ (by omega) d (by omega), Option.bind_some, if_pos (by simp only [ByteArray.size_append]; omega), w3]
    rw [hopperref04_Encode.l0, hl, if_pos (by decide), if_pos (by decide), show rd [a, b, c, d, e] 4 = e from rfl, ref_number_k _ (by omega) e (by omega), Option.bind_some, if_pos (by simp only [ByteArray.size_append]; omega), w4]
    rw [hopperref04_Encode.l0, hl, if_neg (by decide), ref_text, Option.bind_some, if_pos (by simp only [ByteArray.size_append]; omega)]
    unfold enc tail
    simp only [ByteArray.append_assoc]
  · rw [decide_eq_false h, if_neg (by decide), if_neg h]
theorem ref_id (a b c d e : Int) (z : ByteArray) (k : Nat) (hk : 400 ≤ k) : hopperref04_ID.f k a b c d e z = some (idOf a b c d e z) := by
  unfold hopperref04_ID.f idOf
  rw [ref_encode a b c d e z k (by omega), Option.bind_some]
  by_cases h : Chk a b c d e z
  · have r := enc_range a b c d e z h
    have q := Fnv.rollL_range 14695981039346656037 (enc a b c d e z).data.toList (by omega) (by omega)
    rw [if_pos h, if_pos h, if_pos rfl, Fnv.ref_of _ (by show (enc a b c d e z).size ≤ _; omega) k (by show (enc a b c d e z).size < _; omega), Option.bind_some, Fnv.ref_text _ q.1 q.2]
    rfl
  · rw [if_neg h, if_neg h]; rfl
theorem ref_better (a b c d e : Int) (z : ByteArray) (a' b' c' d' e' : Int) (z' : ByteArray) (k : Nat) (hk : 400 ≤ k) : hopperref04_Better.f k a b c d e z a' b' c' d' e' z' = some (decide (Better a b c d e z a' b' c' d' e' z')) := by
  unfold hopperref04_Better.f
  rw [ref_id _ _ _ _ _ _ k hk, ref_id _ _ _ _ _ _ k hk]
  simp only [Option.bind_some]
  rw [ByteArray.toList_eq, ByteArray.toList_eq]
  obtain ⟨l, hl⟩ : ∃ l, l = (idOf a b c d e z).data.toList := ⟨_, rfl⟩
  obtain ⟨m, hm⟩ : ∃ m, m = (idOf a' b' c' d' e' z').data.toList := ⟨_, rfl⟩
  have hB : Better a b c d e z a' b' c' d' e' z' ↔ c' < c ∨ (c = c' ∧ (Op.bytesLess l m = true ∨ (l = m ∧ (a < a' ∨ (a = a' ∧ b < b'))))) := by unfold Better; rw [← hl, ← hm]
  rw [← hl, ← hm]
  have key : ∀ (p : Bool), (p = true ↔ c' < c ∨ (c = c' ∧ (Op.bytesLess l m = true ∨ (l = m ∧ (a < a' ∨ (a = a' ∧ b < b')))))) → some p = some (decide (Better a b c d e z a' b' c' d' e' z')) := by
    intro p hp
    congr 1
    rw [Bool.eq_iff_iff, hp, decide_eq_true_iff, hB]
  by_cases h1 : c = c'
  · rw [if_pos h1]
    by_cases h3 : l = m
    · rw [if_pos h3]
      by_cases h4 : a = a'
      · rw [if_pos h4]
        apply key
        rw [h3, less_irrefl, decide_eq_true_iff]
        exact ⟨fun h => .inr ⟨h1, .inr ⟨rfl, .inr ⟨h4, h⟩⟩⟩, fun h => by rcases h with h | ⟨_, h | ⟨_, h | ⟨_, h⟩⟩⟩ <;> first | omega | cases h⟩
      · rw [if_neg h4]
        apply key
        rw [h3, less_irrefl, decide_eq_true_iff]
        exact ⟨fun h => .inr ⟨h1, .inr ⟨rfl, .inl h⟩⟩, fun h => by rcases h with h | ⟨_, h | ⟨_, h | ⟨h, _⟩⟩⟩ <;> first | omega | cases h⟩
    · rw [if_neg h3]
      apply key
      exact ⟨fun h => .inr ⟨h1, .inl h⟩, fun h => by rcases h with h | ⟨_, h | ⟨h, _⟩⟩ <;> first | omega | exact h | exact absurd h h3⟩
  · rw [if_neg h1]
    apply key
    rw [decide_eq_true_iff]
    exact ⟨fun h => .inl (by omega), fun h => by rcases h with h | ⟨h, _⟩ <;> omega⟩
end Go.Proofs.Ytnjnogkhbadioaa.TxnLaws
namespace Go.Proofs.Ytnjnogkhbadioaa.HeapLaws
open Go.RowKit Go.Proofs.Ytnjnogkhbadioaa.D Go.Proofs.Ytnjnogkhbadioaa.TxnCodec Go.Proofs.Ytnjnogkhbadioaa.TxnLaws Go.Proofs.YtnjnogkhbadioaaW.PrintWords Go.Proofs.YtnjnogkhbadioaaW.PrintLast
abbrev Tx := S32
abbrev d : Tx := z32
/-- Is the one better than the other? -/
def B (x y : Tx) : Bool := decide (Better x.f0 x.f1 x.f2 x.f3 x.f4 x.f5 y.f0 y.f1 y.f2 y.f3 y.f4 y.f5)
theorem asym (x y : Tx) (h : B x y = true) : B y x = false := decide_eq_false (fun q => better_asymm _ _ _ _ _ _ _ _ _ _ _ _ (of_decide_eq_true h) q)
theorem ntr (x y z : Tx) (h1 : B x y = false) (h2 : B y z = false) : B x z = false := by
  have h1 := of_decide_eq_false h1
  have h2 := of_decide_eq_false h2
  refine decide_eq_false (fun h => ?_)
  unfold Better at h h1 h2
  generalize (idOf x.f0 x.f1 x.f2 x.f3 x.f4 x.f5).data.toList = l at *
  generalize (idOf y.f0 y.f1 y.f2 y.f3 y.f4 y.f5).data.toList = m at *
  generalize (idOf z.f0 z.f1 z.f2 z.f3 z.f4 z.f5).data.toList = q at *
  have a1 : ¬ y.f2 < x.f2 := fun k => h1 (.inl k)
  have a2 : ¬ z.f2 < y.f2 := fun k => h2 (.inl k)
  rcases h with h | ⟨h, k⟩
  · omega
  · have e1 : x.f2 = y.f2 := by omega
    have e2 : y.f2 = z.f2 := by omega
    have b1 : ¬ Op.bytesLess l m = true := fun k => h1 (.inr ⟨e1, .inl k⟩)
    have b2 : ¬ Op.bytesLess m q = true := fun k => h2 (.inr ⟨e2, .inl k⟩)
    have t1 : l = m ∨ Op.bytesLess m l = true := by
      by_cases e : l = m
      · exact .inl e
      · exact (less_total l m e).elim (fun k => absurd k b1) .inr
    have t2 : m = q ∨ Op.bytesLess q m = true := by
      by_cases e : m = q
      · exact .inl e
      · exact (less_total m q e).elim (fun k => absurd k b2) .inr
    have lq : ¬ Op.bytesLess q l = true → l = m ∧ m = q := fun nq => by
      rcases t1 with t1 | t1
      · rcases t2 with t2 | t2
        · exact ⟨t1, t2⟩
        · rw [t1] at nq; exact absurd t2 nq
      · rcases t2 with t2 | t2
        · rw [← t2] at nq; exact absurd t1 nq
        · exact absurd (less_trans _ _ _ t2 t1) nq
    have nq : ¬ Op.bytesLess q l = true := fun k2 => by
      rcases k with k | ⟨e, k⟩
      · have := less_trans _ _ _ k k2
        rw [less_irrefl] at this; cases this
      · rw [e, less_irrefl] at k2; cases k2
    obtain ⟨e3, e4⟩ := lq nq
    have c1 : ¬ (x.f0 < y.f0 ∨ (x.f0 = y.f0 ∧ x.f1 < y.f1)) := fun k => h1 (.inr ⟨e1, .inr ⟨e3, k⟩⟩)
    have c2 : ¬ (y.f0 < z.f0 ∨ (y.f0 = z.f0 ∧ y.f1 < z.f1)) := fun k => h2 (.inr ⟨e2, .inr ⟨e4, k⟩⟩)
    rcases k with k | ⟨_, k⟩
    · rw [e3, e4, less_irrefl] at k; cases k
    · omega
theorem irr (x : Tx) : B x x = false := Bool.eq_false_iff.2 (fun q => by rw [asym x x q] at q; cases q)
theorem step_ (i : Nat) (h : i < 9223372036854775807) : wrap64 ((i : Int) + 1) = ((i + 1 : Nat) : Int) := by unfold wrap64; omega
theorem btk (k : Nat) (hk : 5 ≤ k) (x y : Tx) : txn_Better.f k x.f0 x.f1 x.f2 x.f3 x.f4 x.f5 y.f0 y.f1 y.f2 y.f3 y.f4 y.f5 = some (B x y) := better _ _ _ _ _ _ _ _ _ _ _ _ _ hk
/-- The worst one's place. -/
def Wst (l : List Tx) (v : Nat) : Prop := (l = [] → v = 0) ∧ (l ≠ [] → v < l.length) ∧ (∀ j, j < l.length → B (l.getD v d) (l.getD j d) = false) ∧ (∀ j, j < v → B (l.getD j d) (l.getD v d) = true)
theorem worst_from (k : Nat) (hk : 5 ≤ k) : ∀ (n i w : Nat) (l : List Tx), n = l.length - i → i ≤ l.length → l.length ≤ 1000 → (l = [] → w = 0) → (l ≠ [] → w < l.length) → (∀ j, j < i → B (l.getD w d) (l.getD j d) = false) → (∀ j, j < w → B (l.getD j d) (l.getD w d) = true) → ∃ v : Nat, heap_Worst.l0 (k + n + 1) l (w : Int) (l.length : Int) (i : Int) = some ((v : Int), decide ((l.length : Int) > 0)) ∧ Wst l v
  | 0, i, w, l, hn, hi, hl, h1, h2, h3, h4 => by
    unfold heap_Worst.l0
    rw [if_neg (by omega)]
    exact ⟨w, rfl, h1, h2, fun j hj => h3 j (by omega), h4⟩
  | n + 1, i, w, l, hn, hi, hl, h1, h2, h3, h4 => by
    have hne : l ≠ [] := fun q => by subst q; simp at hn
    have hw := h2 hne
    unfold heap_Worst.l0
    rw [if_pos (by omega), if_pos (by omega), if_pos (by omega), if_pos (by omega), if_pos (by omega), step_ i (by omega), show k + (n + 1) = k + n + 1 from rfl]
    rw [btk (k + n + 1) (by omega) (rd_T32 l (w : Int)) (rd_T32 l (i : Int)), Option.bind_some]
    by_cases hb : B (l.getD w d) (l.getD i d) = true
    · rw [if_pos (show B (rd_T32 l (w : Int)) (rd_T32 l (i : Int)) = true from hb)]
      refine worst_from k hk n (i + 1) i l (by omega) (by omega) hl (fun q => absurd q hne) (fun _ => by omega) (fun j hj => ?_) (fun j hj => ?_)
      · by_cases e : j = i
        · subst e; exact irr _
        · exact ntr _ _ _ (asym _ _ hb) (h3 j (by omega))
      · cases hx : B (l.getD j d) (l.getD i d) with
        | true => rfl
        | false => rw [ntr _ _ _ (h3 j hj) hx] at hb; cases hb
    · rw [if_neg (show ¬ B (rd_T32 l (w : Int)) (rd_T32 l (i : Int)) = true from hb)]
      refine worst_from k hk n (i + 1) w l (by omega) (by omega) hl h1 h2 (fun j hj => ?_) h4
      by_cases e : j = i
      · subst e; exact Bool.eq_false_iff.2 hb
      · exact h3 j (by omega)
theorem worst_eq (k : Nat) (l : List Tx) (h : l.length ≤ 1000) (hk : l.length + 6 ≤ k) : ∃ v : Nat, heap_Worst.f k l = some ((v : Int), decide ((l.length : Int) > 0)) ∧ Wst l v := by
  have := worst_from (k - (l.length + 1)) (by omega) l.length 0 0 l (by omega) (by omega) h (fun _ => rfl) (fun q => List.length_pos_iff.2 q) (fun j b => absurd b (by omega)) (fun j b => absurd b (by omega))
  rw [show k - (l.length + 1) + l.length + 1 = k by omega] at this
  exact this
/-- Are the two the same? -/
def same (t x : Tx) : Bool := x.f0 == t.f0 && (x.f1 == t.f1 && (x.f2 == t.f2 && (x.f3 == t.f3 && (x.f4 == t.f4 && (x.f5.toList == t.f5.toList)))))
theorem same_refl (t : Tx) : same t t = true := by simp [same]
theorem bytes_list (s t : ByteArray) (h : s.toList = t.toList) : s = t := by
  have e : ∀ b : ByteArray, b.toList = b.data.toList := fun b => by rw [ByteArray.toList_eq]
  rw [e, e] at h
  exact ByteArray.ext (Array.toList_inj.1 h)
theorem rbt (k : Nat) (hk : 400 ≤ k) (x y : Tx) : hopperref04_Better.f k x.f0 x.f1 x.f2 x.f3 x.f4 x.f5 y.f0 y.f1 y.f2 y.f3 y.f4 y.f5 = some (B x y) := ref_better _ _ _ _ _ _ _ _ _ _ _ _ k hk
theorem getD_mem (l : List Tx) (j : Nat) (h : j < l.length) : l.getD j d ∈ l := by
  rw [List.getD_eq_getElem?_getD, List.getElem?_eq_getElem h, Option.getD_some]
  exact List.getElem_mem h
theorem mem_getD (l : List Tx) (x : Tx) (h : x ∈ l) : ∃ j, j < l.length ∧ l.getD j d = x := by
  obtain ⟨j, hj, e⟩ := List.getElem_of_mem h
  exact ⟨j, hj, by rw [List.getD_eq_getElem?_getD, List.getElem?_eq_getElem hj, Option.getD_some, e]⟩
/-- The worst one is not better than any that is there. -/
theorem wst_mem (l : List Tx) (v : Nat) (h : Wst l v) (x : Tx) (hx : x ∈ l) : B (l.getD v d) x = false := by
  obtain ⟨j, hj, e⟩ := mem_getD l x hx
  rw [← e]; exact h.2.2.1 j hj
open Classical in
theorem rworst_in (K : Nat) (hK : 400 ≤ K) (l : List Tx) (i : Nat) (hi : i < l.length) (hl : l.length ≤ 1000) : ∀ (n j : Nat) (b : Bool), n = l.length - j → j ≤ l.length → hopperref06_Worst.l1 (K + n + 1) l (i : Int) b (j : Int) = if b = true ∧ (∀ m, j ≤ m → m < l.length → B (l.getD i d) (l.getD m d) = false) then some ((i : Int), true) else hopperref06_Worst.l0 K l (wrap64 ((i : Int) + 1))
  | 0, j, b, hn, hj => by
    unfold hopperref06_Worst.l1
    rw [if_neg (by omega)]
    cases b with
    | true => rw [if_pos rfl, if_pos ⟨rfl, fun m a c => absurd c (by omega)⟩]
    | false => rw [if_neg (by decide), if_neg (fun q => absurd q.1 (by decide))]
  | n + 1, j, b, hn, hj => by
    unfold hopperref06_Worst.l1
    rw [if_pos (by omega), step_ j (by omega), show K + (n + 1) = K + n + 1 from rfl]
    cases b with
    | false =>
      rw [if_neg (by decide), rworst_in K hK l i hi hl n (j + 1) false (by omega) (by omega), if_neg (fun q => absurd q.1 (by decide)), if_neg (fun q => absurd q.1 (by decide))]
    | true =>
      rw [if_pos rfl, if_pos (by omega), if_pos (by omega), if_pos (by omega), rbt (K + n + 1) (by omega) (rd_T32 l (i : Int)) (rd_T32 l (j : Int)), Option.bind_some, rworst_in K hK l i hi hl n (j + 1) _ (by omega) (by omega)]
      by_cases hb : B (l.getD i d) (l.getD j d) = true
      · rw [if_neg (fun q => ?_), if_neg (fun q => ?_)]
        · exact absurd (q.2 j (by omega) (by omega)) (by rw [hb]; decide)
        · have e : B (rd_T32 l (i : Int)) (rd_T32 l (j : Int)) = true := hb
          rw [e] at q; exact absurd q.1 (by decide)
      · have hb2 : B (l.getD i d) (l.getD j d) = false := Bool.eq_false_iff.2 hb
        have e : B (rd_T32 l (i : Int)) (rd_T32 l (j : Int)) = false := hb2
        rw [e]
        by_cases ha : ∀ m, j + 1 ≤ m → m < l.length → B (l.getD i d) (l.getD m d) = false
        · rw [if_pos ⟨rfl, ha⟩, if_pos ⟨rfl, fun m a c => by
            by_cases e : m = j
            · subst e; exact hb2
            · exact ha m (by omega) c⟩]
        · rw [if_neg (fun q => ha q.2), if_neg (fun q => ha (fun m a c => q.2 m (by omega) c))]
theorem rworst_from (l : List Tx) (v : Nat) (hl : l.length ≤ 1000) (hv : Wst l v) (hvl : v < l.length) : ∀ (n i K : Nat), i + n = v → 400 ≤ K → hopperref06_Worst.l0 (K + (n + 1) * (l.length + 2)) l (i : Int) = some ((v : Int), true)
  | 0, i, K, hi, hK => by
    rw [show K + (0 + 1) * (l.length + 2) = (K + l.length + 1) + 1 by omega]
    unfold hopperref06_Worst.l0
    rw [if_pos (by omega)]
    have := rworst_in K hK l i (by omega) hl l.length 0 true (by omega) (by omega)
    obtain rfl : i = v := by omega
    rw [if_pos ⟨rfl, fun m _ c => hv.2.2.1 m c⟩] at this
    exact this
  | n + 1, i, K, hi, hK => by
    have e : K + (n + 1 + 1) * (l.length + 2) = (K + (n + 1) * (l.length + 2)) + l.length + 1 + 1 := by rw [Nat.succ_mul (n + 1)]; omega
    rw [e]
    unfold hopperref06_Worst.l0
    rw [if_pos (by omega)]
    have := rworst_in (K + (n + 1) * (l.length + 2)) (by omega) l i (by omega) hl l.length 0 true (by omega) (by omega)
    rw [if_neg (fun q => absurd (q.2 v (by omega) hvl) (by rw [hv.2.2.2 i (by omega)]; decide)), step_ i (by omega), rworst_from l v hl hv hvl n (i + 1) K (by omega) hK] at this
    exact this
theorem rworst_eq (k : Nat) (l : List Tx) (v : Nat) (h : l.length ≤ 1000) (hv : Wst l v) (hk : 400 + 1002 * 1002 ≤ k) : hopperref06_Worst.f k l = some ((v : Int), decide ((l.length : Int) > 0)) := by
  by_cases hne : l = []
  · subst hne
    obtain ⟨m, rfl⟩ : ∃ m, k = m + 1 := ⟨k - 1, by omega⟩
    rw [hv.1 rfl]
    rfl
  · have hvl := hv.2.1 hne
    have hb : (v + 1) * (l.length + 2) ≤ 1002 * 1002 := Nat.mul_le_mul (by omega) (by omega)
    have := rworst_from l v (by omega) hv hvl v 0 (k - (v + 1) * (l.length + 2)) (by omega) (by omega)
    rw [show k - (v + 1) * (l.length + 2) + (v + 1) * (l.length + 2) = k by omega] at this
    rw [decide_eq_true (by omega)]
    exact this
end Go.Proofs.Ytnjnogkhbadioaa.HeapLaws
namespace Go.Proofs.Ytnjnogkhbadioaa.ShardLaws
open Go.RowKit Go.Proofs.Ytnjnogkhbadioaa.D Go.Proofs.YtnjnogkhbadioaaW.PrintWords Go.Proofs.YtnjnogkhbadioaaW.PrintLast
theorem rdL_eq (l : List Tx) (i : Nat) (h : i < l.length) : rd_T32 l (i : Int) = l[i] := by
  unfold rd_T32
  rw [Int.toNat_natCast, List.getD_eq_getElem?_getD, List.getElem?_eq_getElem h]
  rfl
def lasts (l : List Ac) : List Tx := l.filterMap fun a => a.f2.getLast?
theorem lasts_none (l : List Ac) (i : Nat) (h : i < l.length) (c : l[i].f2.length = 0) : lasts (l.drop i) = lasts (l.drop (i + 1)) := by
  have e : l[i].f2.getLast? = none := by rw [List.length_eq_zero_iff.1 c]; rfl
  unfold lasts
  rw [List.drop_eq_getElem_cons h, List.filterMap_cons, e]
theorem lasts_some (l : List Ac) (i : Nat) (h : i < l.length) (c : l[i].f2.length - 1 < l[i].f2.length) : lasts (l.drop i) = l[i].f2[l[i].f2.length - 1] :: lasts (l.drop (i + 1)) := by
  have e : l[i].f2.getLast? = some l[i].f2[l[i].f2.length - 1] := by rw [List.getLast?_eq_getElem?, List.getElem?_eq_getElem c]
  unfold lasts
  rw [List.drop_eq_getElem_cons h, List.filterMap_cons, e]
theorem lasts_len (l : List Ac) : (lasts l).length ≤ l.length := List.length_filterMap_le _ _
theorem slasts_from (K : Nat) (l : List Ac) (hl : l.length ≤ 1000) (hx : ∀ x ∈ l, x.f2.length ≤ 1000) : ∀ (n i : Nat) (acc : List Tx), i + n = l.length → acc.length ≤ i → shard_Lasts.l0 (K + n + 1) acc l (l.length : Int) (i : Int) = some (acc ++ lasts (l.drop i))
  | 0, i, acc, hn, ha => by
    unfold shard_Lasts.l0
    rw [if_neg (by omega), List.drop_eq_nil_of_le (by omega)]
    exact congrArg some (List.append_nil _).symm
  | n + 1, i, acc, hn, ha => by
    have hil : i < l.length := by omega
    have hm := hx _ (List.getElem_mem hil)
    unfold shard_Lasts.l0
    rw [if_pos (by omega), if_pos (by omega), if_pos (by omega), rd_eq l i hil]
    by_cases c : l[i].f2.length = 0
    · rw [if_neg (by omega), step_ i (by omega), show K + (n + 1) = K + n + 1 from rfl, slasts_from K l hl hx n (i + 1) acc (by omega) (by omega), lasts_none l i hil c]
    · rw [if_pos (by omega), back_ _ (by omega) (by omega), if_pos (by omega), if_pos (by omega), if_pos (by omega), rdL_eq l[i].f2 _ (by omega), step_ i (by omega), show K + (n + 1) = K + n + 1 from rfl, slasts_from K l hl hx n (i + 1) _ (by omega) (by rw [List.length_append, List.length_singleton]; omega), lasts_some l i hil (by omega), List.append_assoc]
      rfl
theorem slasts_eq (k : Nat) (l : List Ac) (hl : l.length ≤ 1000) (hx : ∀ x ∈ l, x.f2.length ≤ 1000) (hk : l.length + 1 ≤ k) : shard_Lasts.f k l = some (lasts l) := by
  have := slasts_from (k - (l.length + 1)) l hl hx l.length 0 [] (by omega) (Nat.le_refl _)
  rw [show k - (l.length + 1) + l.length + 1 = k by omega] at this
  exact this
/-- The answer: the worst one of a list, at its place. -/
def W (L : List Tx) (v : Nat) : Int × Int × Int × Int × Int × ByteArray × Bool := if L = [] then (0, 0, 0, 0, 0, ⟨#[]⟩, false) else ((L.getD v HeapLaws.d).f0, (L.getD v HeapLaws.d).f1, (L.getD v HeapLaws.d).f2, (L.getD v HeapLaws.d).f3, (L.getD v HeapLaws.d).f4, (L.getD v HeapLaws.d).f5, true)
theorem sworst_eq (k : Nat) (l : List Ac) (hl : l.length ≤ 1000) (hx : ∀ x ∈ l, x.f2.length ≤ 1000) (hk : 2000 ≤ k) : ∃ v, HeapLaws.Wst (lasts l) v ∧ shard_Worst.f k l = some (W (lasts l) v) := by
  have hL := lasts_len l
  obtain ⟨v, h1, h2⟩ := HeapLaws.worst_eq k (lasts l) (by omega) (by omega)
  refine ⟨v, h2, ?_⟩
  unfold shard_Worst.f
  rw [slasts_eq k l hl hx (by omega), Option.bind_some, h1, Option.bind_some]
  dsimp only
  by_cases e : lasts l = []
  · rw [if_neg (by rw [e]; decide), W, if_pos e]
  · have h0 := List.length_pos_iff.2 e
    have h3 := h2.2.1 e
    rw [if_pos (decide_eq_true (by omega)), if_pos (by omega), if_pos (by omega), W, if_neg e]
    rfl
end Go.Proofs.Ytnjnogkhbadioaa.ShardLaws
namespace Go.Proofs.Ytnjnogkhbadioaa.ShardLaws
open Go.RowKit Go.Proofs.Ytnjnogkhbadioaa.D Go.Proofs.YtnjnogkhbadioaaW.PrintWords Go.Proofs.YtnjnogkhbadioaaW.PrintLast
theorem put_from (K : Nat) (l : List Ac) (a : Ac) (hl : l.length ≤ 1000) : ∀ (n i : Nat) (acc : List Ac) (b : Bool), i + n = l.length → acc.length ≤ 2 * i + 1 → hopperref11_put.l0 (K + n + 1) l acc b (i : Int) a.f0 a.f1 a.f2 = some (acc ++ if b = true then l.drop i else ins a (l.drop i))
  | 0, i, acc, b, hn, ha => by
    unfold hopperref11_put.l0
    rw [if_neg (by omega), List.drop_eq_nil_of_le (by omega)]
    cases b with
    | true => rw [if_pos rfl, if_pos rfl, List.append_nil]
    | false => rw [if_neg (by decide), if_pos (by omega), if_neg (by decide)]; rfl
  | n + 1, i, acc, b, hn, ha => by
    have hil : i < l.length := by omega
    unfold hopperref11_put.l0
    rw [if_pos (by omega), step_ i (by omega), show K + (n + 1) = K + n + 1 from rfl, List.drop_eq_getElem_cons hil]
    cases b with
    | true =>
      rw [if_pos rfl, if_pos (by omega), if_pos (by omega), put_from K l a hl n (i + 1) _ true (by omega) (by rw [List.length_append, List.length_singleton]; omega), if_pos rfl, if_pos rfl, rd_eq l i hil, List.append_assoc]
      rfl
    | false =>
      rw [if_neg (by decide), if_pos (by omega), rd_eq l i hil]
      by_cases c : l[i].f0 > a.f0
      · rw [if_pos c, if_pos (by omega), Option.bind_some, if_pos (by rw [List.length_append, List.length_singleton]; omega), put_from K l a hl n (i + 1) _ true (by omega) (by rw [List.length_append, List.length_append, List.length_singleton, List.length_singleton]; omega), if_pos rfl, if_neg (by decide), ins, if_pos c, List.append_assoc, List.append_assoc]
        rfl
      · rw [if_neg c, if_pos (by omega), put_from K l a hl n (i + 1) _ false (by omega) (by rw [List.length_append, List.length_singleton]; omega), if_neg (by decide), if_neg (by decide), ins, if_neg c, List.append_assoc]
        rfl
theorem put_eq (k : Nat) (l : List Ac) (a : Ac) (hl : l.length ≤ 1000) (hk : l.length + 1 ≤ k) : hopperref11_put.f k l a.f0 a.f1 a.f2 = some (ins a l) := by
  have := put_from (k - (l.length + 1)) l a hl l.length 0 [] false (by omega) (by simp)
  rw [show k - (l.length + 1) + l.length + 1 = k by omega, if_neg (by decide)] at this
  exact this
/-- Accounts, one behind the other laid at their places. -/
def jn (acc L : List Ac) : List Ac := L.foldl (fun r a => ins a r) acc
theorem jn_len : ∀ (L acc : List Ac), (jn acc L).length = acc.length + L.length
  | [], acc => rfl
  | a :: L, acc => by
    have := jn_len L (ins a acc)
    rw [ins_len] at this
    rw [List.length_cons]
    have e : jn acc (a :: L) = jn (ins a acc) L := rfl
    rw [e]
    omega
theorem jin_from (M : Nat) (l : List Sh) (i : Nat) (hil : i < l.length) (hl : l.length ≤ 1000) (hM : 2000 ≤ M) : ∀ (m j : Nat) (acc : List Ac), j + m = l[i].f0.length → acc.length + m ≤ 900 → l[i].f0.length ≤ 900 → hopperref11_Join.l1 (M + m + 1) l acc (i : Int) (j : Int) = hopperref11_Join.l0 M l (jn acc (l[i].f0.drop j)) (wrap64 ((i : Int) + 1))
  | 0, j, acc, hm, ha, hb => by
    unfold hopperref11_Join.l1
    rw [if_pos (by omega), if_pos (by omega), rdS_eq l i hil, if_neg (by omega), List.drop_eq_nil_of_le (by omega)]
    rfl
  | m + 1, j, acc, hm, ha, hb => by
    have hj : j < l[i].f0.length := by omega
    unfold hopperref11_Join.l1
    rw [if_pos (by omega), if_pos (by omega), rdS_eq l i hil, if_pos (by omega), if_pos (by omega), rd_eq l[i].f0 j hj, put_eq _ _ _ (by omega) (by omega), Option.bind_some, step_ j (by omega), show M + (m + 1) = M + m + 1 from rfl, jin_from M l i hil hl hM m (j + 1) _ (by omega) (by rw [ins_len]; omega) hb, List.drop_eq_getElem_cons hj]
    rfl
theorem all_drop (l : List Sh) (i : Nat) (h : i < l.length) : all (l.drop i) = l[i].f0 ++ all (l.drop (i + 1)) := by
  unfold all
  rw [List.drop_eq_getElem_cons h, List.flatMap_cons]
theorem join_from (l : List Sh) (hl : l.length ≤ 8) (hf : ∀ j, (h : j < l.length) → l[j].f0.length ≤ 20) : ∀ (n i : Nat) (acc : List Ac) (K : Nat), i + n = l.length → acc.length ≤ 20 * i → 2000 ≤ K → hopperref11_Join.l0 (K + 24 * n + 1) l acc (i : Int) = some (jn acc (all (l.drop i)))
  | 0, i, acc, K, hn, ha, hK => by
    unfold hopperref11_Join.l0
    rw [if_neg (by omega), List.drop_eq_nil_of_le (by omega)]
    rfl
  | n + 1, i, acc, K, hn, ha, hK => by
    have hil : i < l.length := by omega
    have h20 := hf i hil
    have h1 := jin_from (K + 22 - l[i].f0.length + 24 * n + 1) l i hil (by omega) (by omega) l[i].f0.length 0 acc (by omega) (by omega) (by omega)
    unfold hopperref11_Join.l0
    rw [if_pos (by omega), show K + 24 * (n + 1) = K + 22 - l[i].f0.length + 24 * n + 1 + l[i].f0.length + 1 by omega]
    refine h1.trans ?_
    rw [List.drop_zero, step_ i (by omega), join_from l hl hf n (i + 1) _ _ (by omega) (by rw [jn_len]; omega) (by omega), all_drop l i hil]
    unfold jn
    rw [List.foldl_append]
def Le (l : List Ac) : Prop := l.Pairwise fun x y => x.f0 ≤ y.f0
theorem ins_le (a : Ac) : ∀ l : List Ac, Le l → Le (ins a l)
  | [], _ => List.pairwise_singleton _ _
  | y :: l, h => by
    obtain ⟨h1, h2⟩ := List.pairwise_cons.1 h
    rw [ins]
    split
    · rename_i c
      refine List.pairwise_cons.2 ⟨fun x hx => ?_, h⟩
      rcases List.mem_cons.1 hx with rfl | hx
      · omega
      · have := h1 x hx; omega
    · rename_i c
      refine List.pairwise_cons.2 ⟨fun x hx => ?_, ins_le a l h2⟩
      rcases (ins_mem a x l).1 hx with rfl | hx
      · omega
      · exact h1 x hx
theorem ins_sim (a : Ac) : ∀ l : List Ac, Le l → StableK.Sim (fun x : Ac => x.f0) (l ++ [a]) (ins a l)
  | [], _ => StableK.Sim.refl _
  | y :: l, h => by
    obtain ⟨h1, h2⟩ := List.pairwise_cons.1 h
    rw [ins]
    split
    · rename_i c
      exact StableK.Sim.swap (key := fun x : Ac => x.f0) (A := y :: l) (B := [a]) (fun x hx z hz => by
        rw [List.mem_singleton] at hz
        subst hz
        rcases List.mem_cons.1 hx with rfl | hx
        · exact c
        · have := h1 x hx; omega)
    · exact (StableK.Sim.refl (key := fun x : Ac => x.f0) [y]).app (ins_sim a l h2)
theorem jn_facts : ∀ (L acc : List Ac), Le acc → Le (jn acc L) ∧ StableK.Sim (fun x : Ac => x.f0) (acc ++ L) (jn acc L)
  | [], acc, h => ⟨h, by rw [List.append_nil]; exact StableK.Sim.refl _⟩
  | a :: L, acc, h => by
    obtain ⟨h1, h2⟩ := jn_facts L (ins a acc) (ins_le a acc h)
    refine ⟨h1, ?_⟩
    rw [List.append_cons]
    exact StableK.Sim.trans ((ins_sim a acc h).app (StableK.Sim.refl L)) h2
theorem jn_sort (L : List Ac) : jn [] L = shard_Join.sort L := by
  obtain ⟨h1, h2⟩ := jn_facts L [] List.Pairwise.nil
  exact StableK.Sim.eq (StableK.Sim.trans (StableK.Sim.symm h2) (shard_Join.sort_sim L)) h1 (shard_Join.sort_sorted L)
theorem rjoin_eq (k : Nat) (l : List Sh) (hl : l.length ≤ 8) (hf : ∀ j, (h : j < l.length) → l[j].f0.length ≤ 20) (hk : 3000 ≤ k) : hopperref11_Join.f k l = some (shard_Join.sort (all l)) := by
  have := join_from l hl hf l.length 0 [] (k - 24 * l.length - 1) (by omega) (by simp) (by omega)
  rw [show k - 24 * l.length - 1 + 24 * l.length + 1 = k by omega, List.drop_zero, jn_sort] at this
  exact this
theorem rlasts_from (K : Nat) (l : List Ac) (hl : l.length ≤ 1000) (hx : ∀ x ∈ l, x.f2.length ≤ 1000) : ∀ (n i : Nat) (acc : List Tx), i + n = l.length → acc.length ≤ i → hopperref11_Lasts.l0 (K + n + 1) l acc (i : Int) = some (acc ++ lasts (l.drop i))
  | 0, i, acc, hn, ha => by
    unfold hopperref11_Lasts.l0
    rw [if_neg (by omega), List.drop_eq_nil_of_le (by omega)]
    exact congrArg some (List.append_nil _).symm
  | n + 1, i, acc, hn, ha => by
    have hil : i < l.length := by omega
    have hm := hx _ (List.getElem_mem hil)
    unfold hopperref11_Lasts.l0
    rw [if_pos (by omega), if_pos (by omega), rd_eq l i hil]
    by_cases c : l[i].f2.length = 0
    · rw [if_neg (by omega), step_ i (by omega), show K + (n + 1) = K + n + 1 from rfl, rlasts_from K l hl hx n (i + 1) acc (by omega) (by omega), lasts_none l i hil c]
    · rw [if_pos (by omega), back_ _ (by omega) (by omega), if_pos (by omega), if_pos (by omega), if_pos (by omega), rdL_eq l[i].f2 _ (by omega), step_ i (by omega), show K + (n + 1) = K + n + 1 from rfl, rlasts_from K l hl hx n (i + 1) _ (by omega) (by rw [List.length_append, List.length_singleton]; omega), lasts_some l i hil (by omega), List.append_assoc]
      rfl
theorem rlasts_eq (k : Nat) (l : List Ac) (hl : l.length ≤ 1000) (hx : ∀ x ∈ l, x.f2.length ≤ 1000) (hk : l.length + 1 ≤ k) : hopperref11_Lasts.f k l = some (lasts l) := by
  have := rlasts_from (k - (l.length + 1)) l hl hx l.length 0 [] (by omega) (Nat.le_refl _)
  rw [show k - (l.length + 1) + l.length + 1 = k by omega] at this
  exact this
theorem rworst_eq (k : Nat) (l : List Ac) (hl : l.length ≤ 1000) (hx : ∀ x ∈ l, x.f2.length ≤ 1000) (v : Nat) (hv : HeapLaws.Wst (lasts l) v) (hk : 2000000 ≤ k) : hopperref11_Worst.f k l = some (W (lasts l) v) := by
  have hL := lasts_len l
  unfold hopperref11_Worst.f
  rw [rlasts_eq k l hl hx (by omega), Option.bind_some, HeapLaws.rworst_eq k (lasts l) v (by omega) hv (by omega), Option.bind_some]
  dsimp only
  by_cases e : lasts l = []
  · rw [if_neg (by rw [e]; decide), W, if_pos e]
  · have h0 := List.length_pos_iff.2 e
    have h3 := hv.2.1 e
    rw [if_pos (decide_eq_true (by omega)), if_pos (by omega), if_pos (by omega), W, if_neg e]
    rfl
end Go.Proofs.Ytnjnogkhbadioaa.ShardLaws
