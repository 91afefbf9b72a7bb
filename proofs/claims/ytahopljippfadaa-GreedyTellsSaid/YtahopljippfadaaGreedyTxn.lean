/- Plain facts, of my own wider texts, that the heaps' laws need. -/
import Derived.Test.YtahopljippfadaaDx6
import Derived.Test.YtahopljippfadaaDx6
import Derived.Test.YtahopljippfadaaDx7
import Derived.Test.YtahopljippfadaaDx7
import Derived.Test.YtahopljippfadaaDx7
import Derived.Test.YtahopljippfadaaDx7
import Derived.Test.YtahopljippfadaaDx7
namespace Go.Proofs.Ytahopljippfadaa.TxnCodec
set_option linter.unusedSimpArgs false
set_option linter.unusedVariables false
open Go.Proofs.Ytahopljippfadaa.D Go.Proofs.YtahopljippfadaaW.PrintLast Go.Proofs.YtahopljippfadaaW.PrintWords Go.RowKit
/-- Numbers that are bytes. -/
def Bytes (l : List Int) : Prop := ∀ x ∈ l, 0 ≤ x ∧ x < 256
theorem bytes_str (l : List Int) (h : Bytes l) : bytesOf (strOfNums l) = l := by
  unfold bytesOf strOfNums
  simp only [List.toList_toArray, List.map_map]
  conv => rhs; rw [← List.map_id l]
  apply List.map_congr_left
  intro x hx
  have := h x hx
  simp only [Function.comp, id]
  rw [UInt8.toNat_ofNat']
  omega
theorem bytes_append (s t : ByteArray) : bytesOf (s ++ t) = bytesOf s ++ bytesOf t := by
  unfold bytesOf
  rw [ByteArray.data_append, Array.toList_append, List.map_append]
theorem str_size (l : List Int) : (strOfNums l).size = l.length := by simp [strOfNums, ByteArray.size]
/-- The digits of 256, by the last one. -/
def dg : Nat → Nat → List Int
  | 0, x => [((x % 256 : Nat) : Int)]
  | m + 1, x => if x / 256 = 0 then [((x % 256 : Nat) : Int)] else dg m (x / 256) ++ [((x % 256 : Nat) : Int)]
theorem dg_eq (m : Nat) : ∀ x, (List.range (more256 m x + 1)).map (fun j => ((x / 256 ^ (more256 m x - j) % 256 : Nat) : Int)) = dg m x := by
  induction m with
  | zero => intro x; simp [more256, dg]
  | succ m ih =>
    intro x
    unfold more256 dg
    by_cases h : x / 256 = 0
    · rw [if_pos h, if_pos h]; simp
    · rw [if_neg h, if_neg h, List.range_succ, List.map_append, ← ih (x / 256)]
      congr 1
      · apply List.map_congr_left
        intro j hj
        have hj' := List.mem_range.1 hj
        rw [Nat.div_div_eq_div_mul, ← Nat.pow_succ', show (more256 m (x / 256) - j).succ = more256 m (x / 256) + 1 - j by omega]
      · simp
theorem dg_len (m : Nat) (x : Nat) : (dg m x).length = more256 m x + 1 := by rw [← dg_eq]; simp
theorem numL_eq (x : Nat) : numL x = ((dg 8 x).length : Int) :: dg 8 x := by
  unfold numL
  rw [dg_eq, dg_len]
theorem more_le7 (x : Nat) (h : x < 9223372036854775808) : more256 8 x ≤ 7 := by
  have step : ∀ m c x : Nat, x < 256 ^ (c + 1) → more256 m x ≤ c := by
    intro m
    induction m with
    | zero => intro c x _; unfold more256; omega
    | succ m ih =>
      intro c x hx
      unfold more256
      split
      · omega
      · cases c with
        | zero => exfalso; simp at hx; omega
        | succ c => have := ih c (x / 256) (by rw [Nat.pow_succ] at hx; omega); omega
  exact step 8 7 x (by omega)
theorem dg_len8 (x : Nat) (h : x < 9223372036854775808) : 1 ≤ (dg 8 x).length ∧ (dg 8 x).length ≤ 8 := by
  rw [dg_len]; have := more_le7 x h; omega
/-- A number's bytes. -/
def numStr (n : Int) : ByteArray := if n < 0 then ⟨#[]⟩ else strOfNums (numL n.toNat)
theorem number (n : Int) (h : n ≤ 9223372036854775807) : codec_Number.f n = some (numStr n) := by
  unfold codec_Number.f numStr
  by_cases c : n < 0
  · rw [if_pos c, if_pos c]
  · rw [if_neg c, if_neg c, if_pos h]
theorem num_size (n : Int) (h : n ≤ 9223372036854775807) (h0 : 0 ≤ n) : 2 ≤ (numStr n).size ∧ (numStr n).size ≤ 9 := by
  unfold numStr
  rw [if_neg (by omega), str_size, numL_eq]
  have := dg_len8 n.toNat (by omega)
  simp only [List.length_cons]
  omega
theorem size_bytes (s : ByteArray) : s.size = (bytesOf s).length := (bytesOf_length s).symm
/-- A text's bytes. -/
def textStr (s : ByteArray) : ByteArray := if 65535 < s.size then ⟨#[]⟩ else strOfNums [((s.size / 256 : Nat) : Int), ((s.size % 256 : Nat) : Int)] ++ s
theorem text (s : ByteArray) : codec_Text.f s = some (textStr s) := by
  unfold codec_Text.f textStr
  by_cases c : 65535 < s.size
  · rw [if_pos (by omega), if_pos c]
  · rw [if_neg (by omega), if_neg c]
    simp only [Option.bind_some]
    rw [show ((s.size : Int) / 256) % 256 = ((s.size / 256 : Nat) : Int) by omega, show (s.size : Int) % 256 = ((s.size % 256 : Nat) : Int) by omega, if_pos (by rw [str_size]; simp only [List.length_cons, List.length_nil]; omega)]
theorem text_bytes (s : ByteArray) (h : s.size ≤ 65535) : bytesOf (textStr s) = ((s.size / 256 : Nat) : Int) :: ((s.size % 256 : Nat) : Int) :: bytesOf s := by
  unfold textStr
  rw [if_neg (by omega), bytes_append, bytes_str]
  · rfl
  · intro x hx
    simp at hx
    omega
theorem text_size (s : ByteArray) (h : s.size ≤ 65535) : (textStr s).size = s.size + 2 := by
  rw [size_bytes, text_bytes s h, size_bytes s]
  rfl
end Go.Proofs.Ytahopljippfadaa.TxnCodec
namespace Go.Proofs.Ytahopljippfadaa.TxnCodec.Fnv
open Go.Proofs.Ytahopljippfadaa.D Go.Proofs.YtahopljippfadaaW.PrintLast Go.Proofs.YtahopljippfadaaW.PrintWords Go.RowKit
theorem roll (h : Int) (s : ByteArray) (hn : s.size ≤ 9223372036854775806) : fnv_Roll.f h s = some (rollL h s.data.toList) := by
  unfold fnv_Roll.f; rw [if_pos hn]
theorem of_ (s : ByteArray) (hn : s.size ≤ 9223372036854775806) : fnv_Of.f s = some (rollL 14695981039346656037 s.data.toList) := by
  unfold fnv_Of.f; rw [roll _ _ hn]; rfl
theorem rollB_range (h c : Int) : 0 ≤ rollB h c ∧ rollB h c < 18446744073709551616 := by unfold rollB; rw [IntKind.wrap_u64]; omega
theorem text (h : Int) (h0 : 0 ≤ h) (h1 : h < 18446744073709551616) : fnv_Text.f h = some (strOfNums (hexL h.toNat)) := by
  unfold fnv_Text.f; rw [if_pos h0, if_pos h1]
theorem rollL_range (h : Int) (l : List UInt8) (h0 : 0 ≤ h) (h1 : h < 18446744073709551616) : 0 ≤ rollL h l ∧ rollL h l < 18446744073709551616 := by
  induction l generalizing h with
  | nil => exact ⟨h0, h1⟩
  | cons c l ih => exact ih _ (rollB_range _ _).1 (rollB_range _ _).2
end Go.Proofs.Ytahopljippfadaa.TxnCodec.Fnv
namespace Go.Proofs.Ytahopljippfadaa.TxnLaws
open Go.Proofs.Ytahopljippfadaa.D Go.Proofs.Ytahopljippfadaa.TxnCodec Go.Proofs.YtahopljippfadaaW.PrintLast Go.Proofs.YtahopljippfadaaW.PrintWords Go.RowKit
/-- May a transaction be? -/
def Chk (a b c d e : Int) (z : ByteArray) : Prop := 0 ≤ a ∧ a ≤ 255 ∧ 0 ≤ b ∧ b ≤ 4294967295 ∧ 0 ≤ c ∧ c ≤ d ∧ d ≤ 1099511627776 ∧ 1 ≤ e ∧ e ≤ 1073741824 ∧ z.size ≤ 256
instance (a b c d e : Int) (z : ByteArray) : Decidable (Chk a b c d e z) := by unfold Chk; infer_instance
theorem in_ (a b c : Int) : txn_in.f a b c = some (decide (b ≤ a ∧ a ≤ c)) := by
  unfold txn_in.f
  by_cases h : a ≥ b
  · rw [if_pos h]; congr 1; apply decide_eq_decide.2; omega
  · rw [if_neg h, decide_eq_false (by omega)]
theorem check (a b c d e : Int) (z : ByteArray) : txn_Check.f a b c d e z = some (decide (Chk a b c d e z)) := by
  unfold txn_Check.f
  simp only [in_, Option.bind_some]
  by_cases h1 : 0 ≤ a ∧ a ≤ 255
  · rw [decide_eq_true h1, if_pos rfl]
    by_cases h2 : 0 ≤ b ∧ b ≤ 4294967295
    · rw [decide_eq_true h2, if_pos rfl]
      by_cases h3 : 0 ≤ c ∧ c ≤ 1099511627776
      · rw [decide_eq_true h3, if_pos rfl]
        by_cases h4 : c ≤ d ∧ d ≤ 1099511627776
        · rw [decide_eq_true h4, if_pos rfl]
          by_cases h5 : 1 ≤ e ∧ e ≤ 1073741824
          · rw [decide_eq_true h5, if_pos rfl]; congr 1; apply decide_eq_decide.2; unfold Chk; omega
          · rw [decide_eq_false h5, if_neg (by decide), decide_eq_false (by unfold Chk; omega)]
        · rw [decide_eq_false h4, if_neg (by decide), decide_eq_false (by unfold Chk; omega)]
      · rw [decide_eq_false h3, if_neg (by decide), decide_eq_false (by unfold Chk; omega)]
    · rw [decide_eq_false h2, if_neg (by decide), decide_eq_false (by unfold Chk; omega)]
  · rw [decide_eq_false h1, if_neg (by decide), decide_eq_false (by unfold Chk; omega)]
/-- What stands behind the first byte. -/
def tail (a b c d e : Int) (z : ByteArray) : ByteArray := numStr a ++ (numStr b ++ (numStr c ++ (numStr d ++ (numStr e ++ textStr z))))
/-- A transaction's bytes. -/
def enc (a b c d e : Int) (z : ByteArray) : ByteArray := (⟨#[1]⟩ : ByteArray) ++ tail a b c d e z
theorem enc_all (a b c d e : Int) (z : ByteArray) : encAll (numStr a) (numStr b) (numStr c) (numStr d) (numStr e) (textStr z) = enc a b c d e z := by
  apply ByteArray.ext
  apply Array.toList_inj.1
  unfold encAll encP enc tail
  simp only [ByteArray.data_append, Array.toList_append]
  simp
theorem tail_size (a b c d e : Int) (z : ByteArray) (h : Chk a b c d e z) : z.size + 12 ≤ (tail a b c d e z).size ∧ (tail a b c d e z).size ≤ z.size + 47 := by
  unfold Chk at h
  have ha := num_size a (by omega) (by omega)
  have hb := num_size b (by omega) (by omega)
  have hc := num_size c (by omega) (by omega)
  have hd := num_size d (by omega) (by omega)
  have he := num_size e (by omega) (by omega)
  have hz := text_size z (by omega)
  unfold tail
  simp only [ByteArray.size_append]
  omega
theorem enc_size (a b c d e : Int) (z : ByteArray) : (enc a b c d e z).size = 1 + (tail a b c d e z).size := by
  unfold enc
  rw [ByteArray.size_append]
  rfl
/-- The bytes of a transaction that may be. -/
theorem encode (a b c d e : Int) (z : ByteArray) : txn_Encode.f a b c d e z = some (if Chk a b c d e z then (enc a b c d e z, true) else (⟨#[]⟩, false)) := by
  unfold txn_Encode.f
  rw [check, Option.bind_some]
  by_cases h : Chk a b c d e z
  · have h' := h
    unfold Chk at h'
    have ha := num_size a (by omega) (by omega)
    have hb := num_size b (by omega) (by omega)
    have hc := num_size c (by omega) (by omega)
    have hd := num_size d (by omega) (by omega)
    have he := num_size e (by omega) (by omega)
    have hz := text_size z (by omega)
    rw [decide_eq_true h, if_pos rfl, if_pos h, number a (by omega), number b (by omega), number c (by omega), number d (by omega), number e (by omega), text]
    simp only [Option.bind_some]
    rw [if_pos (by omega), enc_all]
  · rw [decide_eq_false h, if_neg (by decide), if_neg h]
theorem enc_range (a b c d e : Int) (z : ByteArray) (h : Chk a b c d e z) : z.size + 13 ≤ (enc a b c d e z).size ∧ (enc a b c d e z).size ≤ z.size + 48 ∧ (enc a b c d e z).size ≤ 304 := by
  have h1 := tail_size a b c d e z h
  have h2 := enc_size a b c d e z
  unfold Chk at h
  omega
/-- The digits of a transaction's hash. -/
def idOf (a b c d e : Int) (z : ByteArray) : ByteArray := if Chk a b c d e z then strOfNums (hexL (rollL 14695981039346656037 (enc a b c d e z).data.toList).toNat) else ⟨#[]⟩
theorem id_ (a b c d e : Int) (z : ByteArray) : txn_ID.f a b c d e z = some (idOf a b c d e z) := by
  unfold txn_ID.f idOf
  rw [encode, Option.bind_some]
  by_cases h : Chk a b c d e z
  · have r := enc_range a b c d e z h
    have q := Fnv.rollL_range 14695981039346656037 (enc a b c d e z).data.toList (by omega) (by omega)
    rw [if_pos h, if_pos h, if_pos rfl, Fnv.of_ _ (by show (enc a b c d e z).size ≤ _; omega), Option.bind_some, Fnv.text _ q.1 q.2]
    rfl
  · rw [if_neg h, if_neg h]; rfl
theorem less_irrefl (l : List UInt8) : Op.bytesLess l l = false := by
  induction l with
  | nil => rfl
  | cons a l ih => simp [Op.bytesLess, ih]
theorem less_cons (a b : UInt8) (l m : List UInt8) : Op.bytesLess (a :: l) (b :: m) = true ↔ a < b ∨ (a = b ∧ Op.bytesLess l m = true) := by
  simp [Op.bytesLess]
theorem less_trans (l : List UInt8) : ∀ m n, Op.bytesLess l m = true → Op.bytesLess m n = true → Op.bytesLess l n = true := by
  induction l with
  | nil =>
    intro m n h1 h2
    cases m with
    | nil => cases n <;> simp_all [Op.bytesLess]
    | cons b m => cases n with
      | nil => simp [Op.bytesLess] at h2
      | cons c n => rfl
  | cons a l ih =>
    intro m n h1 h2
    cases m with
    | nil => simp [Op.bytesLess] at h1
    | cons b m =>
      cases n with
      | nil => simp [Op.bytesLess] at h2
      | cons c n =>
        rw [less_cons] at h1 h2 ⊢
        rcases h1 with h1 | ⟨rfl, h1⟩
        · rcases h2 with h2 | ⟨rfl, h2⟩
          · exact .inl (UInt8.lt_trans h1 h2)
          · exact .inl h1
        · rcases h2 with h2 | ⟨rfl, h2⟩
          · exact .inl h2
          · exact .inr ⟨rfl, ih _ _ h1 h2⟩
theorem less_total (l : List UInt8) : ∀ m, l ≠ m → Op.bytesLess l m = true ∨ Op.bytesLess m l = true := by
  induction l with
  | nil =>
    intro m h
    cases m with
    | nil => exact absurd rfl h
    | cons b m => exact .inl rfl
  | cons a l ih =>
    intro m h
    cases m with
    | nil => exact .inr rfl
    | cons b m =>
      rw [less_cons, less_cons]
      by_cases e : a = b
      · subst e
        rcases ih m (fun q => h (by rw [q])) with h1 | h1
        · exact .inl (.inr ⟨rfl, h1⟩)
        · exact .inr (.inr ⟨rfl, h1⟩)
      · rcases UInt8.lt_or_lt_of_ne e with h1 | h1
        · exact .inl (.inl h1)
        · exact .inr (.inl h1)
theorem compare_less (l : List UInt8) : ∀ m, Lib.compareBytes l m = if l = m then 0 else if Op.bytesLess l m = true then -1 else 1 := by
  induction l with
  | nil =>
    intro m
    cases m with
    | nil => rfl
    | cons b m => rfl
  | cons a l ih =>
    intro m
    cases m with
    | nil => rfl
    | cons b m =>
      simp only [Lib.compareBytes]
      by_cases h1 : a < b
      · rw [if_pos h1, if_neg (by intro q; injection q with q; subst q; exact UInt8.lt_irrefl _ h1), if_pos ((less_cons _ _ _ _).2 (.inl h1))]
      · by_cases h2 : b < a
        · rw [if_neg h1, if_pos h2, if_neg (by intro q; injection q with q; subst q; exact UInt8.lt_irrefl _ h2), if_neg]
          intro q
          rcases (less_cons _ _ _ _).1 q with h | ⟨h, _⟩
          · exact h1 h
          · subst h; exact UInt8.lt_irrefl _ h2
        · have e : a = b := by
            by_cases e : a = b
            · exact e
            · rcases UInt8.lt_or_lt_of_ne e with h | h
              · exact absurd h h1
              · exact absurd h h2
          subst e
          rw [if_neg h1, if_neg h2, ih]
          by_cases e : l = m
          · subst e; rw [if_pos rfl, if_pos rfl]
          · rw [if_neg e, if_neg (show ¬ (a :: l = a :: m) from fun q => e (List.cons.inj q).2)]
            by_cases q : Op.bytesLess l m = true
            · rw [if_pos q, if_pos ((less_cons _ _ _ _).2 (.inr ⟨rfl, q⟩))]
            · rw [if_neg q, if_neg]
              intro q'
              rcases (less_cons _ _ _ _).1 q' with h | ⟨_, h⟩
              · exact h1 h
              · exact q h
def Better (a b c d e : Int) (z : ByteArray) (a' b' c' d' e' : Int) (z' : ByteArray) : Prop :=
  c' < c ∨ (c = c' ∧ (Op.bytesLess (idOf a b c d e z).data.toList (idOf a' b' c' d' e' z').data.toList = true ∨ ((idOf a b c d e z).data.toList = (idOf a' b' c' d' e' z').data.toList ∧ (a < a' ∨ (a = a' ∧ b < b')))))
instance (a b c d e : Int) (z : ByteArray) (a' b' c' d' e' : Int) (z' : ByteArray) : Decidable (Better a b c d e z a' b' c' d' e' z') := by unfold Better; infer_instance
def cmpI (a b : Int) : Int := if a < b then -1 else if b < a then 1 else 0
theorem cmp_ (a b : Int) : cmp_Compare_int.f a b = some (cmpI a b) := by
  unfold cmp_Compare_int.f cmp_isNaN_int.f cmpI
  simp only [bne_self_eq_false, Option.bind_some]
  rw [if_neg (by decide), if_neg (by decide)]
  by_cases h : a < b
  · rw [if_pos h, if_pos h]
  · rw [if_neg h, if_neg h]
    by_cases h2 : b < a
    · rw [if_pos h2, if_pos (show a > b from h2)]
    · rw [if_neg h2, if_neg (show ¬ a > b from h2)]
def or4 (x y u v : Int) : Int := if x = 0 then (if y = 0 then (if u = 0 then v else u) else y) else x
theorem or_ (x y u v : Int) (k : Nat) : cmp_Or_int.f (k + 5) [x, y, u, v] = some (or4 x y u v) := by
  have w0 : wrap64 (0 + 1) = 1 := by unfold wrap64; omega
  have w1 : wrap64 (1 + 1) = 2 := by unfold wrap64; omega
  have w2 : wrap64 (2 + 1) = 3 := by unfold wrap64; omega
  have w3 : wrap64 (3 + 1) = 4 := by unfold wrap64; omega
  have hl : (([x, y, u, v] : List Int).length : Int) = 4 := rfl
  unfold cmp_Or_int.f or4
  rw [cmp_Or_int.l0, hl, if_pos (by decide), if_pos (by decide), if_pos (by decide), show rd [x, y, u, v] 0 = x from rfl]
  by_cases hx : x = 0
  · rw [if_pos hx, if_pos hx, w0, cmp_Or_int.l0, hl, if_pos (by decide), if_pos (by decide), if_pos (by decide), show rd [x, y, u, v] 1 = y from rfl]
    by_cases hy : y = 0
    · rw [if_pos hy, if_pos hy, w1, cmp_Or_int.l0, hl, if_pos (by decide), if_pos (by decide), if_pos (by decide), show rd [x, y, u, v] 2 = u from rfl]
      by_cases hu : u = 0
      · rw [if_pos hu, if_pos hu, w2, cmp_Or_int.l0, hl, if_pos (by decide), if_pos (by decide), if_pos (by decide), show rd [x, y, u, v] 3 = v from rfl]
        by_cases hv : v = 0
        · rw [if_pos hv, w3, cmp_Or_int.l0, if_neg (by decide), hv]
        · rw [if_neg hv]
      · rw [if_neg hu, if_neg hu]
    · rw [if_neg hy, if_neg hy]
  · rw [if_neg hx, if_neg hx]
theorem better (a b c d e : Int) (z : ByteArray) (a' b' c' d' e' : Int) (z' : ByteArray) (k : Nat) (hk : 5 ≤ k) : txn_Better.f k a b c d e z a' b' c' d' e' z' = some (decide (Better a b c d e z a' b' c' d' e' z')) := by
  obtain ⟨k, rfl⟩ : ∃ m, k = m + 5 := ⟨k - 5, by omega⟩
  unfold txn_Better.f
  rw [cmp_, id_, id_, cmp_, cmp_]
  simp only [Option.bind_some]
  unfold strings_Compare.f
  rw [Option.bind_some, or_, Option.bind_some]
  congr 1
  apply decide_eq_decide.2
  rw [compare_less]
  unfold or4 cmpI Better
  generalize (idOf a b c d e z).data.toList = l
  generalize (idOf a' b' c' d' e' z').data.toList = m
  by_cases h1 : c' < c
  · rw [if_pos h1, if_neg (by decide)]; exact ⟨fun _ => .inl h1, fun _ => by decide⟩
  · by_cases h2 : c < c'
    · rw [if_neg h1, if_pos h2, if_neg (by decide)]; exact ⟨fun h => absurd h (by decide), fun h => by rcases h with h | ⟨h, _⟩ <;> omega⟩
    · have hc : c = c' := by omega
      rw [if_neg h1, if_neg h2, if_pos rfl]
      by_cases h3 : l = m
      · rw [if_pos h3, if_pos rfl, h3, less_irrefl]
        by_cases h4 : a < a'
        · rw [if_pos h4, if_neg (by decide)]; exact ⟨fun _ => .inr ⟨hc, .inr ⟨rfl, .inl h4⟩⟩, fun _ => by decide⟩
        · by_cases h5 : a' < a
          · rw [if_neg h4, if_pos h5, if_neg (by decide)]
            exact ⟨fun h => absurd h (by decide), fun h => by rcases h with h | ⟨_, h | ⟨_, h | ⟨h, _⟩⟩⟩ <;> first | omega | cases h⟩
          · rw [if_neg h4, if_neg h5, if_pos rfl]
            by_cases h6 : b < b'
            · rw [if_pos h6]; exact ⟨fun _ => .inr ⟨hc, .inr ⟨rfl, .inr ⟨by omega, h6⟩⟩⟩, fun _ => by decide⟩
            · rw [if_neg h6]
              refine ⟨fun h => ?_, fun h => by rcases h with h | ⟨_, h | ⟨_, h | ⟨_, h⟩⟩⟩ <;> first | omega | cases h⟩
              split at h <;> omega
      · by_cases h4 : Op.bytesLess l m = true
        · rw [if_neg h3, if_pos h4, if_neg (by decide)]; exact ⟨fun _ => .inr ⟨hc, .inl h4⟩, fun _ => by decide⟩
        · rw [if_neg h3, if_neg h4, if_neg (by decide)]
          exact ⟨fun h => absurd h (by decide), fun h => by rcases h with h | ⟨_, h | ⟨h, _⟩⟩ <;> first | omega | exact absurd h h4 | exact absurd h h3⟩
theorem better_irrefl (a b c d e : Int) (z : ByteArray) : ¬ Better a b c d e z a b c d e z := by
  unfold Better
  rw [less_irrefl]
  intro h
  rcases h with h | ⟨_, h | ⟨_, h | ⟨_, h⟩⟩⟩ <;> first | omega | cases h
theorem better_trans (a b c d e : Int) (z : ByteArray) (a' b' c' d' e' : Int) (z' : ByteArray) (x y u v n : Int) (s : ByteArray) (h1 : Better a b c d e z a' b' c' d' e' z') (h2 : Better a' b' c' d' e' z' x y u v n s) : Better a b c d e z x y u v n s := by
  unfold Better at h1 h2 ⊢
  generalize (idOf a b c d e z).data.toList = l at *
  generalize (idOf a' b' c' d' e' z').data.toList = m at *
  generalize (idOf x y u v n s).data.toList = q at *
  rcases h1 with h1 | ⟨h1, k1⟩
  · rcases h2 with h2 | ⟨h2, _⟩
    · exact .inl (by omega)
    · exact .inl (by omega)
  · rcases h2 with h2 | ⟨h2, k2⟩
    · exact .inl (by omega)
    · refine .inr ⟨by omega, ?_⟩
      rcases k1 with k1 | ⟨e1, k1⟩
      · rcases k2 with k2 | ⟨e2, _⟩
        · exact .inl (less_trans _ _ _ k1 k2)
        · rw [← e2]; exact .inl k1
      · rcases k2 with k2 | ⟨e2, k2⟩
        · rw [e1]; exact .inl k2
        · exact .inr ⟨e1.trans e2, by omega⟩
theorem better_asymm (a b c d e : Int) (z : ByteArray) (a' b' c' d' e' : Int) (z' : ByteArray) (h1 : Better a b c d e z a' b' c' d' e' z') (h2 : Better a' b' c' d' e' z' a b c d e z) : False :=
  better_irrefl _ _ _ _ _ _ (better_trans _ _ _ _ _ _ _ _ _ _ _ _ _ _ _ _ _ _ h1 h2)
theorem better_total (a b c d e : Int) (z : ByteArray) (a' b' c' d' e' : Int) (z' : ByteArray) (h : a ≠ a' ∨ b ≠ b') : Better a b c d e z a' b' c' d' e' z' ∨ Better a' b' c' d' e' z' a b c d e z := by
  unfold Better
  generalize (idOf a b c d e z).data.toList = l at *
  generalize (idOf a' b' c' d' e' z').data.toList = m at *
  by_cases hc : c = c'
  · by_cases hl : l = m
    · by_cases ha : a < a' ∨ (a = a' ∧ b < b')
      · exact .inl (.inr ⟨hc, .inr ⟨hl, ha⟩⟩)
      · exact .inr (.inr ⟨hc.symm, .inr ⟨hl.symm, by omega⟩⟩)
    · rcases less_total l m hl with q | q
      · exact .inl (.inr ⟨hc, .inl q⟩)
      · exact .inr (.inr ⟨hc.symm, .inl q⟩)
  · rcases (show c' < c ∨ c < c' by omega) with q | q
    · exact .inl (.inl q)
    · exact .inr (.inl q)
end Go.Proofs.Ytahopljippfadaa.TxnLaws
