/- The document's own heaps come to the same as the program's: plain facts (HeapB and HeapRefMore joined). -/
import Derived.Test.YtehncbhmdgdkjaaLx16
import Derived.Test.YtehncbhmdgdkjaaLx16
import Derived.Test.YtehncbhmdgdkjaaLx18
import Derived.Test.YtehncbhmdgdkjaaLx17
import Derived.Test.YtehncbhmdgdkjaaLx17
import Derived.Test.YtehncbhmdgdkjaaLx18
import Derived.Test.YtehncbhmdgdkjaaLx18
import Derived.Test.YtehncbhmdgdkjaaHeapA
import Derived.Test.YtehncbhmdgdkjaaLx22
import Derived.Test.YtehncbhmdgdkjaaLx21
import Derived.Test.YtehncbhmdgdkjaaLx24
import Derived.Test.YtehncbhmdgdkjaaLx20
import Derived.Test.YtehncbhmdgdkjaaLx19
import Derived.Test.YtehncbhmdgdkjaaLx25
import Derived.Test.YtehncbhmdgdkjaaLx25
import Derived.Test.YtehncbhmdgdkjaaLx23
namespace Go.Proofs.Ytehncbhmdgdkjaa.TxnCodec
set_option linter.unusedSimpArgs false
set_option linter.unusedVariables false
open Go.Proofs.Ytehncbhmdgdkjaa.L Go.Proofs.YtehncbhmdgdkjaaW.PrintLast Go.Proofs.YtehncbhmdgdkjaaW.PrintWords Go.RowKit
theorem str_append (a b : List Int) : strOfNums (a ++ b) = strOfNums a ++ strOfNums b := by
  apply ByteArray.ext
  rw [ByteArray.data_append]
  simp [strOfNums]
theorem wr (a : Int) (h0 : 0 ≤ a) (h1 : a ≤ 9223372036854775807) : wrap64 a = a := by unfold wrap64; omega
theorem ref_text (s : ByteArray) : hopperref03_Text.f s = some (textStr s) := by
  rw [← text s]
  rfl
theorem ref_bytes (m : Nat) (hm : m ≤ 100) : ∀ x : Nat, x / 256 ^ (m + 1) = 0 → (x : Int) ≤ 9223372036854775807 → hopperref03_bytes.f (m + 1) (x : Int) = some (strOfNums (dg m x)) := by
  have tm : ∀ x : Nat, Int.tmod (x : Int) 256 % 256 = ((x % 256 : Nat) : Int) := by
    intro x
    rw [Int.tmod_eq_emod_of_nonneg (by omega)]
    omega
  have td : ∀ x : Nat, Int.tdiv (x : Int) 256 = ((x / 256 : Nat) : Int) := by
    intro x
    rw [Int.tdiv_eq_ediv_of_nonneg (by omega)]
    omega
  induction m with
  | zero =>
    intro x h hx
    have h' : x / 256 = 0 := by simpa using h
    rw [hopperref03_bytes.f]
    simp only [Option.bind_some]
    rw [if_neg (by omega), tm]
    rfl
  | succ m ih =>
    intro x h hx
    rw [hopperref03_bytes.f]
    simp only [Option.bind_some]
    unfold dg
    by_cases c : x / 256 = 0
    · rw [if_neg (by omega), if_pos c, tm]
    · rw [if_pos (by omega), if_neg c, td, wr _ (by omega) (by omega), ih (by omega) (x / 256) (by rw [Nat.div_div_eq_div_mul, ← Nat.pow_succ']; exact h) (by omega), tm]
      simp only [Option.bind_some]
      have hl : (dg m (x / 256)).length ≤ 101 := by rw [dg_len]; have := more256_le m (x / 256); omega
      rw [if_pos (by rw [str_size, str_size]; simp only [List.length_cons, List.length_nil]; omega), str_append]
theorem ref_number (n : Int) (h : n ≤ 9223372036854775807) : hopperref03_Number.f 9 n = some (numStr n) := by
  unfold hopperref03_Number.f numStr
  by_cases c : n < 0
  · rw [if_pos c, if_pos c]
  · obtain ⟨x, rfl⟩ := Int.eq_ofNat_of_zero_le (show 0 ≤ n by omega)
    have hx : x < 9223372036854775808 := by omega
    have hl := dg_len8 x hx
    rw [if_neg c, if_neg c, ref_bytes 8 (by omega) x (Nat.div_eq_of_lt (Nat.lt_of_lt_of_le hx (show 9223372036854775808 ≤ 256 ^ (8 + 1) by decide))) h, Int.toNat_natCast, numL_eq]
    simp only [Option.bind_some]
    rw [if_pos (by rw [str_size, str_size]; simp only [List.length_cons, List.length_nil]; omega), str_size, ← str_append]
    rw [show ((dg 8 x).length : Int) % 256 = ((dg 8 x).length : Int) by omega]
    rfl
end Go.Proofs.Ytehncbhmdgdkjaa.TxnCodec
namespace Go.Proofs.Ytehncbhmdgdkjaa.TxnCodec.Fnv
set_option linter.unusedSimpArgs false
set_option linter.unusedVariables false
open Go.Proofs.Ytehncbhmdgdkjaa.L Go.Proofs.YtehncbhmdgdkjaaW.PrintLast Go.Proofs.YtehncbhmdgdkjaaW.PrintWords Go.RowKit
theorem wrap_step {i : Int} {n : Nat} (h0 : 0 ≤ i) (h : i < (n : Int)) (hn : n ≤ 9223372036854775807) : wrap64 (i + 1) = i + 1 := by unfold wrap64; omega
theorem bt_get (s : ByteArray) (i : Nat) (h : i < s.size) : bt s (i : Int) = ((s[i]).toNat : Int) := by
  unfold bt
  have e : (i : Int).toNat = i := by omega
  rw [dif_pos (by rw [e]; exact h)]
  simp only [e]
theorem drop_get (s : ByteArray) (i : Nat) (h : i < s.size) : s.data.toList.drop i = s[i] :: s.data.toList.drop (i + 1) := by
  rw [List.drop_eq_getElem_cons (by simpa using h)]; rfl
theorem ref_roll_l (s : ByteArray) (hn : s.size ≤ 9223372036854775806) (d : Nat) : ∀ (k : Nat) (h : Int) (i : Nat), i + d = s.size → d < k → hopperref02_Roll.l0 k h s (i : Int) = some (rollL h (s.data.toList.drop i)) := by
  induction d with
  | zero =>
    intro k h i hi hk
    obtain ⟨k, rfl⟩ : ∃ m, k = m + 1 := ⟨k - 1, by omega⟩
    simp only [hopperref02_Roll.l0]
    rw [if_neg (by omega), List.drop_of_length_le (by simp; omega)]
    rfl
  | succ d ih =>
    intro k h i hi hk
    obtain ⟨k, rfl⟩ : ∃ m, k = m + 1 := ⟨k - 1, by omega⟩
    simp only [hopperref02_Roll.l0]
    rw [if_pos (by omega), if_pos (by omega), wrap_step (n := s.size) (by omega) (by omega) (by omega), bt_get s i (by omega), drop_get s i (by omega), show (i : Int) + 1 = ((i + 1 : Nat) : Int) by omega, ih k _ (i + 1) (by omega) (by omega)]
    rfl
theorem ref_roll (h : Int) (s : ByteArray) (hn : s.size ≤ 9223372036854775806) (k : Nat) (hk : s.size < k) : hopperref02_Roll.f k h s = some (rollL h s.data.toList) := by
  unfold hopperref02_Roll.f
  have e := ref_roll_l s hn s.size k h 0 (by omega) hk
  rw [List.drop_zero] at e
  exact e
theorem ref_of (s : ByteArray) (hn : s.size ≤ 9223372036854775806) (k : Nat) (hk : s.size < k) : hopperref02_Of.f k s = some (rollL 14695981039346656037 s.data.toList) := by
  unfold hopperref02_Of.f; rw [ref_roll _ _ hn k hk]; rfl
theorem ref_text (h : Int) (h0 : 0 ≤ h) (h1 : h < 18446744073709551616) : hopperref02_Text.f h = some (strOfNums (hexL h.toNat)) := by
  unfold hopperref02_Text.f; rw [if_pos h0, if_pos h1]
end Go.Proofs.Ytehncbhmdgdkjaa.TxnCodec.Fnv
namespace Go.Proofs.Ytehncbhmdgdkjaa.TxnLaws
set_option linter.unusedSimpArgs false
set_option linter.unusedVariables false
open Go.Proofs.Ytehncbhmdgdkjaa.L Go.Proofs.Ytehncbhmdgdkjaa.TxnCodec Go.Proofs.YtehncbhmdgdkjaaW.PrintLast Go.Proofs.YtehncbhmdgdkjaaW.PrintWords Go.RowKit
theorem ref_check (a b c d e : Int) (z : ByteArray) : hopperref04_Check.f a b c d e z = some (decide (Chk a b c d e z)) := by
  unfold hopperref04_Check.f
  by_cases h1 : a < 0
  · rw [if_pos h1, decide_eq_false (by unfold Chk; omega)]
  · by_cases h2 : a > 255
    · rw [if_neg h1, if_pos h2, decide_eq_false (by unfold Chk; omega)]
    · by_cases h3 : b < 0
      · rw [if_neg h1, if_neg h2, if_pos h3, decide_eq_false (by unfold Chk; omega)]
      · by_cases h4 : b ≥ 4294967296
        · rw [if_neg h1, if_neg h2, if_neg h3, if_pos h4, decide_eq_false (by unfold Chk; omega)]
        · by_cases h5 : c < 0
          · rw [if_neg h1, if_neg h2, if_neg h3, if_neg h4, if_pos h5, decide_eq_false (by unfold Chk; omega)]
          · by_cases h6 : c > d
            · rw [if_neg h1, if_neg h2, if_neg h3, if_neg h4, if_neg h5, if_pos h6, decide_eq_false (by unfold Chk; omega)]
            · by_cases h7 : d > 1099511627776
              · rw [if_neg h1, if_neg h2, if_neg h3, if_neg h4, if_neg h5, if_neg h6, if_pos h7, decide_eq_false (by unfold Chk; omega)]
              · rw [if_neg h1, if_neg h2, if_neg h3, if_neg h4, if_neg h5, if_neg h6, if_neg h7]
                by_cases h8 : e ≥ 1
                · by_cases h9 : e ≤ 1073741824
                  · rw [if_pos h8, if_pos h9]; congr 1; apply decide_eq_decide.2; unfold Chk; omega
                  · rw [if_pos h8, if_neg h9, decide_eq_false (by unfold Chk; omega)]
                · rw [if_neg h8, decide_eq_false (by unfold Chk; omega)]
theorem ref_number_k (k : Nat) (hk : 9 ≤ k) (n : Int) (h : n ≤ 9223372036854775807) : hopperref03_Number.f k n = some (numStr n) := at_rounds (hopperref03_Number.mono n) hk (ref_number n h)
theorem ref_encode (a b c d e : Int) (z : ByteArray) (k : Nat) (hk : 20 ≤ k) : hopperref04_Encode.f k a b c d e z = some (if Chk a b c d e z then (enc a b c d e z, true) else (⟨#[]⟩, false)) := by
  unfold hopperref04_Encode.f
  rw [ref_check, Option.bind_some]
  by_cases h : Chk a b c d e z
  · have h' := h
    unfold Chk at h'
    have ha := num_size a (by omega) (by omega)
    have hb := num_size b (by omega) (by omega)
    have hc := num_size c (by omega) (by omega)
    have hd := num_size d (by omega) (by omega)
    have he := num_size e (by omega) (by omega)
    have hz := text_size z (by omega)
    obtain ⟨k, rfl⟩ : ∃ m, k = m + 6 := ⟨k - 6, by omega⟩
    have w0 : wrap64 (0 + 1) = 1 := by unfold wrap64; omega
    have w1 : wrap64 (1 + 1) = 2 := by unfold wrap64; omega
    have w2 : wrap64 (2 + 1) = 3 := by unfold wrap64; omega
    have w3 : wrap64 (3 + 1) = 4 := by unfold wrap64; omega
    have w4 : wrap64 (4 + 1) = 5 := by unfold wrap64; omega
    have hl : (([a, b, c, d, e] : List Int).length : Int) = 5 := rfl
    have s1 : (⟨#[1]⟩ : ByteArray).size = 1 := rfl
    rw [decide_eq_true h, if_pos rfl, if_pos h]
    rw [hopperref04_Encode.l0, hl, if_pos (by decide), if_pos (by decide), show rd [a, b, c, d, e] 0 = a from rfl, ref_number_k _ (by omega) a (by omega), Option.bind_some, if_pos (by omega), w0]
    rw [hopperref04_Encode.l0, hl, if_pos (by decide), if_pos (by decide), show rd [a, b, c, d, e] 1 = b from rfl, ref_number_k _ (by omega) b (by omega), Option.bind_some, if_pos (by simp only [ByteArray.size_append]; omega), w1]
    rw [hopperref04_Encode.l0, hl, if_pos (by decide), if_pos (by decide), show rd [a, b, c, d, e] 2 = c from rfl, ref_number_k _ (by omega) c (by omega), Option.bind_some, if_pos (by simp only [ByteArray.size_append]; omega), w2]
    rw [hopperref04_Encode.l0, hl, if_pos (by decide), if_pos (by decide), show rd [a, b, c, d, e] 3 = d from rfl, ref_number_k _ (by omega) d (by omega), Option.bind_some, if_pos (by simp only [ByteArray.size_append]; omega), w3]
    rw [hopperref04_Encode.l0, hl, if_pos (by decide), if_pos (by decide), show rd [a, b, c, d, e] 4 = e from rfl, ref_number_k _ (by omega) e (by omega), Option.bind_some, if_pos (by simp only [ByteArray.size_append]; omega), w4]
    rw [hopperref04_Encode.l0, hl, if_neg (by decide), ref_text, Option.bind_some, if_pos (by simp only [ByteArray.size_append]; omega)]
    unfold enc tail
    simp only [ByteArray.append_assoc]
  · rw [decide_eq_false h, if_neg (by decide), if_neg h]
theorem ref_id (a b c d e : Int) (z : ByteArray) (k : Nat) (hk : 400 ≤ k) : hopperref04_ID.f k a b c d e z = some (idOf a b c d e z) := by
  unfold hopperref04_ID.f idOf
  rw [ref_encode a b c d e z k (by omega), Option.bind_some]
  by_cases h : Chk a b c d e z
  · have r := enc_range a b c d e z h
    have q := Fnv.rollL_range 14695981039346656037 (enc a b c d e z).data.toList (by omega) (by omega)
    rw [if_pos h, if_pos h, if_pos rfl, Fnv.ref_of _ (by show (enc a b c d e z).size ≤ _; omega) k (by show (enc a b c d e z).size < _; omega), Option.bind_some, Fnv.ref_text _ q.1 q.2]
    rfl
  · rw [if_neg h, if_neg h]; rfl
theorem ref_better (a b c d e : Int) (z : ByteArray) (a' b' c' d' e' : Int) (z' : ByteArray) (k : Nat) (hk : 400 ≤ k) : hopperref04_Better.f k a b c d e z a' b' c' d' e' z' = some (decide (Better a b c d e z a' b' c' d' e' z')) := by
  unfold hopperref04_Better.f
  rw [ref_id _ _ _ _ _ _ k hk, ref_id _ _ _ _ _ _ k hk]
  simp only [Option.bind_some]
  rw [ByteArray.toList_eq, ByteArray.toList_eq]
  obtain ⟨l, hl⟩ : ∃ l, l = (idOf a b c d e z).data.toList := ⟨_, rfl⟩
  obtain ⟨m, hm⟩ : ∃ m, m = (idOf a' b' c' d' e' z').data.toList := ⟨_, rfl⟩
  have hB : Better a b c d e z a' b' c' d' e' z' ↔ c' < c ∨ (c = c' ∧ (Op.bytesLess l m = true ∨ (l = m ∧ (a < a' ∨ (a = a' ∧ b < b'))))) := by unfold Better; rw [← hl, ← hm]
  rw [← hl, ← hm]
  have key : ∀ (p : Bool), (p = true ↔ c' < c ∨ (c = c' ∧ (Op.bytesLess l m = true ∨ (l = m ∧ (a < a' ∨ (a = a' ∧ b < b')))))) → some p = some (decide (Better a b c d e z a' b' c' d' e' z')) := by
    intro p hp
    congr 1
    rw [Bool.eq_iff_iff, hp, decide_eq_true_iff, hB]
  by_cases h1 : c = c'
  · rw [if_pos h1]
    by_cases h3 : l = m
    · rw [if_pos h3]
      by_cases h4 : a = a'
      · rw [if_pos h4]
        apply key
        rw [h3, less_irrefl, decide_eq_true_iff]
        exact ⟨fun h => .inr ⟨h1, .inr ⟨rfl, .inr ⟨h4, h⟩⟩⟩, fun h => by rcases h with h | ⟨_, h | ⟨_, h | ⟨_, h⟩⟩⟩ <;> first | omega | cases h⟩
      · rw [if_neg h4]
        apply key
        rw [h3, less_irrefl, decide_eq_true_iff]
        exact ⟨fun h => .inr ⟨h1, .inr ⟨rfl, .inl h⟩⟩, fun h => by rcases h with h | ⟨_, h | ⟨_, h | ⟨h, _⟩⟩⟩ <;> first | omega | cases h⟩
    · rw [if_neg h3]
      apply key
      exact ⟨fun h => .inr ⟨h1, .inl h⟩, fun h => by rcases h with h | ⟨_, h | ⟨h, _⟩⟩ <;> first | omega | exact h | exact absurd h h3⟩
  · rw [if_neg h1]
    apply key
    rw [decide_eq_true_iff]
    exact ⟨fun h => .inl (by omega), fun h => by rcases h with h | ⟨h, _⟩ <;> omega⟩
end Go.Proofs.Ytehncbhmdgdkjaa.TxnLaws
namespace Go.Proofs.Ytehncbhmdgdkjaa.HeapLaws
set_option linter.unusedSimpArgs false
set_option linter.unusedVariables false
open Go.RowKit Go.Proofs.Ytehncbhmdgdkjaa.L Go.Proofs.Ytehncbhmdgdkjaa.TxnCodec Go.Proofs.Ytehncbhmdgdkjaa.TxnLaws Go.Proofs.Ytehncbhmdgdkjaa.HeapPlain Go.Proofs.YtehncbhmdgdkjaaW.PrintWords Go.Proofs.YtehncbhmdgdkjaaW.PrintLast
theorem rbt (k : Nat) (hk : 400 ≤ k) (x y : Tx) : hopperref04_Better.f k x.f0 x.f1 x.f2 x.f3 x.f4 x.f5 y.f0 y.f1 y.f2 y.f3 y.f4 y.f5 = some (B x y) := ref_better _ _ _ _ _ _ _ _ _ _ _ _ k hk
theorem getD_mem (l : List Tx) (j : Nat) (h : j < l.length) : l.getD j d ∈ l := by
  rw [List.getD_eq_getElem?_getD, List.getElem?_eq_getElem h, Option.getD_some]
  exact List.getElem_mem h
theorem mem_getD (l : List Tx) (x : Tx) (h : x ∈ l) : ∃ j, j < l.length ∧ l.getD j d = x := by
  obtain ⟨j, hj, e⟩ := List.getElem_of_mem h
  exact ⟨j, hj, by rw [List.getD_eq_getElem?_getD, List.getElem?_eq_getElem hj, Option.getD_some, e]⟩
/-- In an order none is better than one ahead of it. -/
theorem sorted_at (l : List Tx) (h : l.Pairwise (fun x y => B y x = false)) (i j : Nat) (hij : i < j) (hj : j < l.length) : B (l.getD j d) (l.getD i d) = false := by
  have := List.pairwise_iff_getElem.1 h i j (by omega) hj hij
  simp only [List.getD_eq_getElem?_getD, List.getElem?_eq_getElem hj, List.getElem?_eq_getElem (show i < l.length by omega), Option.getD_some]
  exact this
theorem ord_facts (l : List Tx) : (order d B (l.length + 1) (make d B l)).Perm l ∧ (order d B (l.length + 1) (make d B l)).Pairwise (fun x y => B y x = false) := by
  have hm := make_perm d B l
  have h1 : (make d B l).length ≤ l.length + 1 := by rw [hm.length_eq]; omega
  exact ⟨(order_perm d B _ _ h1).trans hm, order_sorted d B asym ntr _ _ h1 (make_heap d B asym ntr l)⟩
/-- The worst one is not better than any that is there. -/
theorem wst_mem (l : List Tx) (v : Nat) (h : Wst l v) (x : Tx) (hx : x ∈ l) : B (l.getD v d) x = false := by
  obtain ⟨j, hj, e⟩ := mem_getD l x hx
  rw [← e]; exact h.2.2.1 j hj
end Go.Proofs.Ytehncbhmdgdkjaa.HeapLaws

namespace Go.Proofs.Ytehncbhmdgdkjaa.HeapLaws
set_option linter.unusedSimpArgs false
set_option linter.unusedVariables false
open Go.RowKit Go.Proofs.Ytehncbhmdgdkjaa.L Go.Proofs.Ytehncbhmdgdkjaa.TxnCodec Go.Proofs.Ytehncbhmdgdkjaa.TxnLaws Go.Proofs.Ytehncbhmdgdkjaa.HeapPlain Go.Proofs.YtehncbhmdgdkjaaW.PrintWords Go.Proofs.YtehncbhmdgdkjaaW.PrintLast
theorem rcheck_from (K : Nat) (hK : 400 ≤ K) : ∀ (n i : Nat) (l : List Tx), n = l.length - i → 0 < i → l.length ≤ 1000 → (∀ j, 0 < j → j < i → j < l.length → B (l.getD j d) (l.getD ((j - 1) / 2) d) = false) → hopperref06_Check.l0 (K + n + 1) l (i : Int) = some (decide (H d B l))
  | 0, i, l, hn, h0, hl, h => by
    unfold hopperref06_Check.l0
    rw [if_neg (by omega), decide_eq_true (show H d B l from fun j h0 h1 => h j h0 (by omega) h1)]
  | n + 1, i, l, hn, h0, hl, h => by
    unfold hopperref06_Check.l0
    rw [if_pos (by omega), if_pos (by omega), par_ i h0 (by omega), if_pos (by omega), if_pos (by omega), step_ i (by omega), show K + (n + 1) = K + n + 1 from rfl]
    rw [rbt (K + n + 1) (by omega) (rd_T24 l (i : Int)) (rd_T24 l (((i - 1) / 2 : Nat) : Int)), Option.bind_some]
    by_cases hb : B (rd_T24 l (i : Int)) (rd_T24 l (((i - 1) / 2 : Nat) : Int)) = true
    · rw [if_pos hb, decide_eq_false]
      intro q
      exact absurd (show B (l.getD i d) (l.getD ((i - 1) / 2) d) = true from hb) (by rw [q i h0 (by omega)]; decide)
    · rw [if_neg hb]
      refine rcheck_from K hK n (i + 1) l (by omega) (by omega) hl (fun j a b c => ?_)
      by_cases e : j = i
      · subst e; exact Bool.eq_false_iff.2 hb
      · exact h j a (by omega) c
theorem rcheck_eq (k : Nat) (l : List Tx) (h : l.length ≤ 1000) (hk : l.length + 402 ≤ k) : hopperref06_Check.f k l = some (decide (H d B l)) := by
  have := rcheck_from (k - (l.length - 1 + 1)) (by omega) (l.length - 1) 1 l (by omega) (by omega) h (fun j a b _ => absurd b (by omega))
  rw [show k - (l.length - 1 + 1) + (l.length - 1) + 1 = k by omega] at this
  exact this
open Classical in
theorem rworst_in (K : Nat) (hK : 400 ≤ K) (l : List Tx) (i : Nat) (hi : i < l.length) (hl : l.length ≤ 1000) : ∀ (n j : Nat) (b : Bool), n = l.length - j → j ≤ l.length → hopperref06_Worst.l1 (K + n + 1) l (i : Int) b (j : Int) = if b = true ∧ (∀ m, j ≤ m → m < l.length → B (l.getD i d) (l.getD m d) = false) then some ((i : Int), true) else hopperref06_Worst.l0 K l (wrap64 ((i : Int) + 1))
  | 0, j, b, hn, hj => by
    unfold hopperref06_Worst.l1
    rw [if_neg (by omega)]
    cases b with
    | true => rw [if_pos rfl, if_pos ⟨rfl, fun m a c => absurd c (by omega)⟩]
    | false => rw [if_neg (by decide), if_neg (fun q => absurd q.1 (by decide))]
  | n + 1, j, b, hn, hj => by
    unfold hopperref06_Worst.l1
    rw [if_pos (by omega), step_ j (by omega), show K + (n + 1) = K + n + 1 from rfl]
    cases b with
    | false =>
      rw [if_neg (by decide), rworst_in K hK l i hi hl n (j + 1) false (by omega) (by omega), if_neg (fun q => absurd q.1 (by decide)), if_neg (fun q => absurd q.1 (by decide))]
    | true =>
      rw [if_pos rfl, if_pos (by omega), if_pos (by omega), if_pos (by omega), rbt (K + n + 1) (by omega) (rd_T24 l (i : Int)) (rd_T24 l (j : Int)), Option.bind_some, rworst_in K hK l i hi hl n (j + 1) _ (by omega) (by omega)]
      by_cases hb : B (l.getD i d) (l.getD j d) = true
      · rw [if_neg (fun q => ?_), if_neg (fun q => ?_)]
        · exact absurd (q.2 j (by omega) (by omega)) (by rw [hb]; decide)
        · have e : B (rd_T24 l (i : Int)) (rd_T24 l (j : Int)) = true := hb
          rw [e] at q; exact absurd q.1 (by decide)
      · have hb2 : B (l.getD i d) (l.getD j d) = false := Bool.eq_false_iff.2 hb
        have e : B (rd_T24 l (i : Int)) (rd_T24 l (j : Int)) = false := hb2
        rw [e]
        by_cases ha : ∀ m, j + 1 ≤ m → m < l.length → B (l.getD i d) (l.getD m d) = false
        · rw [if_pos ⟨rfl, ha⟩, if_pos ⟨rfl, fun m a c => by
            by_cases e : m = j
            · subst e; exact hb2
            · exact ha m (by omega) c⟩]
        · rw [if_neg (fun q => ha q.2), if_neg (fun q => ha (fun m a c => q.2 m (by omega) c))]
theorem rworst_from (l : List Tx) (v : Nat) (hl : l.length ≤ 1000) (hv : Wst l v) (hvl : v < l.length) : ∀ (n i K : Nat), i + n = v → 400 ≤ K → hopperref06_Worst.l0 (K + (n + 1) * (l.length + 2)) l (i : Int) = some ((v : Int), true)
  | 0, i, K, hi, hK => by
    rw [show K + (0 + 1) * (l.length + 2) = (K + l.length + 1) + 1 by omega]
    unfold hopperref06_Worst.l0
    rw [if_pos (by omega)]
    have := rworst_in K hK l i (by omega) hl l.length 0 true (by omega) (by omega)
    obtain rfl : i = v := by omega
    rw [if_pos ⟨rfl, fun m _ c => hv.2.2.1 m c⟩] at this
    exact this
  | n + 1, i, K, hi, hK => by
    have e : K + (n + 1 + 1) * (l.length + 2) = (K + (n + 1) * (l.length + 2)) + l.length + 1 + 1 := by rw [Nat.succ_mul (n + 1)]; omega
    rw [e]
    unfold hopperref06_Worst.l0
    rw [if_pos (by omega)]
    have := rworst_in (K + (n + 1) * (l.length + 2)) (by omega) l i (by omega) hl l.length 0 true (by omega) (by omega)
    rw [if_neg (fun q => absurd (q.2 v (by omega) hvl) (by rw [hv.2.2.2 i (by omega)]; decide)), step_ i (by omega), rworst_from l v hl hv hvl n (i + 1) K (by omega) hK] at this
    exact this
theorem rworst_eq (k : Nat) (l : List Tx) (v : Nat) (h : l.length ≤ 40) (hv : Wst l v) (hk : 4000 ≤ k) : hopperref06_Worst.f k l = some ((v : Int), decide ((l.length : Int) > 0)) := by
  by_cases hne : l = []
  · subst hne
    obtain ⟨m, rfl⟩ : ∃ m, k = m + 1 := ⟨k - 1, by omega⟩
    rw [hv.1 rfl]
    rfl
  · have hvl := hv.2.1 hne
    have hb : (v + 1) * (l.length + 2) ≤ 40 * 42 := Nat.mul_le_mul (by omega) (by omega)
    have := rworst_from l v (by omega) hv hvl v 0 (k - (v + 1) * (l.length + 2)) (by omega) (by omega)
    rw [show k - (v + 1) * (l.length + 2) + (v + 1) * (l.length + 2) = k by omega] at this
    rw [decide_eq_true (by omega)]
    exact this
theorem rpush_from (K : Nat) (hK : 400 ≤ K) (t : Tx) : ∀ (m : Nat) (x : List Tx) (i : Nat), i ≤ m → i < x.length → x.length ≤ 1000 → x.getD i d = t → hopperref06_Push.l0 (K + m + 1) x (i : Int) t.f0 t.f1 t.f2 t.f3 t.f4 t.f5 = some (HeapPlain.up d B m x i)
  | 0, x, i, hm, hi, hl, ht => by
    obtain rfl : i = 0 := by omega
    unfold hopperref06_Push.l0 HeapPlain.up
    rw [if_neg (by decide)]
  | m + 1, x, i, hm, hi, hl, ht => by
    unfold hopperref06_Push.l0 HeapPlain.up
    by_cases h0 : 0 < i
    · have hpi : (i - 1) / 2 < i := by omega
      rw [if_pos (by omega), par_ i h0 (by omega), if_pos (by omega), if_pos (by omega), show K + (m + 1) = K + m + 1 from rfl, rbt (K + m + 1) (by omega) t (rd_T24 x (((i - 1) / 2 : Nat) : Int)), Option.bind_some]
      by_cases hb : B t (x.getD ((i - 1) / 2) d) = true
      · rw [if_pos (show B t (rd_T24 x (((i - 1) / 2 : Nat) : Int)) = true from hb), if_pos (by omega), if_pos (by omega), if_pos ⟨h0, by rw [ht]; exact hb⟩]
        have e : (x.set ((i : Int)).toNat (rd_T24 x (((i - 1) / 2 : Nat) : Int))).set ((((i - 1) / 2 : Nat) : Int)).toNat t = sw d x i ((i - 1) / 2) := by unfold sw; rw [ht]; rfl
        have ih := rpush_from K hK t m (sw d x i ((i - 1) / 2)) ((i - 1) / 2) (by omega) (by rw [sw_length]; omega) (by rw [sw_length]; omega) (by rw [getD_sw d x i ((i - 1) / 2) _ hi (by omega), if_pos rfl]; exact ht)
        rw [← e] at ih ⊢
        exact ih
      · rw [if_neg (show ¬ B t (rd_T24 x (((i - 1) / 2 : Nat) : Int)) = true from hb), if_neg (fun q => hb (by rw [← ht]; exact q.2))]
    · rw [if_neg (by omega), if_neg (fun q => h0 q.1)]
theorem rpush_eq (k : Nat) (l : List Tx) (t : Tx) (h : l.length ≤ 500) (hk : l.length + 402 ≤ k) : hopperref06_Push.f k l t.f0 t.f1 t.f2 t.f3 t.f4 t.f5 = some (push d B l t) := by
  unfold hopperref06_Push.f
  have e : wrap64 (((([] ++ l ++ [t] : List Tx).length : Nat) : Int) - 1) = (l.length : Int) := by simp; unfold wrap64; omega
  have q := rpush_from (k - (l.length + 2)) (by omega) t (l.length + 1) (l ++ [t]) l.length (by omega) (by simp) (by simp; omega) (by simp)
  rw [show k - (l.length + 2) + (l.length + 1) + 1 = k by omega] at q
  rw [Option.bind_some, if_pos (by simp; omega), Option.bind_some, if_pos (by simp; omega), Option.bind_some]
  show hopperref06_Push.l0 k ([] ++ l ++ [t]) (wrap64 (((([] ++ l ++ [t] : List Tx).length : Nat) : Int) - 1)) t.f0 t.f1 t.f2 t.f3 t.f4 t.f5 = _
  rw [e]
  exact q
theorem rbelow_eq (k : Nat) (hk : 400 ≤ k) (l : List Tx) (i : Nat) (hi : i ≤ 1000) (hl : l.length ≤ 1000) : hopperref06_below.f k l (i : Int) = some (if child d B l i < l.length then ((child d B l i : Nat) : Int) else -1) := by
  have w0 : wrap64 (2 * (i : Int)) = ((2 * i : Nat) : Int) := by unfold wrap64; omega
  have w1 : wrap64 (((2 * i : Nat) : Int) + 1) = ((2 * i + 1 : Nat) : Int) := by unfold wrap64; omega
  have w2 : wrap64 (((2 * i + 1 : Nat) : Int) + 1) = ((2 * i + 2 : Nat) : Int) := by unfold wrap64; omega
  unfold hopperref06_below.f
  rw [w0, w1, w2]
  by_cases h1 : 2 * i + 1 < l.length
  · rw [if_neg (by omega)]
    by_cases h2 : 2 * i + 2 < l.length
    · rw [if_pos (by omega), if_pos (by omega), if_pos (by omega), if_pos (by omega), rbt k hk (rd_T24 l ((2 * i + 2 : Nat) : Int)) (rd_T24 l ((2 * i + 1 : Nat) : Int)), Option.bind_some]
      by_cases hb : B (l.getD (2 * i + 2) d) (l.getD (2 * i + 1) d) = true
      · have hch : child d B l i = 2 * i + 2 := by unfold child; rw [if_pos ⟨h2, hb⟩]
        rw [if_pos (show B (rd_T24 l ((2 * i + 2 : Nat) : Int)) (rd_T24 l ((2 * i + 1 : Nat) : Int)) = true from hb), hch, if_pos h2]
      · have hch : child d B l i = 2 * i + 1 := by unfold child; rw [if_neg (fun q => hb q.2)]
        rw [if_neg (show ¬ B (rd_T24 l ((2 * i + 2 : Nat) : Int)) (rd_T24 l ((2 * i + 1 : Nat) : Int)) = true from hb), hch, if_pos h1]
    · have hch : child d B l i = 2 * i + 1 := by unfold child; rw [if_neg (fun q => h2 q.1)]
      rw [if_neg (by omega), hch, if_pos h1]
  · have hch : child d B l i = 2 * i + 1 := by unfold child; rw [if_neg (fun q => h1 (by omega))]
    rw [if_pos (by omega), hch, if_neg h1]
theorem rpop_from (K : Nat) (hK : 400 ≤ K) (l : List Tx) (hne : 0 < l.length) (t : Tx) : ∀ (m : Nat) (x : List Tx) (i : Nat), x.length ≤ i + m → i < x.length → x.length ≤ 1000 → x.getD i d = t → hopperref06_Pop.l0 (K + m + 1) l x (i : Int) t.f0 t.f1 t.f2 t.f3 t.f4 t.f5 = some (down d B m x i, (rd_T24 l 0).f0, (rd_T24 l 0).f1, (rd_T24 l 0).f2, (rd_T24 l 0).f3, (rd_T24 l 0).f4, (rd_T24 l 0).f5, true)
  | 0, x, i, hm, hi, hl, ht => absurd hm (by omega)
  | m + 1, x, i, hm, hi, hl, ht => by
    have hci : i < child d B x i := by unfold child; split <;> omega
    unfold hopperref06_Pop.l0 down
    rw [rbelow_eq _ (by omega) x i (by omega) (by omega), Option.bind_some, show K + (m + 1) = K + m + 1 from rfl]
    obtain ⟨c, hcd⟩ : ∃ c, c = child d B x i := ⟨_, rfl⟩
    rw [← hcd] at hci ⊢
    by_cases hc : c < x.length
    · rw [if_pos hc, if_neg (by omega), if_pos (by omega), if_pos (by omega), rbt (K + m + 1) (by omega) (rd_T24 x (c : Int)) t, Option.bind_some]
      by_cases hb : B (x.getD c d) t = true
      · rw [if_pos (show B (rd_T24 x (c : Int)) t = true from hb), if_pos (by omega), if_pos (by omega), if_pos ⟨hc, by rw [ht]; exact hb⟩]
        have e : (x.set ((i : Int)).toNat (rd_T24 x (c : Int))).set ((c : Int)).toNat t = sw d x i c := by unfold sw; rw [ht]; rfl
        have ih := rpop_from K hK l hne t m (sw d x i c) c (by rw [sw_length]; omega) (by rw [sw_length]; omega) (by rw [sw_length]; omega) (by rw [getD_sw d x i c _ hi hc, if_pos rfl]; exact ht)
        rw [← e] at ih ⊢
        exact ih
      · rw [if_neg (show ¬ B (rd_T24 x (c : Int)) t = true from hb), if_pos (by omega), if_neg (fun q => hb (by rw [← ht]; exact q.2))]
    · rw [if_neg hc, if_pos (by decide), if_pos (by omega), if_neg (fun q => hc q.1)]
theorem rpop_nil (k : Nat) : hopperref06_Pop.f k [] = some ([], 0, 0, 0, 0, 0, ⟨#[]⟩, false) := rfl
theorem rpop_cons (k : Nat) (x : Tx) (l : List Tx) (h : l.length ≤ 500) (hk : l.length + 410 ≤ k) : hopperref06_Pop.f k (x :: l) = some (pop d B (x :: l), x.f0, x.f1, x.f2, x.f3, x.f4, x.f5, true) := by
  have w : wrap64 ((((x :: l).length : Nat) : Int) - 1) = (l.length : Int) := by rw [List.length_cons]; unfold wrap64; omega
  unfold hopperref06_Pop.f
  rw [if_neg (by rw [List.length_cons]; omega), Option.bind_some, w, if_pos (by omega), if_pos (by rw [List.length_cons]; omega), Option.bind_some, if_pos (by simp; omega), Option.bind_some]
  have ht : ([] ++ (x :: l).take ((l.length : Int)).toNat : List Tx) = (x :: l).take l.length := by simp
  rw [ht]
  cases l with
  | nil =>
    have e : pop d B [x] = [] := List.Perm.eq_nil (pop_perm d B x [])
    rw [if_pos (by rfl), if_pos (by simp), e]
    rfl
  | cons y l =>
    obtain ⟨t, htt⟩ : ∃ t, t = rd_T24 (x :: y :: l) (((y :: l).length : Nat) : Int) := ⟨_, rfl⟩
    rw [if_neg (by simp; omega), if_pos (by simp; omega), if_pos (by simp), ← htt]
    have e : (((x :: y :: l).take (y :: l).length).set (0 : Int).toNat t) = ((x :: y :: l).set 0 ((x :: y :: l).getD ((x :: y :: l).length - 1) d)).take ((x :: y :: l).length - 1) := by rw [htt]; rfl
    have q := rpop_from (k - ((x :: y :: l).length + 2)) (by simp at h hk ⊢; omega) (x :: y :: l) (by simp) t ((x :: y :: l).length + 1) (((x :: y :: l).take (y :: l).length).set (0 : Int).toNat t) 0 (by simp <;> omega) (by simp) (by simp at h ⊢; omega) (by simp)
    rw [show k - ((x :: y :: l).length + 2) + ((x :: y :: l).length + 1) + 1 = k by simp at hk ⊢; omega] at q
    have q2 : down d B ((x :: y :: l).length + 1) (((x :: y :: l).take (y :: l).length).set (0 : Int).toNat t) 0 = pop d B (x :: y :: l) := by rw [e]; rfl
    rw [q2] at q
    exact q
theorem rmake_from (K : Nat) (hK : 2000 ≤ K) : ∀ (n i : Nat) (l a : List Tx), n = l.length - i → i ≤ l.length → a.length + n ≤ 400 → l.length ≤ 400 → hopperref06_Make.l0 (K + n + 1) l a (i : Int) = some ((l.drop i).foldl (push d B) a)
  | 0, i, l, a, hn, hi, ha, hl => by
    unfold hopperref06_Make.l0
    rw [if_neg (by omega), List.drop_eq_nil_of_le (by omega)]
    rfl
  | n + 1, i, l, a, hn, hi, ha, hl => by
    have hp := rpush_eq (K + n + 1) a (l.getD i d) (by omega) (by omega)
    have hlen : (push d B a (l.getD i d)).length = a.length + 1 := (push_perm d B a _).length_eq
    unfold hopperref06_Make.l0
    rw [if_pos (by omega), if_pos (by omega), show K + (n + 1) = K + n + 1 from rfl]
    rw [show hopperref06_Push.f (K + n + 1) a ((rd_T24 l (i : Int)).f0) ((rd_T24 l (i : Int)).f1) ((rd_T24 l (i : Int)).f2) ((rd_T24 l (i : Int)).f3) ((rd_T24 l (i : Int)).f4) ((rd_T24 l (i : Int)).f5) = _ from hp, Option.bind_some, step_ i (by omega), rmake_from K hK n (i + 1) l _ (by omega) (by omega) (by rw [hlen]; omega) hl]
    rw [List.drop_eq_getElem_cons (show i < l.length by omega), List.foldl_cons]
    simp only [List.getD_eq_getElem?_getD, List.getElem?_eq_getElem (show i < l.length by omega), Option.getD_some]
theorem rmake_eq (k : Nat) (l : List Tx) (h : l.length ≤ 400) (hk : l.length + 2001 ≤ k) : hopperref06_Make.f k l = some (make d B l) := by
  have := rmake_from (k - (l.length + 1)) (by omega) l.length 0 l [] (by omega) (by omega) (by simpa using h) h
  rw [show k - (l.length + 1) + l.length + 1 = k by omega] at this
  exact this
theorem rorder_from (K : Nat) (hK : 2000 ≤ K) : ∀ (m : Nat) (h acc : List Tx), h.length ≤ m → acc.length + h.length ≤ 400 → hopperref06_Order.l0 (K + m + 1) acc h = some (acc ++ order d B m h)
  | m, [], acc, hm, hl => by
    unfold hopperref06_Order.l0
    rw [if_neg (by decide)]
    cases m <;> simp [order]
  | 0, _ :: _, _, hm, _ => absurd hm (by simp)
  | m + 1, x :: h, acc, hm, hl => by
    have q := (pop_perm d B x h).length_eq
    rw [List.length_cons] at hm hl
    unfold hopperref06_Order.l0
    rw [if_pos (by rw [List.length_cons]; omega), show K + (m + 1) = K + m + 1 from rfl, rpop_cons _ x h (by omega) (by omega), Option.bind_some, if_pos (by omega)]
    rw [rorder_from K hK m (pop d B (x :: h)) _ (by omega) (by rw [List.length_append, List.length_singleton]; omega), List.append_assoc]
    rfl
theorem rorder_eq (k : Nat) (l : List Tx) (h : l.length ≤ 400) (hk : l.length + 3000 ≤ k) : hopperref06_Order.f k l = some (order d B (l.length + 1) (make d B l)) := by
  have q := (make_perm d B l).length_eq
  unfold hopperref06_Order.f
  rw [rmake_eq k l h (by omega), Option.bind_some]
  have := rorder_from (k - (l.length + 2)) (by omega) (l.length + 1) (make d B l) [] (by omega) (by rw [q]; simpa using h)
  rw [show k - (l.length + 2) + (l.length + 1) + 1 = k by omega] at this
  exact this
theorem txs_from (K : Nat) (l : List Tx) (hl : l.length ≤ 1000) : ∀ (n i : Nat), i + n = l.length → hopperref04_Txs.l0 (K + n + 1) l l (i : Int) = some true
  | 0, i, hi => by
    unfold hopperref04_Txs.l0
    rw [if_neg (by omega)]
  | n + 1, i, hi => by
    unfold hopperref04_Txs.l0
    rw [if_pos (by omega), if_pos (by omega), if_pos (by omega), if_neg (by simp), step_ i (by omega)]
    exact txs_from K l hl n (i + 1) (by omega)
theorem txs_eq (k : Nat) (l : List Tx) (h : l.length ≤ 1000) (hk : l.length + 1 ≤ k) : hopperref04_Txs.f k l l = some true := by
  have := txs_from (k - (l.length + 1)) l h l.length 0 (by omega)
  rw [show k - (l.length + 1) + l.length + 1 = k by omega] at this
  unfold hopperref04_Txs.f
  rw [if_pos rfl]
  exact this
end Go.Proofs.Ytehncbhmdgdkjaa.HeapLaws
