/- The txn layer's answers by the document. -/
import Derived.Test.YtahopljippfadaaDx13
import Derived.Test.YtahopljippfadaaDx13
import Derived.Test.YtahopljippfadaaDx14
import Derived.Test.YtahopljippfadaaDx14
import Derived.Test.YtahopljippfadaaDx13
import Derived.Test.YtahopljippfadaaDx14
import Derived.Test.YtahopljippfadaaDx14
import Derived.Test.YtahopljippfadaaGreedyTxn
namespace Go.Proofs.Ytahopljippfadaa.TxnCodec
set_option linter.unusedSimpArgs false
set_option linter.unusedVariables false
open Go.Proofs.Ytahopljippfadaa.D Go.Proofs.YtahopljippfadaaW.PrintLast Go.Proofs.YtahopljippfadaaW.PrintWords Go.RowKit
theorem str_append (a b : List Int) : strOfNums (a ++ b) = strOfNums a ++ strOfNums b := by
  apply ByteArray.ext
  rw [ByteArray.data_append]
  simp [strOfNums]
theorem wr (a : Int) (h0 : 0 ≤ a) (h1 : a ≤ 9223372036854775807) : wrap64 a = a := by unfold wrap64; omega
theorem ref_text (s : ByteArray) : hopperref03_Text.f s = some (textStr s) := by
  rw [← text s]
  rfl
theorem ref_bytes (m : Nat) (hm : m ≤ 100) : ∀ x : Nat, x / 256 ^ (m + 1) = 0 → (x : Int) ≤ 9223372036854775807 → hopperref03_bytes.f (m + 1) (x : Int) = some (strOfNums (dg m x)) := by
  have tm : ∀ x : Nat, Int.tmod (x : Int) 256 % 256 = ((x % 256 : Nat) : Int) := by
    intro x
    rw [Int.tmod_eq_emod_of_nonneg (by omega)]
    omega
  have td : ∀ x : Nat, Int.tdiv (x : Int) 256 = ((x / 256 : Nat) : Int) := by
    intro x
    rw [Int.tdiv_eq_ediv_of_nonneg (by omega)]
    omega
  induction m with
  | zero =>
    intro x h hx
    have h' : x / 256 = 0 := by simpa using h
    rw [hopperref03_bytes.f]
    simp only [Option.bind_some]
    rw [if_neg (by omega), tm]
    rfl
  | succ m ih =>
    intro x h hx
    rw [hopperref03_bytes.f]
    simp only [Option.bind_some]
    unfold dg
    by_cases c : x / 256 = 0
    · rw [if_neg (by omega), if_pos c, tm]
    · rw [if_pos (by omega), if_neg c, td, wr _ (by omega) (by omega), ih (by omega) (x / 256) (by rw [Nat.div_div_eq_div_mul, ← Nat.pow_succ']; exact h) (by omega), tm]
      simp only [Option.bind_some]
      have hl : (dg m (x / 256)).length ≤ 101 := by rw [dg_len]; have := more256_le m (x / 256); omega
      rw [if_pos (by rw [str_size, str_size]; simp only [List.length_cons, List.length_nil]; omega), str_append]
theorem ref_number (n : Int) (h : n ≤ 9223372036854775807) : hopperref03_Number.f 9 n = some (numStr n) := by
  unfold hopperref03_Number.f numStr
  by_cases c : n < 0
  · rw [if_pos c, if_pos c]
  · obtain ⟨x, rfl⟩ := Int.eq_ofNat_of_zero_le (show 0 ≤ n by omega)
    have hx : x < 9223372036854775808 := by omega
    have hl := dg_len8 x hx
    rw [if_neg c, if_neg c, ref_bytes 8 (by omega) x (Nat.div_eq_of_lt (Nat.lt_of_lt_of_le hx (show 9223372036854775808 ≤ 256 ^ (8 + 1) by decide))) h, Int.toNat_natCast, numL_eq]
    simp only [Option.bind_some]
    rw [if_pos (by rw [str_size, str_size]; simp only [List.length_cons, List.length_nil]; omega), str_size, ← str_append]
    rw [show ((dg 8 x).length : Int) % 256 = ((dg 8 x).length : Int) by omega]
    rfl
end Go.Proofs.Ytahopljippfadaa.TxnCodec
namespace Go.Proofs.Ytahopljippfadaa.TxnCodec.Fnv
set_option linter.unusedSimpArgs false
set_option linter.unusedVariables false
open Go.Proofs.Ytahopljippfadaa.D Go.Proofs.YtahopljippfadaaW.PrintLast Go.Proofs.YtahopljippfadaaW.PrintWords Go.RowKit
theorem wrap_step {i : Int} {n : Nat} (h0 : 0 ≤ i) (h : i < (n : Int)) (hn : n ≤ 9223372036854775807) : wrap64 (i + 1) = i + 1 := by unfold wrap64; omega
theorem bt_get (s : ByteArray) (i : Nat) (h : i < s.size) : bt s (i : Int) = ((s[i]).toNat : Int) := by
  unfold bt
  have e : (i : Int).toNat = i := by omega
  rw [dif_pos (by rw [e]; exact h)]
  simp only [e]
theorem drop_get (s : ByteArray) (i : Nat) (h : i < s.size) : s.data.toList.drop i = s[i] :: s.data.toList.drop (i + 1) := by
  rw [List.drop_eq_getElem_cons (by simpa using h)]; rfl
theorem ref_roll_l (s : ByteArray) (hn : s.size ≤ 9223372036854775806) (d : Nat) : ∀ (k : Nat) (h : Int) (i : Nat), i + d = s.size → d < k → hopperref02_Roll.l0 k h s (i : Int) = some (rollL h (s.data.toList.drop i)) := by
  induction d with
  | zero =>
    intro k h i hi hk
    obtain ⟨k, rfl⟩ : ∃ m, k = m + 1 := ⟨k - 1, by omega⟩
    simp only [hopperref02_Roll.l0]
    rw [if_neg (by omega), List.drop_of_length_le (by simp; omega)]
    rfl
  | succ d ih =>
    intro k h i hi hk
    obtain ⟨k, rfl⟩ : ∃ m, k = m + 1 := ⟨k - 1, by omega⟩
    simp only [hopperref02_Roll.l0]
    rw [if_pos (by omega), if_pos (by omega), wrap_step (n := s.size) (by omega) (by omega) (by omega), bt_get s i (by omega), drop_get s i (by omega), show (i : Int) + 1 = ((i + 1 : Nat) : Int) by omega, ih k _ (i + 1) (by omega) (by omega)]
    rfl
theorem ref_roll (h : Int) (s : ByteArray) (hn : s.size ≤ 9223372036854775806) (k : Nat) (hk : s.size < k) : hopperref02_Roll.f k h s = some (rollL h s.data.toList) := by
  unfold hopperref02_Roll.f
  have e := ref_roll_l s hn s.size k h 0 (by omega) hk
  rw [List.drop_zero] at e
  exact e
theorem ref_of (s : ByteArray) (hn : s.size ≤ 9223372036854775806) (k : Nat) (hk : s.size < k) : hopperref02_Of.f k s = some (rollL 14695981039346656037 s.data.toList) := by
  unfold hopperref02_Of.f; rw [ref_roll _ _ hn k hk]; rfl
theorem ref_text (h : Int) (h0 : 0 ≤ h) (h1 : h < 18446744073709551616) : hopperref02_Text.f h = some (strOfNums (hexL h.toNat)) := by
  unfold hopperref02_Text.f; rw [if_pos h0, if_pos h1]
end Go.Proofs.Ytahopljippfadaa.TxnCodec.Fnv
namespace Go.Proofs.Ytahopljippfadaa.TxnLaws
set_option linter.unusedSimpArgs false
set_option linter.unusedVariables false
open Go.Proofs.Ytahopljippfadaa.D Go.Proofs.Ytahopljippfadaa.TxnCodec Go.Proofs.YtahopljippfadaaW.PrintLast Go.Proofs.YtahopljippfadaaW.PrintWords Go.RowKit
theorem ref_check (a b c d e : Int) (z : ByteArray) : hopperref04_Check.f a b c d e z = some (decide (Chk a b c d e z)) := by
  unfold hopperref04_Check.f
  by_cases h1 : a < 0
  · rw [if_pos h1, decide_eq_false (by unfold Chk; omega)]
  · by_cases h2 : a > 255
    · rw [if_neg h1, if_pos h2, decide_eq_false (by unfold Chk; omega)]
    · by_cases h3 : b < 0
      · rw [if_neg h1, if_neg h2, if_pos h3, decide_eq_false (by unfold Chk; omega)]
      · by_cases h4 : b ≥ 4294967296
        · rw [if_neg h1, if_neg h2, if_neg h3, if_pos h4, decide_eq_false (by unfold Chk; omega)]
        · by_cases h5 : c < 0
          · rw [if_neg h1, if_neg h2, if_neg h3, if_neg h4, if_pos h5, decide_eq_false (by unfold Chk; omega)]
          · by_cases h6 : c > d
            · rw [if_neg h1, if_neg h2, if_neg h3, if_neg h4, if_neg h5, if_pos h6, decide_eq_false (by unfold Chk; omega)]
            · by_cases h7 : d > 1099511627776
              · rw [if_neg h1, if_neg h2, if_neg h3, if_neg h4, if_neg h5, if_neg h6, if_pos h7, decide_eq_false (by unfold Chk; omega)]
              · rw [if_neg h1, if_neg h2, if_neg h3, if_neg h4, if_neg h5, if_neg h6, if_neg h7]
                by_cases h8 : e ≥ 1
                · by_cases h9 : e ≤ 1073741824
                  · rw [if_pos h8, if_pos h9]; congr 1; apply decide_eq_decide.2; unfold Chk; omega
                  · rw [if_pos h8, if_neg h9, decide_eq_false (by unfold Chk; omega)]
                · rw [if_neg h8, decide_eq_false (by unfold Chk; omega)]
theorem ref_number_k (k : Nat) (hk : 9 ≤ k) (n : Int) (h : n ≤ 9223372036854775807) : hopperref03_Number.f k n = some (numStr n) := at_rounds (hopperref03_Number.mono n) hk (ref_number n h)
theorem ref_encode (a b c d e : Int) (z : ByteArray) (k : Nat) (hk : 20 ≤ k) : hopperref04_Encode.f k a b c d e z = some (if Chk a b c d e z then (enc a b c d e z, true) else (⟨#[]⟩, false)) := by
  unfold hopperref04_Encode.f
  rw [ref_check, Option.bind_some]
  by_cases h : Chk a b c d e z
  · have h' := h
    unfold Chk at h'
    have ha := num_size a (by omega) (by omega)
    have hb := num_size b (by omega) (by omega)
    have hc := num_size c (by omega) (by omega)
    have hd := num_size d (by omega) (by omega)
    have he := num_size e (by omega) (by omega)
    have hz := text_size z (by omega)
    obtain ⟨k, rfl⟩ : ∃ m, k = m + 6 := ⟨k - 6, by omega⟩
    have w0 : wrap64 (0 + 1) = 1 := by unfold wrap64; omega
    have w1 : wrap64 (1 + 1) = 2 := by unfold wrap64; omega
    have w2 : wrap64 (2 + 1) = 3 := by unfold wrap64; omega
    have w3 : wrap64 (3 + 1) = 4 := by unfold wrap64; omega
    have w4 : wrap64 (4 + 1) = 5 := by unfold wrap64; omega
    have hl : (([a, b, c, d, e] : List Int).length : Int) = 5 := rfl
    have s1 : (⟨#[1]⟩ : ByteArray).size = 1 := rfl
    rw [decide_eq_true h, if_pos rfl, if_pos h]
    rw [hopperref04_Encode.l0, hl, if_pos (by decide), if_pos (by decide), show rd [a, b, c, d, e] 0 = a from rfl, ref_number_k _ (by omega) a (by omega), Option.bind_some, if_pos (by omega), w0]
    rw [hopperref04_Encode.l0, hl, if_pos (by decide), if_pos (by decide), show rd [a, b, c, d, e] 1 = b from rfl, ref_number_k _ (by omega) b (by omega), Option.bind_some, if_pos (by simp only [ByteArray.size_append]; omega), w1]
    rw [hopperref04_Encode.l0, hl, if_pos (by decide), if_pos (by decide), show rd [a, b, c, d, e] 2 = c from rfl, ref_number_k _ (by omega) c (by omega), Option.bind_some, if_pos (by simp only [ByteArray.size_append]; omega), w2]
    rw [hopperref04_Encode.l0, hl, if_pos (by decide), if_pos (by decide), show rd [a, b, c, d, e] 3 = d from rfl, ref_number_k _ (by omega) d (by omega), Option.bind_some, if_pos (by simp only [ByteArray.size_append]; omega), w3]
    rw [hopperref04_Encode.l0, hl, if_pos (by decide), if_pos (by decide), show rd [a, b, c, d, e] 4 = e from rfl, ref_number_k _ (by omega) e (by omega), Option.bind_some, if_pos (by simp only [ByteArray.size_append]; omega), w4]
    rw [hopperref04_Encode.l0, hl, if_neg (by decide), ref_text, Option.bind_some, if_pos (by simp only [ByteArray.size_append]; omega)]
    unfold enc tail
    simp only [ByteArray.append_assoc]
  · rw [decide_eq_false h, if_neg (by decide), if_neg h]
theorem ref_id (a b c d e : Int) (z : ByteArray) (k : Nat) (hk : 400 ≤ k) : hopperref04_ID.f k a b c d e z = some (idOf a b c d e z) := by
  unfold hopperref04_ID.f idOf
  rw [ref_encode a b c d e z k (by omega), Option.bind_some]
  by_cases h : Chk a b c d e z
  · have r := enc_range a b c d e z h
    have q := Fnv.rollL_range 14695981039346656037 (enc a b c d e z).data.toList (by omega) (by omega)
    rw [if_pos h, if_pos h, if_pos rfl, Fnv.ref_of _ (by show (enc a b c d e z).size ≤ _; omega) k (by show (enc a b c d e z).size < _; omega), Option.bind_some, Fnv.ref_text _ q.1 q.2]
    rfl
  · rw [if_neg h, if_neg h]; rfl
theorem ref_better (a b c d e : Int) (z : ByteArray) (a' b' c' d' e' : Int) (z' : ByteArray) (k : Nat) (hk : 400 ≤ k) : hopperref04_Better.f k a b c d e z a' b' c' d' e' z' = some (decide (Better a b c d e z a' b' c' d' e' z')) := by
  unfold hopperref04_Better.f
  rw [ref_id _ _ _ _ _ _ k hk, ref_id _ _ _ _ _ _ k hk]
  simp only [Option.bind_some]
  rw [ByteArray.toList_eq, ByteArray.toList_eq]
  obtain ⟨l, hl⟩ : ∃ l, l = (idOf a b c d e z).data.toList := ⟨_, rfl⟩
  obtain ⟨m, hm⟩ : ∃ m, m = (idOf a' b' c' d' e' z').data.toList := ⟨_, rfl⟩
  have hB : Better a b c d e z a' b' c' d' e' z' ↔ c' < c ∨ (c = c' ∧ (Op.bytesLess l m = true ∨ (l = m ∧ (a < a' ∨ (a = a' ∧ b < b'))))) := by unfold Better; rw [← hl, ← hm]
  rw [← hl, ← hm]
  have key : ∀ (p : Bool), (p = true ↔ c' < c ∨ (c = c' ∧ (Op.bytesLess l m = true ∨ (l = m ∧ (a < a' ∨ (a = a' ∧ b < b')))))) → some p = some (decide (Better a b c d e z a' b' c' d' e' z')) := by
    intro p hp
    congr 1
    rw [Bool.eq_iff_iff, hp, decide_eq_true_iff, hB]
  by_cases h1 : c = c'
  · rw [if_pos h1]
    by_cases h3 : l = m
    · rw [if_pos h3]
      by_cases h4 : a = a'
      · rw [if_pos h4]
        apply key
        rw [h3, less_irrefl, decide_eq_true_iff]
        exact ⟨fun h => .inr ⟨h1, .inr ⟨rfl, .inr ⟨h4, h⟩⟩⟩, fun h => by rcases h with h | ⟨_, h | ⟨_, h | ⟨_, h⟩⟩⟩ <;> first | omega | cases h⟩
      · rw [if_neg h4]
        apply key
        rw [h3, less_irrefl, decide_eq_true_iff]
        exact ⟨fun h => .inr ⟨h1, .inr ⟨rfl, .inl h⟩⟩, fun h => by rcases h with h | ⟨_, h | ⟨_, h | ⟨h, _⟩⟩⟩ <;> first | omega | cases h⟩
    · rw [if_neg h3]
      apply key
      exact ⟨fun h => .inr ⟨h1, .inl h⟩, fun h => by rcases h with h | ⟨_, h | ⟨h, _⟩⟩ <;> first | omega | exact h | exact absurd h h3⟩
  · rw [if_neg h1]
    apply key
    rw [decide_eq_true_iff]
    exact ⟨fun h => .inl (by omega), fun h => by rcases h with h | ⟨h, _⟩ <;> omega⟩
end Go.Proofs.Ytahopljippfadaa.TxnLaws
namespace Go.Proofs.Ytahopljippfadaa.GreedyLaws
open Go.RowKit Go.Proofs.Ytahopljippfadaa.D Go.Proofs.Ytahopljippfadaa.TxnCodec Go.Proofs.Ytahopljippfadaa.TxnLaws Go.Proofs.YtahopljippfadaaW.PrintWords Go.Proofs.YtahopljippfadaaW.PrintLast
abbrev Tx := S38
abbrev d : Tx := z38
/-- Is the one better than the other? -/
def B (x y : Tx) : Bool := decide (Better x.f0 x.f1 x.f2 x.f3 x.f4 x.f5 y.f0 y.f1 y.f2 y.f3 y.f4 y.f5)
theorem asym (x y : Tx) (h : B x y = true) : B y x = false := decide_eq_false (fun q => better_asymm _ _ _ _ _ _ _ _ _ _ _ _ (of_decide_eq_true h) q)
theorem ntr (x y z : Tx) (h1 : B x y = false) (h2 : B y z = false) : B x z = false := by
  have h1 := of_decide_eq_false h1
  have h2 := of_decide_eq_false h2
  refine decide_eq_false (fun h => ?_)
  unfold Better at h h1 h2
  generalize (idOf x.f0 x.f1 x.f2 x.f3 x.f4 x.f5).data.toList = l at *
  generalize (idOf y.f0 y.f1 y.f2 y.f3 y.f4 y.f5).data.toList = m at *
  generalize (idOf z.f0 z.f1 z.f2 z.f3 z.f4 z.f5).data.toList = q at *
  have a1 : ¬ y.f2 < x.f2 := fun k => h1 (.inl k)
  have a2 : ¬ z.f2 < y.f2 := fun k => h2 (.inl k)
  rcases h with h | ⟨h, k⟩
  · omega
  · have e1 : x.f2 = y.f2 := by omega
    have e2 : y.f2 = z.f2 := by omega
    have b1 : ¬ Op.bytesLess l m = true := fun k => h1 (.inr ⟨e1, .inl k⟩)
    have b2 : ¬ Op.bytesLess m q = true := fun k => h2 (.inr ⟨e2, .inl k⟩)
    have t1 : l = m ∨ Op.bytesLess m l = true := by
      by_cases e : l = m
      · exact .inl e
      · exact (less_total l m e).elim (fun k => absurd k b1) .inr
    have t2 : m = q ∨ Op.bytesLess q m = true := by
      by_cases e : m = q
      · exact .inl e
      · exact (less_total m q e).elim (fun k => absurd k b2) .inr
    have lq : ¬ Op.bytesLess q l = true → l = m ∧ m = q := fun nq => by
      rcases t1 with t1 | t1
      · rcases t2 with t2 | t2
        · exact ⟨t1, t2⟩
        · rw [t1] at nq; exact absurd t2 nq
      · rcases t2 with t2 | t2
        · rw [← t2] at nq; exact absurd t1 nq
        · exact absurd (less_trans _ _ _ t2 t1) nq
    have nq : ¬ Op.bytesLess q l = true := fun k2 => by
      rcases k with k | ⟨e, k⟩
      · have := less_trans _ _ _ k k2
        rw [less_irrefl] at this; cases this
      · rw [e, less_irrefl] at k2; cases k2
    obtain ⟨e3, e4⟩ := lq nq
    have c1 : ¬ (x.f0 < y.f0 ∨ (x.f0 = y.f0 ∧ x.f1 < y.f1)) := fun k => h1 (.inr ⟨e1, .inr ⟨e3, k⟩⟩)
    have c2 : ¬ (y.f0 < z.f0 ∨ (y.f0 = z.f0 ∧ y.f1 < z.f1)) := fun k => h2 (.inr ⟨e2, .inr ⟨e4, k⟩⟩)
    rcases k with k | ⟨_, k⟩
    · rw [e3, e4, less_irrefl] at k; cases k
    · omega
theorem irr (x : Tx) : B x x = false := Bool.eq_false_iff.2 (fun q => by rw [asym x x q] at q; cases q)
theorem step_ (i : Nat) (h : i < 9223372036854775807) : wrap64 ((i : Int) + 1) = ((i + 1 : Nat) : Int) := by unfold wrap64; omega
theorem btk (k : Nat) (hk : 5 ≤ k) (x y : Tx) : txn_Better.f k x.f0 x.f1 x.f2 x.f3 x.f4 x.f5 y.f0 y.f1 y.f2 y.f3 y.f4 y.f5 = some (B x y) := better _ _ _ _ _ _ _ _ _ _ _ _ _ hk
/-- Are the two the same? -/
def same (t x : Tx) : Bool := x.f0 == t.f0 && (x.f1 == t.f1 && (x.f2 == t.f2 && (x.f3 == t.f3 && (x.f4 == t.f4 && (x.f5.toList == t.f5.toList)))))
theorem same_refl (t : Tx) : same t t = true := by simp [same]
theorem bytes_list (s t : ByteArray) (h : s.toList = t.toList) : s = t := by
  have e : ∀ b : ByteArray, b.toList = b.data.toList := fun b => by rw [ByteArray.toList_eq]
  rw [e, e] at h
  exact ByteArray.ext (Array.toList_inj.1 h)
theorem rbt (k : Nat) (hk : 400 ≤ k) (x y : Tx) : hopperref04_Better.f k x.f0 x.f1 x.f2 x.f3 x.f4 x.f5 y.f0 y.f1 y.f2 y.f3 y.f4 y.f5 = some (B x y) := ref_better _ _ _ _ _ _ _ _ _ _ _ _ k hk
end Go.Proofs.Ytahopljippfadaa.GreedyLaws
