/- Plain facts on transactions: their slots, their IDs, who is better; no condition but the numbers' ranges. -/
import Derived.Test.YtihlogdmdmhefaaTxnLaws
import Derived.Test.YtihlogdmdmhefaaLx12
namespace Go.Proofs.Ytihlogdmdmhefaa.TxnLaws
set_option linter.unusedSimpArgs false
set_option linter.unusedVariables false
open Go.RowKit Go.Proofs.Ytihlogdmdmhefaa.L Go.Proofs.Ytihlogdmdmhefaa.TxnCodec Go.Proofs.YtihlogdmdmhefaaW.PrintWords Go.Proofs.YtihlogdmdmhefaaW.PrintLast
/-- How many slots so many bytes take. -/
def slo (n : Nat) : Int := ((n + 31) / 32 : Nat)
theorem slots_pos (n : Nat) (h0 : 1 ≤ n) (h : n ≤ 400) : sat_Slots.f (n : Int) = some (slo n) := by
  have w1 : wrap64 ((n : Int) + 32) = (n : Int) + 32 := by unfold wrap64; omega
  have w2 : wrap64 ((n : Int) + 32 - 1) = ((n + 31 : Nat) : Int) := by unfold wrap64; omega
  have e : Int.tdiv ((n + 31 : Nat) : Int) 32 = slo n := by
    rw [Int.tdiv_eq_ediv_of_nonneg (by omega)]
    unfold slo
    omega
  have w4 : wrap64 (slo n) = slo n := by unfold slo wrap64; omega
  have g : 1 ≤ slo n := by unfold slo; omega
  unfold sat_Slots.f
  rw [if_neg (by omega), if_neg (by omega), w1, w2, e, w4]
  unfold mx
  congr 1
  split <;> omega
def slotsOf (a b c d e : Int) (z : ByteArray) : Int := if Chk a b c d e z then slo (enc a b c d e z).size else 0
theorem enc_range (a b c d e : Int) (z : ByteArray) (h : Chk a b c d e z) : z.size + 13 ≤ (enc a b c d e z).size ∧ (enc a b c d e z).size ≤ z.size + 48 ∧ (enc a b c d e z).size ≤ 304 := by
  have h1 := tail_size a b c d e z h
  have h2 := enc_size a b c d e z
  unfold Chk at h
  omega
theorem slots (a b c d e : Int) (z : ByteArray) : txn_Slots.f a b c d e z = some (slotsOf a b c d e z) := by
  unfold txn_Slots.f slotsOf
  rw [encode, Option.bind_some]
  by_cases h : Chk a b c d e z
  · have r := enc_range a b c d e z h
    rw [if_pos h, if_pos h, if_pos rfl]
    show ((sat_Slots.f ((enc a b c d e z).size : Int)).bind fun t => some t) = _
    rw [slots_pos _ (by omega) (by omega)]
    rfl
  · rw [if_neg h, if_neg h]; rfl
/-- The digits of a transaction's hash. -/
def idOf (a b c d e : Int) (z : ByteArray) : ByteArray := if Chk a b c d e z then strOfNums (hexL (rollL 14695981039346656037 (enc a b c d e z).data.toList).toNat) else ⟨#[]⟩
theorem id_ (a b c d e : Int) (z : ByteArray) : txn_ID.f a b c d e z = some (idOf a b c d e z) := by
  unfold txn_ID.f idOf
  rw [encode, Option.bind_some]
  by_cases h : Chk a b c d e z
  · have r := enc_range a b c d e z h
    have q := Fnv.rollL_range 14695981039346656037 (enc a b c d e z).data.toList (by omega) (by omega)
    rw [if_pos h, if_pos h, if_pos rfl, Fnv.of_ _ (by show (enc a b c d e z).size ≤ _; omega), Option.bind_some, Fnv.text _ q.1 q.2]
    rfl
  · rw [if_neg h, if_neg h]; rfl
theorem id_size (a b c d e : Int) (z : ByteArray) : (idOf a b c d e z).size = if Chk a b c d e z then 16 else 0 := by
  unfold idOf
  by_cases h : Chk a b c d e z
  · rw [if_pos h, if_pos h, str_size]; simp [hexL]
  · rw [if_neg h, if_neg h]; rfl
/-! ### The order of bytes -/
theorem less_irrefl (l : List UInt8) : Op.bytesLess l l = false := by
  induction l with
  | nil => rfl
  | cons a l ih => simp [Op.bytesLess, ih]
theorem less_cons (a b : UInt8) (l m : List UInt8) : Op.bytesLess (a :: l) (b :: m) = true ↔ a < b ∨ (a = b ∧ Op.bytesLess l m = true) := by
  simp [Op.bytesLess]
theorem less_trans (l : List UInt8) : ∀ m n, Op.bytesLess l m = true → Op.bytesLess m n = true → Op.bytesLess l n = true := by
  induction l with
  | nil =>
    intro m n h1 h2
    cases m with
    | nil => cases n <;> simp_all [Op.bytesLess]
    | cons b m => cases n with
      | nil => simp [Op.bytesLess] at h2
      | cons c n => rfl
  | cons a l ih =>
    intro m n h1 h2
    cases m with
    | nil => simp [Op.bytesLess] at h1
    | cons b m =>
      cases n with
      | nil => simp [Op.bytesLess] at h2
      | cons c n =>
        rw [less_cons] at h1 h2 ⊢
        rcases h1 with h1 | ⟨rfl, h1⟩
        · rcases h2 with h2 | ⟨rfl, h2⟩
          · exact .inl (UInt8.lt_trans h1 h2)
          · exact .inl h1
        · rcases h2 with h2 | ⟨rfl, h2⟩
          · exact .inl h2
          · exact .inr ⟨rfl, ih _ _ h1 h2⟩
theorem less_total (l : List UInt8) : ∀ m, l ≠ m → Op.bytesLess l m = true ∨ Op.bytesLess m l = true := by
  induction l with
  | nil =>
    intro m h
    cases m with
    | nil => exact absurd rfl h
    | cons b m => exact .inl rfl
  | cons a l ih =>
    intro m h
    cases m with
    | nil => exact .inr rfl
    | cons b m =>
      rw [less_cons, less_cons]
      by_cases e : a = b
      · subst e
        rcases ih m (fun q => h (by rw [q])) with h1 | h1
        · exact .inl (.inr ⟨rfl, h1⟩)
        · exact .inr (.inr ⟨rfl, h1⟩)
      · rcases UInt8.lt_or_lt_of_ne e with h1 | h1
        · exact .inl (.inl h1)
        · exact .inr (.inl h1)
theorem less_asymm (l m : List UInt8) (h : Op.bytesLess l m = true) : Op.bytesLess m l = false := by
  cases q : Op.bytesLess m l with
  | false => rfl
  | true => have := less_trans _ _ _ h q; rw [less_irrefl] at this; cases this
theorem compare_less (l : List UInt8) : ∀ m, Lib.compareBytes l m = if l = m then 0 else if Op.bytesLess l m = true then -1 else 1 := by
  induction l with
  | nil =>
    intro m
    cases m with
    | nil => rfl
    | cons b m => rfl
  | cons a l ih =>
    intro m
    cases m with
    | nil => rfl
    | cons b m =>
      simp only [Lib.compareBytes]
      by_cases h1 : a < b
      · rw [if_pos h1, if_neg (by intro q; injection q with q; subst q; exact UInt8.lt_irrefl _ h1), if_pos ((less_cons _ _ _ _).2 (.inl h1))]
      · by_cases h2 : b < a
        · rw [if_neg h1, if_pos h2, if_neg (by intro q; injection q with q; subst q; exact UInt8.lt_irrefl _ h2), if_neg]
          intro q
          rcases (less_cons _ _ _ _).1 q with h | ⟨h, _⟩
          · exact h1 h
          · subst h; exact UInt8.lt_irrefl _ h2
        · have e : a = b := by
            by_cases e : a = b
            · exact e
            · rcases UInt8.lt_or_lt_of_ne e with h | h
              · exact absurd h h1
              · exact absurd h h2
          subst e
          rw [if_neg h1, if_neg h2, ih]
          by_cases e : l = m
          · subst e; rw [if_pos rfl, if_pos rfl]
          · rw [if_neg e, if_neg (show ¬ (a :: l = a :: m) from fun q => e (List.cons.inj q).2)]
            by_cases q : Op.bytesLess l m = true
            · rw [if_pos q, if_pos ((less_cons _ _ _ _).2 (.inr ⟨rfl, q⟩))]
            · rw [if_neg q, if_neg]
              intro q'
              rcases (less_cons _ _ _ _).1 q' with h | ⟨_, h⟩
              · exact h1 h
              · exact q h
/-! ### Who is better -/
def Better (a b c d e : Int) (z : ByteArray) (a' b' c' d' e' : Int) (z' : ByteArray) : Prop :=
  c' < c ∨ (c = c' ∧ (Op.bytesLess (idOf a b c d e z).data.toList (idOf a' b' c' d' e' z').data.toList = true ∨ ((idOf a b c d e z).data.toList = (idOf a' b' c' d' e' z').data.toList ∧ (a < a' ∨ (a = a' ∧ b < b')))))
instance (a b c d e : Int) (z : ByteArray) (a' b' c' d' e' : Int) (z' : ByteArray) : Decidable (Better a b c d e z a' b' c' d' e' z') := by unfold Better; infer_instance
def cmpI (a b : Int) : Int := if a < b then -1 else if b < a then 1 else 0
theorem cmp_ (a b : Int) : cmp_Compare_int.f a b = some (cmpI a b) := by
  unfold cmp_Compare_int.f cmp_isNaN_int.f cmpI
  simp only [bne_self_eq_false, Option.bind_some]
  rw [if_neg (by decide), if_neg (by decide)]
  by_cases h : a < b
  · rw [if_pos h, if_pos h]
  · rw [if_neg h, if_neg h]
    by_cases h2 : b < a
    · rw [if_pos h2, if_pos (show a > b from h2)]
    · rw [if_neg h2, if_neg (show ¬ a > b from h2)]
def or4 (x y u v : Int) : Int := if x = 0 then (if y = 0 then (if u = 0 then v else u) else y) else x
theorem or_ (x y u v : Int) (k : Nat) : cmp_Or_int.f (k + 5) [x, y, u, v] = some (or4 x y u v) := by
  have w0 : wrap64 (0 + 1) = 1 := by unfold wrap64; omega
  have w1 : wrap64 (1 + 1) = 2 := by unfold wrap64; omega
  have w2 : wrap64 (2 + 1) = 3 := by unfold wrap64; omega
  have w3 : wrap64 (3 + 1) = 4 := by unfold wrap64; omega
  have hl : (([x, y, u, v] : List Int).length : Int) = 4 := rfl
  unfold cmp_Or_int.f or4
  rw [cmp_Or_int.l0, hl, if_pos (by decide), if_pos (by decide), if_pos (by decide), show rd [x, y, u, v] 0 = x from rfl]
  by_cases hx : x = 0
  · rw [if_pos hx, if_pos hx, w0, cmp_Or_int.l0, hl, if_pos (by decide), if_pos (by decide), if_pos (by decide), show rd [x, y, u, v] 1 = y from rfl]
    by_cases hy : y = 0
    · rw [if_pos hy, if_pos hy, w1, cmp_Or_int.l0, hl, if_pos (by decide), if_pos (by decide), if_pos (by decide), show rd [x, y, u, v] 2 = u from rfl]
      by_cases hu : u = 0
      · rw [if_pos hu, if_pos hu, w2, cmp_Or_int.l0, hl, if_pos (by decide), if_pos (by decide), if_pos (by decide), show rd [x, y, u, v] 3 = v from rfl]
        by_cases hv : v = 0
        · rw [if_pos hv, w3, cmp_Or_int.l0, if_neg (by decide), hv]
        · rw [if_neg hv]
      · rw [if_neg hu, if_neg hu]
    · rw [if_neg hy, if_neg hy]
  · rw [if_neg hx, if_neg hx]
theorem better (a b c d e : Int) (z : ByteArray) (a' b' c' d' e' : Int) (z' : ByteArray) (k : Nat) (hk : 5 ≤ k) : txn_Better.f k a b c d e z a' b' c' d' e' z' = some (decide (Better a b c d e z a' b' c' d' e' z')) := by
  obtain ⟨k, rfl⟩ : ∃ m, k = m + 5 := ⟨k - 5, by omega⟩
  unfold txn_Better.f
  rw [cmp_, id_, id_, cmp_, cmp_]
  simp only [Option.bind_some]
  unfold strings_Compare.f
  rw [Option.bind_some, or_, Option.bind_some]
  congr 1
  apply decide_eq_decide.2
  rw [compare_less]
  unfold or4 cmpI Better
  generalize (idOf a b c d e z).data.toList = l
  generalize (idOf a' b' c' d' e' z').data.toList = m
  by_cases h1 : c' < c
  · rw [if_pos h1, if_neg (by decide)]; exact ⟨fun _ => .inl h1, fun _ => by decide⟩
  · by_cases h2 : c < c'
    · rw [if_neg h1, if_pos h2, if_neg (by decide)]; exact ⟨fun h => absurd h (by decide), fun h => by rcases h with h | ⟨h, _⟩ <;> omega⟩
    · have hc : c = c' := by omega
      rw [if_neg h1, if_neg h2, if_pos rfl]
      by_cases h3 : l = m
      · rw [if_pos h3, if_pos rfl, h3, less_irrefl]
        by_cases h4 : a < a'
        · rw [if_pos h4, if_neg (by decide)]; exact ⟨fun _ => .inr ⟨hc, .inr ⟨rfl, .inl h4⟩⟩, fun _ => by decide⟩
        · by_cases h5 : a' < a
          · rw [if_neg h4, if_pos h5, if_neg (by decide)]
            exact ⟨fun h => absurd h (by decide), fun h => by rcases h with h | ⟨_, h | ⟨_, h | ⟨h, _⟩⟩⟩ <;> first | omega | cases h⟩
          · rw [if_neg h4, if_neg h5, if_pos rfl]
            by_cases h6 : b < b'
            · rw [if_pos h6]; exact ⟨fun _ => .inr ⟨hc, .inr ⟨rfl, .inr ⟨by omega, h6⟩⟩⟩, fun _ => by decide⟩
            · rw [if_neg h6]
              refine ⟨fun h => ?_, fun h => by rcases h with h | ⟨_, h | ⟨_, h | ⟨_, h⟩⟩⟩ <;> first | omega | cases h⟩
              split at h <;> omega
      · by_cases h4 : Op.bytesLess l m = true
        · rw [if_neg h3, if_pos h4, if_neg (by decide)]; exact ⟨fun _ => .inr ⟨hc, .inl h4⟩, fun _ => by decide⟩
        · rw [if_neg h3, if_neg h4, if_neg (by decide)]
          exact ⟨fun h => absurd h (by decide), fun h => by rcases h with h | ⟨_, h | ⟨h, _⟩⟩ <;> first | omega | exact absurd h h4 | exact absurd h h3⟩
theorem better_irrefl (a b c d e : Int) (z : ByteArray) : ¬ Better a b c d e z a b c d e z := by
  unfold Better
  rw [less_irrefl]
  intro h
  rcases h with h | ⟨_, h | ⟨_, h | ⟨_, h⟩⟩⟩ <;> first | omega | cases h
theorem better_trans (a b c d e : Int) (z : ByteArray) (a' b' c' d' e' : Int) (z' : ByteArray) (x y u v n : Int) (s : ByteArray) (h1 : Better a b c d e z a' b' c' d' e' z') (h2 : Better a' b' c' d' e' z' x y u v n s) : Better a b c d e z x y u v n s := by
  unfold Better at h1 h2 ⊢
  generalize (idOf a b c d e z).data.toList = l at *
  generalize (idOf a' b' c' d' e' z').data.toList = m at *
  generalize (idOf x y u v n s).data.toList = q at *
  rcases h1 with h1 | ⟨h1, k1⟩
  · rcases h2 with h2 | ⟨h2, _⟩
    · exact .inl (by omega)
    · exact .inl (by omega)
  · rcases h2 with h2 | ⟨h2, k2⟩
    · exact .inl (by omega)
    · refine .inr ⟨by omega, ?_⟩
      rcases k1 with k1 | ⟨e1, k1⟩
      · rcases k2 with k2 | ⟨e2, _⟩
        · exact .inl (less_trans _ _ _ k1 k2)
        · rw [← e2]; exact .inl k1
      · rcases k2 with k2 | ⟨e2, k2⟩
        · rw [e1]; exact .inl k2
        · exact .inr ⟨e1.trans e2, by omega⟩
theorem better_asymm (a b c d e : Int) (z : ByteArray) (a' b' c' d' e' : Int) (z' : ByteArray) (h1 : Better a b c d e z a' b' c' d' e' z') (h2 : Better a' b' c' d' e' z' a b c d e z) : False :=
  better_irrefl _ _ _ _ _ _ (better_trans _ _ _ _ _ _ _ _ _ _ _ _ _ _ _ _ _ _ h1 h2)
theorem better_total (a b c d e : Int) (z : ByteArray) (a' b' c' d' e' : Int) (z' : ByteArray) (h : a ≠ a' ∨ b ≠ b') : Better a b c d e z a' b' c' d' e' z' ∨ Better a' b' c' d' e' z' a b c d e z := by
  unfold Better
  generalize (idOf a b c d e z).data.toList = l at *
  generalize (idOf a' b' c' d' e' z').data.toList = m at *
  by_cases hc : c = c'
  · by_cases hl : l = m
    · by_cases ha : a < a' ∨ (a = a' ∧ b < b')
      · exact .inl (.inr ⟨hc, .inr ⟨hl, ha⟩⟩)
      · exact .inr (.inr ⟨hc.symm, .inr ⟨hl.symm, by omega⟩⟩)
    · rcases less_total l m hl with q | q
      · exact .inl (.inr ⟨hc, .inl q⟩)
      · exact .inr (.inr ⟨hc.symm, .inl q⟩)
  · rcases (show c' < c ∨ c < c' by omega) with q | q
    · exact .inl (.inl q)
    · exact .inr (.inl q)
/-! ### Lengths -/
theorem enc_len (a b c d e : Int) (z : ByteArray) (h : z.size ≤ 65535) : (enc a b c d e z).size = 3 + (numStr a).size + (numStr b).size + (numStr c).size + (numStr d).size + (numStr e).size + z.size := by
  rw [enc_size]
  unfold tail
  simp only [ByteArray.size_append]
  rw [text_size z h]
  omega
theorem more_le (m : Nat) : ∀ c x : Nat, x < 256 ^ (c + 1) → more256 m x ≤ c := by
  induction m with
  | zero => intro c x _; unfold more256; omega
  | succ m ih =>
    intro c x hx
    unfold more256
    split
    · omega
    · cases c with
      | zero => exfalso; simp at hx; omega
      | succ c => have := ih c (x / 256) (by rw [Nat.pow_succ] at hx; omega); omega
theorem num_len (n : Int) (c : Nat) (h0 : 0 ≤ n) (h : n.toNat < 256 ^ (c + 1)) : (numStr n).size ≤ c + 2 := by
  unfold numStr
  rw [if_neg (by omega), str_size, numL_eq, List.length_cons, dg_len]
  have := more_le 8 c n.toNat h
  omega
theorem enc_most (a b c d e : Int) (z : ByteArray) (h : Chk a b c d e z) : (enc a b c d e z).size ≤ 29 + z.size := by
  unfold Chk at h
  have h1 := num_len a 0 (by omega) (by have : (256 : Nat) ^ (0 + 1) = 256 := by decide
                                        omega)
  have h2 := num_len b 3 (by omega) (by have : (256 : Nat) ^ (3 + 1) = 4294967296 := by decide
                                        omega)
  have h3 := num_len c 5 (by omega) (by have : (256 : Nat) ^ (5 + 1) = 281474976710656 := by decide
                                        omega)
  have h4 := num_len d 5 (by omega) (by have : (256 : Nat) ^ (5 + 1) = 281474976710656 := by decide
                                        omega)
  have h5 := num_len e 3 (by omega) (by have : (256 : Nat) ^ (3 + 1) = 4294967296 := by decide
                                        omega)
  rw [enc_len a b c d e z (by omega)]
  omega
theorem slots_range (a b c d e : Int) (z : ByteArray) : 0 ≤ slotsOf a b c d e z ∧ slotsOf a b c d e z ≤ 10 ∧ (Chk a b c d e z → 1 ≤ slotsOf a b c d e z) := by
  unfold slotsOf slo
  by_cases h : Chk a b c d e z
  · have r := enc_range a b c d e z h
    rw [if_pos h]
    exact ⟨by omega, by omega, fun _ => by omega⟩
  · rw [if_neg h]
    exact ⟨by omega, by omega, fun q => absurd q h⟩
theorem decode_self (a b c d e : Int) (z : ByteArray) (h : Chk a b c d e z) : txn_Decode.f (enc a b c d e z) = some (a, b, c, d, e, z, true) := by
  have x := decode_enc a b c d e z ⟨#[]⟩ h (by decide)
  rw [app_empty, if_pos (by rfl)] at x
  exact x
theorem decode_none : txn_Decode.f (⟨#[]⟩ : ByteArray) = some (0, 0, 0, 0, 0, ⟨#[]⟩, false) := by
  rcases decode_cases ⟨#[]⟩ (by decide) with ⟨a, b, c, d, e, z, h, q, _⟩ | ⟨_, h⟩
  · have r := enc_range a b c d e z h
    rw [← q] at r
    have : (⟨#[]⟩ : ByteArray).size = 0 := rfl
    omega
  · exact h
theorem live5 : hopperlaw04_live.f 5 = some true := by decide +kernel
theorem live (k : Nat) (h : 5 ≤ k) : hopperlaw04_live.f k = some true := at_rounds hopperlaw04_live.mono h live5
theorem to_nil (s : ByteArray) : (s.toList = []) ↔ s.size = 0 := by
  rw [ByteArray.toList_eq, ← data_length]
  exact List.length_eq_zero_iff.symm
end Go.Proofs.Ytihlogdmdmhefaa.TxnLaws
