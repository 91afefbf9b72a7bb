/- Plain facts on transactions: which may be, their bytes, what is decoded, who is better; no condition but the numbers' ranges. -/
import Derived.Test.YtihlogdmdmhefaaTxnCodec
import Derived.Test.YtihlogdmdmhefaaLx4
import Derived.Test.YtihlogdmdmhefaaLx8
import Derived.Test.YtihlogdmdmhefaaLx9
import Derived.Test.YtihlogdmdmhefaaLx10
import Derived.Test.YtihlogdmdmhefaaLx13
namespace Go.Proofs.Ytihlogdmdmhefaa.TxnLaws
set_option linter.unusedSimpArgs false
set_option linter.unusedVariables false
open Go.RowKit Go.Proofs.Ytihlogdmdmhefaa.L Go.Proofs.Ytihlogdmdmhefaa.TxnCodec Go.Proofs.YtihlogdmdmhefaaW.PrintWords Go.Proofs.YtihlogdmdmhefaaW.PrintLast
/-- May a transaction be? -/
def Chk (a b c d e : Int) (z : ByteArray) : Prop := 0 ≤ a ∧ a ≤ 255 ∧ 0 ≤ b ∧ b ≤ 4294967295 ∧ 0 ≤ c ∧ c ≤ d ∧ d ≤ 1099511627776 ∧ 1 ≤ e ∧ e ≤ 1073741824 ∧ z.size ≤ 256
instance (a b c d e : Int) (z : ByteArray) : Decidable (Chk a b c d e z) := by unfold Chk; infer_instance
theorem in_ (a b c : Int) : txn_in.f a b c = some (decide (b ≤ a ∧ a ≤ c)) := by
  unfold txn_in.f
  by_cases h : a ≥ b
  · rw [if_pos h]; congr 1; apply decide_eq_decide.2; omega
  · rw [if_neg h, decide_eq_false (by omega)]
theorem check (a b c d e : Int) (z : ByteArray) : txn_Check.f a b c d e z = some (decide (Chk a b c d e z)) := by
  unfold txn_Check.f
  simp only [in_, Option.bind_some]
  by_cases h1 : 0 ≤ a ∧ a ≤ 255
  · rw [decide_eq_true h1, if_pos rfl]
    by_cases h2 : 0 ≤ b ∧ b ≤ 4294967295
    · rw [decide_eq_true h2, if_pos rfl]
      by_cases h3 : 0 ≤ c ∧ c ≤ 1099511627776
      · rw [decide_eq_true h3, if_pos rfl]
        by_cases h4 : c ≤ d ∧ d ≤ 1099511627776
        · rw [decide_eq_true h4, if_pos rfl]
          by_cases h5 : 1 ≤ e ∧ e ≤ 1073741824
          · rw [decide_eq_true h5, if_pos rfl]; congr 1; apply decide_eq_decide.2; unfold Chk; omega
          · rw [decide_eq_false h5, if_neg (by decide), decide_eq_false (by unfold Chk; omega)]
        · rw [decide_eq_false h4, if_neg (by decide), decide_eq_false (by unfold Chk; omega)]
      · rw [decide_eq_false h3, if_neg (by decide), decide_eq_false (by unfold Chk; omega)]
    · rw [decide_eq_false h2, if_neg (by decide), decide_eq_false (by unfold Chk; omega)]
  · rw [decide_eq_false h1, if_neg (by decide), decide_eq_false (by unfold Chk; omega)]
/-- What stands behind the first byte. -/
def tail (a b c d e : Int) (z : ByteArray) : ByteArray := numStr a ++ (numStr b ++ (numStr c ++ (numStr d ++ (numStr e ++ textStr z))))
/-- A transaction's bytes. -/
def enc (a b c d e : Int) (z : ByteArray) : ByteArray := (⟨#[1]⟩ : ByteArray) ++ tail a b c d e z
theorem one_bytes : bytesOf (⟨#[1]⟩ : ByteArray) = [1] := rfl
theorem enc_all (a b c d e : Int) (z : ByteArray) : encAll (numStr a) (numStr b) (numStr c) (numStr d) (numStr e) (textStr z) = enc a b c d e z := by
  apply ByteArray.ext
  apply Array.toList_inj.1
  unfold encAll encP enc tail
  simp only [ByteArray.data_append, Array.toList_append]
  simp
theorem tail_size (a b c d e : Int) (z : ByteArray) (h : Chk a b c d e z) : z.size + 12 ≤ (tail a b c d e z).size ∧ (tail a b c d e z).size ≤ z.size + 47 := by
  unfold Chk at h
  have ha := num_size a (by omega) (by omega)
  have hb := num_size b (by omega) (by omega)
  have hc := num_size c (by omega) (by omega)
  have hd := num_size d (by omega) (by omega)
  have he := num_size e (by omega) (by omega)
  have hz := text_size z (by omega)
  unfold tail
  simp only [ByteArray.size_append]
  omega
theorem enc_size (a b c d e : Int) (z : ByteArray) : (enc a b c d e z).size = 1 + (tail a b c d e z).size := by
  unfold enc
  rw [ByteArray.size_append]
  rfl
/-- The bytes of a transaction that may be. -/
theorem encode (a b c d e : Int) (z : ByteArray) : txn_Encode.f a b c d e z = some (if Chk a b c d e z then (enc a b c d e z, true) else (⟨#[]⟩, false)) := by
  unfold txn_Encode.f
  rw [check, Option.bind_some]
  by_cases h : Chk a b c d e z
  · have h' := h
    unfold Chk at h'
    have ha := num_size a (by omega) (by omega)
    have hb := num_size b (by omega) (by omega)
    have hc := num_size c (by omega) (by omega)
    have hd := num_size d (by omega) (by omega)
    have he := num_size e (by omega) (by omega)
    have hz := text_size z (by omega)
    rw [decide_eq_true h, if_pos rfl, if_pos h, number a (by omega), number b (by omega), number c (by omega), number d (by omega), number e (by omega), text]
    simp only [Option.bind_some]
    rw [if_pos (by omega), enc_all]
  · rw [decide_eq_false h, if_neg (by decide), if_neg h]
/-- What is cut off in front. -/
theorem bytes_split (s t : ByteArray) (h : t.size ≤ s.size) (he : s.extract 0 t.size = t) : s = t ++ s.extract t.size s.size := by
  have z := extract_split s t.size h
  rw [he] at z
  exact z.symm
theorem prefix_is (s : ByteArray) : strings_CutPrefix.f ((⟨#[1]⟩ : ByteArray) ++ s) ⟨#[1]⟩ = some (s, true) := by
  have e1 : ((⟨#[1]⟩ : ByteArray) ++ s).extract 0 1 = ⟨#[1]⟩ := by
    apply bytes_inj
    rw [bytes_extract, bytes_append]
    rfl
  have e2 : ((⟨#[1]⟩ : ByteArray) ++ s).extract 1 ((⟨#[1]⟩ : ByteArray) ++ s).size = s := by
    apply bytes_inj
    rw [bytes_extract, bytes_append, ByteArray.size_append, size_bytes s, one_bytes, show (⟨#[1]⟩ : ByteArray).size = 1 from rfl, show 1 + (bytesOf s).length - 1 = (bytesOf s).length by omega]
    simp
  have hz : (((⟨#[1]⟩ : ByteArray) ++ s).size : Int) = 1 + s.size := by rw [ByteArray.size_append]; rfl
  have h1 : ((⟨#[1]⟩ : ByteArray).size : Int) = 1 := rfl
  unfold strings_CutPrefix.f stringslite_CutPrefix.f stringslite_HasPrefix.f
  rw [hz, h1, if_pos (by omega), if_pos (by decide), if_pos (by omega), if_pos (by decide), if_pos (by omega), show ((1 : Int)).toNat = 1 from rfl, e1, e2, beq_self_eq_true]
  rfl
theorem prefix_no (s : ByteArray) (h : ∀ t, s ≠ (⟨#[1]⟩ : ByteArray) ++ t) : strings_CutPrefix.f s ⟨#[1]⟩ = some (s, false) := by
  have h1 : ((⟨#[1]⟩ : ByteArray).size : Int) = 1 := rfl
  unfold strings_CutPrefix.f stringslite_CutPrefix.f stringslite_HasPrefix.f
  rw [h1]
  by_cases c : (s.size : Int) ≥ 1
  · rw [if_pos c, if_pos (by decide), if_pos (by omega), show ((1 : Int)).toNat = 1 from rfl]
    have e : ((s.extract 0 1).toList == (⟨#[1]⟩ : ByteArray).toList) = false := by
      rw [beq_eq_false_iff_ne]
      intro q
      have q' : s.extract 0 1 = ⟨#[1]⟩ := by
        rw [ByteArray.toList_eq, ByteArray.toList_eq] at q
        exact ByteArray.ext (Array.toList_inj.1 q)
      exact h _ (bytes_split s ⟨#[1]⟩ (by show 1 ≤ s.size; omega) q')
    rw [e]
    rfl
  · rw [if_neg c]; rfl
/-- One number taken, in front of what is left. -/
theorem dec_at (s : ByteArray) (i : Nat) (h : decIs s i = true) : decS s i = numStr (decN s i) ++ decS s (i + 1) ∧ 0 ≤ decN s i ∧ decN s i ≤ 1099511627776 := by
  rcases num_taken (decS s i) 1099511627776 with ⟨h1, h2, h3, h4, h5⟩ | h1
  · exact ⟨h2, h3, h4⟩
  · unfold decIs at h
    rw [h1] at h
    cases h
theorem empty_of (r : ByteArray) (h : r.size = 0) : r = ⟨#[]⟩ := ByteArray.ext (Array.eq_empty_of_size_eq_zero h)
theorem takeTx_eq (s : ByteArray) : takeTx s = L.takeT s 256 := rfl
theorem append_cancel (a b c : ByteArray) (h : a ++ b = a ++ c) : b = c := by
  apply bytes_inj
  have z := congrArg bytesOf h
  rw [bytes_append, bytes_append] at z
  exact List.append_cancel_left z
theorem dec_next (s t : ByteArray) (n : Int) (i : Nat) (h0 : 0 ≤ n) (h1 : n ≤ 1099511627776) (h : decS s i = numStr n ++ t) : decIs s i = true ∧ decN s i = n ∧ decS s (i + 1) = t := by
  have z := take_num n 1099511627776 t h0 (by omega)
  rw [if_neg (by omega), ← h] at z
  unfold decIs decN
  rw [decS, z]
  exact ⟨rfl, rfl, rfl⟩
/-- Whatever stands behind a transaction's bytes, its numbers are taken. -/
theorem dec_of_tail (a b c d e : Int) (z r : ByteArray) (h : Chk a b c d e z) :
    (decIs (tail a b c d e z ++ r) 0 = true ∧ decIs (tail a b c d e z ++ r) 1 = true ∧ decIs (tail a b c d e z ++ r) 2 = true ∧ decIs (tail a b c d e z ++ r) 3 = true ∧ decIs (tail a b c d e z ++ r) 4 = true) ∧
    decN (tail a b c d e z ++ r) 0 = a ∧ decN (tail a b c d e z ++ r) 1 = b ∧ decN (tail a b c d e z ++ r) 2 = c ∧ decN (tail a b c d e z ++ r) 3 = d ∧ decN (tail a b c d e z ++ r) 4 = e ∧ takeTx (decS (tail a b c d e z ++ r) 5) = (z, r, true) := by
  have h' := h
  unfold Chk at h'
  generalize hs : tail a b c d e z ++ r = s
  have e0 : decS s 0 = numStr a ++ (numStr b ++ (numStr c ++ (numStr d ++ (numStr e ++ (textStr z ++ r))))) := by
    rw [decS, ← hs]
    unfold tail
    simp only [ByteArray.append_assoc]
  obtain ⟨i0, n0, e1⟩ := dec_next s _ a 0 (by omega) (by omega) e0
  obtain ⟨i1, n1, e2⟩ := dec_next s _ b 1 (by omega) (by omega) e1
  obtain ⟨i2, n2, e3⟩ := dec_next s _ c 2 (by omega) (by omega) e2
  obtain ⟨i3, n3, e4⟩ := dec_next s _ d 3 (by omega) (by omega) e3
  obtain ⟨i4, n4, e5⟩ := dec_next s _ e 4 (by omega) (by omega) e4
  refine ⟨⟨i0, i1, i2, i3, i4⟩, n0, n1, n2, n3, n4, ?_⟩
  rw [e5, takeTx_eq, take_text z r 256 (by omega), if_neg (by omega)]
/-- Decoded: what was encoded, if nothing stands behind it. -/
theorem decode_enc (a b c d e : Int) (z r : ByteArray) (h : Chk a b c d e z) (hr : r.size ≤ 4611686018427387904) : txn_Decode.f (enc a b c d e z ++ r) = some (if r.size = 0 then (a, b, c, d, e, z, true) else (0, 0, 0, 0, 0, ⟨#[]⟩, false)) := by
  have h' := h
  unfold Chk at h'
  have hz := tail_size a b c d e z h
  obtain ⟨hI, n0, n1, n2, n3, n4, hT⟩ := dec_of_tail a b c d e z r h
  have hz2 : (enc a b c d e z ++ r).size ≤ 9223372036854775806 := by rw [ByteArray.size_append, enc_size]; omega
  unfold txn_Decode.f
  rw [if_pos hz2]
  unfold enc
  rw [ByteArray.append_assoc, prefix_is, Option.bind_some]
  simp only
  rw [if_pos trivial, if_pos (by rw [ByteArray.size_append]; omega)]
  unfold decF
  rw [if_pos hI, n0, n1, n2, n3, n4, hT]
  simp only
  rw [if_pos trivial, check, decide_eq_true h]
  by_cases hr0 : r.size = 0
  · rw [if_pos hr0, if_pos hr0]; rfl
  · rw [if_neg hr0, if_neg hr0]
/-- What is decoded was encoded, or nothing is told. -/
theorem decode_cases (s : ByteArray) (hs : s.size ≤ 4611686018427387904) : (∃ a b c d e z, Chk a b c d e z ∧ s = enc a b c d e z ∧ txn_Decode.f s = some (a, b, c, d, e, z, true)) ∨ ((∀ a b c d e z, Chk a b c d e z → s ≠ enc a b c d e z) ∧ txn_Decode.f s = some (0, 0, 0, 0, 0, ⟨#[]⟩, false)) := by
  by_cases hE : ∃ a b c d e z, Chk a b c d e z ∧ s = enc a b c d e z
  · obtain ⟨a, b, c, d, e, z, h, rfl⟩ := hE
    have := decode_enc a b c d e z ⟨#[]⟩ h (by decide)
    rw [app_empty, if_pos (by rfl)] at this
    exact .inl ⟨a, b, c, d, e, z, h, rfl, this⟩
  · have hN : ∀ a b c d e z, Chk a b c d e z → s ≠ enc a b c d e z := fun a b c d e z h q => hE ⟨a, b, c, d, e, z, h, q⟩
    refine .inr ⟨hN, ?_⟩
    unfold txn_Decode.f
    rw [if_pos (by omega)]
    by_cases hp : ∃ t, s = (⟨#[1]⟩ : ByteArray) ++ t
    · obtain ⟨t, rfl⟩ := hp
      rw [prefix_is, Option.bind_some]
      simp only
      rw [if_pos trivial, if_pos (by rw [ByteArray.size_append] at hs; omega)]
      unfold decF
      by_cases hI : decIs t 0 = true ∧ decIs t 1 = true ∧ decIs t 2 = true ∧ decIs t 3 = true ∧ decIs t 4 = true
      · rw [if_pos hI]
        obtain ⟨i0, i1, i2, i3, i4⟩ := hI
        have d0 := dec_at t 0 i0
        have d1 := dec_at t 1 i1
        have d2 := dec_at t 2 i2
        have d3 := dec_at t 3 i3
        have d4 := dec_at t 4 i4
        by_cases hT : (takeTx (decS t 5)).2.2 = true
        · by_cases hR : (takeTx (decS t 5)).2.1.size = 0
          · rw [if_pos hT, if_pos hR, check, Option.bind_some]
            by_cases hC : Chk (decN t 0) (decN t 1) (decN t 2) (decN t 3) (decN t 4) (takeTx (decS t 5)).1
            · exfalso
              refine hN _ _ _ _ _ _ hC ?_
              have ht : decS t 5 = textStr (takeTx (decS t 5)).1 := by
                have z := empty_of _ hR
                have tt := text_taken (decS t 5) 256
                rw [← takeTx_eq] at tt
                rcases tt with ⟨h1, h2, h3, h4⟩ | h1
                · rw [z, app_empty] at h2
                  exact h2
                · rw [h1] at hT
                  cases hT
              have e0 : t = numStr (decN t 0) ++ decS t 1 := d0.1
              have e1 : decS t 1 = numStr (decN t 1) ++ decS t 2 := d1.1
              have e2 : decS t 2 = numStr (decN t 2) ++ decS t 3 := d2.1
              have e3 : decS t 3 = numStr (decN t 3) ++ decS t 4 := d3.1
              have e4 : decS t 4 = numStr (decN t 4) ++ decS t 5 := d4.1
              have e : t = tail (decN t 0) (decN t 1) (decN t 2) (decN t 3) (decN t 4) (takeTx (decS t 5)).1 := by
                unfold tail
                rw [← ht, ← e4, ← e3, ← e2, ← e1]
                exact e0
              unfold enc
              rw [← e]
            · rw [decide_eq_false hC]; rfl
          · rw [if_pos hT, if_neg hR]
        · rw [if_neg hT]
      · rw [if_neg hI]
    · rw [prefix_no s (fun t q => hp ⟨t, q⟩), Option.bind_some]
      rfl
theorem enc_inj (a b c d e : Int) (z : ByteArray) (a' b' c' d' e' : Int) (z' : ByteArray) (h : Chk a b c d e z) (h' : Chk a' b' c' d' e' z') (q : enc a b c d e z = enc a' b' c' d' e' z') : a = a' ∧ b = b' ∧ c = c' ∧ d = d' ∧ e = e' ∧ z = z' := by
  have x := decode_enc a b c d e z ⟨#[]⟩ h (by decide)
  have y := decode_enc a' b' c' d' e' z' ⟨#[]⟩ h' (by decide)
  rw [q, y, if_pos (by rfl), if_pos (by rfl)] at x
  have x := Option.some.inj x
  simp only [Prod.mk.injEq] at x
  obtain ⟨h1, h2, h3, h4, h5, h6, _⟩ := x
  exact ⟨h1.symm, h2.symm, h3.symm, h4.symm, h5.symm, h6.symm⟩
end Go.Proofs.Ytihlogdmdmhefaa.TxnLaws
