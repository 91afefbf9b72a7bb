/- The plain statement behind the law TxnBytes, proved for every input; no condition but the types' own bounds. -/
import Derived.Test.YtihlogdmdmhefaaTxnMore
import Derived.Test.YtihlogdmdmhefaaLx26
namespace Go.Proofs.Ytihlogdmdmhefaa.Pure
set_option linter.unusedSimpArgs false
set_option linter.unusedVariables false
open Go.RowKit Go.Proofs.Ytihlogdmdmhefaa.L Go.Proofs.Ytihlogdmdmhefaa.TxnCodec Go.Proofs.Ytihlogdmdmhefaa.TxnLaws Go.Proofs.Ytihlogdmdmhefaa.Row Go.Proofs.YtihlogdmdmhefaaW.PrintWords Go.Proofs.YtihlogdmdmhefaaW.PrintLast
theorem cut_none (a b c d e : Int) (z : ByteArray) (h : Chk a b c d e z) (i : Nat) (hi : i < (enc a b c d e z).size) : txn_Decode.f ((enc a b c d e z).extract 0 i) = some (0, 0, 0, 0, 0, ⟨#[]⟩, false) := by
  have r := enc_range a b c d e z h
  rcases decode_cases ((enc a b c d e z).extract 0 i) (by rw [ByteArray.size_extract]; omega) with ⟨a', b', c', d', e', z', h', q, _⟩ | ⟨_, hD⟩
  · exfalso
    have sp := extract_split (enc a b c d e z) i (by omega)
    rw [q] at sp
    have hz : ((enc a b c d e z).extract i (enc a b c d e z).size).size = (enc a b c d e z).size - i := by rw [ByteArray.size_extract]; omega
    have x := decode_enc a' b' c' d' e' z' _ h' (show ((enc a b c d e z).extract i (enc a b c d e z).size).size ≤ 4611686018427387904 by omega)
    rw [sp, decode_self a b c d e z h, if_neg (by omega)] at x
    have := congrArg (fun o : Option (Int × Int × Int × Int × Int × ByteArray × Bool) => o.map (fun p => p.2.2.2.2.2.2)) x
    cases this
  · exact hD
theorem eq_true_of (a b c d e : Int) (z : ByteArray) (a' b' c' d' e' : Int) (z' : ByteArray) (h : Chk a b c d e z) (h' : Chk a' b' c' d' e' z') :
    (((enc a b c d e z).toList == (enc a' b' c' d' e' z').toList) != (a == a' && (b == b' && (c == c' && (d == d' && (e == e' && (z.toList == z'.toList))))))) = false := by
  by_cases q : enc a b c d e z = enc a' b' c' d' e' z'
  · obtain ⟨rfl, rfl, rfl, rfl, rfl, rfl⟩ := enc_inj _ _ _ _ _ _ _ _ _ _ _ _ h h' q
    simp
  · have q1 : ((enc a b c d e z).toList == (enc a' b' c' d' e' z').toList) = false := by
      rw [beq_eq_false_iff_ne]
      intro hl
      rw [ByteArray.toList_eq, ByteArray.toList_eq] at hl
      exact q (ByteArray.ext (Array.toList_inj.1 hl))
    have q2 : (a == a' && (b == b' && (c == c' && (d == d' && (e == e' && (z.toList == z'.toList)))))) = false := by
      cases hb : (a == a' && (b == b' && (c == c' && (d == d' && (e == e' && (z.toList == z'.toList)))))) with
      | false => rfl
      | true =>
        exfalso
        simp only [Bool.and_eq_true, beq_iff_eq] at hb
        obtain ⟨rfl, rfl, rfl, rfl, rfl, hl⟩ := hb
        rw [ByteArray.toList_eq, ByteArray.toList_eq] at hl
        exact q (by rw [ByteArray.ext (Array.toList_inj.1 hl)])
    rw [q1, q2]
    rfl
theorem TxnBytes : hopperlaw04_TxnBytes.Pure := by
  intro a b c d e z a' b' c' d' e' z' m _ _ _
  refine ⟨50, ?_⟩
  have skip : hopperlaw04_TxnBytes.j0 50 m true a b c d e z a' b' c' d' e' z' = some true := by
    simp only [hopperlaw04_TxnBytes.j0]
    rw [if_pos trivial, live _ (by omega)]
    rfl
  have main : m.size ≤ 100 → hopperlaw04_TxnBytes.j0 50 m false a b c d e z a' b' c' d' e' z' = some true := by
    intro hm
    have yes : Chk a b c d e z → hopperlaw04_TxnBytes.j1 49 m (enc a b c d e z) true false a b c d e z = some true := by
      intro h
      have r := enc_range a b c d e z h
      have hw : wrap64 (((enc a b c d e z).size : Int) / 2) = (((enc a b c d e z).size / 2 : Nat) : Int) := by unfold wrap64; omega
      simp only [hopperlaw04_TxnBytes.j1]
      rw [if_neg (by decide), if_pos (by omega), decode_enc a b c d e z m h (by omega), Option.bind_some, hw, if_pos (by omega), if_pos (by omega), Int.toNat_natCast, cut_none a b c d e z h _ (by omega), Option.bind_some, if_pos trivial, id_, live _ (by omega)]
      have e1 : ((if m.size = 0 then (a, b, c, d, e, z, true) else (0, 0, 0, 0, 0, (⟨#[]⟩ : ByteArray), false)).2.2.2.2.2.2 == (m.toList == ([] : List UInt8))) = true := by
        have q := to_nil m
        by_cases h0 : m.size = 0
        · rw [if_pos h0, q.2 h0]; rfl
        · rw [if_neg h0]
          have : (m.toList == ([] : List UInt8)) = false := by rw [beq_eq_false_iff_ne]; exact fun z => h0 (q.1 z)
          rw [this]
          rfl
      have e2 : ¬ (idOf a b c d e z).toList = [] := by
        rw [to_nil, id_size, if_pos h]
        decide
      rw [if_pos e1, if_neg (by decide), Option.bind_some, if_neg e2]
      rfl
    have no : hopperlaw04_TxnBytes.j1 49 m (⟨#[]⟩ : ByteArray) false false a b c d e z = some true := by
      obtain ⟨r, hr⟩ : ∃ r, txn_Decode.f ((⟨#[]⟩ : ByteArray) ++ m) = some r := by
        have hz : ((⟨#[]⟩ : ByteArray) ++ m).size ≤ 4611686018427387904 := by rw [ByteArray.size_append]; show 0 + m.size ≤ _; omega
        rcases decode_cases _ hz with ⟨a, b, c, d, e, z, _, _, h⟩ | ⟨_, h⟩
        · exact ⟨_, h⟩
        · exact ⟨_, h⟩
      have hz : ((⟨#[]⟩ : ByteArray).size : Int) = 0 := rfl
      have hw : wrap64 (0 / 2) = 0 := by unfold wrap64; omega
      have hx : (⟨#[]⟩ : ByteArray).extract 0 (Int.toNat 0) = ⟨#[]⟩ := rfl
      simp only [hopperlaw04_TxnBytes.j1]
      rw [if_neg (by decide), if_pos (show (⟨#[]⟩ : ByteArray).size + m.size ≤ 9223372036854775807 by show 0 + m.size ≤ _; omega), hr, Option.bind_some, hz, hw, if_pos (by decide), if_pos (by decide), hx, decode_none, Option.bind_some, if_neg (by decide), if_neg (by decide), live _ (by omega)]
      rfl
    simp only [hopperlaw04_TxnBytes.j0]
    rw [if_neg (by decide), encode, encode, Option.bind_some, Option.bind_some]
    by_cases h : Chk a b c d e z
    · rw [if_pos h, if_pos rfl]
      by_cases h' : Chk a' b' c' d' e' z'
      · rw [if_pos h', if_pos rfl, eq_true_of _ _ _ _ _ _ _ _ _ _ _ _ h h']
        exact yes h
      · rw [if_neg h', if_neg (by decide)]
        exact yes h
    · rw [if_neg h, if_neg (by decide)]
      exact no
  unfold hopperlaw04_TxnBytes.f hopperref04_Small.f
  simp only [Option.bind_some]
  split
  · split
    · by_cases hm : (m.size : Int) > 100
      · rw [decide_eq_true hm]; exact skip
      · rw [decide_eq_false hm]; exact main (by omega)
    · exact skip
  · exact skip
end Go.Proofs.Ytihlogdmdmhefaa.Pure
