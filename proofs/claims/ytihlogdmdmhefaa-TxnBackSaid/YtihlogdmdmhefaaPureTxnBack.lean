/- The plain statement behind the law TxnBack, proved for every input; no condition but the types' own bounds. -/
import Derived.Test.YtihlogdmdmhefaaTxnMore
import Derived.Test.YtihlogdmdmhefaaLx22
namespace Go.Proofs.Ytihlogdmdmhefaa.Pure
set_option linter.unusedSimpArgs false
set_option linter.unusedVariables false
open Go.RowKit Go.Proofs.Ytihlogdmdmhefaa.L Go.Proofs.Ytihlogdmdmhefaa.TxnCodec Go.Proofs.Ytihlogdmdmhefaa.TxnLaws Go.Proofs.Ytihlogdmdmhefaa.Row Go.Proofs.YtihlogdmdmhefaaW.PrintWords Go.Proofs.YtihlogdmdmhefaaW.PrintLast
theorem TxnBack : hopperlaw04_TxnBack.Pure := by
  intro a b c d e z s _ _
  refine ⟨50, ?_⟩
  have skip : hopperlaw04_TxnBack.j0 50 s true a b c d e z = some true := by
    simp only [hopperlaw04_TxnBack.j0]
    rw [if_pos trivial, live _ (by omega)]
    rfl
  unfold hopperlaw04_TxnBack.f hopperref04_Small.f
  rw [Option.bind_some]
  by_cases c1 : (z.size : Int) ≤ 500
  · rw [decide_eq_true c1, if_pos rfl]
    by_cases c2 : (s.size : Int) > 2000
    · rw [decide_eq_true c2]; exact skip
    · rw [decide_eq_false c2]
      have hw : wrap64 ((z.size : Int) / 2) = ((z.size / 2 : Nat) : Int) := by unfold wrap64; omega
      have last : ∀ is : Bool, (is = true → Chk a b c d e z) → hopperlaw04_TxnBack.j2 48 is false a b c d e z = some true := by
        intro is his
        simp only [hopperlaw04_TxnBack.j2]
        rw [if_neg (by decide), hw, if_pos (by omega), if_pos (by omega), Int.toNat_natCast, slots, slots, live _ (by omega)]
        simp only [Option.bind_some]
        have r1 := slots_range a b c d e (z.extract 0 (z.size / 2))
        have hm : slotsOf a b c d e (z.extract 0 (z.size / 2)) ≤ mx (slotsOf a b c d e z) 13 := by unfold mx; split <;> omega
        rw [if_pos hm]
        cases is with
        | false => rw [if_neg (by decide)]
        | true =>
          have h := his rfl
          have hx : (z.extract 0 (z.size / 2)).size = z.size / 2 := by rw [ByteArray.size_extract]; omega
          have h2 : Chk a b c d e (z.extract 0 (z.size / 2)) := by unfold Chk at h ⊢; omega
          have hle : slotsOf a b c d e (z.extract 0 (z.size / 2)) ≤ slotsOf a b c d e z := by
            unfold slotsOf
            rw [if_pos h, if_pos h2, enc_len _ _ _ _ _ _ (by omega), enc_len _ _ _ _ _ z (by omega), hx]
            unfold slo
            omega
          rw [if_pos rfl, if_pos hle]
      have mid : ∀ is : Bool, (is = true → Chk a b c d e z) → hopperlaw04_TxnBack.j1 49 s is false a b c d e z = some true := by
        intro is his
        simp only [hopperlaw04_TxnBack.j1]
        rcases decode_cases s (by omega) with ⟨a', b', c', d', e', z', h', q, hD⟩ | ⟨_, hD⟩
        · rw [if_neg (by decide), hD, Option.bind_some, encode, Option.bind_some, if_pos h', if_pos rfl, if_pos rfl, q]
          simp only [bne_self_eq_false]
          exact last is his
        · rw [if_neg (by decide), hD, Option.bind_some, encode, Option.bind_some, if_neg (by decide)]
          exact last is his
      simp only [hopperlaw04_TxnBack.j0]
      rw [if_neg (by decide), encode, check, slots]
      simp only [Option.bind_some]
      by_cases h : Chk a b c d e z
      · have r := enc_range a b c d e z h
        have r1 := slots_range a b c d e z
        rw [if_pos h, decide_eq_true h]
        simp only [bne_self_eq_false]
        rw [decode_self a b c d e z h, Option.bind_some, if_neg (by decide), if_pos rfl, if_pos trivial]
        simp only [beq_self_eq_true, Bool.not_true, Bool.or_self]
        rw [if_neg (by decide), if_neg (by omega), if_neg (by have := r1.2.2 h; omega), if_neg (by omega)]
        exact mid true (fun _ => h)
      · rw [if_neg h, decide_eq_false h]
        simp only [bne_self_eq_false]
        have hn : ((⟨#[]⟩ : ByteArray).toList != ([] : List UInt8)) = false := by rw [ByteArray.toList_eq]; rfl
        rw [decode_none, Option.bind_some, if_neg (by decide), if_neg (by decide), hn]
        exact mid false (fun q => by cases q)
  · rw [decide_eq_false c1, if_neg (by decide)]; exact skip
end Go.Proofs.Ytihlogdmdmhefaa.Pure
