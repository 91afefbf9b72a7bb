/- Plain facts on what the document decodes; no condition but the numbers' ranges. -/
import Derived.Test.YtihlogdmdmhefaaTxnRef
import Derived.Test.YtihlogdmdmhefaaLx18
namespace Go.Proofs.Ytihlogdmdmhefaa.TxnLaws
set_option linter.unusedSimpArgs false
set_option linter.unusedVariables false
open Go.RowKit Go.Proofs.Ytihlogdmdmhefaa.L Go.Proofs.Ytihlogdmdmhefaa.TxnCodec Go.Proofs.YtihlogdmdmhefaaW.PrintWords Go.Proofs.YtihlogdmdmhefaaW.PrintLast
/-- The document's own steps are the program's. -/
theorem rsteps (s : ByteArray) (hs : s.size ≤ 70000) : ∀ i, rS s i = decS s i ∧ rTN (rS s i) = some (takeN (decS s i) 1099511627776) := by
  intro i
  induction i with
  | zero => exact ⟨rfl, ref_take40 s hs⟩
  | succ i ih =>
    have e : rS s (i + 1) = decS s (i + 1) := by rw [rS, ih.2, decS]; rfl
    refine ⟨e, ?_⟩
    rw [e]
    exact ref_take40 _ (Nat.le_trans (decS_size s (i + 1)) hs)
theorem rN_eq (s : ByteArray) (hs : s.size ≤ 70000) (i : Nat) : rN s i = decN s i := by
  unfold rN decN; rw [(rsteps s hs i).2]; rfl
theorem rIs_eq (s : ByteArray) (hs : s.size ≤ 70000) (i : Nat) : rIs s i = decIs s i := by
  unfold rIs decIs; rw [(rsteps s hs i).2]; rfl
theorem ref_decode (s : ByteArray) (hs : s.size ≤ 70000) : hopperref04_Decode.f s = txn_Decode.f s := by
  have hpos : ∀ i, (rTN (rS (s.extract 1 s.size) i)).isSome = true := fun i => by rw [(rsteps _ (by rw [ByteArray.size_extract]; omega) i).2]; rfl
  have hsz : (s.extract 1 s.size).size ≤ 70000 := by rw [ByteArray.size_extract]; omega
  unfold hopperref04_Decode.f
  rcases decode_cases s (by omega) with ⟨a, b, c, d, e, z, h, hE, hD⟩ | ⟨hN, hD⟩
  · rw [hD]
    have h' := h
    unfold Chk at h'
    have h1 := enc_size a b c d e z
    have ht : s.extract 1 s.size = tail a b c d e z ++ ⟨#[]⟩ := by
      rw [app_empty, hE]
      apply bytes_inj
      unfold enc
      rw [bytes_extract, bytes_append, ByteArray.size_append, size_bytes (tail a b c d e z), one_bytes, show (⟨#[1]⟩ : ByteArray).size = 1 from rfl, show 1 + (bytesOf (tail a b c d e z)).length - 1 = (bytesOf (tail a b c d e z)).length by omega]
      simp
    obtain ⟨hI, n0, n1, n2, n3, n4, hT⟩ := dec_of_tail a b c d e z ⟨#[]⟩ h
    rw [if_neg (by rw [hE]; omega), if_pos (by omega)]
    unfold rdecF
    rw [if_pos ⟨hpos 0, hpos 1, hpos 2, hpos 3, hpos 4⟩]
    simp only [rIs_eq _ hsz, rN_eq _ hsz, (rsteps _ hsz 5).1]
    rw [ht, if_pos hI, n0, n1, n2, n3, n4, ref_takeT _ _ (by rw [← ht]; exact Nat.le_trans (decS_size _ 5) hsz), ← takeTx_eq, hT, Option.bind_some, ref_encode _ _ _ _ _ _ 40 (by omega), if_pos h, Option.bind_some, if_pos rfl, if_pos hE.symm]
  · rw [hD]
    by_cases h0 : s.size = 0
    · rw [if_pos h0]
    · rw [if_neg h0, if_pos (by omega)]
      unfold rdecF
      rw [if_pos ⟨hpos 0, hpos 1, hpos 2, hpos 3, hpos 4⟩]
      simp only [rIs_eq _ hsz, rN_eq _ hsz, (rsteps _ hsz 5).1]
      by_cases hI : decIs (s.extract 1 s.size) 0 = true ∧ decIs (s.extract 1 s.size) 1 = true ∧ decIs (s.extract 1 s.size) 2 = true ∧ decIs (s.extract 1 s.size) 3 = true ∧ decIs (s.extract 1 s.size) 4 = true
      · rw [if_pos hI, ref_takeT _ _ (Nat.le_trans (decS_size _ 5) hsz), Option.bind_some, ref_encode _ _ _ _ _ _ 40 (by omega), Option.bind_some]
        by_cases hC : Chk (decN (s.extract 1 s.size) 0) (decN (s.extract 1 s.size) 1) (decN (s.extract 1 s.size) 2) (decN (s.extract 1 s.size) 3) (decN (s.extract 1 s.size) 4) (L.takeT (decS (s.extract 1 s.size) 5) 256).1
        · rw [if_pos hC, if_pos rfl, if_neg (fun q => hN _ _ _ _ _ _ hC q.symm)]
        · rw [if_neg hC, if_neg (by decide)]
      · rw [if_neg hI]
end Go.Proofs.Ytihlogdmdmhefaa.TxnLaws
