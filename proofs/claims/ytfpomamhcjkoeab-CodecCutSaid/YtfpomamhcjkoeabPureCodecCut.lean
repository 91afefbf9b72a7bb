/- The plain statement behind the law CodecCut, proved for every input; no condition but the types' own bounds. -/
import Derived.Test.YtfpomamhcjkoeabCodecMore
import Derived.Test.YtfpomamhcjkoeabCx7
namespace Go.Proofs.Ytfpomamhcjkoeab.Pure
set_option linter.unusedSimpArgs false
set_option linter.unusedVariables false
open Go.RowKit Go.Proofs.Ytfpomamhcjkoeab.C Go.Proofs.Ytfpomamhcjkoeab.CodecLaws Go.Proofs.Ytfpomamhcjkoeab.Row Go.Proofs.YtfpomamhcjkoeabW.PrintWords Go.Proofs.YtfpomamhcjkoeabW.PrintLast
theorem app_empty (s : ByteArray) : s ++ (⟨#[]⟩ : ByteArray) = s := by
  apply bytes_inj
  rw [bytes_append]
  simp [bytesOf]
theorem cut_num (n : Int) (i : Nat) (h0 : 0 ≤ n) (h : n ≤ 9223372036854775807) (hi : i < (numStr n).size) (most : Int) : (takeN ((numStr n).extract 0 i) most).2.2 = false := by
  rcases num_taken ((numStr n).extract 0 i) most with ⟨h1, h2, h3, h4, h5⟩ | h1
  · exfalso
    generalize (takeN ((numStr n).extract 0 i) most).1 = n' at *
    generalize (takeN ((numStr n).extract 0 i) most).2.1 = r' at *
    have sp := extract_split (numStr n) i (by omega)
    rw [h2, ByteArray.append_assoc] at sp
    have t1 := take_num n' n' (r' ++ (numStr n).extract i (numStr n).size) h3 h5
    have t2 := take_num n n' (⟨#[]⟩ : ByteArray) h0 h
    rw [app_empty] at t2
    rw [sp, t2, if_neg (show ¬ n' < n' by omega)] at t1
    by_cases c : n' < n
    · rw [if_pos c] at t1
      have := congrArg (fun z : Int × ByteArray × Bool => z.2.2) t1
      cases this
    · rw [if_neg c] at t1
      have z := congrArg (fun z : Int × ByteArray × Bool => z.2.1.size) t1
      simp only [ByteArray.size_append, ByteArray.size_extract] at z
      have e : (⟨#[]⟩ : ByteArray).size = 0 := rfl
      omega
  · rw [h1]
theorem cut_text (s : ByteArray) (i : Nat) (h : s.size ≤ 65535) (hi : i < (textStr s).size) (most : Int) : (C.takeT ((textStr s).extract 0 i) most).2.2 = false := by
  rcases text_taken ((textStr s).extract 0 i) most with ⟨h1, h2, h3, h4⟩ | h1
  · exfalso
    generalize (C.takeT ((textStr s).extract 0 i) most).1 = s' at *
    generalize (C.takeT ((textStr s).extract 0 i) most).2.1 = r' at *
    have sp := extract_split (textStr s) i (by omega)
    rw [h2, ByteArray.append_assoc] at sp
    have t1 := take_text s' (r' ++ (textStr s).extract i (textStr s).size) (s'.size : Int) h4
    have t2 := take_text s (⟨#[]⟩ : ByteArray) (s'.size : Int) h
    rw [app_empty] at t2
    rw [sp, t2, if_neg (show ¬ (s'.size : Int) < s'.size by omega)] at t1
    by_cases c : (s'.size : Int) < s.size
    · rw [if_pos c] at t1
      have := congrArg (fun z : ByteArray × ByteArray × Bool => z.2.2) t1
      cases this
    · rw [if_neg c] at t1
      have z := congrArg (fun z : ByteArray × ByteArray × Bool => z.2.1.size) t1
      simp only [ByteArray.size_append, ByteArray.size_extract] at z
      have e : (⟨#[]⟩ : ByteArray).size = 0 := rfl
      omega
  · rw [h1]
theorem CodecCut : hopperlaw03_CodecCut.Pure := by
  intro n t cut hn _ hc
  have hn := bounds_i64 hn
  have hc := bounds_i64 hc
  refine ⟨2, ?_⟩
  unfold hopperlaw03_CodecCut.f
  have skip : hopperlaw03_CodecCut.j0 2 n t cut true = some true := by
    simp only [hopperlaw03_CodecCut.j0]
    rw [if_pos trivial, live]
    rfl
  by_cases d1 : (t.size : Int) > 2000
  · rw [if_pos d1]; exact skip
  · by_cases d2 : n < 0
    · rw [if_neg d1, if_pos d2]; exact skip
    · by_cases d3 : cut < 0
      · rw [if_neg d1, if_neg d2, decide_eq_true d3]; exact skip
      · rw [if_neg d1, if_neg d2, decide_eq_false d3]
        have hz := num_size n hn.2 (by omega)
        have ht := text_size t (by omega)
        have tT : C.takeT (textStr t) 60000 = (t, ⟨#[]⟩, true) := by
          have z := take_text t (⟨#[]⟩ : ByteArray) 60000 (by omega)
          rw [app_empty, if_neg (by omega)] at z
          exact z
        have tN : takeN (numStr n) 4611686018427387904 = if 4611686018427387904 < n then (0, ⟨#[]⟩, false) else (n, ⟨#[]⟩, true) := by
          have z := take_num n 4611686018427387904 (⟨#[]⟩ : ByteArray) (by omega) hn.2
          rw [app_empty] at z
          exact z
        have w : wrap64 ((t.size : Int) + 2) = (t.size : Int) + 2 := by unfold wrap64; omega
        have g1 : ((numStr n).size : Int) ≥ 2 := by omega
        have g2 : ((numStr n).size : Int) ≤ 9 := by omega
        have g3 : ((textStr t).size : Int) = wrap64 ((t.size : Int) + 2) := by rw [w]; omega
        have fin : hopperlaw03_CodecCut.j1 1 n t cut (numStr n) (textStr t) = some true := by
          simp only [hopperlaw03_CodecCut.j1]
          rw [takes (numStr n) 4611686018427387904 (by omega), takesT (textStr t) 60000 (by omega), tT, tN, live]
          by_cases d4 : cut < ((textStr t).size : Int)
          · rw [if_pos d4, if_pos (show 0 ≤ cut by omega), if_pos (show cut ≤ ((textStr t).size : Int) by omega), takesT _ _ (by rw [ByteArray.size_extract]; omega), Option.bind_some, cut_text t cut.toNat (by omega) (by omega), if_neg (by decide)]
            rw [Option.bind_some, Option.bind_some]
            by_cases big : n > 4611686018427387904
            · rw [if_pos big, if_pos rfl, if_pos rfl, if_pos g1, if_pos g2, if_pos g3]
              rfl
            · rw [if_neg big, if_neg (show ¬ 4611686018427387904 < n from big), if_pos rfl, if_pos rfl, if_pos rfl, if_pos rfl, if_pos g1, if_pos g2, if_pos g3]
              rfl
          · rw [if_neg d4]
            rw [Option.bind_some, Option.bind_some]
            by_cases big : n > 4611686018427387904
            · rw [if_pos big, if_pos rfl, if_pos rfl, if_pos g1, if_pos g2, if_pos g3]
              rfl
            · rw [if_neg big, if_neg (show ¬ 4611686018427387904 < n from big), if_pos rfl, if_pos rfl, if_pos rfl, if_pos rfl, if_pos g1, if_pos g2, if_pos g3]
              rfl
        simp only [hopperlaw03_CodecCut.j0]
        rw [if_neg (by decide), number n hn.2, text, Option.bind_some, Option.bind_some, fin]
        by_cases d4 : cut < ((numStr n).size : Int)
        · rw [if_pos d4, if_pos (show 0 ≤ cut by omega), if_pos (show cut ≤ ((numStr n).size : Int) by omega), takes _ _ (by rw [ByteArray.size_extract]; omega), Option.bind_some, cut_num n cut.toNat (by omega) hn.2 (by omega), if_neg (by decide)]
        · rw [if_neg d4]
end Go.Proofs.Ytfpomamhcjkoeab.Pure
