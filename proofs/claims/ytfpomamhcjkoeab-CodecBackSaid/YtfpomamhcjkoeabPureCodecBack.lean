/- The plain statement behind the law CodecBack, proved for every input; no condition but the types' own bounds. -/
import Derived.Test.YtfpomamhcjkoeabCodecMore
import Derived.Test.YtfpomamhcjkoeabCx5
namespace Go.Proofs.Ytfpomamhcjkoeab.Pure
set_option linter.unusedSimpArgs false
set_option linter.unusedVariables false
open Go.RowKit Go.Proofs.Ytfpomamhcjkoeab.C Go.Proofs.Ytfpomamhcjkoeab.CodecLaws Go.Proofs.Ytfpomamhcjkoeab.Row Go.Proofs.YtfpomamhcjkoeabW.PrintWords Go.Proofs.YtfpomamhcjkoeabW.PrintLast
theorem CodecBack : hopperlaw03_CodecBack.Pure := by
  intro n s rest hn _ _
  have hn := bounds_i64 hn
  refine ⟨1, ?_⟩
  unfold hopperlaw03_CodecBack.f
  have skip : hopperlaw03_CodecBack.j0 1 n s rest true = some true := by
    simp only [hopperlaw03_CodecBack.j0]
    have hm : mn n (-1) < 0 ∧ mn n (-1) ≤ 9223372036854775807 := by unfold mn; split <;> omega
    rw [if_pos trivial, number _ hm.2, live]
    have e : numStr (mn n (-1)) = ⟨#[]⟩ := by unfold numStr; rw [if_pos hm.1]
    rw [e]
    simp only [Option.bind_some]
    decide +kernel
  by_cases c1 : (s.size : Int) > 2000
  · rw [if_pos c1]; exact skip
  · by_cases c2 : (rest.size : Int) > 2000
    · rw [if_neg c1, if_pos c2]; exact skip
    · by_cases c3 : n < 0
      · rw [if_neg c1, if_neg c2, decide_eq_true c3]; exact skip
      · rw [if_neg c1, if_neg c2, decide_eq_false c3]
        simp only [hopperlaw03_CodecBack.j0]
        have hz := num_size n hn.2 (by omega)
        have ht := text_size s (by omega)
        have hz1 : (numStr n).size + rest.size ≤ 9223372036854775807 := by omega
        have hz2 : (textStr s).size + rest.size ≤ 9223372036854775807 := by omega
        have hz3 : (numStr n ++ rest).size ≤ 9223372036854775806 := by rw [ByteArray.size_append]; omega
        have hz4 : (textStr s ++ rest).size ≤ 9223372036854775806 := by rw [ByteArray.size_append]; omega
        have w1 : wrap64 (n - 1) = n - 1 := by unfold wrap64; omega
        have w2 : wrap64 ((s.size : Int) - 1) = (s.size : Int) - 1 := by unfold wrap64; omega
        rw [if_neg (by decide), number n hn.2, text, live]
        simp only [Option.bind_some]
        rw [if_pos hz1, takes _ _ hz3, takes _ _ hz3, take_num n n rest (by omega) hn.2, w1, take_num n (n - 1) rest (by omega) hn.2, if_neg (by omega), if_pos (show n - 1 < n by omega)]
        simp only [Option.bind_some]
        rw [if_pos hz2, takesT _ _ hz4, takesT _ _ hz4, take_text s rest _ (by omega), w2, take_text s rest _ (by omega), if_neg (by omega), if_pos (show (s.size : Int) - 1 < s.size by omega)]
        simp [hz1, hz2]
end Go.Proofs.Ytfpomamhcjkoeab.Pure
