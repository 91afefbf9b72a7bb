/- The plain statement behind the law CodecOne, proved for every input; no condition but the types' own bounds. -/
import Derived.Test.YtfpomamhcjkoeabCodecMore
import Derived.Test.YtfpomamhcjkoeabCx5
namespace Go.Proofs.Ytfpomamhcjkoeab.Pure
set_option linter.unusedSimpArgs false
set_option linter.unusedVariables false
open Go.RowKit Go.Proofs.Ytfpomamhcjkoeab.C Go.Proofs.Ytfpomamhcjkoeab.CodecLaws Go.Proofs.Ytfpomamhcjkoeab.Row Go.Proofs.YtfpomamhcjkoeabW.PrintWords Go.Proofs.YtfpomamhcjkoeabW.PrintLast
theorem CodecOne : hopperlaw03_CodecOne.Pure := by
  intro s most _ _
  refine ⟨1, ?_⟩
  unfold hopperlaw03_CodecOne.f
  by_cases c1 : (s.size : Int) > 2000
  · rw [if_pos c1, live]; rfl
  · rw [if_neg c1, takes s most (by omega), takesT s most (by omega)]
    simp only [Option.bind_some]
    have fin : hopperlaw03_CodecOne.j0 1 s most (C.takeT s most).1 (C.takeT s most).2.1 (C.takeT s most).2.2 false = some true := by
      simp only [hopperlaw03_CodecOne.j0]
      rw [if_neg (by decide), text, live]
      simp only [Option.bind_some]
      rcases text_taken s most with ⟨h1, h2, h3, h4⟩ | h
      · have hz : (textStr (C.takeT s most).1).size + (C.takeT s most).2.1.size ≤ 9223372036854775807 := by
          have := congrArg ByteArray.size h2
          rw [ByteArray.size_append] at this
          omega
        rw [if_pos h1, if_pos hz, ← h2, if_pos rfl, if_pos h3]
      · rw [h, if_neg (by decide)]
        decide +kernel
    rcases num_taken s most with ⟨h1, h2, h3, h4, h5⟩ | h
    · have hz : (numStr (takeN s most).1).size + (takeN s most).2.1.size ≤ 9223372036854775807 := by
        have := congrArg ByteArray.size h2
        rw [ByteArray.size_append] at this
        omega
      rw [if_pos h1, number _ h5]
      simp only [Option.bind_some]
      rw [if_pos hz, ← h2, if_pos rfl, if_neg (by omega), if_neg (by omega)]
      exact fin
    · have e : (((0 : Int), (⟨#[]⟩ : ByteArray), false).2.1.toList != ([] : List UInt8)) = false := by decide +kernel
      rw [h, if_neg (by decide), if_pos rfl, e]
      exact fin
end Go.Proofs.Ytfpomamhcjkoeab.Pure
