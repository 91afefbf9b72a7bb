/- The plain statement behind the law QueueReady, proved for every input; no condition but the types' own bounds. -/
import Derived.Test.YtehncbhmdgdkjaaQueueMore
import Derived.Test.YtehncbhmdgdkjaaQueueLive
import Derived.Test.YtehncbhmdgdkjaaQx34
namespace Go.Proofs.Ytehncbhmdgdkjaa.Pure
set_option linter.unusedSimpArgs false
set_option linter.unusedVariables false
open Go.RowKit Go.Proofs.Ytehncbhmdgdkjaa.Q Go.Proofs.Ytehncbhmdgdkjaa.QueueLaws Go.Proofs.Ytehncbhmdgdkjaa.Row Go.Proofs.YtehncbhmdgdkjaaW.PrintWords Go.Proofs.YtehncbhmdgdkjaaW.PrintLast
theorem wsum (b : Int) (n : Nat) (hb : 0 ≤ b ∧ b ≤ 4294967295) (hn : n ≤ 1000) : wrap64 (b + (n : Int)) = b + n := by unfold wrap64; omega
theorem QueueReady_from (K : Nat) (hK : 100 ≤ K) (s b : Int) (l : List Tx) (hl : l.length ≤ 30) (hb : 0 ≤ b ∧ b ≤ 4294967295) (m : Nat) (hm : m ≤ l.length) (h3 : ∀ j (h : j < m) (h2 : j < l.length), (l[j]).f1 = b + ((0 : Nat) : Int) + j) (h4 : ∀ x ∈ l.drop m, b + ((0 : Nat) : Int) + m < x.f1) : ∀ (n i : Nat), i + n = m → hopperlaw05_QueueReady.l0 (K + n + 1) (l.take m) (i : Int) s b l = some true
  | 0, i, hi => by
    obtain rfl : i = m := by omega
    have hlen : (l.take i).length = i := by rw [List.length_take]; omega
    have hn : fnd (b + (i : Int)) l = none := by
      refine fnd_none _ _ ?_
      unfold has
      rw [Bool.not_eq_true, List.any_eq_false]
      intro x hx
      rw [← List.take_append_drop i l] at hx
      simp only [beq_iff_eq]
      rcases List.mem_append.1 hx with hx | hx
      · obtain ⟨j, hj, rfl⟩ := List.mem_iff_getElem.1 hx
        have hj2 : j < i := by omega
        have := h3 j hj2 (by omega)
        rw [List.getElem_take]
        omega
      · have := h4 x hx
        omega
    unfold hopperlaw05_QueueReady.l0
    rw [if_neg (by omega), hlen, wsum b i hb (by omega), find_eq s b l _ (by omega), Option.bind_some, hn, tell, if_neg (by decide)]
    by_cases he : (i : Int) = (l.length : Int)
    · rw [if_pos he, live _ (by omega)]; rfl
    · have hlt : i < l.length := by omega
      have hmem : l[i] ∈ l.drop i := by
        have e := List.drop_eq_getElem_cons hlt
        rw [e]
        exact List.mem_cons_self
      have := h4 l[i] hmem
      rw [if_neg he, if_pos (by omega), if_pos (by omega), rd_at l i hlt, if_pos (by omega), live _ (by omega)]
      rfl
  | n + 1, i, hi => by
    have hlen : (l.take m).length = m := by rw [List.length_take]; omega
    have hlt : i < l.length := by omega
    have hx : (l.take m)[i]'(by omega) = l[i] := List.getElem_take
    have h1 := h3 i (by omega) hlt
    unfold hopperlaw05_QueueReady.l0
    rw [if_pos (by omega), if_pos (by omega), if_pos (by omega), rd_at l i hlt, rd_at (l.take m) i (by omega), hx, if_neg (by simp), wsum b i hb (by omega), if_pos (by omega), step_ i (by omega), show K + (n + 1) = K + n + 1 from rfl]
    exact QueueReady_from K hK s b l hl hb m hm h3 h4 n (i + 1) (by omega)
theorem QueueReady : hopperlaw05_QueueReady.Pure := by
  intro s b l per hx _
  have hlen : l.length ≤ 9223372036854775807 := hx.2.2.1
  refine ⟨l.length + 2001, ?_⟩
  obtain ⟨c, hc, hf⟩ := small_eq (l.length + 2001) s b l hlen (by omega)
  have skip : hopperlaw05_QueueReady.j0 (l.length + 2000 + 1) true s b l = some true := by
    unfold hopperlaw05_QueueReady.j0
    try dsimp only
    rw [if_pos rfl, live _ (by omega)]
    rfl
  unfold hopperlaw05_QueueReady.f
  rw [hc, Option.bind_some]
  cases c with
  | false => rw [if_neg (by decide)]; exact skip
  | true =>
    have h30 := hf rfl
    rw [if_pos rfl, qcheck_eq _ s b l per (by omega) (by omega), Option.bind_some]
    by_cases hm : May s b l per
    · rw [decide_eq_true hm]
      obtain ⟨m, h1, h2, h3, h4⟩ := rdy_spec s b ⟨hm.2.2.1, hm.2.2.2.1⟩ l 0 (by omega) (by simpa using hm.2.2.2.2.2.2.2)
      have hlen : (l.take m).length = m := by rw [List.length_take]; omega
      show hopperlaw05_QueueReady.j0 (l.length + 2000 + 1) false s b l = some true
      unfold hopperlaw05_QueueReady.j0
      try dsimp only
      rw [if_neg (by decide), ready_eq _ s b l (by omega) (by omega), Option.bind_some, h2, hlen, if_neg (by omega)]
      have := QueueReady_from (l.length + 2000 - (m + 1)) (by omega) s b l h30 ⟨hm.2.2.1, hm.2.2.2.1⟩ m h1 h3 h4 m 0 (by omega)
      rw [show l.length + 2000 - (m + 1) + m + 1 = l.length + 2000 by omega] at this
      exact this
    · rw [decide_eq_false hm]; exact skip
end Go.Proofs.Ytehncbhmdgdkjaa.Pure
