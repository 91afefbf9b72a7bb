/- The plain statement behind the law QueueBases, proved for every input; no condition but the types' own bounds. -/
import Derived.Test.YtehncbhmdgdkjaaQueueMore
import Derived.Test.YtehncbhmdgdkjaaQueueSame
import Derived.Test.YtehncbhmdgdkjaaQueueLive
import Derived.Test.YtehncbhmdgdkjaaQx36
namespace Go.Proofs.Ytehncbhmdgdkjaa.Pure
set_option linter.unusedSimpArgs false
set_option linter.unusedVariables false
open Go.RowKit Go.Proofs.Ytehncbhmdgdkjaa.Q Go.Proofs.Ytehncbhmdgdkjaa.QueueLaws Go.Proofs.Ytehncbhmdgdkjaa.Row Go.Proofs.YtehncbhmdgdkjaaW.PrintWords Go.Proofs.YtehncbhmdgdkjaaW.PrintLast
theorem low_len (n : Int) (l : List Tx) : (low n l).length ≤ l.length := List.length_filter_le ..
theorem high_len (n : Int) (l : List Tx) : (high n l).length ≤ l.length := List.length_filter_le ..
theorem QueueBases_in (k : Nat) (s b : Int) (l : List Tx) (x y : Int) (h : l.length ≤ 30) (hk : 100 ≤ k) (hm : May s b l 16) (hxy : x ≤ y) : hopperlaw05_QueueBases.j0 (k + 2) x y false s b l = some true := by
  have hl := live k (by omega)
  have a1 := low_len x l
  have a2 := low_len y l
  have a3 := high_len x l
  have a4 := high_len y l
  have a5 := low_len y (high x l)
  have asc := hm.2.2.2.2.2.2.2
  unfold hopperlaw05_QueueBases.j0
  try dsimp only
  rw [if_neg (by decide), adv_eq (k + 1) s b l x (by omega) (by omega), Option.bind_some, adv_eq (k + 1) s b l y (by omega) (by omega)]
  by_cases hx : 0 ≤ x ∧ x ≤ 4294967295
  · rw [if_pos hx]
    by_cases hb : x < b
    · rw [if_pos hb]
      dsimp only
      rw [adv_eq (k + 1) s b l y (by omega) (by omega), Option.bind_some, Option.bind_some, if_neg (by decide)]
      unfold hopperlaw05_QueueBases.j1
      try dsimp only
      rw [if_pos rfl, if_neg (by decide), same_eq k s b l (by omega) (by omega), Option.bind_some, if_pos rfl, hl]
      rfl
    · rw [if_neg hb]
      dsimp only
      rw [adv_eq (k + 1) s x (high x l) y (by omega) (by omega), Option.bind_some, Option.bind_some, if_pos rfl]
      by_cases hy : 0 ≤ y ∧ y ≤ 4294967295
      · rw [if_pos hy, if_neg (by omega), if_pos hy, if_neg (by omega), high_high x y hxy]
        unfold hopperlaw05_QueueBases.j1
        try dsimp only
        rw [if_neg (by decide), Option.bind_some, if_pos (by simp; omega), Option.bind_some, if_pos (by simp; omega), Option.bind_some, if_pos (by simp; omega), Option.bind_some, if_pos (by simp; omega), if_pos rfl, same_eq k s y _ (by omega) (by omega), Option.bind_some, if_pos rfl, List.nil_append, List.nil_append, Asc.lows s x y hxy l b asc, Asc.split s y l b asc, txs_eq k _ (by omega) (by omega), Option.bind_some, if_pos rfl, txs_eq k l (by omega) (by omega), Option.bind_some, if_pos rfl, hl]
        rfl
      · rw [if_neg hy, if_neg hy]
        unfold hopperlaw05_QueueBases.j1
        try dsimp only
        rw [if_pos (by decide), if_pos rfl, hl]
        rfl
  · rw [if_neg hx]
    dsimp only
    rw [adv_eq (k + 1) s b l y (by omega) (by omega), Option.bind_some, Option.bind_some, if_neg (by decide)]
    unfold hopperlaw05_QueueBases.j1
    try dsimp only
    rw [if_pos rfl, if_neg (by decide), same_eq k s b l (by omega) (by omega), Option.bind_some, if_pos rfl, hl]
    rfl
theorem QueueBases : hopperlaw05_QueueBases.Pure := by
  intro s b l x y hx _ _
  have hlen : l.length ≤ 9223372036854775807 := hx.2.2.1
  refine ⟨l.length + 2002, ?_⟩
  obtain ⟨c, hc, hf⟩ := small_eq (l.length + 2002) s b l hlen (by omega)
  have skip : hopperlaw05_QueueBases.j0 (l.length + 2001 + 1) x y true s b l = some true := by
    unfold hopperlaw05_QueueBases.j0
    try dsimp only
    rw [if_pos rfl, live _ (by omega)]
    rfl
  unfold hopperlaw05_QueueBases.f
  rw [hc, Option.bind_some]
  cases c with
  | false => rw [if_neg (by decide)]; exact skip
  | true =>
    have h30 := hf rfl
    rw [if_pos rfl, qcheck_eq _ s b l 16 (by omega) (by omega), Option.bind_some]
    by_cases hm : May s b l 16
    · rw [decide_eq_true hm, if_pos rfl]
      by_cases hxy : x > y
      · rw [decide_eq_true hxy]; exact skip
      · rw [decide_eq_false hxy]
        exact QueueBases_in (l.length + 2000) s b l x y h30 (by omega) hm (by omega)
    · rw [decide_eq_false hm, if_neg (by decide)]; exact skip
end Go.Proofs.Ytehncbhmdgdkjaa.Pure
