/- The plain statement behind the law QueueMay, proved for every input; no condition but the types' own bounds. -/
import Derived.Test.YtehncbhmdgdkjaaQueueMore
import Derived.Test.YtehncbhmdgdkjaaQueuePlace
import Derived.Test.YtehncbhmdgdkjaaQueueLive
import Derived.Test.YtehncbhmdgdkjaaQx33
namespace Go.Proofs.Ytehncbhmdgdkjaa.Pure
set_option linter.unusedSimpArgs false
set_option linter.unusedVariables false
open Go.RowKit Go.Proofs.Ytehncbhmdgdkjaa.Q Go.Proofs.Ytehncbhmdgdkjaa.QueueLaws Go.Proofs.Ytehncbhmdgdkjaa.Row Go.Proofs.YtehncbhmdgdkjaaW.PrintWords Go.Proofs.YtehncbhmdgdkjaaW.PrintLast
theorem high_len (n : Int) (l : List Tx) : (high n l).length ≤ l.length := List.length_filter_le ..
theorem low_len (n : Int) (l : List Tx) : (low n l).length ≤ l.length := List.length_filter_le ..
theorem wsums (l m : List Tx) (hl : l.length ≤ 1000) (hm : m.length ≤ 1000) : wrap64 (sum l + sum m) = sum l + sum m := by
  have a := sum_range l
  have b := sum_range m
  exact wadd _ _ (by omega) (by omega)
theorem QueueMay_end (k : Nat) (s b : Int) (l : List Tx) (t : Tx) (per bump n : Int) (h : l.length ≤ 30) (hk : 100 ≤ k) (hm : May s b l per) : hopperlaw05_QueueMay.j1 (k + 1) false s b l t.f0 t.f1 t.f2 t.f3 t.f4 t.f5 per bump n = some true := by
  have hl := live k (by omega)
  have asc := hm.2.2.2.2.2.2.2
  have l1 : (l.filter fun x => !(x.f1 == t.f1)).length ≤ l.length := List.length_filter_le ..
  have l2 := high_len n l
  have l3 := low_len n l
  have mayd : May s b (l.filter fun x => !(x.f1 == t.f1)) per := ⟨hm.1, hm.2.1, hm.2.2.1, hm.2.2.2.1, hm.2.2.2.2.1, hm.2.2.2.2.2.1, by have := hm.2.2.2.2.2.2.1; omega, asc.filter s _ l b⟩
  unfold hopperlaw05_QueueMay.j1
  try dsimp only
  rw [if_neg (by decide), drop_eq s b l t.f1 (by omega), Option.bind_some, find_eq s b (l.filter fun x => !(x.f1 == t.f1)) t.f1 (by omega), Option.bind_some, find_drop, tell, adv_eq k s b l n (by omega) (by omega), Option.bind_some]
  by_cases hn : 0 ≤ n ∧ n ≤ 4294967295
  · rw [if_pos hn]
    by_cases hb : n < b
    · rw [if_pos hb]
      dsimp only
      rw [qslots_eq k 0 0 [] (by simp) (by simp; omega), Option.bind_some, if_neg (by decide), qcheck_eq k s b (l.filter fun x => !(x.f1 == t.f1)) per (by omega) (by omega), Option.bind_some, decide_eq_true mayd, if_pos rfl, if_neg (by decide), hl]
      rfl
    · rw [if_neg hb]
      dsimp only
      have mayh : May s n (high n l) per := ⟨hm.1, hm.2.1, hn.1, hn.2, hm.2.2.2.2.1, hm.2.2.2.2.2.1, by have := hm.2.2.2.2.2.2.1; omega, Asc.high s n l b asc⟩
      rw [qslots_eq k 0 0 (low n l) (by omega) (by omega), Option.bind_some, if_neg (by decide), qcheck_eq k s b (l.filter fun x => !(x.f1 == t.f1)) per (by omega) (by omega), Option.bind_some, decide_eq_true mayd, if_pos rfl, if_pos rfl, qcheck_eq k s n (high n l) per (by omega) (by omega), Option.bind_some, decide_eq_true mayh, if_pos rfl, qslots_eq k s n (high n l) (by omega) (by omega), Option.bind_some, qslots_eq k s b l (by omega) (by omega), Option.bind_some, wsums _ _ (by omega) (by omega), sum_split, if_pos rfl, if_pos rfl, hl]
      rfl
  · rw [if_neg hn]
    dsimp only
    rw [qslots_eq k 0 0 [] (by simp) (by simp; omega), Option.bind_some, if_neg (by decide), qcheck_eq k s b (l.filter fun x => !(x.f1 == t.f1)) per (by omega) (by omega), Option.bind_some, decide_eq_true mayd, if_pos rfl, if_neg (by decide), hl]
    rfl
theorem QueueMay_in (k : Nat) (s b : Int) (l : List Tx) (t : Tx) (per bump n : Int) (h : l.length ≤ 30) (hk : 100 ≤ k) (hm : May s b l per) : hopperlaw05_QueueMay.j0 (k + 2) false s b l t.f0 t.f1 t.f2 t.f3 t.f4 t.f5 per bump n = some true := by
  have asc := hm.2.2.2.2.2.2.2
  have l1 := put_len t l
  have fin := QueueMay_end k s b l t per bump n h hk hm
  have sp := place_spec s b l t per bump
  unfold hopperlaw05_QueueMay.j0
  try dsimp only
  rw [if_neg (by decide), qplace_eq (k + 1) s b l t per bump (by omega) (by omega), Option.bind_some, put_eq s b l t (by omega), Option.bind_some]
  dsimp only
  generalize placeQ s b l t per bump = p at sp ⊢
  obtain ⟨m, e⟩ := p
  dsimp only at sp ⊢
  by_cases he : e = 0
  · subst he
    rcases sp with ⟨_, h1, _, h3, h4, h5⟩ | ⟨_, q | ⟨q, _⟩ | ⟨q, _⟩ | ⟨q, _, _⟩⟩
    · have hi := put_ins t l b (asc.up s l b)
      have hs := ins_sum t l b (asc.up s l b)
      have hln := ins_len t l b (asc.up s l b)
      have hp : (l.length : Int) ≤ per := hm.2.2.2.2.2.2.1
      have r1 := sum_range l
      have key : m = slo_ t - slotO (fnd t.f1 l) ∧ ((ins t l).length : Int) ≤ per := by
        rcases h5 with ⟨o, ho, _, h7⟩ | ⟨hf, h6, h7⟩
        · rw [ho] at hln ⊢
          have hln : (ins t l).length = l.length := hln
          exact ⟨h7, by omega⟩
        · rw [hf] at hln ⊢
          have hln : (ins t l).length = l.length + 1 := hln
          exact ⟨by rw [h7, slotO]; omega, by omega⟩
      have mayp : May s b (putQ t l) per := ⟨hm.1, hm.2.1, hm.2.2.1, hm.2.2.2.1, hm.2.2.2.2.1, hm.2.2.2.2.2.1, by rw [hi]; exact key.2, by rw [hi]; exact ins_asc s t h3 h4 l b h1 asc⟩
      have r2 := sum_range (putQ t l)
      have hw : sum (putQ t l) = wrap64 (sum l + m) := by
        have e1 : sum (putQ t l) = sum l + m := by rw [hi, hs]; have := key.1; omega
        rw [← e1]
        unfold wrap64
        omega
      rw [if_pos rfl, qcheck_eq (k + 1) s b (putQ t l) per (by omega) (by omega), Option.bind_some, decide_eq_true mayp, if_pos rfl, qslots_eq (k + 1) s b (putQ t l) (by omega) (by omega), Option.bind_some, qslots_eq (k + 1) s b l (by omega) (by omega), Option.bind_some, ← hw, bne_self_eq_false]
      exact fin
    · cases q
    · cases q
    · cases q
    · cases q
  · rw [if_neg he]
    exact fin
theorem QueueMay : hopperlaw05_QueueMay.Pure := by
  intro s b l a0 a1 a2 a3 a4 a5 per bump n hx _ _
  have hlen : l.length ≤ 9223372036854775807 := hx.2.2.1
  refine ⟨l.length + 2002, ?_⟩
  obtain ⟨c, hc, hf⟩ := small_eq (l.length + 2002) s b l hlen (by omega)
  have skip : hopperlaw05_QueueMay.j0 (l.length + 2001 + 1) true s b l a0 a1 a2 a3 a4 a5 per bump n = some true := by
    unfold hopperlaw05_QueueMay.j0
    try dsimp only
    rw [if_pos rfl, live _ (by omega)]
    rfl
  unfold hopperlaw05_QueueMay.f
  rw [hc, Option.bind_some]
  cases c with
  | false => rw [if_neg (by decide)]; exact skip
  | true =>
    have h30 := hf rfl
    rw [if_pos rfl]
    unfold hopperref04_Small.f
    rw [Option.bind_some]
    by_cases hz : (a5.size : Int) ≤ 500
    · rw [decide_eq_true hz, if_pos rfl, qcheck_eq _ s b l per (by omega) (by omega), Option.bind_some]
      by_cases hm : May s b l per
      · rw [decide_eq_true hm]
        exact QueueMay_in (l.length + 2000) s b l ⟨a0, a1, a2, a3, a4, a5⟩ per bump n h30 (by omega) hm
      · rw [decide_eq_false hm]; exact skip
    · rw [decide_eq_false hz, if_neg (by decide)]; exact skip
end Go.Proofs.Ytehncbhmdgdkjaa.Pure
