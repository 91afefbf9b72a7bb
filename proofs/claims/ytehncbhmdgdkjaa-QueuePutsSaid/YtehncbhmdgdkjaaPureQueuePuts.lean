/- The plain statement behind the law QueuePuts, proved for every input; no condition but the types' own bounds. -/
import Derived.Test.YtehncbhmdgdkjaaQueueMore
import Derived.Test.YtehncbhmdgdkjaaQueueSame
import Derived.Test.YtehncbhmdgdkjaaQueueChk
import Derived.Test.YtehncbhmdgdkjaaQueueLive
import Derived.Test.YtehncbhmdgdkjaaQx35
namespace Go.Proofs.Ytehncbhmdgdkjaa.Pure
set_option linter.unusedSimpArgs false
set_option linter.unusedVariables false
open Go.RowKit Go.Proofs.Ytehncbhmdgdkjaa.Q Go.Proofs.Ytehncbhmdgdkjaa.QueueLaws Go.Proofs.Ytehncbhmdgdkjaa.Row Go.Proofs.YtehncbhmdgdkjaaW.PrintWords Go.Proofs.YtehncbhmdgdkjaaW.PrintLast
theorem pcheck_t (x : Tx) : hopperref04_Check.f x.f0 x.f1 x.f2 x.f3 x.f4 x.f5 = some (decide (ChkT x)) := Go.Proofs.Ytehncbhmdgdkjaa.TxnLaws.ref_check _ _ _ _ _ _
theorem QueuePuts_end (k : Nat) (c : Bool) (s b : Int) (l : List Tx) (t u : Tx) (h : l.length ≤ 30) (hk : 100 ≤ k) (hc : c = false → Asc s b l) : hopperlaw05_QueuePuts.j2 (k + 1) false c s b l t.f0 t.f1 t.f2 t.f3 t.f4 t.f5 u.f0 u.f1 u.f2 u.f3 u.f4 u.f5 = some true := by
  have hl := live k (by omega)
  unfold hopperlaw05_QueuePuts.j2
  try dsimp only
  by_cases hcc : c = true
  · rw [if_pos hcc, if_neg (by decide), hl]; rfl
  · rw [if_neg hcc]
    by_cases hn : t.f1 = u.f1
    · rw [if_pos hn, hl]; rfl
    · have asc := (hc (Bool.eq_false_iff.2 hcc)).up s l b
      have l1 := put_len t l
      have l2 := put_len u l
      have l3 := put_len u (putQ t l)
      have e1 : putQ u (putQ t l) = putQ t (putQ u l) := by
        have up0 : ∀ m : Int, m ≤ b → Up m l := fun m hm => Up.mono l b m hm asc
        rw [put_ins t l b asc, put_ins u l b asc]
        rcases Int.lt_trichotomy t.f1 u.f1 with q | q | q
        · by_cases hb : b ≤ t.f1
          · rw [put_ins u _ b (ins_up t l b hb asc), put_ins t _ b (ins_up u l b (by omega) asc), ins_comm t u hn]
          · have z := up0 t.f1 (by omega)
            rw [put_ins u _ t.f1 (ins_up t l t.f1 (Int.le_refl _) z), put_ins t _ t.f1 (ins_up u l t.f1 (by omega) z), ins_comm t u hn]
        · exact absurd q hn
        · by_cases hb : b ≤ u.f1
          · rw [put_ins u _ b (ins_up t l b (by omega) asc), put_ins t _ b (ins_up u l b hb asc), ins_comm t u hn]
          · have z := up0 u.f1 (by omega)
            rw [put_ins u _ u.f1 (ins_up t l u.f1 (by omega) z), put_ins t _ u.f1 (ins_up u l u.f1 (Int.le_refl _) z), ins_comm t u hn]
      rw [if_neg hn, put_eq s b l t (by omega), Option.bind_some, put_eq s b (putQ t l) u (by omega), Option.bind_some, put_eq s b l u (by omega), Option.bind_some, put_eq s b (putQ u l) t (by omega), Option.bind_some, e1, same_eq k s b (putQ t (putQ u l)) (by rw [← e1]; omega) (by rw [← e1]; omega), Option.bind_some, if_pos rfl, hl]
      rfl
theorem QueuePuts_mid (k : Nat) (s b : Int) (l : List Tx) (t u : Tx) (h : l.length ≤ 30) (hk : 100 ≤ k) : hopperlaw05_QueuePuts.j1 (k + 2) false s b l t.f0 t.f1 t.f2 t.f3 t.f4 t.f5 u.f0 u.f1 u.f2 u.f3 u.f4 u.f5 s b (putQ t l) = some true := by
  have l1 := put_len t l
  have l2 : ((putQ t l).filter fun x => !(x.f1 == t.f1)).length ≤ (putQ t l).length := List.length_filter_le ..
  have skip := QueuePuts_end k true s b l t u h hk (fun q => by cases q)
  unfold hopperlaw05_QueuePuts.j1
  try dsimp only
  rw [if_neg (by decide), drop_eq s b (putQ t l) t.f1 (by omega), Option.bind_some, find_eq s b ((putQ t l).filter fun x => !(x.f1 == t.f1)) t.f1 (by omega), Option.bind_some, find_drop, tell, if_neg (by decide), qcheck_eq (k + 1) s b l 16 (by omega) (by omega), Option.bind_some]
  by_cases hm : May s b l 16
  · rw [decide_eq_true hm, if_pos rfl, pcheck_t, Option.bind_some]
    by_cases h1 : ChkT t
    · rw [decide_eq_true h1, if_pos rfl, pcheck_t, Option.bind_some]
      exact QueuePuts_end k _ s b l t u h hk (fun _ => hm.2.2.2.2.2.2.2)
    · rw [decide_eq_false h1, if_neg (by decide)]; exact skip
  · rw [decide_eq_false hm, if_neg (by decide)]; exact skip
theorem QueuePuts_in (k : Nat) (s b : Int) (l : List Tx) (t u : Tx) (h : l.length ≤ 30) (hk : 100 ≤ k) : hopperlaw05_QueuePuts.j0 (k + 3) false s b l t.f0 t.f1 t.f2 t.f3 t.f4 t.f5 u.f0 u.f1 u.f2 u.f3 u.f4 u.f5 = some true := by
  have l1 := put_len t l
  unfold hopperlaw05_QueuePuts.j0
  try dsimp only
  rw [if_neg (by decide), put_eq s b l t (by omega), Option.bind_some, find_eq s b (putQ t l) t.f1 (by omega), Option.bind_some, find_put, tell, if_pos rfl, if_neg (by simp), put_eq s b (putQ t l) t (by omega), Option.bind_some, put_put, same_eq (k + 2) s b (putQ t l) (by omega) (by omega), Option.bind_some]
  exact QueuePuts_mid k s b l t u h hk
theorem QueuePuts : hopperlaw05_QueuePuts.Pure := by
  intro s b l a0 a1 a2 a3 a4 a5 b0 b1 b2 b3 b4 b5 hx _ _
  have hlen : l.length ≤ 9223372036854775807 := hx.2.2.1
  refine ⟨l.length + 2003, ?_⟩
  obtain ⟨c, hc, hf⟩ := small_eq (l.length + 2003) s b l hlen (by omega)
  have skip : hopperlaw05_QueuePuts.j0 (l.length + 2002 + 1) true s b l a0 a1 a2 a3 a4 a5 b0 b1 b2 b3 b4 b5 = some true := by
    unfold hopperlaw05_QueuePuts.j0
    try dsimp only
    rw [if_pos rfl, live _ (by omega)]
    rfl
  unfold hopperlaw05_QueuePuts.f
  rw [hc, Option.bind_some]
  cases c with
  | false => rw [if_neg (by decide)]; exact skip
  | true =>
    have h30 := hf rfl
    rw [if_pos rfl]
    unfold hopperref04_Small.f
    rw [Option.bind_some, Option.bind_some]
    by_cases hz : (a5.size : Int) ≤ 500
    · rw [decide_eq_true hz, if_pos rfl]
      by_cases hy : (b5.size : Int) ≤ 500
      · rw [decide_eq_true hy]
        exact QueuePuts_in (l.length + 2000) s b l ⟨a0, a1, a2, a3, a4, a5⟩ ⟨b0, b1, b2, b3, b4, b5⟩ h30 (by omega)
      · rw [decide_eq_false hy]; exact skip
    · rw [decide_eq_false hz, if_neg (by decide)]; exact skip
end Go.Proofs.Ytehncbhmdgdkjaa.Pure
