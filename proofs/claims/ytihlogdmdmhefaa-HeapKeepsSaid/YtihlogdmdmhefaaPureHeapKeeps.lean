/- The plain statement behind the law HeapKeeps, proved for every input; no condition but the types' own bounds. -/
import Derived.Test.YtihlogdmdmhefaaHeapA
import Derived.Test.YtihlogdmdmhefaaLx35
namespace Go.Proofs.Ytihlogdmdmhefaa.Pure
set_option linter.unusedSimpArgs false
set_option linter.unusedVariables false
open Go.RowKit Go.Proofs.Ytihlogdmdmhefaa.L Go.Proofs.Ytihlogdmdmhefaa.HeapLaws Go.Proofs.Ytihlogdmdmhefaa.HeapPlain Go.Proofs.Ytihlogdmdmhefaa.Row Go.Proofs.YtihlogdmdmhefaaW.PrintWords Go.Proofs.YtihlogdmdmhefaaW.PrintLast
theorem HeapKeeps_from (K : Nat) (hK : 300 ≤ K) (t : Tx) (l p q : List Tx) (hl : l.length ≤ 40) (hp : p.Perm (t :: l)) (hq : l ≠ [] → q.Perm l.tail) : ∀ (n i : Nat), i + n = l.length → hopperlaw06_HeapKeeps.l0 (K + 3 * n + 1) l p q (i : Int) t.f0 t.f1 t.f2 t.f3 t.f4 t.f5 = some true
  | 0, i, hi => by
    have lp := hp.length_eq
    rw [List.length_cons] at lp
    have c0 := cnt_le l t
    have c1 : cnt p t = cnt l t + 1 := by rw [cnt_perm t hp, cnt_cons, if_pos (same_refl t)]
    have hw : wrap64 (((cnt l t : Nat) : Int) + 1) = ((cnt p t : Nat) : Int) := by rw [c1]; unfold wrap64; omega
    unfold hopperlaw06_HeapKeeps.l0
    rw [if_neg (by omega), count_eq _ p t (by omega) (by omega), Option.bind_some, count_eq _ l t (by omega) (by omega), Option.bind_some, hw, if_pos rfl, live _ (by omega)]
    rfl
  | n + 1, i, hi => by
    have lp := hp.length_eq
    rw [List.length_cons] at lp
    have hne : l ≠ [] := fun e => by subst e; simp at hi
    have hq2 := hq hne
    have lq := hq2.length_eq
    rw [List.length_tail] at lq
    obtain ⟨x, hx⟩ : ∃ x, x = rd_T23 l (i : Int) := ⟨_, rfl⟩
    obtain ⟨y, hy⟩ : ∃ y, y = rd_T23 l 0 := ⟨_, rfl⟩
    have ly : l = y :: l.tail := by
      cases l with
      | nil => exact absurd rfl hne
      | cons a l => rw [hy]; rfl
    have cx := cnt_le l x
    have c1 : cnt p x = cnt l x + (if same t x = true then 1 else 0) := by rw [cnt_perm x hp, cnt_cons, same_comm]
    have c2 : cnt l x = cnt q x + (if same y x = true then 1 else 0) := by
      rw [cnt_perm x hq2]
      conv => lhs; rw [ly]
      rw [cnt_cons, same_comm]
    have hj : hopperlaw06_HeapKeeps.j3 (K + 3 * n + 2 + 1) l p q (i : Int) (if same t x = true then 1 else 0) t.f0 t.f1 t.f2 t.f3 t.f4 t.f5 = some true := by
      unfold hopperlaw06_HeapKeeps.j3
      try dsimp only
      rw [if_pos (by omega), if_pos (by omega), if_pos (by omega), ← hx, ← hy]
      have hj4 : hopperlaw06_HeapKeeps.j4 (K + 3 * n + 1 + 1) l p q (i : Int) (if same t x = true then 1 else 0) (if same y x = true then 1 else 0) t.f0 t.f1 t.f2 t.f3 t.f4 t.f5 = some true := by
        unfold hopperlaw06_HeapKeeps.j4
        try dsimp only
        rw [if_pos (by omega), if_pos (by omega), ← hx, count_eq _ p x (by omega) (by omega), Option.bind_some, count_eq _ l x (by omega) (by omega), Option.bind_some, if_pos (by rw [c1]; split <;> (unfold wrap64; omega)), count_eq _ q x (by omega) (by omega), Option.bind_some, Option.bind_some, if_pos (by rw [c2]; split <;> (unfold wrap64; omega)), step_ i (by omega)]
        exact HeapKeeps_from K hK t l p q hl hp hq n (i + 1) (by omega)
      by_cases hs : same y x = true
      · rw [if_pos hs] at hj4
        have hs2 := hs
        unfold same at hs2
        rw [if_pos hs2]; exact hj4
      · rw [if_neg hs] at hj4
        have hs2 := hs
        unfold same at hs2
        rw [if_neg hs2]; exact hj4
    unfold hopperlaw06_HeapKeeps.l0
    rw [if_pos (by omega), if_pos (by omega), ← hx, show K + 3 * (n + 1) = K + 3 * n + 2 + 1 by omega]
    by_cases hs : same t x = true
    · rw [if_pos hs] at hj
      have hs2 := hs
      unfold same at hs2
      rw [if_pos hs2]; exact hj
    · rw [if_neg hs] at hj
      have hs2 := hs
      unfold same at hs2
      rw [if_neg hs2]; exact hj
theorem HeapKeeps_main (K : Nat) (t : Tx) (l : List Tx) (hl : l.length ≤ 40) (hK : K = 500 + 3 * l.length) : hopperlaw06_HeapKeeps.j0 (K + 3) l false t.f0 t.f1 t.f2 t.f3 t.f4 t.f5 = some true := by
  have hp := push_perm d B l t
  have lp := hp.length_eq
  rw [List.length_cons] at lp
  unfold hopperlaw06_HeapKeeps.j0
  try dsimp only
  rw [if_neg (by decide), push_eq l t (by omega), Option.bind_some]
  cases l with
  | nil =>
    rw [pop_nil, Option.bind_some, if_pos (by rw [lp]; simp; unfold wrap64; omega)]
    dsimp only
    rw [if_neg (by decide), if_neg (by decide)]
    show hopperlaw06_HeapKeeps.j1 (K + 1 + 1) [] (push d B [] t) [] false t.f0 t.f1 t.f2 t.f3 t.f4 t.f5 = some true
    unfold hopperlaw06_HeapKeeps.j1
    try dsimp only
    rw [if_neg (by decide)]
    subst hK
    exact HeapKeeps_from 500 (by omega) t [] _ [] (by decide) hp (fun e => absurd rfl e) 0 0 rfl
  | cons x l =>
    have hq := pop_perm d B x l
    have lq := hq.length_eq
    rw [List.length_cons] at hl lp hK
    rw [pop_cons x l (by omega), Option.bind_some]
    dsimp only
    rw [if_pos (by rw [lp, List.length_cons]; unfold wrap64; omega), if_neg (by simp), if_pos rfl, if_pos (by rw [List.length_cons]; omega), if_neg (by simp [show rd_T23 (x :: l) 0 = x from rfl]), if_pos (by rw [lq, List.length_cons]; unfold wrap64; omega)]
    rw [show K + 2 = (K + 1) + 1 from rfl]
    unfold hopperlaw06_HeapKeeps.j1
    try dsimp only
    rw [if_neg (by decide), hK]
    exact HeapKeeps_from 500 (by omega) t (x :: l) _ _ (by simpa using hl) hp (fun _ => hq) (l.length + 1) 0 (by simp)
theorem HeapKeeps : hopperlaw06_HeapKeeps.Pure := by
  intro l a b c e f g hx _
  have hlen : l.length ≤ 9223372036854775807 := hx.1
  obtain ⟨bo, hb, hf⟩ := few_eq (500 + 3 * l.length + 3) 40 l hlen (by omega)
  refine ⟨500 + 3 * l.length + 3, ?_⟩
  have skip : hopperlaw06_HeapKeeps.j0 (500 + 3 * l.length + 3) l true a b c e f g = some true := by
    unfold hopperlaw06_HeapKeeps.j0
    try dsimp only
    rw [if_pos rfl, live _ (by omega)]; rfl
  unfold hopperlaw06_HeapKeeps.f hopperref04_Small.f
  rw [hb, Option.bind_some]
  cases bo with
  | false => rw [if_neg (by decide)]; exact skip
  | true =>
    rw [if_pos rfl, Option.bind_some]
    cases decide ((g.size : Int) ≤ 500) with
    | false => exact skip
    | true => exact HeapKeeps_main (500 + 3 * l.length) ⟨a, b, c, e, f, g⟩ l (by have := hf rfl; omega) rfl
end Go.Proofs.Ytihlogdmdmhefaa.Pure
