/- The plain statement behind the law HeapStays, proved for every input; no condition but the types' own bounds. -/
import Derived.Test.YtihlogdmdmhefaaHeapB
import Derived.Test.YtihlogdmdmhefaaLx31
namespace Go.Proofs.Ytihlogdmdmhefaa.Pure
set_option linter.unusedSimpArgs false
set_option linter.unusedVariables false
open Go.RowKit Go.Proofs.Ytihlogdmdmhefaa.L Go.Proofs.Ytihlogdmdmhefaa.HeapLaws Go.Proofs.Ytihlogdmdmhefaa.HeapPlain Go.Proofs.Ytihlogdmdmhefaa.Row Go.Proofs.YtihlogdmdmhefaaW.PrintWords Go.Proofs.YtihlogdmdmhefaaW.PrintLast
theorem HeapStays_less (K : Nat) (hK : 500 ≤ K) (p q : List Tx) (u : Tx) (hl : p.length ≤ 41) (hq : p.Perm (u :: q)) : ∀ (n i : Nat), i + n = q.length → hopperlaw06_HeapStays.l1 (K + 2 * n + 1) p q (i : Int) u.f0 u.f1 u.f2 u.f3 u.f4 u.f5 = some true
  | 0, i, hi => by
    unfold hopperlaw06_HeapStays.l1
    rw [if_neg (by omega), live _ (by omega)]
    rfl
  | n + 1, i, hi => by
    have lq := hq.length_eq
    rw [List.length_cons] at lq
    obtain ⟨x, hx⟩ : ∃ x, x = rd_T23 q (i : Int) := ⟨_, rfl⟩
    have cx := cnt_le p x
    have c2 : cnt p x = cnt q x + (if same u x = true then 1 else 0) := by rw [cnt_perm x hq, cnt_cons, same_comm]
    have hj : hopperlaw06_HeapStays.j5 (K + 2 * n + 1 + 1) p q (i : Int) (if same u x = true then 1 else 0) u.f0 u.f1 u.f2 u.f3 u.f4 u.f5 = some true := by
      unfold hopperlaw06_HeapStays.j5
      try dsimp only
      rw [if_pos (by omega), if_pos (by omega), ← hx, count_eq _ q x (by omega) (by omega), Option.bind_some, count_eq _ p x (by omega) (by omega), Option.bind_some, if_pos (by rw [c2]; split <;> (unfold wrap64; omega)), step_ i (by omega)]
      exact HeapStays_less K hK p q u hl hq n (i + 1) (by omega)
    unfold hopperlaw06_HeapStays.l1
    rw [if_pos (by omega), if_pos (by omega), ← hx, show K + 2 * (n + 1) = K + 2 * n + 1 + 1 by omega]
    by_cases hs : same u x = true
    · rw [if_pos hs] at hj
      have hs2 := hs
      unfold same at hs2
      rw [if_pos hs2]; exact hj
    · rw [if_neg hs] at hj
      have hs2 := hs
      unfold same at hs2
      rw [if_neg hs2]; exact hj
theorem HeapStays_more (K M : Nat) (hK : 500 ≤ K) (t u : Tx) (l p q : List Tx) (hl : l.length ≤ 40) (hp : p.Perm (t :: l)) (hq : p.Perm (u :: q)) (hM : K = M + 2 * q.length) (hM5 : 500 ≤ M) (hb : ∀ x ∈ p, B x u = false) : ∀ (n i : Nat), i + n = p.length → hopperlaw06_HeapStays.l0 (K + 2 * n + 2) l p q (i : Int) t.f0 t.f1 t.f2 t.f3 t.f4 t.f5 u.f0 u.f1 u.f2 u.f3 u.f4 u.f5 = some true
  | 0, i, hi => by
    have lp := hp.length_eq
    rw [List.length_cons] at lp
    unfold hopperlaw06_HeapStays.l0
    rw [if_neg (by omega), hM]
    exact HeapStays_less M hM5 p q u (by omega) hq q.length 0 (by omega)
  | n + 1, i, hi => by
    have lp := hp.length_eq
    rw [List.length_cons] at lp
    obtain ⟨x, hx⟩ : ∃ x, x = rd_T23 p (i : Int) := ⟨_, rfl⟩
    have hxp : x ∈ p := by rw [hx]; exact getD_mem p i (by omega)
    have cx := cnt_le l x
    have c1 : cnt p x = cnt l x + (if same t x = true then 1 else 0) := by rw [cnt_perm x hp, cnt_cons, same_comm]
    have hj : hopperlaw06_HeapStays.j3 (K + 2 * n + 2 + 1) l p q (i : Int) (if same t x = true then 1 else 0) t.f0 t.f1 t.f2 t.f3 t.f4 t.f5 u.f0 u.f1 u.f2 u.f3 u.f4 u.f5 = some true := by
      unfold hopperlaw06_HeapStays.j3
      try dsimp only
      rw [if_pos (by omega), if_pos (by omega), ← hx, rbt _ (by omega) x u, Option.bind_some, hb x hxp, if_neg (by decide), count_eq _ p x (by omega) (by omega), Option.bind_some, count_eq _ l x (by omega) (by omega), Option.bind_some, if_pos (by rw [c1]; split <;> (unfold wrap64; omega)), step_ i (by omega)]
      exact HeapStays_more K M hK t u l p q hl hp hq hM hM5 hb n (i + 1) (by omega)
    unfold hopperlaw06_HeapStays.l0
    rw [if_pos (by omega), if_pos (by omega), ← hx, show K + 2 * (n + 1) + 1 = K + 2 * n + 2 + 1 by omega]
    by_cases hs : same t x = true
    · rw [if_pos hs] at hj
      have hs2 := hs
      unfold same at hs2
      rw [if_pos hs2]; exact hj
    · rw [if_neg hs] at hj
      have hs2 := hs
      unfold same at hs2
      rw [if_neg hs2]; exact hj
theorem HeapStays_main (K : Nat) (t : Tx) (l : List Tx) (hl : l.length ≤ 40) (hh : H d B l) (hK : K = 1000 + 4 * l.length) : hopperlaw06_HeapStays.j0 (K + 6) l false t.f0 t.f1 t.f2 t.f3 t.f4 t.f5 = some true := by
  have hp := push_perm d B l t
  have lp := hp.length_eq
  have hph := push_heap d B asym ntr l t hh
  rw [List.length_cons] at lp
  unfold hopperlaw06_HeapStays.j0
  try dsimp only
  rw [if_neg (by decide), push_eq l t (by omega), Option.bind_some]
  obtain ⟨p, hpp⟩ : ∃ p, p = push d B l t := ⟨_, rfl⟩
  rw [← hpp] at hp lp hph ⊢
  cases p with
  | nil => simp at lp
  | cons u p =>
    have hq := pop_perm d B u p
    have lq := hq.length_eq
    have hqh := pop_heap d B asym ntr (u :: p) hph
    have lp2 : p.length = l.length := by simpa using lp
    rw [pop_cons u p (by omega), Option.bind_some, check_eq _ (u :: p) (by omega) (by omega), decide_eq_true hph, Option.bind_some, if_pos rfl]
    dsimp only
    have hne : (((pop d B (u :: p)).length : Int) != (l.length : Int)) = false := by rw [bne_eq_false_iff_eq]; omega
    rw [if_pos rfl, check_eq _ (pop d B (u :: p)) (by omega) (by omega), decide_eq_true hqh, Option.bind_some, if_pos rfl, if_pos (by rw [lp]; unfold wrap64; omega), hne]
    rw [show K + 5 = K + 4 + 1 from rfl]
    unfold hopperlaw06_HeapStays.j1
    try dsimp only
    rw [if_neg (by decide)]
    have hb : ∀ x ∈ (u :: p), B x u = false := fun x hx => by
      obtain ⟨j, hj, e⟩ := mem_getD (u :: p) x hx
      rw [← e]
      exact first_best d B asym ntr (u :: p) hph (j + 1) j (by omega) hj
    have := HeapStays_more (1000 + 2 * l.length) 1000 (by omega) t u l (u :: p) (pop d B (u :: p)) hl hp (List.Perm.cons u hq.symm) (by rw [lq, lp2]) (by omega) hb (u :: p).length 0 (by omega)
    rw [lp, show 1000 + 2 * l.length + 2 * (l.length + 1) + 2 = K + 4 by omega] at this
    exact this
theorem HeapStays : hopperlaw06_HeapStays.Pure := by
  intro l a b c e f g hx _
  have hlen : l.length ≤ 9223372036854775807 := hx.1
  obtain ⟨bo, hb, hf⟩ := few_eq (1000 + 4 * l.length + 6) 40 l hlen (by omega)
  refine ⟨1000 + 4 * l.length + 6, ?_⟩
  have skip : hopperlaw06_HeapStays.j0 (1000 + 4 * l.length + 6) l true a b c e f g = some true := by
    unfold hopperlaw06_HeapStays.j0
    try dsimp only
    rw [if_pos rfl, live _ (by omega)]; rfl
  unfold hopperlaw06_HeapStays.f hopperref04_Small.f
  rw [hb, Option.bind_some]
  cases bo with
  | false => rw [if_neg (by decide)]; exact skip
  | true =>
    have h40 : l.length ≤ 40 := by have := hf rfl; omega
    rw [if_pos rfl, Option.bind_some]
    cases decide ((g.size : Int) ≤ 500) with
    | false => rw [if_neg (by decide)]; exact skip
    | true =>
      rw [if_pos rfl, check_eq _ l (by omega) (by omega), Option.bind_some]
      by_cases hh : H d B l
      · rw [decide_eq_true hh]
        exact HeapStays_main (1000 + 4 * l.length) ⟨a, b, c, e, f, g⟩ l h40 hh rfl
      · rw [decide_eq_false hh]; exact skip
end Go.Proofs.Ytihlogdmdmhefaa.Pure
