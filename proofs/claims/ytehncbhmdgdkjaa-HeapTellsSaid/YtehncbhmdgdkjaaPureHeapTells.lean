/- The plain statement behind the law HeapTells, proved for every input; no condition but the types' own bounds. -/
import Derived.Test.YtehncbhmdgdkjaaHeapRefMore
import Derived.Test.YtehncbhmdgdkjaaLx26
namespace Go.Proofs.Ytehncbhmdgdkjaa.Pure
set_option linter.unusedSimpArgs false
set_option linter.unusedVariables false
open Go.RowKit Go.Proofs.Ytehncbhmdgdkjaa.L Go.Proofs.Ytehncbhmdgdkjaa.HeapLaws Go.Proofs.Ytehncbhmdgdkjaa.HeapPlain Go.Proofs.Ytehncbhmdgdkjaa.Row Go.Proofs.YtehncbhmdgdkjaaW.PrintWords Go.Proofs.YtehncbhmdgdkjaaW.PrintLast
theorem HeapTells_main (K : Nat) (t : Tx) (l : List Tx) (hl : l.length ≤ 40) (hK : 5000 ≤ K) : hopperlaw06_HeapTells.j0 (K + 2) l false t.f0 t.f1 t.f2 t.f3 t.f4 t.f5 = some true := by
  have hp := (push_perm d B l t).length_eq
  rw [List.length_cons] at hp
  have hm := (make_perm d B l).length_eq
  have ho := (order_perm d B (l.length + 1) (make d B l) (by omega)).length_eq
  obtain ⟨v, hw, hv⟩ := worst_eq (K + 1) l (by omega) (by omega)
  have hr := rworst_eq (K + 1) l v hl hv (by omega)
  have fin : hopperlaw06_HeapTells.j1 (K + 1) l false = some true := by
    unfold hopperlaw06_HeapTells.j1
    try dsimp only
    rw [if_neg (by decide), make_eq _ l (by omega) (by omega), Option.bind_some, rmake_eq _ l (by omega) (by omega), Option.bind_some, txs_eq _ _ (by omega) (by omega), Option.bind_some, if_pos rfl, order_eq l (by omega), Option.bind_some, rorder_eq _ l (by omega) (by omega), Option.bind_some, txs_eq _ _ (by omega) (by omega), Option.bind_some, if_pos rfl, live _ (by omega)]
    rfl
  unfold hopperlaw06_HeapTells.j0
  try dsimp only
  rw [if_neg (by decide)]
  cases l with
  | nil =>
    rw [pop_nil, Option.bind_some, rpop_nil, Option.bind_some, hw, Option.bind_some, hr, Option.bind_some, check_eq _ [] (by simp) (by simp; omega), Option.bind_some, rcheck_eq _ [] (by simp) (by simp; omega), Option.bind_some, if_neg (by simp), push_eq [] t (by simp), Option.bind_some, rpush_eq _ [] t (by simp) (by simp; omega), Option.bind_some, txs_eq _ _ (by omega) (by omega), Option.bind_some, if_pos rfl]
    dsimp only
    rw [txs_eq _ [] (by simp) (by simp), Option.bind_some, if_pos rfl, if_neg (by simp), if_neg (by decide), if_pos rfl]
    rw [show (decide ((([] : List Tx).length : Int) > 0) != decide ((([] : List Tx).length : Int) > 0)) = false from rfl]
    exact fin
  | cons x l =>
    have hq := (pop_perm d B x l).length_eq
    rw [List.length_cons] at hl hp hm ho
    rw [pop_cons x l (by omega), Option.bind_some, rpop_cons _ x l (by omega) (by omega), Option.bind_some, hw, Option.bind_some, hr, Option.bind_some, check_eq _ (x :: l) (by simp; omega) (by simp; omega), Option.bind_some, rcheck_eq _ (x :: l) (by simp; omega) (by simp; omega), Option.bind_some, if_neg (by simp), push_eq (x :: l) t (by simp; omega), Option.bind_some, rpush_eq _ (x :: l) t (by simp; omega) (by simp; omega), Option.bind_some, txs_eq _ _ (by omega) (by omega), Option.bind_some, if_pos rfl]
    dsimp only
    rw [txs_eq _ _ (by omega) (by omega), Option.bind_some, if_pos rfl, if_neg (by simp), if_neg (by decide), if_pos rfl, bne_self_eq_false]
    exact fin
theorem HeapTells : hopperlaw06_HeapTells.Pure := by
  intro l a b c e f g hx _
  have hlen : l.length ≤ 9223372036854775807 := hx.1
  obtain ⟨bo, hb, hf⟩ := few_eq (6000 + l.length + 2) 40 l hlen (by omega)
  refine ⟨6000 + l.length + 2, ?_⟩
  have skip : hopperlaw06_HeapTells.j0 (6000 + l.length + 2) l true a b c e f g = some true := by
    unfold hopperlaw06_HeapTells.j0
    try dsimp only
    rw [if_pos rfl, live _ (by omega)]; rfl
  unfold hopperlaw06_HeapTells.f hopperref04_Small.f
  rw [hb, Option.bind_some]
  cases bo with
  | false => rw [if_neg (by decide)]; exact skip
  | true =>
    have h40 : l.length ≤ 40 := by have := hf rfl; omega
    rw [if_pos rfl, Option.bind_some]
    cases decide ((g.size : Int) ≤ 500) with
    | false => exact skip
    | true => exact HeapTells_main (6000 + l.length) ⟨a, b, c, e, f, g⟩ l h40 (by omega)
end Go.Proofs.Ytehncbhmdgdkjaa.Pure
