/- The plain statement behind the law HeapOrders, proved for every input; no condition but the types' own bounds. -/
import Derived.Test.YtihlogdmdmhefaaHeapB
import Derived.Test.YtihlogdmdmhefaaLx32
namespace Go.Proofs.Ytihlogdmdmhefaa.Pure
set_option linter.unusedSimpArgs false
set_option linter.unusedVariables false
open Go.RowKit Go.Proofs.Ytihlogdmdmhefaa.L Go.Proofs.Ytihlogdmdmhefaa.HeapLaws Go.Proofs.Ytihlogdmdmhefaa.HeapPlain Go.Proofs.Ytihlogdmdmhefaa.Row Go.Proofs.YtihlogdmdmhefaaW.PrintWords Go.Proofs.YtihlogdmdmhefaaW.PrintLast
theorem HeapOrders_from (K : Nat) (hK : 500 ≤ K) (l o : List Tx) (v : Nat) (hl : l.length ≤ 40) (hp : o.Perm l) (hs : o.Pairwise (fun x y => B y x = false)) (hv : Wst l v) : ∀ (n i : Nat), i + n = o.length → hopperlaw06_HeapOrders.l0 (K + n + 1) l o (v : Int) (i : Int) = some true
  | 0, i, hi => by
    unfold hopperlaw06_HeapOrders.l0
    rw [if_neg (by omega), live _ (by omega)]
    rfl
  | n + 1, i, hi => by
    have lo := hp.length_eq
    have hne : l ≠ [] := fun e => by rw [e, List.length_nil] at lo; omega
    have hvl := hv.2.1 hne
    obtain ⟨x, hx⟩ : ∃ x, x = rd_T23 o (i : Int) := ⟨_, rfl⟩
    have hxm : x ∈ l := hp.mem_iff.1 (by rw [hx]; exact getD_mem o i (by omega))
    have hb2 : B (rd_T23 l (v : Int)) x = false := wst_mem l v hv x hxm
    have ih := HeapOrders_from K hK l o v hl hp hs hv n (i + 1) (by omega)
    unfold hopperlaw06_HeapOrders.l0
    rw [if_pos (by omega), if_pos (by omega), ← hx, show K + (n + 1) = K + n + 1 from rfl, count_eq _ o x (by omega) (by omega), Option.bind_some, count_eq _ l x (by omega) (by omega), Option.bind_some, if_pos (by rw [cnt_perm x hp])]
    have tail : (if (0 : Int) ≤ (v : Int) then (if (v : Int) < (l.length : Int) then ((hopperref04_Better.f (K + n + 1) ((rd_T23 l (v : Int)).f0) ((rd_T23 l (v : Int)).f1) ((rd_T23 l (v : Int)).f2) ((rd_T23 l (v : Int)).f3) ((rd_T23 l (v : Int)).f4) ((rd_T23 l (v : Int)).f5) x.f0 x.f1 x.f2 x.f3 x.f4 x.f5).bind fun t => (if t = true then none else (hopperlaw06_HeapOrders.l0 (K + n + 1) l o (v : Int) (wrap64 ((i : Int) + 1))))) else none) else none) = some true := by
      rw [if_pos (by omega), if_pos (by omega), rbt _ (by omega) _ x, Option.bind_some, hb2, if_neg (by decide), step_ i (by omega)]
      exact ih
    by_cases h0 : 0 < i
    · have hb1 : B x (rd_T23 o ((i - 1 : Nat) : Int)) = false := by rw [hx]; exact sorted_at o hs (i - 1) i (by omega) (by omega)
      rw [if_pos (by omega), back_ i h0 (by omega), if_pos (by omega), if_pos (by omega), rbt _ (by omega) x _, Option.bind_some, hb1, if_neg (by decide)]
      exact tail
    · rw [if_neg (by omega)]
      exact tail
theorem HeapOrders : hopperlaw06_HeapOrders.Pure := by
  intro l hx
  have hlen : l.length ≤ 9223372036854775807 := hx.1
  refine ⟨l.length + 2000, ?_⟩
  obtain ⟨b, hb, hf⟩ := few_eq (l.length + 2000) 40 l hlen (by omega)
  unfold hopperlaw06_HeapOrders.f
  rw [hb, Option.bind_some]
  cases b with
  | false => rw [if_neg (by decide), live _ (by omega)]; rfl
  | true =>
    have h40 : l.length ≤ 40 := by have := hf rfl; omega
    obtain ⟨hp, hs⟩ := ord_facts l
    obtain ⟨v, hw, hv⟩ := worst_eq (l.length + 2000) l (by omega) (by omega)
    have lo := hp.length_eq
    rw [if_pos rfl, order_eq l (by omega), Option.bind_some, hw, Option.bind_some]
    dsimp only
    have fin : hopperlaw06_HeapOrders.j0 (l.length + 2000) l (order d B (l.length + 1) (make d B l)) (v : Int) false = some true := by
      obtain ⟨k, hk⟩ : ∃ k, k = 1998 + l.length + 1 := ⟨_, rfl⟩
      rw [show l.length + 2000 = k + 1 by omega]
      unfold hopperlaw06_HeapOrders.j0
      try dsimp only
      rw [if_neg (by decide), hk]
      exact HeapOrders_from 1998 (by omega) l _ v h40 hp hs hv l.length 0 (by omega)
    rw [if_pos (by rw [lo]), if_neg (by simp), if_neg (by omega)]
    by_cases hne : l = []
    · rw [if_neg (by subst hne; decide)]; exact fin
    · have := hv.2.1 hne
      have e : decide ((v : Int) ≥ (l.length : Int)) = false := decide_eq_false (by omega)
      rw [if_pos (decide_eq_true (by omega)), e]; exact fin
end Go.Proofs.Ytihlogdmdmhefaa.Pure
