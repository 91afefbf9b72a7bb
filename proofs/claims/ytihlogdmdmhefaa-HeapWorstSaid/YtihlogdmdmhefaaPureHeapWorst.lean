/- The plain statement behind the law HeapWorst, proved for every input; no condition but the types' own bounds. -/
import Derived.Test.YtihlogdmdmhefaaHeapB
import Derived.Test.YtihlogdmdmhefaaLx33
namespace Go.Proofs.Ytihlogdmdmhefaa.Pure
set_option linter.unusedSimpArgs false
set_option linter.unusedVariables false
open Go.RowKit Go.Proofs.Ytihlogdmdmhefaa.L Go.Proofs.Ytihlogdmdmhefaa.HeapLaws Go.Proofs.Ytihlogdmdmhefaa.HeapPlain Go.Proofs.Ytihlogdmdmhefaa.Row Go.Proofs.YtihlogdmdmhefaaW.PrintWords Go.Proofs.YtihlogdmdmhefaaW.PrintLast
theorem HeapWorst_from (K : Nat) (hK : 500 ≤ K) (l : List Tx) (v : Nat) (t : Tx) (hl : l.length ≤ 40) (hvl : v < l.length) (hv : Wst l v) (h1 : B t (l.getD v d) = false) (h2 : B (l.getD v d) t = false) : ∀ (n i : Nat), i + n = v → hopperlaw06_HeapWorst.l0 (K + n + 1) l (v : Int) (i : Int) t.f0 t.f1 t.f2 t.f3 t.f4 t.f5 = some true
  | 0, i, hi => by
    have e1 : B t (rd_T23 l (v : Int)) = false := h1
    have e2 : B (rd_T23 l (v : Int)) t = false := h2
    unfold hopperlaw06_HeapWorst.l0
    rw [if_neg (by omega), if_pos (by omega), if_pos (by omega), rbt _ (by omega) t _, Option.bind_some, e1, if_neg (by decide), rbt _ (by omega) _ t, Option.bind_some, e2, if_neg (by decide), live _ (by omega)]
    rfl
  | n + 1, i, hi => by
    have e1 : B (rd_T23 l (i : Int)) (rd_T23 l (v : Int)) = true := hv.2.2.2 i (by omega)
    have ih := HeapWorst_from K hK l v t hl hvl hv h1 h2 n (i + 1) (by omega)
    unfold hopperlaw06_HeapWorst.l0
    rw [if_pos (by omega), if_pos (by omega), if_pos (by omega), if_pos (by omega), if_pos (by omega), show K + (n + 1) = K + n + 1 from rfl, rbt _ (by omega) (rd_T23 l (i : Int)) _, Option.bind_some, e1, if_pos rfl, step_ i (by omega)]
    exact ih
theorem HeapWorst : hopperlaw06_HeapWorst.Pure := by
  intro l hx
  have hlen : l.length ≤ 9223372036854775807 := hx.1
  refine ⟨l.length + 2000, ?_⟩
  obtain ⟨b, hb, hf⟩ := few_eq (l.length + 2000) 40 l hlen (by omega)
  unfold hopperlaw06_HeapWorst.f
  rw [hb, Option.bind_some]
  cases b with
  | false => rw [if_neg (by decide), live _ (by omega)]; rfl
  | true =>
    have h40 : l.length ≤ 40 := by have := hf rfl; omega
    obtain ⟨hp, hs⟩ := ord_facts l
    obtain ⟨v, hw, hv⟩ := worst_eq (l.length + 2000) l (by omega) (by omega)
    have lo := hp.length_eq
    rw [if_pos rfl, hw, Option.bind_some]
    dsimp only
    by_cases hne : l = []
    · have hv0 := hv.1 hne
      rw [if_neg (by subst hne; decide), if_pos (by subst hne; rfl), if_pos (by omega), live _ (by omega)]
      rfl
    · have hvl := hv.2.1 hne
      have hpos : 0 < l.length := List.length_pos_iff.2 hne
      obtain ⟨o, ho⟩ : ∃ o, o = order d B (l.length + 1) (make d B l) := ⟨_, rfl⟩
      rw [← ho] at hp hs lo
      have hne2 : ((o.length : Int) != (l.length : Int)) = false := by rw [bne_eq_false_iff_eq]; omega
      rw [if_pos (decide_eq_true (by omega)), order_eq l (by omega), Option.bind_some, ← ho, if_neg (by omega), if_neg (by omega), hne2]
      obtain ⟨t, ht⟩ : ∃ t, t = rd_T23 o ((o.length - 1 : Nat) : Int) := ⟨_, rfl⟩
      have htm : t ∈ l := hp.mem_iff.1 (by rw [ht]; exact getD_mem o (o.length - 1) (by omega))
      have h2 : B (l.getD v d) t = false := wst_mem l v hv t htm
      have h1 : B t (l.getD v d) = false := by
        obtain ⟨j, hj, e⟩ := mem_getD o (l.getD v d) (hp.mem_iff.2 (getD_mem l v hvl))
        rw [← e, ht]
        by_cases ej : j = o.length - 1
        · subst ej; exact irr _
        · exact sorted_at o hs j (o.length - 1) (by omega) (by omega)
      obtain ⟨k, hk⟩ : ∃ k, k = (1998 + l.length - v) + v + 1 := ⟨_, rfl⟩
      rw [show l.length + 2000 = k + 1 by omega]
      unfold hopperlaw06_HeapWorst.j0
      try dsimp only
      rw [if_neg (by decide), back_ o.length (by omega) (by omega), if_pos (by omega), if_pos (by omega), ← ht, hk]
      exact HeapWorst_from (1998 + l.length - v) (by omega) l v t h40 hvl hv h1 h2 v 0 (by omega)
end Go.Proofs.Ytihlogdmdmhefaa.Pure
