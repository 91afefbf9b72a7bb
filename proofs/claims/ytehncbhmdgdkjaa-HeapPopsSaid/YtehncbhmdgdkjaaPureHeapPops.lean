/- The plain statement behind the law HeapPops, proved for every input; no condition but the types' own bounds. -/
import Derived.Test.YtehncbhmdgdkjaaHeapA
import Derived.Test.YtehncbhmdgdkjaaLx27
namespace Go.Proofs.Ytehncbhmdgdkjaa.Pure
set_option linter.unusedSimpArgs false
set_option linter.unusedVariables false
open Go.RowKit Go.Proofs.Ytehncbhmdgdkjaa.L Go.Proofs.Ytehncbhmdgdkjaa.HeapLaws Go.Proofs.Ytehncbhmdgdkjaa.HeapPlain Go.Proofs.Ytehncbhmdgdkjaa.Row Go.Proofs.YtehncbhmdgdkjaaW.PrintWords Go.Proofs.YtehncbhmdgdkjaaW.PrintLast
theorem HeapPops_from (K : Nat) (hK : 300 ≤ K) : ∀ (n i m : Nat) (l h o : List Tx), h.length = n → i + n = l.length → o.length = l.length → l.length ≤ 40 → H d B h → o.drop i = order d B m h → h.length ≤ m → hopperlaw06_HeapPops.l0 (K + n + 1) l h o (i : Int) = some true
  | 0, i, m, l, h, o, hn, hi, ho, hl, hh, hd, hm => by
    obtain rfl : h = [] := List.eq_nil_of_length_eq_zero hn
    unfold hopperlaw06_HeapPops.l0
    rw [if_neg (by omega), pop_nil, Option.bind_some, if_pos (by simp), if_pos (by simp), if_neg (by decide), if_pos (by decide +kernel), live _ (by omega)]
    rfl
  | n + 1, i, m, l, [], o, hn, hi, ho, hl, hh, hd, hm => absurd hn (by simp)
  | n + 1, i, 0, l, x :: h, o, hn, hi, ho, hl, hh, hd, hm => absurd hm (by simp)
  | n + 1, i, m + 1, l, x :: h, o, hn, hi, ho, hl, hh, hd, hm => by
    have q := (pop_perm d B x h).length_eq
    rw [List.length_cons] at hn hm
    have hx : o.drop i = x :: order d B m (pop d B (x :: h)) := hd
    have hio : i < o.length := by omega
    have e : rd_T24 o (i : Int) = x := by
      show o.getD i d = x
      rw [List.drop_eq_getElem_cons hio] at hx
      rw [List.getD_eq_getElem?_getD, List.getElem?_eq_getElem hio, Option.getD_some]
      exact (List.cons.inj hx).1
    have hx2 : o.drop (i + 1) = order d B m (pop d B (x :: h)) := by
      rw [List.drop_eq_getElem_cons hio] at hx
      exact (List.cons.inj hx).2
    have hp := pop_heap d B asym ntr (x :: h) hh
    unfold hopperlaw06_HeapPops.l0
    rw [if_pos (by omega), pop_cons x h (by omega), Option.bind_some, if_pos rfl, if_pos (by omega), if_pos (by omega), e, if_neg (by simp), show K + (n + 1) = K + n + 1 from rfl]
    show (heap_Check.f (K + n + 1) (pop d B (x :: h))).bind _ = _
    rw [check_eq _ _ (by rw [q]; omega) (by rw [q]; omega), decide_eq_true hp, Option.bind_some, if_pos rfl, step_ i (by omega)]
    exact HeapPops_from K hK n (i + 1) m l _ o (by rw [q]; omega) (by omega) ho hl hp hx2 (by rw [q]; omega)
theorem HeapPops : hopperlaw06_HeapPops.Pure := by
  intro l hx
  have hlen : l.length ≤ 9223372036854775807 := hx.1
  refine ⟨l.length + 2000, ?_⟩
  obtain ⟨b, hb, hf⟩ := few_eq (l.length + 2000) 40 l hlen (by omega)
  unfold hopperlaw06_HeapPops.f
  rw [hb, Option.bind_some]
  cases b with
  | false => rw [if_neg (by decide), live _ (by omega)]; rfl
  | true =>
    have h40 : l.length ≤ 40 := by have := hf rfl; omega
    have hm := (make_perm d B l).length_eq
    have ho := (order_perm d B (l.length + 1) (make d B l) (by omega)).length_eq
    have hh := make_heap d B asym ntr l
    rw [if_pos rfl, make_eq _ l (by omega) (by omega), Option.bind_some, order_eq l (by omega), Option.bind_some, check_eq _ _ (by omega) (by omega), decide_eq_true hh, Option.bind_some, if_pos rfl, if_pos (by omega)]
    have hne : (((order d B (l.length + 1) (make d B l)).length : Int) != (l.length : Int)) = false := by
      rw [bne_eq_false_iff_eq]; omega
    obtain ⟨k, hk⟩ : ∃ k, k = 1998 + l.length + 1 := ⟨_, rfl⟩
    rw [hne, show l.length + 2000 = k + 1 by omega]
    unfold hopperlaw06_HeapPops.j0
    try dsimp only
    rw [if_neg (by decide), hk]
    exact HeapPops_from 1998 (by omega) l.length 0 (l.length + 1) l (make d B l) _ hm (by omega) (by omega) h40 hh rfl (by omega)
end Go.Proofs.Ytehncbhmdgdkjaa.Pure
