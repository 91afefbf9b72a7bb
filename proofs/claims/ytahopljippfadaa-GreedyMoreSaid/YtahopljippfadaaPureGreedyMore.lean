/- The plain statement behind the law GreedyMore, proved for every input; no condition but the types' own bounds. -/
import Derived.Test.YtahopljippfadaaGreedyOwn
import Derived.Test.YtahopljippfadaaDx20
namespace Go.Proofs.Ytahopljippfadaa.Pure
set_option linter.unusedSimpArgs false
set_option linter.unusedVariables false
open Go.RowKit Go.Proofs.Ytahopljippfadaa.D Go.Proofs.Ytahopljippfadaa.GreedyLaws Go.Proofs.Ytahopljippfadaa.Row Go.Proofs.YtahopljippfadaaW.PrintWords Go.Proofs.YtahopljippfadaaW.PrintLast
theorem more_ord (t : List Tx) (ho : Ord t) (hl : t.length ≤ 400) : ∀ (n i F : Nat), t.length ≤ i + 1 + n → i ≤ 400 → 600 + n ≤ F → hopperlaw12_GreedyMore.l2 F t (i : Int) = some true
  | 0, i, F, hn, hi, hF => by
    obtain ⟨F, rfl⟩ : ∃ G, F = G + 1 := ⟨F - 1, by omega⟩
    rw [hopperlaw12_GreedyMore.l2, step_ i (by omega), if_neg (by omega), live_at _ (by omega)]
    rfl
  | n + 1, i, F, hn, hi, hF => by
    obtain ⟨F, rfl⟩ : ∃ G, F = G + 1 := ⟨F - 1, by omega⟩
    rw [hopperlaw12_GreedyMore.l2, step_ i (by omega)]
    by_cases h : i + 1 < t.length
    · rw [if_pos (by omega), if_pos (by omega), if_pos (by omega), if_pos (by omega), rd_at t i (by omega), rd_at t (i + 1) h]
      have next := more_ord t ho hl n (i + 1) F (by omega) (by omega) (by omega)
      by_cases e : t[i].f0 = t[i + 1].f0
      · rw [if_pos e]; exact next
      · rw [if_neg e, rbt _ (by omega), Option.bind_some, ord_at t ho i h e, if_neg (by decide)]
        exact next
    · rw [if_neg (by omega), live_at _ (by omega)]
      rfl
/-- How many are ready. -/
def rdys (l : List Ac) : Nat := (l.map fun a => (rdy a.f1 a.f2 0).length).sum
theorem rdys_take (l : List Ac) (i : Nat) (h : i < l.length) : rdys (l.take (i + 1)) = rdys (l.take i) + (rdy l[i].f1 l[i].f2 0).length := by
  unfold rdys
  rw [List.take_succ_eq_append_getElem h, List.map_append, List.sum_append]
  simp
theorem rdys_le : ∀ l : List Ac, (∀ a ∈ l, a.f2.length ≤ 20) → rdys l ≤ 20 * l.length
  | [], _ => by simp [rdys]
  | a :: l, h => by
    have h1 := rdys_le l (fun b hb => h b (List.mem_cons_of_mem _ hb))
    have h2 := h a (List.mem_cons_self ..)
    have h3 := rdy_len a.f1 a.f2 0
    simp only [rdys, List.map_cons, List.sum_cons, List.length_cons] at h1 ⊢
    omega
theorem rdys_wk (l : List Ac) (hd : Dis l) (hm : ∀ a ∈ l, MayA a) : wk (lns l) = rdys l := by
  rw [lns_dis l hd]
  unfold wk rdys
  rw [List.map_map]
  congr 1
  exact List.map_congr_left (fun a ha => by
    show (lineA a).length = _
    rw [line_may a (hm a ha)])
theorem more_end (l : List Ac) (hf : FewA l) (hd : Dis l) (hm : ∀ a ∈ l, MayA a) (F : Nat) (hF : 1100 ≤ F) : hopperlaw12_GreedyMore.l0 F l ((rdys l : Nat) : Int) (l.length : Int) = some true := by
  obtain ⟨F, rfl⟩ : ∃ G, F = G + 1 := ⟨F - 1, by omega⟩
  have hlen := tmA_len l 1125899906842624 hf
  have ht := total_le (lns l) (lns_good l)
  have hw := (lns_len l hf).2
  obtain ⟨a1, a2⟩ := tm_all (sig l) (wk (lns l) + 1) 1125899906842624 (lns l) (by omega) (by omega) (lns_pos l) (lns_own l hd hm).1
  have e : tmA l 1125899906842624 = tm (wk (lns l) + 1) 1125899906842624 (lns l) := by unfold tmA; rw [if_neg (by omega)]
  rw [← e] at a1 a2
  rw [hopperlaw12_GreedyMore.l0, if_neg (by omega), template_run l _ hf (by omega), Option.bind_some, if_pos (by rw [a1, rdys_wk l hd hm]), follows_tm l hf hd hm _ (by omega), Option.bind_some]
  obtain ⟨F, rfl⟩ : ∃ G, F = G + 1 := ⟨F - 1, by omega⟩
  rw [Bool.not_true, hopperlaw12_GreedyMore.j2, if_neg (by decide)]
  exact more_ord _ a2 hlen (tmA l 1125899906842624).length 0 F (by omega) (by omega) (by omega)
theorem more_in (l : List Ac) (hf : FewA l) (C : Nat) (hC : 1100 ≤ C) (i : Nat) (hi : i < l.length) (x3 : Int)
    (cont : ∀ F, C ≤ F → (∀ j (hj : j < i), l[j].f0 ≠ l[i].f0) → MayA l[i] → hopperlaw12_GreedyMore.l0 F l (wrap64 (x3 + ((rdy l[i].f1 l[i].f2 0).length : Int))) (((i + 1 : Nat)) : Int) = some true) :
    ∀ (m j F : Nat), j + m = i → C + m + 1 ≤ F → (∀ j' (h : j' < j) (hl : j' < l.length), l[j'].f0 ≠ l[i].f0) → hopperlaw12_GreedyMore.l1 F l x3 (i : Int) (j : Int) = some true
  | 0, j, F, hj, hF, hs => by
    obtain ⟨F, rfl⟩ : ∃ G, F = G + 1 := ⟨F - 1, by omega⟩
    have hx := hf.2.1 l[i] (List.getElem_mem hi)
    rw [hopperlaw12_GreedyMore.l1, if_neg (by omega), if_pos (by omega), if_pos (by omega), rd_eq l i hi, rqcheck_eq _ _ _ _ _ (by omega) (by omega), Option.bind_some]
    by_cases hm : May l[i].f0 l[i].f1 l[i].f2 16
    · rw [decide_eq_true hm, if_pos rfl, rready_eq _ _ _ _ (by omega) (by omega), Option.bind_some, step_ i (by have := hf.1; omega)]
      exact cont F (by omega) (fun j' hj' => hs j' (by omega) (by omega)) hm
    · rw [decide_eq_false hm, if_neg (by decide), live_at _ (by omega)]
      rfl
  | m + 1, j, F, hj, hF, hs => by
    obtain ⟨F, rfl⟩ : ∃ G, F = G + 1 := ⟨F - 1, by omega⟩
    rw [hopperlaw12_GreedyMore.l1, if_pos (by omega), if_pos (by omega), if_pos (by omega), if_pos (by omega), if_pos (by omega), rd_eq l j (by omega), rd_eq l i hi, step_ j (by have := hf.1; omega)]
    by_cases e : l[j].f0 = l[i].f0
    · rw [if_pos e, live_at _ (by omega)]
      rfl
    · rw [if_neg e]
      exact more_in l hf C hC i hi x3 cont m (j + 1) F (by omega) (by omega) (fun j' hj' hl' => by
        by_cases q : j' = j
        · subst q; exact e
        · exact hs j' (by omega) hl')
theorem more_out (l : List Ac) (hf : FewA l) : ∀ (n i F : Nat), i + n = l.length → 1100 + n * 23 ≤ F → (∀ i' (hi' : i' < i) (h : i' < l.length), MayA l[i'] ∧ ∀ j (hj : j < i'), l[j].f0 ≠ l[i'].f0) → hopperlaw12_GreedyMore.l0 F l ((rdys (l.take i) : Nat) : Int) (i : Int) = some true
  | 0, i, F, hn, hF, hs => by
    obtain rfl : i = l.length := by omega
    rw [List.take_length]
    exact more_end l hf (dis_of l (fun i hi j hj => (hs i hi hi).2 j hj)) (fun a ha => by
      obtain ⟨i, hi, rfl⟩ := List.getElem_of_mem ha
      exact (hs i hi hi).1) F (by omega)
  | n + 1, i, F, hn, hF, hs => by
    have hi : i < l.length := by omega
    obtain ⟨F, rfl⟩ : ∃ G, F = G + 1 := ⟨F - 1, by omega⟩
    have h20 := hf.1
    rw [hopperlaw12_GreedyMore.l0, if_pos (by omega)]
    refine more_in l hf (1100 + n * 23) (by omega) i hi _ (fun F' hF' hd hm => ?_) i 0 F (by omega) (by omega) (fun j' hj' _ => absurd hj' (Nat.not_lt_zero _))
    have h1 := rdys_le (l.take (i + 1)) (fun a ha => hf.2.1 a (List.mem_of_mem_take ha))
    rw [List.length_take] at h1
    have h2 := rdys_take l i hi
    have e : wrap64 (((rdys (l.take i) : Nat) : Int) + ((rdy l[i].f1 l[i].f2 0).length : Int)) = ((rdys (l.take (i + 1)) : Nat) : Int) := by
      have h3 : min (i + 1) l.length ≤ 20 := by omega
      unfold wrap64
      omega
    rw [e]
    refine more_out l hf n (i + 1) F' (by omega) hF' (fun i' hi' h => ?_)
    by_cases q : i' = i
    · subst q; exact ⟨hm, hd⟩
    · exact hs i' (by omega) h
theorem GreedyMore : hopperlaw12_GreedyMore.Pure := by
  intro l hl
  obtain ⟨m, hm⟩ : ∃ m, m = l.length + most l + 3000 := ⟨_, rfl⟩
  obtain ⟨b, h1, h2⟩ := few_start m l hl (by omega)
  refine ⟨m, ?_⟩
  unfold hopperlaw12_GreedyMore.f
  rw [h1, Option.bind_some]
  cases b with
  | false => rw [if_neg (by decide), live_at _ (by omega)]; rfl
  | true =>
    have hf := h2 rfl
    rw [if_pos rfl]
    have h20 := hf.1
    exact more_out l hf l.length 0 m (by omega) (by omega) (fun i' hi' => absurd hi' (Nat.not_lt_zero _))
end Go.Proofs.Ytahopljippfadaa.Pure
