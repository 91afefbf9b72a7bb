/- The plain statement behind the law GreedyTakes, proved for every input; no condition but the types' own bounds. -/
import Derived.Test.YtahopljippfadaaGreedyOwn
import Derived.Test.YtahopljippfadaaDx19
namespace Go.Proofs.Ytahopljippfadaa.Pure
set_option linter.unusedSimpArgs false
set_option linter.unusedVariables false
open Go.RowKit Go.Proofs.Ytahopljippfadaa.D Go.Proofs.Ytahopljippfadaa.GreedyLaws Go.Proofs.Ytahopljippfadaa.Row Go.Proofs.YtahopljippfadaaW.PrintWords Go.Proofs.YtahopljippfadaaW.PrintLast
theorem of_take (s : Int) (t : List Tx) (j : Nat) (h : j < t.length) : (of_ s (t.take (j + 1))).length = (of_ s (t.take j)).length + (if t[j].f0 = s then 1 else 0) := by
  unfold of_
  rw [List.take_succ_eq_append_getElem h, List.filter_append, List.length_append, List.filter_cons]
  by_cases e : t[j].f0 = s
  · rw [if_pos e, if_pos (beq_iff_eq.2 e)]; rfl
  · rw [if_neg e, if_neg (fun q => e (eq_of_beq q))]; rfl
theorem of_le (s : Int) (t : List Tx) : (of_ s t).length ≤ t.length := List.length_filter_le _ _
theorem takes_count (l : List Ac) (hf : FewA l) (t : List Tx) (ht : t.length ≤ 400) (left : Int) (i : Nat) (hi : i < l.length) (C : Nat) (hC : 100 ≤ C) (rest : List Tx) (hr : of_ l[i].f0 t ++ rest = rdy l[i].f1 l[i].f2 0) (hrest : ∀ x, rest.head? = some x → x.f4 > left)
    (cont : ∀ F, C ≤ F → hopperlaw12_GreedyTakes.l3 F l t left (((i + 1 : Nat)) : Int) = some true) :
    ∀ (n j F : Nat), j + n = t.length → C + n + 1 ≤ F → hopperlaw12_GreedyTakes.l4 F l t left (i : Int) (((of_ l[i].f0 (t.take j)).length : Nat) : Int) (j : Int) = some true
  | 0, j, F, hj, hF => by
    obtain ⟨F, rfl⟩ : ∃ G, F = G + 1 := ⟨F - 1, by omega⟩
    have h20 := hf.1
    have hx := hf.2.1 l[i] (List.getElem_mem hi)
    rw [hopperlaw12_GreedyTakes.l4, if_neg (by omega), if_pos (by omega), if_pos (by omega), rd_eq l i hi, rready_eq _ _ _ _ (by omega) (by omega), Option.bind_some, List.take_of_length_le (by omega), step_ i (by omega), ← hr]
    have hle : (of_ l[i].f0 t ++ rest).length = (of_ l[i].f0 t).length + rest.length := List.length_append
    rw [if_neg (by omega), cont F (by omega)]
    cases hrs : rest with
    | nil => rw [if_neg (by rw [List.append_nil]; omega)]
    | cons x r =>
      rw [hrs] at hle hrest
      have hb := hrest x rfl
      rw [List.length_cons] at hle
      have hxr : rd_T38 (of_ l[i].f0 t ++ x :: r) (((of_ l[i].f0 t).length : Nat) : Int) = x := by
        rw [rd_at _ _ (by omega)]
        rw [List.getElem_append_right (Nat.le_refl _)]
        simp
      rw [if_pos (by omega), if_pos (by omega), hxr, if_neg (by omega)]
  | n + 1, j, F, hj, hF => by
    obtain ⟨F, rfl⟩ : ∃ G, F = G + 1 := ⟨F - 1, by omega⟩
    have h20 := hf.1
    have hjt : j < t.length := by omega
    have h1 := of_take l[i].f0 t j hjt
    have h2 := of_le l[i].f0 (t.take j)
    rw [List.length_take] at h2
    have ih := takes_count l hf t ht left i hi C hC rest hr hrest cont n (j + 1) F (by omega) (by omega)
    rw [hopperlaw12_GreedyTakes.l4, if_pos (by omega), if_pos (by omega), if_pos (by omega), if_pos (by omega), rd_at t j hjt, rd_eq l i hi, step_ j (by omega)]
    by_cases e : t[j].f0 = l[i].f0
    · rw [if_pos e] at h1
      rw [if_pos e, step_ _ (by omega), ← h1]
      exact ih
    · rw [if_neg e] at h1
      rw [if_neg e, show (of_ l[i].f0 (t.take j)).length = (of_ l[i].f0 (t.take (j + 1))).length by omega]
      exact ih
set_option maxRecDepth 20000 in
theorem takes_each (l : List Ac) (hf : FewA l) (hd : Dis l) (hm : ∀ a ∈ l, MayA a) (gas : Int) (h0 : 0 ≤ gas) : ∀ (n i F : Nat), i + n = l.length → 100 + n * 403 ≤ F → hopperlaw12_GreedyTakes.l3 F l (tmA l gas) (gas - sum4 (tmA l gas)) (i : Int) = some true
  | 0, i, F, hn, hF => by
    obtain ⟨F, rfl⟩ : ∃ G, F = G + 1 := ⟨F - 1, by omega⟩
    rw [hopperlaw12_GreedyTakes.l3, if_neg (by omega), live_at _ (by omega)]
    rfl
  | n + 1, i, F, hn, hF => by
    obtain ⟨F, rfl⟩ : ∃ G, F = G + 1 := ⟨F - 1, by omega⟩
    have hi : i < l.length := by omega
    have hlen := tmA_len l gas hf
    obtain ⟨rest, r1, r2⟩ := split_at l hf hd hm gas h0 i hi
    rw [line_may _ (hm _ (List.getElem_mem hi))] at r1
    rw [hopperlaw12_GreedyTakes.l3, if_pos (by omega)]
    have := takes_count l hf (tmA l gas) hlen (gas - sum4 (tmA l gas)) i hi (100 + n * 403) (by omega) rest r1 r2 (fun F' hF' => takes_each l hf hd hm gas h0 n (i + 1) F' (by omega) hF') (tmA l gas).length 0 F (by omega) (by omega)
    rw [List.take_zero, show (of_ l[i].f0 []).length = 0 from rfl] at this
    exact this
theorem takes_fits (l : List Ac) (t : List Tx) (ht : t.length ≤ 400) (left0 : Int) (hm : left0 ≤ 9223372036854775807) (C : Nat) (cont : ∀ F, C ≤ F → ((greedy_Follows.f l t).bind fun t421 => (if t421 = true then (hopperlaw12_GreedyTakes.l3 F l t (left0 - sum4 t) 0) else (none))) = some true) :
    ∀ (n i F : Nat) (left : Int), i + n = t.length → C + n + 1 ≤ F → 0 ≤ left → left ≤ left0 → Fits left (t.drop i) → left - sum4 (t.drop i) = left0 - sum4 t → hopperlaw12_GreedyTakes.l2 F l t left (i : Int) = some true
  | 0, i, F, left, hn, hF, h0, h1, hfi, hs => by
    obtain ⟨F, rfl⟩ : ∃ G, F = G + 1 := ⟨F - 1, by omega⟩
    rw [List.drop_eq_nil_of_le (by omega)] at hs
    have e : left = left0 - sum4 t := by rw [← hs]; simp [sum4]
    rw [hopperlaw12_GreedyTakes.l2, if_neg (by omega), e]
    exact cont F (by omega)
  | n + 1, i, F, left, hn, hF, h0, h1, hfi, hs => by
    obtain ⟨F, rfl⟩ : ∃ G, F = G + 1 := ⟨F - 1, by omega⟩
    have hi : i < t.length := by omega
    rw [List.drop_eq_getElem_cons hi] at hfi hs
    rw [sum4_cons] at hs
    obtain ⟨f1, f2, f3⟩ := hfi
    have hw : wrap64 (left - t[i].f4) = left - t[i].f4 := by unfold wrap64; omega
    rw [hopperlaw12_GreedyTakes.l2, if_pos (by omega), if_pos (by omega), rd_at t i hi, if_neg (by omega), if_neg (by omega), hw, step_ i (by omega)]
    exact takes_fits l t ht left0 hm C cont n (i + 1) F (left - t[i].f4) (by omega) (by omega) (by omega) (by omega) f3 (by omega)
theorem takes_end (l : List Ac) (hf : FewA l) (hd : Dis l) (hm : ∀ a ∈ l, MayA a) (gas : Int) (h0 : 0 ≤ gas) (h1 : gas ≤ 9223372036854775807) (F : Nat) (hF : 10000 ≤ F) : hopperlaw12_GreedyTakes.l0 F l gas (l.length : Int) = some true := by
  obtain ⟨F, rfl⟩ : ∃ G, F = G + 1 := ⟨F - 1, by omega⟩
  have hlen := tmA_len l gas hf
  have h20 := hf.1
  rw [hopperlaw12_GreedyTakes.l0, if_neg (by omega), template_run l gas hf h1, Option.bind_some]
  exact takes_fits l (tmA l gas) hlen gas h1 9000 (fun F' hF' => by
    rw [follows_tm l hf hd hm gas h0, Option.bind_some, if_pos rfl]
    exact takes_each l hf hd hm gas h0 l.length 0 F' (by omega) (by omega)) (tmA l gas).length 0 F gas (by omega) (by omega) h0 (Int.le_refl _) (tmA_fits l gas h0) rfl
theorem takes_in (l : List Ac) (hf : FewA l) (gas : Int) (C : Nat) (hC : 10000 ≤ C) (i : Nat) (hi : i < l.length)
    (cont : ∀ F, C ≤ F → (∀ j (hj : j < i), l[j].f0 ≠ l[i].f0) → MayA l[i] → hopperlaw12_GreedyTakes.l0 F l gas (((i + 1 : Nat)) : Int) = some true) :
    ∀ (m j F : Nat), j + m = i → C + m + 1 ≤ F → (∀ j' (h : j' < j) (hl : j' < l.length), l[j'].f0 ≠ l[i].f0) → hopperlaw12_GreedyTakes.l1 F l gas (i : Int) (j : Int) = some true
  | 0, j, F, hj, hF, hs => by
    obtain ⟨F, rfl⟩ : ∃ G, F = G + 1 := ⟨F - 1, by omega⟩
    have hx := hf.2.1 l[i] (List.getElem_mem hi)
    rw [hopperlaw12_GreedyTakes.l1, if_neg (by omega), if_pos (by omega), if_pos (by omega), rd_eq l i hi, rqcheck_eq _ _ _ _ _ (by omega) (by omega), Option.bind_some]
    by_cases hm : May l[i].f0 l[i].f1 l[i].f2 16
    · rw [decide_eq_true hm, if_pos rfl, step_ i (by have := hf.1; omega)]
      exact cont F (by omega) (fun j' hj' => hs j' (by omega) (by omega)) hm
    · rw [decide_eq_false hm, if_neg (by decide), live_at _ (by omega)]
      rfl
  | m + 1, j, F, hj, hF, hs => by
    obtain ⟨F, rfl⟩ : ∃ G, F = G + 1 := ⟨F - 1, by omega⟩
    rw [hopperlaw12_GreedyTakes.l1, if_pos (by omega), if_pos (by omega), if_pos (by omega), if_pos (by omega), if_pos (by omega), rd_eq l j (by omega), rd_eq l i hi, step_ j (by have := hf.1; omega)]
    by_cases e : l[j].f0 = l[i].f0
    · rw [if_pos e, live_at _ (by omega)]
      rfl
    · rw [if_neg e]
      exact takes_in l hf gas C hC i hi cont m (j + 1) F (by omega) (by omega) (fun j' hj' hl' => by
        by_cases q : j' = j
        · subst q; exact e
        · exact hs j' (by omega) hl')
theorem takes_out (l : List Ac) (hf : FewA l) (gas : Int) (h0 : 0 ≤ gas) (h1 : gas ≤ 9223372036854775807) : ∀ (n i F : Nat), i + n = l.length → 10000 + n * 23 ≤ F → (∀ i' (hi' : i' < i) (h : i' < l.length), MayA l[i'] ∧ ∀ j (hj : j < i'), l[j].f0 ≠ l[i'].f0) → hopperlaw12_GreedyTakes.l0 F l gas (i : Int) = some true
  | 0, i, F, hn, hF, hs => by
    obtain rfl : i = l.length := by omega
    exact takes_end l hf (dis_of l (fun i hi j hj => (hs i hi hi).2 j hj)) (fun a ha => by
      obtain ⟨i, hi, rfl⟩ := List.getElem_of_mem ha
      exact (hs i hi hi).1) gas h0 h1 F (by omega)
  | n + 1, i, F, hn, hF, hs => by
    have hi : i < l.length := by omega
    obtain ⟨F, rfl⟩ : ∃ G, F = G + 1 := ⟨F - 1, by omega⟩
    have h20 := hf.1
    rw [hopperlaw12_GreedyTakes.l0, if_pos (by omega)]
    refine takes_in l hf gas (10000 + n * 23) (by omega) i hi (fun F' hF' hd hm => ?_) i 0 F (by omega) (by omega) (fun j' hj' _ => absurd hj' (Nat.not_lt_zero _))
    refine takes_out l hf gas h0 h1 n (i + 1) F' (by omega) hF' (fun i' hi' h => ?_)
    by_cases q : i' = i
    · subst q; exact ⟨hm, hd⟩
    · exact hs i' (by omega) h
theorem GreedyTakes : hopperlaw12_GreedyTakes.Pure := by
  intro l gas hl hg
  have hg1 : gas ≤ 9223372036854775807 := (bounds_i64 hg).2
  obtain ⟨m, hm⟩ : ∃ m, m = l.length + most l + 20000 := ⟨_, rfl⟩
  obtain ⟨b, h1, h2⟩ := few_start (m + 1) l hl (by omega)
  refine ⟨m + 1, ?_⟩
  unfold hopperlaw12_GreedyTakes.f
  rw [h1, Option.bind_some]
  have skip : hopperlaw12_GreedyTakes.j0 (m + 1) l gas true = some true := by
    rw [hopperlaw12_GreedyTakes.j0, if_pos rfl, live_at _ (by omega)]
    rfl
  cases b with
  | false => rw [if_neg (by decide)]; exact skip
  | true =>
    have hf := h2 rfl
    rw [if_pos rfl]
    by_cases g0 : gas < 0
    · rw [decide_eq_true g0]; exact skip
    · rw [decide_eq_false g0, hopperlaw12_GreedyTakes.j0, if_neg (by decide)]
      have h20 := hf.1
      exact takes_out l hf gas (by omega) hg1 l.length 0 m (by omega) (by omega) (fun i' hi' => absurd hi' (Nat.not_lt_zero _))
end Go.Proofs.Ytahopljippfadaa.Pure
