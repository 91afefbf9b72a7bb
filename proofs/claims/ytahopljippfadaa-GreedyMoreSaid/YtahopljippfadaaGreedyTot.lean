/- Plain laws: totals, who is few, who follows. -/
import Derived.Test.YtahopljippfadaaGreedyRun
import Derived.Tactics
namespace Go.Proofs.Ytahopljippfadaa.GreedyLaws
set_option linter.unusedSimpArgs false
set_option linter.unusedVariables false
open Go.RowKit Go.Proofs.Ytahopljippfadaa.D Go.Proofs.Ytahopljippfadaa.TxnCodec Go.Proofs.Ytahopljippfadaa.TxnLaws Go.Proofs.Ytahopljippfadaa.Row Go.Proofs.YtahopljippfadaaW.PrintWords Go.Proofs.YtahopljippfadaaW.PrintLast
theorem live8 : hopperlaw12_live.f 8 = some true := by kernel_rfl
theorem live_at (K : Nat) (h : 8 ≤ K) : hopperlaw12_live.f K = some true := at_rounds hopperlaw12_live.mono h live8
theorem few_start (k : Nat) (l : List Ac) (hl : (okL ok35) l) (hk : l.length + most l + 2 ≤ k) : ∃ b, hopperref11_Few.f k l 20 = some b ∧ (b = true → FewA l) := by
  obtain ⟨b, h1, h2⟩ := few11_eq k 20 l hl.1 (fun x hx => (hl.2 x hx).2.2.1) hk
  refine ⟨b, h1, fun hb => ⟨by have := (h2 hb).1; omega, (h2 hb).2, fun a ha => (hl.2 a ha).1⟩⟩
def prs (t : List Tx) : List S45 := t.map fun x => ⟨x.f2, x.f4⟩
theorem tot_from (k : Nat) (l : List Tx) (hl : l.length ≤ 1000) : ∀ (n i : Nat) (acc : List S45), i + n = l.length → acc.length = i → greedy_Totals.l0 (k + n + 1) acc l (l.length : Int) (i : Int) = some ((totF (acc ++ prs (l.drop i))).1, (totF (acc ++ prs (l.drop i))).2.1)
  | 0, i, acc, hn, ha => by
    unfold greedy_Totals.l0
    rw [if_neg (by omega), List.drop_eq_nil_of_le (by omega)]
    unfold sat_Totals.f prs
    rw [List.map_nil, List.append_nil]
    rfl
  | n + 1, i, acc, hn, ha => by
    have hi : i < l.length := by omega
    unfold greedy_Totals.l0
    rw [if_pos (by omega), if_pos (by omega), if_pos (by omega), if_pos (by omega), step_ i (by omega), rd_at l i hi, show k + (n + 1) = k + n + 1 from rfl, tot_from k l hl n (i + 1) _ (by omega) (by rw [List.length_append, List.length_singleton, ha]), List.drop_eq_getElem_cons hi, List.append_assoc]
    rfl
theorem totals_run (k : Nat) (l : List Tx) (hl : l.length ≤ 1000) (hk : l.length + 1 ≤ k) : greedy_Totals.f k l = some ((totF (prs l)).1, (totF (prs l)).2.1) := by
  have := tot_from (k - (l.length + 1)) l hl l.length 0 [] (by omega) rfl
  rw [show k - (l.length + 1) + l.length + 1 = k by omega] at this
  unfold greedy_Totals.f
  simpa using this
theorem prs_sum (t : List Tx) : sum1 (prs t) = sum4 t := by
  unfold sum1 prs sum4
  rw [List.map_map]
  rfl
theorem totals_good (k : Nat) (l : List Tx) (hl : l.length ≤ 1000) (hg : ∀ x ∈ l, ChkT x) (hk : l.length + 1 ≤ k) : ∃ s, greedy_Totals.f k l = some (s, sum4 l) := by
  rw [totals_run k l hl hk, totF_good (prs l) (by unfold prs; rw [List.length_map]; exact hl) (fun p hp => by
    obtain ⟨x, hx, rfl⟩ := List.mem_map.1 hp
    have := hg x hx
    unfold ChkT Chk at this
    unfold pairOk
    dsimp only
    omega), prs_sum]
  exact ⟨_, rfl⟩
theorem tmA_good (l : List Ac) (gas : Int) (x : Tx) (h : x ∈ tmA l gas) : ChkT x := by
  unfold tmA at h
  split at h
  · exact absurd h List.not_mem_nil
  · obtain ⟨j, hj⟩ := tm_mem _ _ _ x h
    exact lns_good l j x hj
theorem tmA_len (l : List Ac) (gas : Int) (h : FewA l) : (tmA l gas).length ≤ 400 := by
  unfold tmA
  split
  · exact Nat.zero_le _
  · exact Nat.le_trans (tm_len _ _ _) (lns_len l h).2
theorem tmA_fits (l : List Ac) (gas : Int) (h0 : 0 ≤ gas) : Fits gas (tmA l gas) := by
  unfold tmA
  rw [if_neg (by omega)]
  exact tm_fits _ _ _ (lns_pos l)
theorem chk_wf (x : Tx) (h : ChkT x) : (Lit.int .i64 x.f0).wf = true := by
  unfold ChkT Chk at h
  have e : wrap64 x.f0 = x.f0 := by unfold wrap64; omega
  rw [← e]
  exact wrap64_wf _
/-- What an account's sender has: the line of its first account. -/
def mineA (l : List Ac) (s : Int) : List Tx := match l.find? (fun a => a.f0 == s) with | some a => lineA a | none => []
theorem readyL_run : ∀ l : List Ac, (∀ a ∈ l, a.f2.length ≤ 1000) → readyL l = some (l.map fun a => (a.f0, lineA a))
  | [], _ => rfl
  | a :: l, h => by
    rw [readyL, ready_run a (h a (List.mem_cons_self ..)), Option.bind_some, readyL_run l (fun b hb => h b (List.mem_cons_of_mem _ hb))]
    rfl
theorem mine_start (l : List Ac) (s : Int) : mineP (l.map fun a => (a.f0, lineA a)).reverse s = mineA l s := by
  unfold mineP mineA
  rw [List.reverse_reverse, List.find?_map]
  have e : ((fun p : Int × List Tx => p.1 == s) ∘ fun a : Ac => (a.f0, lineA a)) = fun a => a.f0 == s := rfl
  rw [e]
  cases l.find? (fun a => a.f0 == s) <;> rfl
theorem mine_snoc (P : List (Int × List Tx)) (s s' : Int) (ys : List Tx) : mineP (P ++ [(s, ys)]) s' = if s = s' then ys else mineP P s' := by
  unfold mineP
  rw [List.reverse_append, List.reverse_singleton, List.singleton_append, List.find?_cons]
  by_cases e : s = s'
  · rw [if_pos e, show ((s, ys).1 == s') = true from beq_iff_eq.2 e]
  · rw [if_neg e, show ((s, ys).1 == s') = false from beq_eq_false_iff_ne.2 e]
theorem sameTx_eq (x y : Tx) : sameTx x y = true ↔ x = y := by
  constructor
  · intro h
    unfold sameTx at h
    simp only [Bool.and_eq_true, beq_iff_eq] at h
    obtain ⟨h0, h1, h2, h3, h4, h5⟩ := h
    have h6 := bytes_list _ _ h5
    cases x
    cases y
    simp only at h0 h1 h2 h3 h4 h6
    subst h0 h1 h2 h3 h4 h6
    rfl
  · rintro rfl
    unfold sameTx
    simp
def of_ (s : Int) (t : List Tx) : List Tx := t.filter fun x => x.f0 == s
theorem follP_iff : ∀ (t : List Tx) (P : List (Int × List Tx)), follP P t = true ↔ ∀ s, of_ s t <+: mineP P s
  | [], P => ⟨fun _ s => List.nil_prefix, fun _ => rfl⟩
  | x :: t, P => by
    rw [follP]
    have hof : ∀ s, of_ s (x :: t) = if x.f0 = s then x :: of_ s t else of_ s t := fun s => by
      unfold of_
      rw [List.filter_cons]
      by_cases e : x.f0 = s
      · rw [if_pos e, if_pos (beq_iff_eq.2 e)]
      · rw [if_neg e, if_neg (fun q => e (eq_of_beq q))]
    cases hM : mineP P x.f0 with
    | nil =>
      refine ⟨fun h => (by cases h), fun h => ?_⟩
      have := h x.f0
      rw [hof, if_pos rfl, hM] at this
      exact absurd (List.prefix_nil.1 this) (List.cons_ne_nil _ _)
    | cons y ys =>
      have hset : ∀ s, mineP (P ++ [(x.f0, ys)]) s = if x.f0 = s then ys else mineP P s := fun s => mine_snoc P x.f0 s ys
      dsimp only
      by_cases hxy : sameTx y x = true
      · have e := (sameTx_eq y x).1 hxy
        subst e
        rw [if_pos hxy, follP_iff t]
        constructor
        · intro h s
          have := h s
          rw [hset] at this
          rw [hof]
          by_cases q : y.f0 = s
          · rw [if_pos q] at this ⊢
            rw [← q, hM]
            rw [← q] at this
            exact List.cons_prefix_cons.2 ⟨rfl, this⟩
          · rw [if_neg q] at this ⊢
            exact this
        · intro h s
          have := h s
          rw [hof] at this
          rw [hset]
          by_cases q : y.f0 = s
          · rw [if_pos q] at this ⊢
            rw [← q, hM] at this
            rw [← q]
            exact (List.cons_prefix_cons.1 this).2
          · rw [if_neg q] at this ⊢
            exact this
      · rw [if_neg hxy]
        refine ⟨fun h => (by cases h), fun h => ?_⟩
        have := h x.f0
        rw [hof, if_pos rfl, hM] at this
        exact absurd ((sameTx_eq y x).2 (List.cons_prefix_cons.1 this).1.symm) hxy
theorem follows_run (l : List Ac) (t : List Tx) (h : FewA l) (ht : t.length < 1000000000000) (hw : ∀ x ∈ t, (Lit.int .i64 x.f0).wf = true) : ∃ b, greedy_Follows.f l t = some b ∧ (b = true ↔ ∀ s, of_ s t <+: mineA l s) := by
  unfold greedy_Follows.f
  rw [if_pos ⟨by have := h.1; omega, ht, List.all_eq_true.2 h.2.2, List.all_eq_true.2 hw⟩, readyL_run l (fun a ha => by have := h.2.1 a ha; omega)]
  refine ⟨_, rfl, ?_⟩
  rw [follP_iff]
  constructor
  · intro q s; have := q s; rwa [mine_start] at this
  · intro q s; rw [mine_start]; exact q s
end Go.Proofs.Ytahopljippfadaa.GreedyLaws
