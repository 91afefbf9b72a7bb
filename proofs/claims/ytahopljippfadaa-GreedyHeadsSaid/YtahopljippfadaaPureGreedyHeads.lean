/- The plain statement behind the law GreedyHeads, proved for every input; no condition but the types' own bounds. -/
import Derived.Test.YtahopljippfadaaGreedyTot
import Derived.Test.YtahopljippfadaaDx22
namespace Go.Proofs.Ytahopljippfadaa.Pure
set_option linter.unusedSimpArgs false
set_option linter.unusedVariables false
open Go.RowKit Go.Proofs.Ytahopljippfadaa.D Go.Proofs.Ytahopljippfadaa.GreedyLaws Go.Proofs.Ytahopljippfadaa.Row Go.Proofs.YtahopljippfadaaW.PrintWords Go.Proofs.YtahopljippfadaaW.PrintLast
theorem heads_mem (R : List (List Tx)) (x : Tx) : x ∈ headsF R ↔ ∃ j, R.getD j [] ≠ [] ∧ headAt R j = x := by
  unfold headsF
  rw [List.mem_filterMap]
  constructor
  · rintro ⟨l, hl, hx⟩
    obtain ⟨j, hj, rfl⟩ := List.getElem_of_mem hl
    have e : R.getD j [] = R[j] := by rw [List.getD_eq_getElem?_getD, List.getElem?_eq_getElem hj]; rfl
    cases hR : R[j] with
    | nil => rw [hR] at hx; cases hx
    | cons y ys =>
      rw [hR] at hx e
      refine ⟨j, by rw [e]; simp, ?_⟩
      unfold headAt
      rw [e]
      exact Option.some.inj hx
  · rintro ⟨j, hj, hx⟩
    obtain ⟨ts, hts⟩ := head_cons hj
    refine ⟨R.getD j [], GreedyLaws.getD_in (x := headAt R j) (by rw [hts]; exact List.mem_cons_self ..), ?_⟩
    rw [hts, hx]
    rfl
theorem heads_none (K : Nat) (hK : 2000 ≤ K) (l : List Ac) (gas : Int) (H : List Tx) (hH : H.length ≤ l.length) (hl : l.length ≤ 20) (hu : ∀ x ∈ H, x.f4 > gas) : ∀ (n i : Nat), i + n = H.length → hopperlaw12_GreedyHeads.l1 (K + n + 1) l gas H [] false (i : Int) = some true
  | 0, i, hn => by
    unfold hopperlaw12_GreedyHeads.l1
    rw [if_neg (by omega), if_pos (by simp), if_pos (by omega), live_at _ (by omega)]
    rfl
  | n + 1, i, hn => by
    have hi : i < H.length := by omega
    have := hu H[i] (List.getElem_mem hi)
    unfold hopperlaw12_GreedyHeads.l1
    rw [if_pos (by omega), if_pos (by omega), rd_at H i hi, if_neg (by omega), if_neg (by decide), if_neg (by simp), step_ i (by omega), show K + (n + 1) = K + n + 1 from rfl]
    exact heads_none K hK l gas H hH hl hu n (i + 1) (by omega)
theorem heads_some (K : Nat) (hK : 2000 ≤ K) (l : List Ac) (gas : Int) (H : List Tx) (hH : H.length ≤ l.length) (hl : l.length ≤ 20) (t : Tx) (r : List Tx) (hr : (t :: r).length ≤ 400) (hu : ∀ x ∈ H, x.f4 ≤ gas → B x t = false) (ht : t ∈ H) : ∀ (n i : Nat) (found : Bool), i + n = H.length → (found = true ↔ t ∈ H.take i) → hopperlaw12_GreedyHeads.l1 (K + n + 1) l gas H (t :: r) found (i : Int) = some true
  | 0, i, found, hn, hfo => by
    have hft : found = true := hfo.2 (by rw [List.take_of_length_le (by omega)]; exact ht)
    unfold hopperlaw12_GreedyHeads.l1
    rw [if_neg (by omega), hft, if_pos (by rw [decide_eq_true (by rw [List.length_cons]; omega)]; rfl), if_pos (by omega), live_at _ (by omega)]
    rfl
  | n + 1, i, found, hn, hfo => by
    have hi : i < H.length := by omega
    have htk : H.take (i + 1) = H.take i ++ [H[i]] := List.take_succ_eq_append_getElem hi
    have h0 : rd_T38 (t :: r) 0 = t := rfl
    have next : ∀ f : Bool, (f = true ↔ t ∈ H.take (i + 1)) → hopperlaw12_GreedyHeads.l1 (K + n + 1) l gas H (t :: r) f (((i + 1 : Nat)) : Int) = some true := fun f hf => heads_some K hK l gas H hH hl t r hr hu ht n (i + 1) f (by omega) hf
    have found_ : hopperlaw12_GreedyHeads.l1 (K + n + 1) l gas H (t :: r) (if found = true then true else sameTx H[i] t) (((i + 1 : Nat)) : Int) = some true := next _ (by
      rw [htk, List.mem_append, List.mem_singleton, ← hfo]
      cases found with
      | true => simp
      | false => rw [if_neg (by decide), sameTx_eq]; exact ⟨fun q => .inr q.symm, fun q => q.elim (fun z => by cases z) Eq.symm⟩)
    unfold hopperlaw12_GreedyHeads.l1
    rw [if_pos (by omega), if_pos (by omega), rd_at H i hi, h0, step_ i (by omega), show K + (n + 1) = K + n + 1 from rfl]
    have hl0 : ((t :: r).length : Int) > 0 := by rw [List.length_cons]; omega
    by_cases hg : H[i].f4 ≤ gas
    · rw [if_pos hg, if_neg (by omega), if_pos hl0, rbt _ (by omega), Option.bind_some, hu H[i] (List.getElem_mem hi) hg, if_neg (by decide)]
      cases found with
      | true => exact found_
      | false => rw [if_neg (by decide), if_pos hl0]; exact found_
    · rw [if_neg hg]
      cases found with
      | true => exact found_
      | false => rw [if_neg (by decide), if_pos hl0, if_pos hl0]; exact found_
theorem heads_check (K : Nat) (hK : 2100 ≤ K) (l : List Ac) (gas : Int) (hf : FewA l) (h0 : 0 ≤ gas) (h1 : gas ≤ 9223372036854775807) : ∀ (n i : Nat), i + n = l.length → hopperlaw12_GreedyHeads.l0 (K + n + 1) l gas (i : Int) = some true
  | 0, i, hn => by
    have hlen := tmA_len l gas hf
    have hHl : (headsF (lns l)).length ≤ l.length := by
      unfold headsF
      refine Nat.le_trans (List.length_filterMap_le _ _) ?_
      unfold lns
      rw [List.length_map]
      exact fst_len l []
    have hl := hf.1
    unfold hopperlaw12_GreedyHeads.l0
    rw [if_neg (by omega), heads_run l hf, Option.bind_some, template_run l gas hf h1, Option.bind_some]
    have hcase := tm_first (wk (lns l) + 1) gas (lns l) (by omega)
    have e : tmA l gas = tm (wk (lns l) + 1) gas (lns l) := by unfold tmA; rw [if_neg (by omega)]
    rw [← e] at hcase
    obtain ⟨k, hk⟩ : ∃ k, K = k + (headsF (lns l)).length + 1 := ⟨K - (headsF (lns l)).length - 1, by omega⟩
    rcases hcase with ⟨e1, hu⟩ | ⟨t, r, e1, _, hex, hu⟩
    · rw [e1]
      have := heads_none k (by omega) l gas (headsF (lns l)) hHl hl (fun x hx => by
        obtain ⟨j, hj, rfl⟩ := (heads_mem _ _).1 hx
        exact hu j hj) (headsF (lns l)).length 0 (by omega)
      rw [← hk] at this
      exact this
    · rw [e1] at hlen ⊢
      have := heads_some k (by omega) l gas (headsF (lns l)) hHl hl t r hlen (fun x hx hfx => by
        obtain ⟨j, hj, rfl⟩ := (heads_mem _ _).1 hx
        exact hu j hj hfx) ((heads_mem _ _).2 hex) (headsF (lns l)).length 0 false (by omega) ⟨fun q => (by cases q), fun q => absurd q List.not_mem_nil⟩
      rw [← hk] at this
      exact this
  | n + 1, i, hn => by
    have hi : i < l.length := by omega
    have hx := hf.2.1 l[i] (List.getElem_mem hi)
    unfold hopperlaw12_GreedyHeads.l0
    rw [if_pos (by omega), if_pos (by omega), rd_eq l i hi, rqcheck_eq _ _ _ _ _ (by omega) (by omega), Option.bind_some, step_ i (by have := hf.1; omega), show K + (n + 1) = K + n + 1 from rfl, heads_check K hK l gas hf h0 h1 n (i + 1) (by omega), live_at _ (by omega)]
    split <;> rfl
theorem GreedyHeads : hopperlaw12_GreedyHeads.Pure := by
  intro l gas hl hg
  have hg1 : gas ≤ 9223372036854775807 := (bounds_i64 hg).2
  obtain ⟨m, hm⟩ : ∃ m, m = l.length + most l + 3000 := ⟨_, rfl⟩
  obtain ⟨b, h1, h2⟩ := few_start (m + 1) l hl (by omega)
  refine ⟨m + 1, ?_⟩
  unfold hopperlaw12_GreedyHeads.f
  rw [h1, Option.bind_some]
  have skip : hopperlaw12_GreedyHeads.j0 (m + 1) l gas true = some true := by
    rw [hopperlaw12_GreedyHeads.j0]
    rw [if_pos rfl, live_at _ (by omega)]
    rfl
  cases b with
  | false => rw [if_neg (by decide)]; exact skip
  | true =>
    have hf := h2 rfl
    rw [if_pos rfl]
    by_cases g0 : gas < 0
    · rw [decide_eq_true g0]; exact skip
    · rw [decide_eq_false g0, hopperlaw12_GreedyHeads.j0, if_neg (by decide)]
      have := heads_check (most l + 2999) (by omega) l gas hf (by omega) hg1 l.length 0 (by omega)
      rw [show most l + 2999 + l.length + 1 = m by omega] at this
      exact this
end Go.Proofs.Ytahopljippfadaa.Pure
