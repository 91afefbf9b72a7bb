/- Plain laws: accounts that may be, each of a sender of its own. -/
import Derived.Test.YtahopljippfadaaGreedyTot
namespace Go.Proofs.Ytahopljippfadaa.GreedyLaws
set_option linter.unusedSimpArgs false
set_option linter.unusedVariables false
open Go.RowKit Go.Proofs.Ytahopljippfadaa.D Go.Proofs.Ytahopljippfadaa.TxnCodec Go.Proofs.Ytahopljippfadaa.TxnLaws Go.Proofs.Ytahopljippfadaa.Row Go.Proofs.YtahopljippfadaaW.PrintWords Go.Proofs.YtahopljippfadaaW.PrintLast
def Dis (l : List Ac) : Prop := l.Pairwise fun a b => a.f0 ≠ b.f0
def MayA (a : Ac) : Prop := May a.f0 a.f1 a.f2 16
theorem asc_mem (s : Int) : ∀ (l : List Tx) (n : Int), Asc s n l → ∀ x ∈ l, ChkT x ∧ x.f0 = s
  | [], _, _, x, hx => absurd hx List.not_mem_nil
  | y :: l, n, h, x, hx => by
    rcases List.mem_cons.1 hx with q | q
    · rw [q]; exact ⟨h.1, h.2.1⟩
    · exact asc_mem s l _ h.2.2.2 x q
theorem rdy_sub (b : Int) : ∀ (l : List Tx) (i : Nat) (x : Tx), x ∈ rdy b l i → x ∈ l
  | [], _, x, hx => absurd hx List.not_mem_nil
  | y :: l, i, x, hx => by
    rw [rdy] at hx
    split at hx
    · exact absurd hx List.not_mem_nil
    · split at hx
      · rcases List.mem_cons.1 hx with q | q
        · rw [q]; exact List.mem_cons_self ..
        · exact List.mem_cons_of_mem _ (rdy_sub b l _ x q)
      · exact absurd hx List.not_mem_nil
theorem takeWhile_id (p : Tx → Bool) : ∀ l : List Tx, (∀ x ∈ l, p x = true) → l.takeWhile p = l
  | [], _ => rfl
  | x :: l, h => by
    rw [List.takeWhile_cons, if_pos (h x (List.mem_cons_self ..)), takeWhile_id p l (fun y hy => h y (List.mem_cons_of_mem _ hy))]
theorem line_may (a : Ac) (h : MayA a) : lineA a = rdy a.f1 a.f2 0 := by
  unfold lineA
  exact takeWhile_id _ _ (fun x hx => decide_eq_true (asc_mem _ _ _ h.2.2.2.2.2.2.2 x (rdy_sub _ _ _ x hx)).1)
theorem line_own (a : Ac) (h : MayA a) (x : Tx) (hx : x ∈ lineA a) : x.f0 = a.f0 := by
  rw [line_may a h] at hx
  exact (asc_mem _ _ _ h.2.2.2.2.2.2.2 x (rdy_sub _ _ _ x hx)).2
theorem fst_all : ∀ (l : List Ac) (S : List Int), (∀ a ∈ l, ¬ a.f0 ∈ S) → Dis l → fst S l = l
  | [], _, _, _ => rfl
  | a :: l, S, h, hd => by
    obtain ⟨h1, h2⟩ := List.pairwise_cons.1 hd
    rw [fst, if_neg (fun q => h a (List.mem_cons_self ..) (List.contains_iff_mem.1 q)), fst_all l _ (fun b hb q => by
      rcases List.mem_cons.1 q with e | e
      · exact h1 b hb e.symm
      · exact h b (List.mem_cons_of_mem _ hb) e) h2]
theorem lns_dis (l : List Ac) (hd : Dis l) : lns l = l.map lineA := by
  unfold lns
  rw [fst_all l [] (fun a _ => List.not_mem_nil) hd]
def sig (l : List Ac) (k : Nat) : Int := (l.map fun a => a.f0).getD k 0
theorem sig_at (l : List Ac) (k : Nat) (h : k < l.length) : sig l k = l[k].f0 := by
  unfold sig
  rw [List.getD_eq_getElem?_getD, List.getElem?_map, List.getElem?_eq_getElem h]
  rfl
theorem lns_at (l : List Ac) (hd : Dis l) (k : Nat) (h : k < l.length) : (lns l).getD k [] = lineA l[k] := by
  rw [lns_dis l hd, List.getD_eq_getElem?_getD, List.getElem?_map, List.getElem?_eq_getElem h]
  rfl
theorem dis_at (l : List Ac) (hd : Dis l) (i j : Nat) (hi : i < l.length) (hj : j < l.length) (e : l[i].f0 = l[j].f0) : i = j := by
  have h := List.pairwise_iff_getElem.1 hd
  rcases Nat.lt_trichotomy i j with q | q | q
  · exact absurd e (h i j hi hj q)
  · exact q
  · exact absurd e.symm (h j i hj hi q)
theorem lns_own (l : List Ac) (hd : Dis l) (hm : ∀ a ∈ l, MayA a) : Own (sig l) (lns l) := by
  have hlen : (lns l).length = l.length := by rw [lns_dis l hd, List.length_map]
  refine ⟨fun k x hx => ?_, fun i j hi hj e => ?_⟩
  · have hk : k < l.length := by rw [← hlen]; exact lt_of_getD (fun q => by rw [q] at hx; exact absurd hx List.not_mem_nil)
    rw [lns_at l hd k hk] at hx
    rw [sig_at l k hk]
    exact line_own _ (hm _ (List.getElem_mem hk)) x hx
  · rw [hlen] at hi hj
    rw [sig_at l i hi, sig_at l j hj] at e
    exact dis_at l hd i j hi hj e
theorem mine_at_ (l : List Ac) (hd : Dis l) (k : Nat) (hk : k < l.length) : mineA l l[k].f0 = lineA l[k] := by
  unfold mineA
  cases h : l.find? (fun a => a.f0 == l[k].f0) with
  | none => exact absurd (beq_self_eq_true _) (List.find?_eq_none.1 h l[k] (List.getElem_mem hk))
  | some a =>
    have e : a.f0 = l[k].f0 := eq_of_beq (List.find?_some (p := fun a : Ac => a.f0 == l[k].f0) h)
    obtain ⟨j, hj, rfl⟩ := List.getElem_of_mem (List.mem_of_find?_eq_some h)
    have := dis_at l hd j k hj hk e
    subst this
    rfl
theorem split_at (l : List Ac) (hf : FewA l) (hd : Dis l) (hm : ∀ a ∈ l, MayA a) (gas : Int) (h0 : 0 ≤ gas) (k : Nat) (hk : k < l.length) : ∃ rest, of_ l[k].f0 (tmA l gas) ++ rest = lineA l[k] ∧ ∀ x, rest.head? = some x → x.f4 > gas - sum4 (tmA l gas) := by
  have hlen : (lns l).length = l.length := by rw [lns_dis l hd, List.length_map]
  obtain ⟨rest, r1, r2⟩ := tm_split (sig l) (wk (lns l) + 1) gas (lns l) (by omega) h0 (lns_pos l) (lns_own l hd hm) k (by omega)
  rw [lns_at l hd k hk, sig_at l k hk] at r1
  have e : tmA l gas = tm (wk (lns l) + 1) gas (lns l) := by unfold tmA; rw [if_neg (by omega)]
  rw [e]
  exact ⟨rest, r1, r2⟩
theorem follows_tm (l : List Ac) (hf : FewA l) (hd : Dis l) (hm : ∀ a ∈ l, MayA a) (gas : Int) (h0 : 0 ≤ gas) : greedy_Follows.f l (tmA l gas) = some true := by
  obtain ⟨b, h1, h2⟩ := follows_run l (tmA l gas) hf (by have := tmA_len l gas hf; omega) (fun x hx => chk_wf x (tmA_good l gas x hx))
  rw [h1, h2.2 (fun s => ?_)]
  by_cases hs : ∃ k, ∃ h : k < l.length, l[k].f0 = s
  · obtain ⟨k, hk, rfl⟩ := hs
    obtain ⟨rest, r1, _⟩ := split_at l hf hd hm gas h0 k hk
    rw [mine_at_ l hd k hk, ← r1]
    exact List.prefix_append _ _
  · have : of_ s (tmA l gas) = [] := by
      unfold of_
      rw [List.filter_eq_nil_iff]
      intro x hx e
      unfold tmA at hx
      rw [if_neg (by omega)] at hx
      obtain ⟨j, hj⟩ := tm_mem _ _ _ x hx
      have hlen : (lns l).length = l.length := by rw [lns_dis l hd, List.length_map]
      have hjl : j < l.length := by rw [← hlen]; exact lt_of_getD (fun q => by rw [q] at hj; exact absurd hj List.not_mem_nil)
      have e2 := (lns_own l hd hm).1 j x hj
      rw [sig_at l j hjl] at e2
      exact hs ⟨j, hjl, e2.symm.trans (eq_of_beq e)⟩
    rw [this]
    exact List.nil_prefix
theorem sum4_le (m : Nat) (hm : True) : ∀ l : List Tx, (∀ x ∈ l, ChkT x) → sum4 l ≤ 1073741824 * l.length
  | [], _ => by simp [sum4]
  | x :: l, h => by
    have h1 := sum4_le m hm l (fun y hy => h y (List.mem_cons_of_mem _ hy))
    have h2 := h x (List.mem_cons_self ..)
    unfold ChkT Chk at h2
    rw [sum4_cons, List.length_cons]
    omega
theorem total_le : ∀ R : List (List Tx), (∀ j x, x ∈ R.getD j [] → ChkT x) → total R ≤ 1073741824 * wk R
  | [], _ => by simp [total, wk]
  | l :: R, h => by
    have h1 := total_le R (fun j x hx => h (j + 1) x (by rw [List.getD_cons_succ]; exact hx))
    have h2 := sum4_le 0 trivial l (fun x hx => h 0 x (by simpa using hx))
    simp only [total, wk, List.map_cons, List.sum_cons] at h1 ⊢
    omega
theorem ord_at : ∀ (t : List Tx), Ord t → ∀ (i : Nat) (h : i + 1 < t.length), t[i].f0 ≠ t[i + 1].f0 → B t[i + 1] t[i] = false
  | [], _, i, h, _ => absurd h (Nat.not_lt_zero _)
  | [x], _, i, h, _ => by simp at h
  | x :: y :: r, ho, 0, h, hne => ho.1 hne
  | x :: y :: r, ho, i + 1, h, hne => ord_at (y :: r) ho.2 i (by simpa using h) hne
theorem dis_of (l : List Ac) (h : ∀ i (hi : i < l.length) j (hj : j < i), l[j].f0 ≠ l[i].f0) : Dis l := List.pairwise_iff_getElem.2 fun i j hi hj hij => h j hj i hij
end Go.Proofs.Ytahopljippfadaa.GreedyLaws
