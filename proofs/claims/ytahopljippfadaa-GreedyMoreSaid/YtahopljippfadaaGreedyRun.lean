/- Plain laws: what the program's functions of this layer tell. -/
import Derived.Test.YtahopljippfadaaGreedyBase
import Derived.Test.YtahopljippfadaaGreedyCore
namespace Go.Proofs.Ytahopljippfadaa.GreedyLaws
set_option linter.unusedSimpArgs false
set_option linter.unusedVariables false
open Go.RowKit Go.Proofs.Ytahopljippfadaa.D Go.Proofs.Ytahopljippfadaa.TxnCodec Go.Proofs.Ytahopljippfadaa.TxnLaws Go.Proofs.YtahopljippfadaaW.PrintWords Go.Proofs.YtahopljippfadaaW.PrintLast
def goodT (x : Tx) : Bool := decide (ChkT x)
theorem good_eq (x : Tx) : greedy_ready.good x = goodT x := by
  unfold greedy_ready.good goodT
  rw [check_t]
  cases decide (ChkT x) <;> rfl
/-- A sender's line. -/
def lineA (a : Ac) : List Tx := (rdy a.f1 a.f2 0).takeWhile goodT
theorem ready_run (a : Ac) (h : a.f2.length ≤ 1000) : greedy_ready.f a.f0 a.f1 a.f2 = some (lineA a) := by
  unfold greedy_ready.f
  rw [ready_eq _ _ _ _ h (Nat.le_refl _), Option.bind_some, if_pos ⟨by have := rdy_len a.f1 a.f2 0; omega, List.all_eq_true.2 (fun x _ => by rw [check_t]; rfl)⟩, show greedy_ready.good = goodT from funext good_eq]
  rfl
theorem takeWhile_le (p : Tx → Bool) (l : List Tx) : (l.takeWhile p).length ≤ l.length := (List.takeWhile_prefix p).length_le
theorem line_len (a : Ac) : (lineA a).length ≤ a.f2.length := Nat.le_trans (takeWhile_le _ _) (rdy_len _ _ _)
theorem takeWhile_all (p : Tx → Bool) : ∀ (l : List Tx) (x : Tx), x ∈ l.takeWhile p → p x = true
  | [], x, h => absurd h List.not_mem_nil
  | y :: l, x, h => by
    rw [List.takeWhile_cons] at h
    split at h
    · rename_i hy
      rcases List.mem_cons.1 h with q | q
      · rw [q]; exact hy
      · exact takeWhile_all p l x q
    · exact absurd h List.not_mem_nil
theorem line_good (a : Ac) (x : Tx) (h : x ∈ lineA a) : ChkT x := of_decide_eq_true (takeWhile_all _ _ x h)
/-- The first account of each sender. -/
def fst : List Int → List Ac → List Ac
  | _, [] => []
  | S, a :: l => if S.contains a.f0 = true then fst (a.f0 :: S) l else a :: fst (a.f0 :: S) l
theorem fst_sub : ∀ (l : List Ac) (S : List Int) (a : Ac), a ∈ fst S l → a ∈ l
  | [], S, a, h => absurd h List.not_mem_nil
  | b :: l, S, a, h => by
    rw [fst] at h
    split at h
    · exact List.mem_cons_of_mem _ (fst_sub l _ a h)
    · rcases List.mem_cons.1 h with q | q
      · rw [q]; exact List.mem_cons_self ..
      · exact List.mem_cons_of_mem _ (fst_sub l _ a q)
theorem fst_len : ∀ (l : List Ac) (S : List Int), (fst S l).length ≤ l.length
  | [], S => Nat.le_refl _
  | b :: l, S => by
    rw [fst]
    split
    · exact Nat.le_succ_of_le (fst_len l _)
    · exact Nat.succ_le_succ (fst_len l _)
theorem lines_run : ∀ (l : List Ac) (S : List Int), (∀ a ∈ l, a.f2.length ≤ 1000) → linesF S l = some ((fst S l).map lineA)
  | [], S, _ => rfl
  | a :: l, S, h => by
    rw [linesF, fst]
    have ih := lines_run l (a.f0 :: S) (fun b hb => h b (List.mem_cons_of_mem _ hb))
    split
    · exact ih
    · rw [ready_run a (h a (List.mem_cons_self ..)), Option.bind_some, ih]
      rfl
/-- Few accounts, of few transactions. -/
def FewA (l : List Ac) : Prop := l.length ≤ 20 ∧ (∀ a ∈ l, a.f2.length ≤ 20) ∧ ∀ a ∈ l, (Lit.int .i64 a.f0).wf = true
def lns (l : List Ac) : List (List Tx) := (fst [] l).map lineA
theorem heads_run (l : List Ac) (h : FewA l) : greedy_Heads.f l = some (headsF (lns l)) := by
  unfold greedy_Heads.f
  rw [if_pos ⟨by have := h.1; omega, List.all_eq_true.2 h.2.2⟩, lines_run l [] (fun a ha => by have := h.2.1 a ha; omega)]
  rfl
theorem wk_le (m : Nat) : ∀ R : List (List Tx), (∀ x ∈ R, x.length ≤ m) → wk R ≤ R.length * m
  | [], _ => by simp [wk]
  | l :: R, h => by
    have h1 := h l (List.mem_cons_self ..)
    have h2 := wk_le m R (fun x hx => h x (List.mem_cons_of_mem _ hx))
    simp only [wk, List.map_cons, List.sum_cons, List.length_cons] at h2 ⊢
    rw [Nat.succ_mul]
    omega
theorem lns_len (l : List Ac) (h : FewA l) : (lns l).length ≤ 20 ∧ wk (lns l) ≤ 400 := by
  have h1 : (lns l).length ≤ 20 := by
    unfold lns
    rw [List.length_map]
    exact Nat.le_trans (fst_len l []) h.1
  refine ⟨h1, Nat.le_trans (wk_le 20 (lns l) (fun x hx => ?_)) (by omega)⟩
  obtain ⟨a, ha, rfl⟩ := List.mem_map.1 hx
  exact Nat.le_trans (line_len a) (h.2.1 a (fst_sub l [] a ha))
theorem getD_in {R : List (List Tx)} {j : Nat} {x : Tx} (h : x ∈ R.getD j []) : R.getD j [] ∈ R := by
  have hj : j < R.length := lt_of_getD (fun q => by rw [q] at h; exact absurd h List.not_mem_nil)
  rw [List.getD_eq_getElem?_getD, List.getElem?_eq_getElem hj]
  exact List.getElem_mem hj
theorem lns_good (l : List Ac) (j : Nat) (x : Tx) (h : x ∈ (lns l).getD j []) : ChkT x := by
  obtain ⟨a, _, e⟩ := List.mem_map.1 (getD_in h)
  have e' : lineA a = (lns l).getD j [] := e
  rw [← e'] at h
  exact line_good a x h
theorem lns_pos (l : List Ac) : Pos (lns l) := fun j x hx => by
  have := lns_good l j x hx
  unfold ChkT Chk at this
  omega
/-- The block's lists (X, who has a place: L) are the lists R. -/
def Rel (X : List (List Tx)) (L : List Bool) (R : List (List Tx)) : Prop := X.length = R.length ∧ L.length = R.length ∧ ∀ i, (L.getD i false = true → X.getD i [] = R.getD i [] ∧ R.getD i [] ≠ []) ∧ (L.getD i false = false → R.getD i [] = [])
theorem getD_setB (L : List Bool) (k i : Nat) : (L.set k false).getD i false = if k = i then false else L.getD i false := by
  rw [List.getD_eq_getElem?_getD, List.getElem?_set, List.getD_eq_getElem?_getD]
  split
  · split <;> rfl
  · rfl
theorem Rel.drop {X R : List (List Tx)} {L : List Bool} (h : Rel X L R) {k : Nat} (hk : k < R.length) : Rel X (L.set k false) (R.set k []) := by
  refine ⟨by rw [List.length_set]; exact h.1, by rw [List.length_set, List.length_set]; exact h.2.1, fun i => ?_⟩
  rw [getD_setB, getD_set R k i [] hk]
  by_cases e : k = i
  · rw [if_pos e, if_pos e]
    exact ⟨fun q => (by cases q), fun _ => rfl⟩
  · rw [if_neg e, if_neg e]
    exact h.2.2 i
theorem Rel.take {X R : List (List Tx)} {L : List Bool} (h : Rel X L R) {k : Nat} (hk : k < R.length) (hL : L.getD k false = true) (ts : List Tx) : Rel (X.set k ts) (if ts.length = 0 then L.set k false else L) (R.set k ts) := by
  have hX : k < X.length := by rw [h.1]; exact hk
  refine ⟨by rw [List.length_set, List.length_set]; exact h.1, by split <;> simp [h.2.1], fun i => ?_⟩
  rw [getD_set R k i ts hk, getD_set X k i ts hX]
  by_cases e : k = i
  · rw [if_pos e, if_pos e]
    by_cases h0 : ts.length = 0
    · rw [if_pos h0, getD_setB, if_pos e]
      exact ⟨fun q => (by cases q), fun _ => List.length_eq_zero_iff.1 h0⟩
    · rw [if_neg h0, ← e, hL]
      exact ⟨fun _ => ⟨rfl, fun q => h0 (by rw [q]; rfl)⟩, fun q => by cases q⟩
  · rw [if_neg e, if_neg e]
    by_cases h0 : ts.length = 0
    · rw [if_pos h0, getD_setB, if_neg e]
      exact h.2.2 i
    · rw [if_neg h0]
      exact h.2.2 i
theorem bestL_run {X R : List (List Tx)} {L : List Bool} (h : Rel X L R) : ∀ (n i : Nat) (k : Int), (k < 0 ∨ L.getD k.toNat false = true) → bestL X L n i k = some (bst R n i k)
  | 0, i, k, _ => rfl
  | n + 1, i, k, hk => by
    rw [bestL, bst]
    cases hL : L.getD i false with
    | false => rw [if_neg (by decide), if_pos ((h.2.2 i).2 hL), bestL_run h n (i + 1) k hk]
    | true =>
      obtain ⟨e1, e2⟩ := (h.2.2 i).1 hL
      rw [if_pos rfl, if_neg e2]
      have hi : ((i : Int) < 0 ∨ L.getD (i : Int).toNat false = true) := .inr (by rw [Int.toNat_natCast]; exact hL)
      by_cases h0 : k < 0
      · rw [if_pos h0, if_pos h0, bestL_run h n (i + 1) i hi]
      · rw [if_neg h0, if_neg h0, btk 5 (Nat.le_refl _), Option.bind_some]
        have hk2 : L.getD k.toNat false = true := hk.resolve_left h0
        have e3 := ((h.2.2 k.toNat).1 hk2).1
        have e4 : headAt X i = headAt R i := by unfold headAt; rw [e1]
        have e5 : headAt X k.toNat = headAt R k.toNat := by unfold headAt; rw [e3]
        rw [e4, e5]
        cases B (headAt R i) (headAt R k.toNat) with
        | true => rw [if_pos rfl, if_pos rfl, bestL_run h n (i + 1) i hi]
        | false => rw [if_neg (by decide), if_neg (by decide), bestL_run h n (i + 1) k hk]
theorem cnt_zero : ∀ (L : List Bool), PlK.cnt L = 0 → ∀ i, L.getD i false = false
  | [], _, i => by simp
  | b :: L, h, i => by
    unfold PlK.cnt at h
    rw [List.filter_cons] at h
    cases b with
    | true => simp at h
    | false =>
      cases i with
      | zero => rfl
      | succ i => rw [List.getD_cons_succ]; exact cnt_zero L h i
theorem all_zero : ∀ (L : List Bool), (∀ i, L.getD i false = false) → PlK.cnt L = 0
  | [], _ => rfl
  | b :: L, h => by
    have hb : b = false := h 0
    have := all_zero L (fun i => by have := h (i + 1); rwa [List.getD_cons_succ] at this)
    unfold PlK.cnt at this ⊢
    rw [hb, List.filter_cons, if_neg (by decide)]
    exact this
theorem tmplL_run : ∀ (m n : Nat) (gas : Int) (X R : List (List Tx)) (L : List Bool) (U : List Tx), Rel X L R → wk R < m → wk R < n → Pos R → 0 ≤ gas → gas ≤ 9223372036854775807 → tmplL m gas X L U = some (U ++ tm n gas R)
  | 0, _, _, _, _, _, _, _, h, _, _, _, _ => absurd h (Nat.not_lt_zero _)
  | m + 1, 0, _, _, _, _, _, _, _, h, _, _, _ => absurd h (Nat.not_lt_zero _)
  | m + 1, n + 1, gas, X, R, L, U, hr, hm, hn, hp, h0, h1 => by
    rw [tmplL]
    by_cases hc : PlK.cnt L = 0
    · rw [if_pos hc, tm_none gas R (fun j => (hr.2.2 j).2 (cnt_zero L hc j)), List.append_nil]
    · rw [if_neg hc, bestL_run hr X.length 0 (-1) (.inl (by omega)), Option.bind_some, hr.1, tm]
      have h := bst_inv R R.length 0 (-1) (.inl ⟨by omega, fun j hj => absurd hj (Nat.not_lt_zero _)⟩)
      rw [Nat.zero_add] at h
      generalize bst R R.length 0 (-1) = r at h ⊢
      rcases h with ⟨_, h2⟩ | ⟨h2, hk, h3, _⟩
      · exfalso
        refine hc (all_zero L (fun i => ?_))
        cases hL : L.getD i false with
        | false => rfl
        | true =>
          have h5 := ((hr.2.2 i).1 hL).2
          exact absurd (h2 i (lt_of_getD h5)) h5
      · rw [if_neg (by omega), if_neg (by omega)]
        obtain ⟨ts, hts⟩ := head_cons h3
        have hL : L.getD r.toNat false = true := by
          cases hL : L.getD r.toNat false with
          | true => rfl
          | false => exact absurd ((hr.2.2 r.toNat).2 hL) h3
        have e1 := ((hr.2.2 r.toNat).1 hL).1
        have e2 : headAt X r.toNat = headAt R r.toNat := by unfold headAt; rw [e1]
        have ht1 : 1 ≤ (headAt R r.toNat).f4 := hp r.toNat _ (by rw [hts]; exact List.mem_cons_self ..)
        unfold takeP
        rw [e2, e1, hts, List.tail_cons]
        by_cases hg : (headAt R r.toNat).f4 > gas
        · rw [if_pos hg, if_pos hg]
          have hw := wk_set R r.toNat [] hk
          rw [hts, List.length_cons, List.length_nil] at hw
          exact tmplL_run m n gas X _ _ U (hr.drop hk) (by omega) (by omega) (hp.set hk (fun x hx => absurd hx List.not_mem_nil)) h0 h1
        · rw [if_neg hg, if_neg hg]
          have hw := wk_set R r.toNat ts hk
          rw [hts, List.length_cons] at hw
          have hwr : wrap64 (gas - (headAt R r.toNat).f4) = gas - (headAt R r.toNat).f4 := by unfold wrap64; omega
          rw [tmplL_run m n (wrap64 (gas - (headAt R r.toNat).f4)) (X.set r.toNat ts) (R.set r.toNat ts) _ (U ++ [headAt R r.toNat]) (hr.take hk hL ts) (by omega) (by omega) (hp.set hk (fun x hx => by rw [hts]; exact List.mem_cons_of_mem _ hx)) (by rw [hwr]; omega) (by rw [hwr]; omega), List.append_assoc, hwr]
          rfl
theorem rel_start (X : List (List Tx)) : Rel X (placedG X) X := by
  have e : ∀ i, (placedG X).getD i false = !(X.getD i []).isEmpty := fun i => by
    unfold placedG
    rw [List.getD_eq_getElem?_getD, List.getElem?_map, List.getD_eq_getElem?_getD]
    cases X[i]? <;> rfl
  refine ⟨rfl, List.length_map .., fun i => ?_⟩
  rw [e]
  cases X.getD i [] with
  | nil => exact ⟨fun q => (by cases q), fun _ => rfl⟩
  | cons a l => exact ⟨fun _ => ⟨rfl, by simp⟩, fun q => by cases q⟩
/-- What a block takes. -/
def tmA (l : List Ac) (gas : Int) : List Tx := if gas < 0 then [] else tm (wk (lns l) + 1) gas (lns l)
theorem template_run (l : List Ac) (gas : Int) (h : FewA l) (hg : gas ≤ 9223372036854775807) : greedy_Template.f l gas = some (tmA l gas) := by
  unfold greedy_Template.f tmA
  by_cases h0 : gas < 0
  · rw [if_pos h0, if_pos h0]
  · obtain ⟨h1, h2⟩ := lns_len l h
    rw [if_neg h0, if_neg h0, if_pos ⟨by have := h.1; omega, List.all_eq_true.2 h.2.2⟩, lines_run l [] (fun a ha => by have := h.2.1 a ha; omega), Option.bind_some]
    show (if wk (lns l) + (lns l).length < 1000000000000 then tmplL (wk (lns l) + (lns l).length + 1) gas (lns l) (placedG (lns l)) [] else none) = _
    rw [if_pos (by omega), tmplL_run _ (wk (lns l) + 1) gas _ _ _ [] (rel_start _) (by omega) (by omega) (lns_pos l) (by omega) hg]
    rfl
end Go.Proofs.Ytahopljippfadaa.GreedyLaws
