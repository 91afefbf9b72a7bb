/- Plain laws on who is taken: the best head that has room, one behind another. -/
import Derived.Test.YtahopljippfadaaGreedyB
import Derived.Test.YtahopljippfadaaDx5
namespace Go.Proofs.Ytahopljippfadaa.GreedyLaws
set_option linter.unusedSimpArgs false
set_option linter.unusedVariables false
open Go.RowKit Go.Proofs.Ytahopljippfadaa.D Go.Proofs.Ytahopljippfadaa.TxnCodec Go.Proofs.Ytahopljippfadaa.TxnLaws Go.Proofs.YtahopljippfadaaW.PrintWords Go.Proofs.YtahopljippfadaaW.PrintLast
/-- The place of the best head; k: the best one so far. -/
def bst (R : List (List Tx)) : Nat → Nat → Int → Int
  | 0, _, k => k
  | n + 1, i, k => if R.getD i [] = [] then bst R n (i + 1) k else if k < 0 then bst R n (i + 1) i else if B (headAt R i) (headAt R k.toNat) = true then bst R n (i + 1) i else bst R n (i + 1) k
def Inv (R : List (List Tx)) (i : Nat) (k : Int) : Prop := (k < 0 ∧ ∀ j, j < i → R.getD j [] = []) ∨ (0 ≤ k ∧ k.toNat < i ∧ R.getD k.toNat [] ≠ [] ∧ ∀ j, j < i → R.getD j [] ≠ [] → B (headAt R j) (headAt R k.toNat) = false)
theorem bst_inv (R : List (List Tx)) : ∀ (n i : Nat) (k : Int), Inv R i k → Inv R (i + n) (bst R n i k)
  | 0, i, k, h => h
  | n + 1, i, k, h => by
    rw [bst]
    have next : ∀ k' : Int, Inv R (i + 1) k' → Inv R (i + (n + 1)) (bst R n (i + 1) k') := fun k' h' => by
      have := bst_inv R n (i + 1) k' h'
      rwa [show i + 1 + n = i + (n + 1) by omega] at this
    by_cases h0 : R.getD i [] = []
    · rw [if_pos h0]
      refine next k ?_
      rcases h with ⟨h1, h2⟩ | ⟨h1, h2, h3, h4⟩
      · exact .inl ⟨h1, fun j hj => by
          by_cases e : j = i
          · rw [e]; exact h0
          · exact h2 j (by omega)⟩
      · exact .inr ⟨h1, by omega, h3, fun j hj hn => by
          by_cases e : j = i
          · rw [e] at hn; exact absurd h0 hn
          · exact h4 j (by omega) hn⟩
    · rw [if_neg h0]
      rcases h with ⟨h1, h2⟩ | ⟨h1, h2, h3, h4⟩
      · rw [if_pos h1]
        refine next i (.inr ⟨by omega, by omega, by rw [Int.toNat_natCast]; exact h0, fun j hj hn => ?_⟩)
        by_cases e : j = i
        · rw [e, Int.toNat_natCast]; exact irr _
        · exact absurd (h2 j (by omega)) hn
      · rw [if_neg (by omega)]
        by_cases hb : B (headAt R i) (headAt R k.toNat) = true
        · rw [if_pos hb]
          refine next i (.inr ⟨by omega, by omega, by rw [Int.toNat_natCast]; exact h0, fun j hj hn => ?_⟩)
          rw [Int.toNat_natCast]
          by_cases e : j = i
          · rw [e]; exact irr _
          · exact ntr _ _ _ (h4 j (by omega) hn) (asym _ _ hb)
        · rw [if_neg hb]
          refine next k (.inr ⟨h1, by omega, h3, fun j hj hn => ?_⟩)
          by_cases e : j = i
          · rw [e]; exact Bool.eq_false_iff.2 hb
          · exact h4 j (by omega) hn
/-- Who is taken: the best head, if there is room; else its list is left. -/
def tm : Nat → Int → List (List Tx) → List Tx
  | 0, _, _ => []
  | n + 1, gas, R => if bst R R.length 0 (-1) < 0 then [] else if (headAt R (bst R R.length 0 (-1)).toNat).f4 > gas then tm n gas (R.set (bst R R.length 0 (-1)).toNat []) else headAt R (bst R R.length 0 (-1)).toNat :: tm n (gas - (headAt R (bst R R.length 0 (-1)).toNat).f4) (R.set (bst R R.length 0 (-1)).toNat (R.getD (bst R R.length 0 (-1)).toNat []).tail)
theorem head_cons {R : List (List Tx)} {k : Nat} (h : R.getD k [] ≠ []) : ∃ ts, R.getD k [] = headAt R k :: ts := by
  unfold headAt
  cases e : R.getD k [] with
  | nil => exact absurd e h
  | cons t ts => exact ⟨ts, rfl⟩
theorem lt_of_getD {R : List (List Tx)} {k : Nat} (h : R.getD k [] ≠ []) : k < R.length := by
  rcases Nat.lt_or_ge k R.length with q | q
  · exact q
  · rw [List.getD_eq_getElem?_getD, List.getElem?_eq_none q] at h
    exact absurd rfl h
/-- What a round of the taking is. -/
theorem tm_cases (n : Nat) (gas : Int) (R : List (List Tx)) : ((∀ j, R.getD j [] = []) ∧ tm (n + 1) gas R = []) ∨
    ∃ k t ts, k < R.length ∧ R.getD k [] = t :: ts ∧ (∀ j, R.getD j [] ≠ [] → B (headAt R j) t = false) ∧ ((t.f4 > gas ∧ tm (n + 1) gas R = tm n gas (R.set k [])) ∨ (t.f4 ≤ gas ∧ tm (n + 1) gas R = t :: tm n (gas - t.f4) (R.set k ts))) := by
  have h := bst_inv R R.length 0 (-1) (.inl ⟨by omega, fun j hj => absurd hj (Nat.not_lt_zero _)⟩)
  rw [Nat.zero_add] at h
  rw [tm]
  generalize bst R R.length 0 (-1) = r at h ⊢
  rcases h with ⟨h1, h2⟩ | ⟨h1, h2, h3, h4⟩
  · refine .inl ⟨fun j => ?_, if_pos h1⟩
    rcases Nat.lt_or_ge j R.length with q | q
    · exact h2 j q
    · rw [List.getD_eq_getElem?_getD, List.getElem?_eq_none q]; rfl
  · obtain ⟨ts, hts⟩ := head_cons h3
    refine .inr ⟨r.toNat, headAt R r.toNat, ts, h2, hts, fun j hn => h4 j (lt_of_getD hn) hn, ?_⟩
    rw [if_neg (by omega)]
    by_cases hg : (headAt R r.toNat).f4 > gas
    · exact .inl ⟨hg, if_pos hg⟩
    · refine .inr ⟨by omega, ?_⟩
      rw [if_neg hg, hts]
      rfl
theorem getD_set (R : List (List Tx)) (k j : Nat) (v : List Tx) (hk : k < R.length) : (R.set k v).getD j [] = if k = j then v else R.getD j [] := by
  rw [List.getD_eq_getElem?_getD, List.getElem?_set, List.getD_eq_getElem?_getD]
  split
  · rfl
  · rfl
def wk (R : List (List Tx)) : Nat := (R.map List.length).sum
theorem wk_set : ∀ (R : List (List Tx)) (k : Nat) (v : List Tx), k < R.length → wk (R.set k v) + (R.getD k []).length = wk R + v.length
  | [], k, v, h => absurd h (Nat.not_lt_zero _)
  | l :: R, 0, v, _ => by simp [wk]; omega
  | l :: R, k + 1, v, h => by
    have := wk_set R k v (by simpa using h)
    simp only [wk, List.set_cons_succ, List.map_cons, List.sum_cons, List.getD_cons_succ] at this ⊢
    omega
theorem wk_zero {R : List (List Tx)} (h : wk R = 0) (j : Nat) : R.getD j [] = [] := by
  induction R generalizing j with
  | nil => simp
  | cons l R ih =>
    simp only [wk, List.map_cons, List.sum_cons] at h
    cases j with
    | zero =>
      rw [List.getD_cons_zero]
      exact List.length_eq_zero_iff.1 (by omega)
    | succ j => rw [List.getD_cons_succ]; exact ih (by unfold wk; omega) j
theorem getD_len_le {R : List (List Tx)} (j : Nat) : (R.getD j []).length ≤ wk R := by
  rcases Nat.lt_or_ge j R.length with q | q
  · have := wk_set R j [] q
    rw [List.length_nil] at this
    omega
  · rw [List.getD_eq_getElem?_getD, List.getElem?_eq_none q]; simp
/-- Each gas is at least 1. -/
def Pos (R : List (List Tx)) : Prop := ∀ j x, x ∈ R.getD j [] → 1 ≤ x.f4
theorem Pos.set {R : List (List Tx)} {k : Nat} {v : List Tx} (h : Pos R) (hk : k < R.length) (hv : ∀ x ∈ v, x ∈ R.getD k []) : Pos (R.set k v) := fun j x hx => by
  rw [getD_set R k j v hk] at hx
  split at hx
  · exact h k x (hv x hx)
  · exact h j x hx
theorem tm_none (gas : Int) (R : List (List Tx)) (h : ∀ j, R.getD j [] = []) : ∀ n, tm n gas R = []
  | 0 => rfl
  | n + 1 => by
    rcases tm_cases n gas R with ⟨_, e⟩ | ⟨k, t, ts, _, e, _⟩
    · exact e
    · rw [h k] at e; cases e
/-- The first one that is taken. -/
theorem tm_first : ∀ (n : Nat) (gas : Int) (R : List (List Tx)), wk R < n → (tm n gas R = [] ∧ ∀ j, R.getD j [] ≠ [] → (headAt R j).f4 > gas) ∨
    ∃ t r, tm n gas R = t :: r ∧ t.f4 ≤ gas ∧ (∃ j, R.getD j [] ≠ [] ∧ headAt R j = t) ∧ ∀ j, R.getD j [] ≠ [] → (headAt R j).f4 ≤ gas → B (headAt R j) t = false
  | 0, _, _, h => absurd h (Nat.not_lt_zero _)
  | n + 1, gas, R, h => by
    rcases tm_cases n gas R with ⟨h1, e⟩ | ⟨k, t, ts, hk, hr, hb, hc⟩
    · exact .inl ⟨e, fun j hn => absurd (h1 j) hn⟩
    · have ht : headAt R k = t := by unfold headAt; rw [hr]; rfl
      rcases hc with ⟨hg, e⟩ | ⟨hg, e⟩
      · have hw := wk_set R k [] hk
        rw [hr, List.length_cons, List.length_nil] at hw
        have same_ : ∀ j, j ≠ k → (R.set k []).getD j [] = R.getD j [] ∧ headAt (R.set k []) j = headAt R j := fun j hj => by
          have := getD_set R k j [] hk
          rw [if_neg (fun q => hj q.symm)] at this
          exact ⟨this, by unfold headAt; rw [this]⟩
        have gone : (R.set k []).getD k [] = [] := by rw [getD_set R k k [] hk, if_pos rfl]
        rw [e]
        rcases tm_first n gas (R.set k []) (by omega) with ⟨e1, h2⟩ | ⟨u, r, e1, hu, ⟨j0, hj0, hj1⟩, h2⟩
        · refine .inl ⟨e1, fun j hn => ?_⟩
          by_cases q : j = k
          · rw [q, ht]; exact hg
          · rw [← (same_ j q).2]; exact h2 j (by rw [(same_ j q).1]; exact hn)
        · have q0 : j0 ≠ k := fun q => hj0 (by rw [q]; exact gone)
          refine .inr ⟨u, r, e1, hu, ⟨j0, by rw [← (same_ j0 q0).1]; exact hj0, by rw [← (same_ j0 q0).2]; exact hj1⟩, fun j hn hf => ?_⟩
          by_cases q : j = k
          · rw [q, ht] at hf; omega
          · rw [← (same_ j q).2] at hf ⊢
            exact h2 j (by rw [(same_ j q).1]; exact hn) hf
      · exact .inr ⟨t, _, e, hg, ⟨k, by rw [hr]; simp, ht⟩, fun j hn _ => hb j hn⟩
/-- Each one has room, one behind another. -/
def Fits : Int → List Tx → Prop
  | _, [] => True
  | gas, x :: r => 1 ≤ x.f4 ∧ x.f4 ≤ gas ∧ Fits (gas - x.f4) r
theorem tm_fits : ∀ (n : Nat) (gas : Int) (R : List (List Tx)), Pos R → Fits gas (tm n gas R)
  | 0, _, _, _ => trivial
  | n + 1, gas, R, h => by
    rcases tm_cases n gas R with ⟨_, e⟩ | ⟨k, t, ts, hk, hr, _, hc⟩
    · rw [e]; trivial
    · rcases hc with ⟨_, e⟩ | ⟨hg, e⟩
      · rw [e]; exact tm_fits n gas _ (h.set hk (fun x hx => absurd hx List.not_mem_nil))
      · rw [e]
        exact ⟨h k t (by rw [hr]; exact List.mem_cons_self ..), hg, tm_fits n _ _ (h.set hk (fun x hx => by rw [hr]; exact List.mem_cons_of_mem _ hx))⟩
def sum4 (l : List Tx) : Int := (l.map fun x => x.f4).sum
theorem sum4_cons (x : Tx) (l : List Tx) : sum4 (x :: l) = x.f4 + sum4 l := by simp [sum4]
theorem fits_sum : ∀ (gas : Int) (l : List Tx), 0 ≤ gas → Fits gas l → 0 ≤ sum4 l ∧ sum4 l ≤ gas
  | gas, [], h, _ => by simp [sum4]; omega
  | gas, x :: l, h, hf => by
    rw [sum4_cons]
    have := fits_sum (gas - x.f4) l (by have := hf.2.1; omega) hf.2.2
    have := hf.1
    have := hf.2.1
    omega
theorem tm_mem : ∀ (n : Nat) (gas : Int) (R : List (List Tx)) (x : Tx), x ∈ tm n gas R → ∃ j, x ∈ R.getD j []
  | 0, _, _, _, h => absurd h List.not_mem_nil
  | n + 1, gas, R, x, h => by
    rcases tm_cases n gas R with ⟨_, e⟩ | ⟨k, t, ts, hk, hr, _, hc⟩
    · rw [e] at h; exact absurd h List.not_mem_nil
    · have back : ∀ v : List Tx, (∀ y ∈ v, y ∈ R.getD k []) → (∃ j, x ∈ (R.set k v).getD j []) → ∃ j, x ∈ R.getD j [] := fun v hv ⟨j, hj⟩ => by
        rw [getD_set R k j v hk] at hj
        split at hj
        · exact ⟨k, hv x hj⟩
        · exact ⟨j, hj⟩
      rcases hc with ⟨_, e⟩ | ⟨hg, e⟩
      · rw [e] at h
        exact back [] (fun y hy => absurd hy List.not_mem_nil) (tm_mem n gas _ x h)
      · rw [e] at h
        rcases List.mem_cons.1 h with q | q
        · exact ⟨k, by rw [q, hr]; exact List.mem_cons_self ..⟩
        · exact back ts (fun y hy => by rw [hr]; exact List.mem_cons_of_mem _ hy) (tm_mem n _ _ x q)
theorem tm_len : ∀ (n : Nat) (gas : Int) (R : List (List Tx)), (tm n gas R).length ≤ wk R
  | 0, _, _ => Nat.zero_le _
  | n + 1, gas, R => by
    rcases tm_cases n gas R with ⟨_, e⟩ | ⟨k, t, ts, hk, hr, _, hc⟩
    · rw [e]; exact Nat.zero_le _
    · rcases hc with ⟨_, e⟩ | ⟨hg, e⟩
      · have hw := wk_set R k [] hk
        rw [hr, List.length_cons, List.length_nil] at hw
        have := tm_len n gas (R.set k [])
        rw [e]
        omega
      · have hw := wk_set R k ts hk
        rw [hr, List.length_cons] at hw
        have := tm_len n (gas - t.f4) (R.set k ts)
        rw [e, List.length_cons]
        omega
/-- The lists are of senders of their own. -/
def Own (σ : Nat → Int) (R : List (List Tx)) : Prop := (∀ k x, x ∈ R.getD k [] → x.f0 = σ k) ∧ ∀ j k, j < R.length → k < R.length → σ j = σ k → j = k
theorem Own.set {σ : Nat → Int} {R : List (List Tx)} {k : Nat} {v : List Tx} (h : Own σ R) (hk : k < R.length) (hv : ∀ x ∈ v, x ∈ R.getD k []) : Own σ (R.set k v) := by
  refine ⟨fun j x hx => ?_, fun i j hi hj => ?_⟩
  · rw [getD_set R k j v hk] at hx
    split at hx
    · rename_i e; rw [← e]; exact h.1 k x (hv x hx)
    · exact h.1 j x hx
  · rw [List.length_set] at hi hj
    exact h.2 i j hi hj
/-- What is taken of a sender's, and what is left of it. -/
theorem tm_split (σ : Nat → Int) : ∀ (n : Nat) (gas : Int) (R : List (List Tx)), wk R < n → 0 ≤ gas → Pos R → Own σ R → ∀ k, k < R.length → ∃ rest, (tm n gas R).filter (fun x => x.f0 == σ k) ++ rest = R.getD k [] ∧ ∀ x, rest.head? = some x → x.f4 > gas - sum4 (tm n gas R)
  | 0, _, _, h, _, _, _ => absurd h (Nat.not_lt_zero _)
  | n + 1, gas, R, h, h0, hp, ho => fun k hkR => by
    rcases tm_cases n gas R with ⟨h1, e⟩ | ⟨k0, t, ts, hk, hr, _, hc⟩
    · rw [e, h1 k]
      exact ⟨[], rfl, fun x hx => by cases hx⟩
    · rcases hc with ⟨hg, e⟩ | ⟨hg, e⟩
      · have hw := wk_set R k0 [] hk
        rw [hr, List.length_cons, List.length_nil] at hw
        have hp2 := hp.set (k := k0) (v := []) hk (fun x hx => absurd hx List.not_mem_nil)
        obtain ⟨rest, r1, r2⟩ := tm_split σ n gas (R.set k0 []) (by omega) h0 hp2 (ho.set hk (fun x hx => absurd hx List.not_mem_nil)) k (by rw [List.length_set]; exact hkR)
        rw [e]
        rw [getD_set R k0 k [] hk] at r1
        by_cases q : k0 = k
        · rw [if_pos q] at r1
          obtain ⟨q1, q2⟩ := List.append_eq_nil_iff.1 r1
          refine ⟨R.getD k [], by rw [q1]; rfl, fun x hx => ?_⟩
          rw [← q, hr] at hx
          obtain rfl := Option.some.inj hx
          have := (fits_sum gas _ h0 (tm_fits n gas (R.set k0 []) hp2)).1
          omega
        · rw [if_neg q] at r1
          exact ⟨rest, r1, r2⟩
      · have hw := wk_set R k0 ts hk
        rw [hr, List.length_cons] at hw
        have hsub : ∀ x ∈ ts, x ∈ R.getD k0 [] := fun x hx => by rw [hr]; exact List.mem_cons_of_mem _ hx
        have ht0 : t.f0 = σ k0 := ho.1 k0 t (by rw [hr]; exact List.mem_cons_self ..)
        obtain ⟨rest, r1, r2⟩ := tm_split σ n (gas - t.f4) (R.set k0 ts) (by omega) (by omega) (hp.set hk hsub) (ho.set hk hsub) k (by rw [List.length_set]; exact hkR)
        rw [e]
        rw [getD_set R k0 k ts hk] at r1
        refine ⟨rest, ?_, fun x hx => by rw [sum4_cons]; have := r2 x hx; omega⟩
        by_cases q : k0 = k
        · rw [if_pos q] at r1
          rw [List.filter_cons, if_pos (by rw [ht0, q]; exact beq_self_eq_true _), List.cons_append, r1, ← q, hr]
        · rw [if_neg q] at r1
          rw [List.filter_cons, if_neg (by rw [ht0]; intro e2; exact q (ho.2 k0 k hk hkR (eq_of_beq e2))), r1]
/-- All gas there is. -/
def total (R : List (List Tx)) : Int := (R.map sum4).sum
theorem total_set : ∀ (R : List (List Tx)) (k : Nat) (v : List Tx), k < R.length → total (R.set k v) + sum4 (R.getD k []) = total R + sum4 v
  | [], k, v, h => absurd h (Nat.not_lt_zero _)
  | l :: R, 0, v, _ => by simp [total]; omega
  | l :: R, k + 1, v, h => by
    have := total_set R k v (by simpa using h)
    simp only [total, List.set_cons_succ, List.map_cons, List.sum_cons, List.getD_cons_succ] at this ⊢
    omega
theorem sum4_pos : ∀ l : List Tx, (∀ x ∈ l, 1 ≤ x.f4) → 0 ≤ sum4 l
  | [], _ => by simp [sum4]
  | x :: l, h => by
    rw [sum4_cons]
    have := sum4_pos l (fun y hy => h y (List.mem_cons_of_mem _ hy))
    have := h x (List.mem_cons_self ..)
    omega
theorem total_ge : ∀ (R : List (List Tx)), Pos R → 0 ≤ total R ∧ ∀ k, sum4 (R.getD k []) ≤ total R
  | [], _ => ⟨by simp [total], fun k => by simp [total, sum4]⟩
  | l :: R, h => by
    have hp : Pos R := fun j x hx => h (j + 1) x (by rw [List.getD_cons_succ]; exact hx)
    obtain ⟨h1, h2⟩ := total_ge R hp
    have h3 := sum4_pos l (fun x hx => h 0 x (by simpa using hx))
    have e : total (l :: R) = sum4 l + total R := by simp [total]
    refine ⟨by omega, fun k => ?_⟩
    cases k with
    | zero => rw [e, List.getD_cons_zero]; omega
    | succ k => rw [e, List.getD_cons_succ]; have := h2 k; omega
/-- Who stands next to another sender's is no better than it. -/
def Ord : List Tx → Prop
  | [] => True
  | [_] => True
  | x :: y :: r => (x.f0 ≠ y.f0 → B y x = false) ∧ Ord (y :: r)
theorem tm_all (σ : Nat → Int) : ∀ (n : Nat) (gas : Int) (R : List (List Tx)), wk R < n → total R ≤ gas → Pos R → (∀ k x, x ∈ R.getD k [] → x.f0 = σ k) → (tm n gas R).length = wk R ∧ Ord (tm n gas R)
  | 0, _, _, h, _, _, _ => absurd h (Nat.not_lt_zero _)
  | n + 1, gas, R, h, h0, hp, ho => by
    rcases tm_cases n gas R with ⟨h1, e⟩ | ⟨k0, t, ts, hk, hr, hb, hc⟩
    · rw [e]
      refine ⟨?_, trivial⟩
      rw [List.length_nil]
      clear h hp ho e h0
      induction R with
      | nil => rfl
      | cons l R ih =>
        have hl : l = [] := by simpa using h1 0
        have := ih (fun j => by have := h1 (j + 1); rwa [List.getD_cons_succ] at this)
        simp only [wk, List.map_cons, List.sum_cons] at this ⊢
        rw [hl, List.length_nil]
        omega
    · have hts := total_set R k0 ts hk
      rw [hr, sum4_cons] at hts
      have hsub : ∀ x ∈ ts, x ∈ R.getD k0 [] := fun x hx => by rw [hr]; exact List.mem_cons_of_mem _ hx
      have hp2 := hp.set hk hsub
      rcases hc with ⟨hg, e⟩ | ⟨hg, e⟩
      · have h2 := (total_ge R hp).2 k0
        rw [hr, sum4_cons] at h2
        have := sum4_pos ts (fun x hx => hp k0 x (hsub x hx))
        omega
      · have hw := wk_set R k0 ts hk
        rw [hr, List.length_cons] at hw
        have ho2 : ∀ k x, x ∈ (R.set k0 ts).getD k [] → x.f0 = σ k := fun k x hx => by
          rw [getD_set R k0 k ts hk] at hx
          split at hx
          · rename_i q; rw [← q]; exact ho k0 x (hsub x hx)
          · exact ho k x hx
        obtain ⟨i1, i2⟩ := tm_all σ n (gas - t.f4) (R.set k0 ts) (by omega) (by omega) hp2 ho2
        rw [e]
        refine ⟨by rw [List.length_cons, i1]; omega, ?_⟩
        rcases tm_first n (gas - t.f4) (R.set k0 ts) (by omega) with ⟨e1, _⟩ | ⟨y, r, e1, _, ⟨j, hj, hy⟩, _⟩
        · rw [e1]; trivial
        · rw [e1] at i2 ⊢
          refine ⟨fun hne => ?_, i2⟩
          by_cases q : k0 = j
          · exfalso
            obtain ⟨tt, htt⟩ := head_cons hj
            have hyj : y ∈ (R.set k0 ts).getD j [] := by rw [htt, hy]; exact List.mem_cons_self ..
            have hy0 := ho2 j y hyj
            have ht0 := ho k0 t (by rw [hr]; exact List.mem_cons_self ..)
            exact hne (by rw [hy0, ht0, q])
          · have e2 : (R.set k0 ts).getD j [] = R.getD j [] := by rw [getD_set R k0 j ts hk, if_neg q]
            have hy2 : headAt R j = y := by
              rw [← hy]
              unfold headAt
              rw [e2]
            rw [← hy2]
            exact hb j (by rw [← e2]; exact hj)
end Go.Proofs.Ytahopljippfadaa.GreedyLaws
