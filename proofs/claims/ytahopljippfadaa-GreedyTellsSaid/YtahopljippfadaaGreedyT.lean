/- Plain laws of this layer, and the document's answers, as one. -/
import Derived.Test.YtahopljippfadaaRow
import Derived.Test.YtahopljippfadaaGreedyB
import Derived.Test.YtahopljippfadaaDx3
import Derived.Test.YtahopljippfadaaDx12
import Derived.Test.YtahopljippfadaaDx2
import Derived.Test.YtahopljippfadaaDx2
import Derived.Test.YtahopljippfadaaDx10
import Derived.Test.YtahopljippfadaaDx3
import Derived.Test.YtahopljippfadaaDx4
import Derived.Test.YtahopljippfadaaDx8
import Derived.Test.YtahopljippfadaaDx9
import Derived.Test.YtahopljippfadaaDx2
import Derived.Test.YtahopljippfadaaDx5
import Derived.Tactics
import Derived.Test.YtahopljippfadaaDx11
import Derived.Test.YtahopljippfadaaDx11
import Derived.Test.YtahopljippfadaaDx12
import Derived.Test.YtahopljippfadaaDx13
import Derived.Test.YtahopljippfadaaDx13
import Derived.Test.YtahopljippfadaaDx15
import Derived.Test.YtahopljippfadaaDx16
import Derived.Test.YtahopljippfadaaDx16
import Derived.Test.YtahopljippfadaaDx17
namespace Go.Proofs.Ytahopljippfadaa.GreedyLaws
set_option linter.unusedSimpArgs false
set_option linter.unusedVariables false
open Go.RowKit Go.Proofs.Ytahopljippfadaa.D Go.Proofs.Ytahopljippfadaa.TxnCodec Go.Proofs.Ytahopljippfadaa.TxnLaws Go.Proofs.YtahopljippfadaaW.PrintWords Go.Proofs.YtahopljippfadaaW.PrintLast
abbrev Ac := S35
/-- May a transaction be? -/
def ChkT (x : Tx) : Prop := Chk x.f0 x.f1 x.f2 x.f3 x.f4 x.f5
instance (x : Tx) : Decidable (ChkT x) := inferInstanceAs (Decidable (Chk _ _ _ _ _ _))
theorem check_t (x : Tx) : txn_Check.f x.f0 x.f1 x.f2 x.f3 x.f4 x.f5 = some (decide (ChkT x)) := check _ _ _ _ _ _
theorem rd_at (l : List Tx) (i : Nat) (h : i < l.length) : rd_T38 l (i : Int) = l[i] := by
  show l.getD i d = _
  rw [List.getD_eq_getElem?_getD, List.getElem?_eq_getElem h, Option.getD_some]
theorem eta (x : Tx) : (⟨x.f0, x.f1, x.f2, x.f3, x.f4, x.f5⟩ : Tx) = x := rfl
def rdy (b : Int) : List Tx → Nat → List Tx
  | [], _ => []
  | x :: r, i => if x.f1 < b then [] else if wrap64 (x.f1 - b) = (i : Int) then x :: rdy b r (i + 1) else []
theorem rdy_len (b : Int) : ∀ (l : List Tx) (i : Nat), (rdy b l i).length ≤ l.length
  | [], _ => Nat.le_refl _
  | x :: r, i => by
    rw [rdy]
    split
    · simp
    · split
      · simp [rdy_len b r (i + 1)]
      · simp
theorem ready_from (k : Nat) (b s b' : Int) (l0 : List Tx) : ∀ (m i : Nat) (a l : List Tx), m = l.length - i → i ≤ l.length → l.length ≤ 1000 → a.length + m ≤ 2000 → queue_Ready.l0 (k + m + 1) a l (l.length : Int) (i : Int) s b l0 = some (a ++ rdy b (l.drop i) i)
  | 0, i, a, l, hm, hi, hl, _ => by
    unfold queue_Ready.l0
    rw [if_neg (by omega), List.drop_eq_nil_of_le (by omega), rdy, List.append_nil]
  | m + 1, i, a, l, hm, hi, hl, ha => by
    have hlt : i < l.length := by omega
    unfold queue_Ready.l0
    rw [if_pos (by omega), if_pos (by omega), if_pos (by omega), step_ i (by omega), rd_at l i hlt, List.drop_eq_getElem_cons hlt, rdy, show k + (m + 1) = k + m + 1 from rfl, eta]
    by_cases h : l[i].f1 < b
    · rw [if_pos h, if_pos h, List.append_nil]
    · by_cases h2 : wrap64 (l[i].f1 - b) = (i : Int)
      · rw [if_neg h, if_neg h, if_pos h2, if_pos h2, if_pos (by omega), ready_from k b s b' l0 m (i + 1) (a ++ [l[i]]) l (by omega) (by omega) hl (by rw [List.length_append, List.length_singleton]; omega), List.append_assoc, List.singleton_append]
      · rw [if_neg h, if_neg h, if_neg h2, if_neg h2, List.append_nil]
theorem ready_eq (k : Nat) (s b : Int) (l : List Tx) (h : l.length ≤ 1000) (hk : l.length + 1 ≤ k) : queue_Ready.f k s b l = some (rdy b l 0) := by
  have := ready_from (k - (l.length + 1)) b s b l l.length 0 [] l (by omega) (by omega) h (by simp; omega)
  rw [show k - (l.length + 1) + l.length + 1 = k by omega] at this
  unfold queue_Ready.f
  simpa using this
def Asc (s : Int) : Int → List Tx → Prop
  | _, [] => True
  | n, x :: r => ChkT x ∧ x.f0 = s ∧ n ≤ x.f1 ∧ Asc s (x.f1 + 1) r
instance decAsc (s : Int) : ∀ (n : Int) (l : List Tx), Decidable (Asc s n l)
  | _, [] => inferInstanceAs (Decidable True)
  | n, x :: r => by
    have := decAsc s (x.f1 + 1) r
    exact inferInstanceAs (Decidable (ChkT x ∧ x.f0 = s ∧ n ≤ x.f1 ∧ Asc s (x.f1 + 1) r))
theorem chk_nonce (x : Tx) (h : ChkT x) : 0 ≤ x.f1 ∧ x.f1 ≤ 4294967295 := by
  unfold ChkT Chk at h
  omega
theorem wnext (n : Int) (h : 0 ≤ n ∧ n ≤ 4294967295) : wrap64 (n + 1) = n + 1 := by unfold wrap64; omega
def May (s b : Int) (l : List Tx) (per : Int) : Prop := 0 ≤ s ∧ s ≤ 255 ∧ 0 ≤ b ∧ b ≤ 4294967295 ∧ 1 ≤ per ∧ per ≤ 16 ∧ (l.length : Int) ≤ per ∧ Asc s b l
instance (s b : Int) (l : List Tx) (per : Int) : Decidable (May s b l per) := inferInstanceAs (Decidable (_ ∧ _ ∧ _ ∧ _ ∧ _ ∧ _ ∧ _ ∧ _))
theorem rcheck_t (x : Tx) : hopperref04_Check.f x.f0 x.f1 x.f2 x.f3 x.f4 x.f5 = some (decide (ChkT x)) := ref_check _ _ _ _ _ _
theorem rready_from (k : Nat) (b s : Int) : ∀ (m i : Nat) (a l : List Tx), m = l.length - i → i ≤ l.length → l.length ≤ 1000 → a.length + m ≤ 2000 → hopperref05_Ready.l0 (k + m + 1) a (i : Int) s b l = some (a ++ rdy b (l.drop i) i)
  | 0, i, a, l, hm, hi, hl, _ => by
    unfold hopperref05_Ready.l0
    rw [if_neg (by omega), List.drop_eq_nil_of_le (by omega), rdy, List.append_nil]
  | m + 1, i, a, l, hm, hi, hl, ha => by
    have hlt : i < l.length := by omega
    unfold hopperref05_Ready.l0
    rw [if_pos (by omega), if_pos (by omega), step_ i (by omega), rd_at l i hlt, List.drop_eq_getElem_cons hlt, rdy, show k + (m + 1) = k + m + 1 from rfl, eta]
    by_cases h : l[i].f1 < b
    · rw [if_pos h, if_pos h, List.append_nil]
    · by_cases h2 : wrap64 (l[i].f1 - b) = (i : Int)
      · rw [if_neg h, if_neg h, if_pos h2, if_pos h2, if_pos (by omega), rready_from k b s m (i + 1) (a ++ [l[i]]) l (by omega) (by omega) hl (by rw [List.length_append, List.length_singleton]; omega), List.append_assoc, List.singleton_append]
      · rw [if_neg h, if_neg h, if_neg h2, if_neg h2, List.append_nil]
theorem rready_eq (k : Nat) (s b : Int) (l : List Tx) (h : l.length ≤ 1000) (hk : l.length + 1 ≤ k) : hopperref05_Ready.f k s b l = some (rdy b l 0) := by
  have := rready_from (k - (l.length + 1)) b s l.length 0 [] l (by omega) (by omega) h (by simp; omega)
  rw [show k - (l.length + 1) + l.length + 1 = k by omega] at this
  unfold hopperref05_Ready.f
  simpa using this
theorem few04_from (k : Nat) (m : Int) : ∀ (n i : Nat) (l : List Tx), n = l.length - i → i ≤ l.length → l.length ≤ 9223372036854775807 → ∃ b, hopperref04_Few.l0 (k + n + 1) l m (i : Int) = some b ∧ (b = true → (l.length : Int) ≤ m)
  | 0, i, l, hn, hi, hl => by
    obtain rfl : i = l.length := by omega
    unfold hopperref04_Few.l0
    rw [if_neg (by omega)]
    exact ⟨_, rfl, fun h => by simpa using h⟩
  | n + 1, i, l, hn, hi, hl => by
    obtain ⟨b, h1, h2⟩ := few04_from k m n (i + 1) l (by omega) (by omega) hl
    unfold hopperref04_Few.l0
    rw [if_pos (by omega), if_pos (by omega), step_ i (by omega), show k + (n + 1) = k + n + 1 from rfl, h1]
    unfold hopperref04_Small.f
    rw [Option.bind_some]
    split
    · exact ⟨b, rfl, h2⟩
    · exact ⟨false, rfl, fun h => by cases h⟩
theorem few04_eq (k : Nat) (m : Int) (l : List Tx) (h : l.length ≤ 9223372036854775807) (hk : l.length + 1 ≤ k) : ∃ b, hopperref04_Few.f k l m = some b ∧ (b = true → (l.length : Int) ≤ m) := by
  obtain ⟨b, h1, h2⟩ := few04_from (k - (l.length + 1)) m l.length 0 l (by omega) (by omega) h
  rw [show k - (l.length + 1) + l.length + 1 = k by omega] at h1
  exact ⟨b, h1, h2⟩
/-- How many rounds accounts want. -/
def most (l : List Ac) : Nat := l.foldr (fun x n => max x.f2.length n) 0
theorem most_le : ∀ (l : List Ac) (x : Ac), x ∈ l → x.f2.length ≤ most l
  | y :: l, x, h => by
    rcases List.mem_cons.1 h with rfl | h
    · exact Nat.le_max_left _ _
    · exact Nat.le_trans (most_le l x h) (Nat.le_max_right _ _)
theorem getD_mem (l : List Ac) (i : Nat) (h : i < l.length) : rd_T35 l (i : Int) ∈ l := by
  unfold rd_T35
  rw [Int.toNat_natCast, List.getD_eq_getElem?_getD, List.getElem?_eq_getElem h]
  exact List.getElem_mem ..
theorem rd_eq (l : List Ac) (i : Nat) (h : i < l.length) : rd_T35 l (i : Int) = l[i] := by
  unfold rd_T35
  rw [Int.toNat_natCast, List.getD_eq_getElem?_getD, List.getElem?_eq_getElem h]
  rfl
theorem few11_from (k : Nat) (m : Int) (l : List Ac) (hl : l.length ≤ 9223372036854775807) (hx : ∀ x ∈ l, x.f2.length ≤ 9223372036854775807 ∧ x.f2.length + 1 ≤ k) : ∀ (n i : Nat), n = l.length - i → i ≤ l.length → ∃ b, hopperref11_Few.l0 (k + n + 1) l m (i : Int) = some b ∧ (b = true → (l.length : Int) ≤ m ∧ ∀ j, i ≤ j → (h : j < l.length) → l[j].f2.length ≤ 20)
  | 0, i, hn, hi => by
    obtain rfl : i = l.length := by omega
    unfold hopperref11_Few.l0
    rw [if_neg (by omega)]
    exact ⟨_, rfl, fun h => ⟨by simpa using h, fun j h1 h2 => by omega⟩⟩
  | n + 1, i, hn, hi => by
    obtain ⟨b, h1, h2⟩ := few11_from k m l hl hx n (i + 1) (by omega) (by omega)
    have hm := getD_mem l i (by omega)
    obtain ⟨c, h3, h4⟩ := few04_eq (k + n + 1) 20 (rd_T35 l (i : Int)).f2 (hx _ hm).1 (by have := (hx _ hm).2; omega)
    unfold hopperref11_Few.l0
    rw [if_pos (by omega), if_pos (by omega), step_ i (by omega), show k + (n + 1) = k + n + 1 from rfl, h3, Option.bind_some, h1]
    cases c with
    | false => exact ⟨false, by simp, fun h => by cases h⟩
    | true =>
      refine ⟨b, by simp, fun h => ⟨(h2 h).1, fun j j1 j2 => ?_⟩⟩
      by_cases e : j = i
      · subst e
        have := h4 rfl
        rw [rd_eq l j j2] at this
        omega
      · exact (h2 h).2 j (by omega) j2
theorem few11_eq (k : Nat) (m : Int) (l : List Ac) (h : l.length ≤ 9223372036854775807) (hx : ∀ x ∈ l, x.f2.length ≤ 9223372036854775807) (hk : l.length + most l + 2 ≤ k) : ∃ b, hopperref11_Few.f k l m = some b ∧ (b = true → (l.length : Int) ≤ m ∧ ∀ x ∈ l, x.f2.length ≤ 20) := by
  obtain ⟨b, h1, h2⟩ := few11_from (k - (l.length + 1)) m l h (fun x hxl => ⟨hx x hxl, by have := most_le l x hxl; omega⟩) l.length 0 (by omega) (by omega)
  rw [show k - (l.length + 1) + l.length + 1 = k by omega] at h1
  refine ⟨b, h1, fun hb => ⟨(h2 hb).1, fun x hxl => ?_⟩⟩
  obtain ⟨j, hj, rfl⟩ := List.getElem_of_mem hxl
  exact (h2 hb).2 j (Nat.zero_le _) hj
end Go.Proofs.Ytahopljippfadaa.GreedyLaws
namespace Go.Proofs.Ytahopljippfadaa.GreedyLaws
open Go.RowKit Go.Proofs.Ytahopljippfadaa.D Go.Proofs.Ytahopljippfadaa.TxnCodec Go.Proofs.Ytahopljippfadaa.TxnLaws Go.Proofs.YtahopljippfadaaW.PrintWords Go.Proofs.YtahopljippfadaaW.PrintLast
/-- The place of the best head; k: the best one so far. -/
def bst (R : List (List Tx)) : Nat → Nat → Int → Int
  | 0, _, k => k
  | n + 1, i, k => if R.getD i [] = [] then bst R n (i + 1) k else if k < 0 then bst R n (i + 1) i else if B (headAt R i) (headAt R k.toNat) = true then bst R n (i + 1) i else bst R n (i + 1) k
def Inv (R : List (List Tx)) (i : Nat) (k : Int) : Prop := (k < 0 ∧ ∀ j, j < i → R.getD j [] = []) ∨ (0 ≤ k ∧ k.toNat < i ∧ R.getD k.toNat [] ≠ [] ∧ ∀ j, j < i → R.getD j [] ≠ [] → B (headAt R j) (headAt R k.toNat) = false)
theorem bst_inv (R : List (List Tx)) : ∀ (n i : Nat) (k : Int), Inv R i k → Inv R (i + n) (bst R n i k)
  | 0, i, k, h => h
  | n + 1, i, k, h => by
    rw [bst]
    have next : ∀ k' : Int, Inv R (i + 1) k' → Inv R (i + (n + 1)) (bst R n (i + 1) k') := fun k' h' => by
      have := bst_inv R n (i + 1) k' h'
      rwa [show i + 1 + n = i + (n + 1) by omega] at this
    by_cases h0 : R.getD i [] = []
    · rw [if_pos h0]
      refine next k ?_
      rcases h with ⟨h1, h2⟩ | ⟨h1, h2, h3, h4⟩
      · exact .inl ⟨h1, fun j hj => by
          by_cases e : j = i
          · rw [e]; exact h0
          · exact h2 j (by omega)⟩
      · exact .inr ⟨h1, by omega, h3, fun j hj hn => by
          by_cases e : j = i
          · rw [e] at hn; exact absurd h0 hn
          · exact h4 j (by omega) hn⟩
    · rw [if_neg h0]
      rcases h with ⟨h1, h2⟩ | ⟨h1, h2, h3, h4⟩
      · rw [if_pos h1]
        refine next i (.inr ⟨by omega, by omega, by rw [Int.toNat_natCast]; exact h0, fun j hj hn => ?_⟩)
        by_cases e : j = i
        · rw [e, Int.toNat_natCast]; exact irr _
        · exact absurd (h2 j (by omega)) hn
      · rw [if_neg (by omega)]
        by_cases hb : B (headAt R i) (headAt R k.toNat) = true
        · rw [if_pos hb]
          refine next i (.inr ⟨by omega, by omega, by rw [Int.toNat_natCast]; exact h0, fun j hj hn => ?_⟩)
          rw [Int.toNat_natCast]
          by_cases e : j = i
          · rw [e]; exact irr _
          · exact ntr _ _ _ (h4 j (by omega) hn) (asym _ _ hb)
        · rw [if_neg hb]
          refine next k (.inr ⟨h1, by omega, h3, fun j hj hn => ?_⟩)
          by_cases e : j = i
          · rw [e]; exact Bool.eq_false_iff.2 hb
          · exact h4 j (by omega) hn
/-- Who is taken: the best head, if there is room; else its list is left. -/
def tm : Nat → Int → List (List Tx) → List Tx
  | 0, _, _ => []
  | n + 1, gas, R => if bst R R.length 0 (-1) < 0 then [] else if (headAt R (bst R R.length 0 (-1)).toNat).f4 > gas then tm n gas (R.set (bst R R.length 0 (-1)).toNat []) else headAt R (bst R R.length 0 (-1)).toNat :: tm n (gas - (headAt R (bst R R.length 0 (-1)).toNat).f4) (R.set (bst R R.length 0 (-1)).toNat (R.getD (bst R R.length 0 (-1)).toNat []).tail)
theorem head_cons {R : List (List Tx)} {k : Nat} (h : R.getD k [] ≠ []) : ∃ ts, R.getD k [] = headAt R k :: ts := by
  unfold headAt
  cases e : R.getD k [] with
  | nil => exact absurd e h
  | cons t ts => exact ⟨ts, rfl⟩
theorem lt_of_getD {R : List (List Tx)} {k : Nat} (h : R.getD k [] ≠ []) : k < R.length := by
  rcases Nat.lt_or_ge k R.length with q | q
  · exact q
  · rw [List.getD_eq_getElem?_getD, List.getElem?_eq_none q] at h
    exact absurd rfl h
/-- What a round of the taking is. -/
theorem tm_cases (n : Nat) (gas : Int) (R : List (List Tx)) : ((∀ j, R.getD j [] = []) ∧ tm (n + 1) gas R = []) ∨
    ∃ k t ts, k < R.length ∧ R.getD k [] = t :: ts ∧ (∀ j, R.getD j [] ≠ [] → B (headAt R j) t = false) ∧ ((t.f4 > gas ∧ tm (n + 1) gas R = tm n gas (R.set k [])) ∨ (t.f4 ≤ gas ∧ tm (n + 1) gas R = t :: tm n (gas - t.f4) (R.set k ts))) := by
  have h := bst_inv R R.length 0 (-1) (.inl ⟨by omega, fun j hj => absurd hj (Nat.not_lt_zero _)⟩)
  rw [Nat.zero_add] at h
  rw [tm]
  generalize bst R R.length 0 (-1) = r at h ⊢
  rcases h with ⟨h1, h2⟩ | ⟨h1, h2, h3, h4⟩
  · refine .inl ⟨fun j => ?_, if_pos h1⟩
    rcases Nat.lt_or_ge j R.length with q | q
    · exact h2 j q
    · rw [List.getD_eq_getElem?_getD, List.getElem?_eq_none q]; rfl
  · obtain ⟨ts, hts⟩ := head_cons h3
    refine .inr ⟨r.toNat, headAt R r.toNat, ts, h2, hts, fun j hn => h4 j (lt_of_getD hn) hn, ?_⟩
    rw [if_neg (by omega)]
    by_cases hg : (headAt R r.toNat).f4 > gas
    · exact .inl ⟨hg, if_pos hg⟩
    · refine .inr ⟨by omega, ?_⟩
      rw [if_neg hg, hts]
      rfl
theorem getD_set (R : List (List Tx)) (k j : Nat) (v : List Tx) (hk : k < R.length) : (R.set k v).getD j [] = if k = j then v else R.getD j [] := by
  rw [List.getD_eq_getElem?_getD, List.getElem?_set, List.getD_eq_getElem?_getD]
  split
  · rfl
  · rfl
def wk (R : List (List Tx)) : Nat := (R.map List.length).sum
theorem wk_set : ∀ (R : List (List Tx)) (k : Nat) (v : List Tx), k < R.length → wk (R.set k v) + (R.getD k []).length = wk R + v.length
  | [], k, v, h => absurd h (Nat.not_lt_zero _)
  | l :: R, 0, v, _ => by simp [wk]; omega
  | l :: R, k + 1, v, h => by
    have := wk_set R k v (by simpa using h)
    simp only [wk, List.set_cons_succ, List.map_cons, List.sum_cons, List.getD_cons_succ] at this ⊢
    omega
theorem wk_zero {R : List (List Tx)} (h : wk R = 0) (j : Nat) : R.getD j [] = [] := by
  induction R generalizing j with
  | nil => simp
  | cons l R ih =>
    simp only [wk, List.map_cons, List.sum_cons] at h
    cases j with
    | zero =>
      rw [List.getD_cons_zero]
      exact List.length_eq_zero_iff.1 (by omega)
    | succ j => rw [List.getD_cons_succ]; exact ih (by unfold wk; omega) j
theorem getD_len_le {R : List (List Tx)} (j : Nat) : (R.getD j []).length ≤ wk R := by
  rcases Nat.lt_or_ge j R.length with q | q
  · have := wk_set R j [] q
    rw [List.length_nil] at this
    omega
  · rw [List.getD_eq_getElem?_getD, List.getElem?_eq_none q]; simp
/-- Each gas is at least 1. -/
def Pos (R : List (List Tx)) : Prop := ∀ j x, x ∈ R.getD j [] → 1 ≤ x.f4
theorem Pos.set {R : List (List Tx)} {k : Nat} {v : List Tx} (h : Pos R) (hk : k < R.length) (hv : ∀ x ∈ v, x ∈ R.getD k []) : Pos (R.set k v) := fun j x hx => by
  rw [getD_set R k j v hk] at hx
  split at hx
  · exact h k x (hv x hx)
  · exact h j x hx
theorem tm_none (gas : Int) (R : List (List Tx)) (h : ∀ j, R.getD j [] = []) : ∀ n, tm n gas R = []
  | 0 => rfl
  | n + 1 => by
    rcases tm_cases n gas R with ⟨_, e⟩ | ⟨k, t, ts, _, e, _⟩
    · exact e
    · rw [h k] at e; cases e
/-- The first one that is taken. -/
theorem tm_first : ∀ (n : Nat) (gas : Int) (R : List (List Tx)), wk R < n → (tm n gas R = [] ∧ ∀ j, R.getD j [] ≠ [] → (headAt R j).f4 > gas) ∨
    ∃ t r, tm n gas R = t :: r ∧ t.f4 ≤ gas ∧ (∃ j, R.getD j [] ≠ [] ∧ headAt R j = t) ∧ ∀ j, R.getD j [] ≠ [] → (headAt R j).f4 ≤ gas → B (headAt R j) t = false
  | 0, _, _, h => absurd h (Nat.not_lt_zero _)
  | n + 1, gas, R, h => by
    rcases tm_cases n gas R with ⟨h1, e⟩ | ⟨k, t, ts, hk, hr, hb, hc⟩
    · exact .inl ⟨e, fun j hn => absurd (h1 j) hn⟩
    · have ht : headAt R k = t := by unfold headAt; rw [hr]; rfl
      rcases hc with ⟨hg, e⟩ | ⟨hg, e⟩
      · have hw := wk_set R k [] hk
        rw [hr, List.length_cons, List.length_nil] at hw
        have same_ : ∀ j, j ≠ k → (R.set k []).getD j [] = R.getD j [] ∧ headAt (R.set k []) j = headAt R j := fun j hj => by
          have := getD_set R k j [] hk
          rw [if_neg (fun q => hj q.symm)] at this
          exact ⟨this, by unfold headAt; rw [this]⟩
        have gone : (R.set k []).getD k [] = [] := by rw [getD_set R k k [] hk, if_pos rfl]
        rw [e]
        rcases tm_first n gas (R.set k []) (by omega) with ⟨e1, h2⟩ | ⟨u, r, e1, hu, ⟨j0, hj0, hj1⟩, h2⟩
        · refine .inl ⟨e1, fun j hn => ?_⟩
          by_cases q : j = k
          · rw [q, ht]; exact hg
          · rw [← (same_ j q).2]; exact h2 j (by rw [(same_ j q).1]; exact hn)
        · have q0 : j0 ≠ k := fun q => hj0 (by rw [q]; exact gone)
          refine .inr ⟨u, r, e1, hu, ⟨j0, by rw [← (same_ j0 q0).1]; exact hj0, by rw [← (same_ j0 q0).2]; exact hj1⟩, fun j hn hf => ?_⟩
          by_cases q : j = k
          · rw [q, ht] at hf; omega
          · rw [← (same_ j q).2] at hf ⊢
            exact h2 j (by rw [(same_ j q).1]; exact hn) hf
      · exact .inr ⟨t, _, e, hg, ⟨k, by rw [hr]; simp, ht⟩, fun j hn _ => hb j hn⟩
/-- Each one has room, one behind another. -/
def Fits : Int → List Tx → Prop
  | _, [] => True
  | gas, x :: r => 1 ≤ x.f4 ∧ x.f4 ≤ gas ∧ Fits (gas - x.f4) r
theorem tm_fits : ∀ (n : Nat) (gas : Int) (R : List (List Tx)), Pos R → Fits gas (tm n gas R)
  | 0, _, _, _ => trivial
  | n + 1, gas, R, h => by
    rcases tm_cases n gas R with ⟨_, e⟩ | ⟨k, t, ts, hk, hr, _, hc⟩
    · rw [e]; trivial
    · rcases hc with ⟨_, e⟩ | ⟨hg, e⟩
      · rw [e]; exact tm_fits n gas _ (h.set hk (fun x hx => absurd hx List.not_mem_nil))
      · rw [e]
        exact ⟨h k t (by rw [hr]; exact List.mem_cons_self ..), hg, tm_fits n _ _ (h.set hk (fun x hx => by rw [hr]; exact List.mem_cons_of_mem _ hx))⟩
def sum4 (l : List Tx) : Int := (l.map fun x => x.f4).sum
theorem sum4_cons (x : Tx) (l : List Tx) : sum4 (x :: l) = x.f4 + sum4 l := by simp [sum4]
theorem fits_sum : ∀ (gas : Int) (l : List Tx), 0 ≤ gas → Fits gas l → 0 ≤ sum4 l ∧ sum4 l ≤ gas
  | gas, [], h, _ => by simp [sum4]; omega
  | gas, x :: l, h, hf => by
    rw [sum4_cons]
    have := fits_sum (gas - x.f4) l (by have := hf.2.1; omega) hf.2.2
    have := hf.1
    have := hf.2.1
    omega
theorem tm_mem : ∀ (n : Nat) (gas : Int) (R : List (List Tx)) (x : Tx), x ∈ tm n gas R → ∃ j, x ∈ R.getD j []
  | 0, _, _, _, h => absurd h List.not_mem_nil
  | n + 1, gas, R, x, h => by
    rcases tm_cases n gas R with ⟨_, e⟩ | ⟨k, t, ts, hk, hr, _, hc⟩
    · rw [e] at h; exact absurd h List.not_mem_nil
    · have back : ∀ v : List Tx, (∀ y ∈ v, y ∈ R.getD k []) → (∃ j, x ∈ (R.set k v).getD j []) → ∃ j, x ∈ R.getD j [] := fun v hv ⟨j, hj⟩ => by
        rw [getD_set R k j v hk] at hj
        split at hj
        · exact ⟨k, hv x hj⟩
        · exact ⟨j, hj⟩
      rcases hc with ⟨_, e⟩ | ⟨hg, e⟩
      · rw [e] at h
        exact back [] (fun y hy => absurd hy List.not_mem_nil) (tm_mem n gas _ x h)
      · rw [e] at h
        rcases List.mem_cons.1 h with q | q
        · exact ⟨k, by rw [q, hr]; exact List.mem_cons_self ..⟩
        · exact back ts (fun y hy => by rw [hr]; exact List.mem_cons_of_mem _ hy) (tm_mem n _ _ x q)
theorem tm_len : ∀ (n : Nat) (gas : Int) (R : List (List Tx)), (tm n gas R).length ≤ wk R
  | 0, _, _ => Nat.zero_le _
  | n + 1, gas, R => by
    rcases tm_cases n gas R with ⟨_, e⟩ | ⟨k, t, ts, hk, hr, _, hc⟩
    · rw [e]; exact Nat.zero_le _
    · rcases hc with ⟨_, e⟩ | ⟨hg, e⟩
      · have hw := wk_set R k [] hk
        rw [hr, List.length_cons, List.length_nil] at hw
        have := tm_len n gas (R.set k [])
        rw [e]
        omega
      · have hw := wk_set R k ts hk
        rw [hr, List.length_cons] at hw
        have := tm_len n (gas - t.f4) (R.set k ts)
        rw [e, List.length_cons]
        omega
/-- The lists are of senders of their own. -/
def Own (σ : Nat → Int) (R : List (List Tx)) : Prop := (∀ k x, x ∈ R.getD k [] → x.f0 = σ k) ∧ ∀ j k, j < R.length → k < R.length → σ j = σ k → j = k
theorem Own.set {σ : Nat → Int} {R : List (List Tx)} {k : Nat} {v : List Tx} (h : Own σ R) (hk : k < R.length) (hv : ∀ x ∈ v, x ∈ R.getD k []) : Own σ (R.set k v) := by
  refine ⟨fun j x hx => ?_, fun i j hi hj => ?_⟩
  · rw [getD_set R k j v hk] at hx
    split at hx
    · rename_i e; rw [← e]; exact h.1 k x (hv x hx)
    · exact h.1 j x hx
  · rw [List.length_set] at hi hj
    exact h.2 i j hi hj
/-- What is taken of a sender's, and what is left of it. -/
theorem tm_split (σ : Nat → Int) : ∀ (n : Nat) (gas : Int) (R : List (List Tx)), wk R < n → 0 ≤ gas → Pos R → Own σ R → ∀ k, k < R.length → ∃ rest, (tm n gas R).filter (fun x => x.f0 == σ k) ++ rest = R.getD k [] ∧ ∀ x, rest.head? = some x → x.f4 > gas - sum4 (tm n gas R)
  | 0, _, _, h, _, _, _ => absurd h (Nat.not_lt_zero _)
  | n + 1, gas, R, h, h0, hp, ho => fun k hkR => by
    rcases tm_cases n gas R with ⟨h1, e⟩ | ⟨k0, t, ts, hk, hr, _, hc⟩
    · rw [e, h1 k]
      exact ⟨[], rfl, fun x hx => by cases hx⟩
    · rcases hc with ⟨hg, e⟩ | ⟨hg, e⟩
      · have hw := wk_set R k0 [] hk
        rw [hr, List.length_cons, List.length_nil] at hw
        have hp2 := hp.set (k := k0) (v := []) hk (fun x hx => absurd hx List.not_mem_nil)
        obtain ⟨rest, r1, r2⟩ := tm_split σ n gas (R.set k0 []) (by omega) h0 hp2 (ho.set hk (fun x hx => absurd hx List.not_mem_nil)) k (by rw [List.length_set]; exact hkR)
        rw [e]
        rw [getD_set R k0 k [] hk] at r1
        by_cases q : k0 = k
        · rw [if_pos q] at r1
          obtain ⟨q1, q2⟩ := List.append_eq_nil_iff.1 r1
          refine ⟨R.getD k [], by rw [q1]; rfl, fun x hx => ?_⟩
          rw [← q, hr] at hx
          obtain rfl := Option.some.inj hx
          have := (fits_sum gas _ h0 (tm_fits n gas (R.set k0 []) hp2)).1
          omega
        · rw [if_neg q] at r1
          exact ⟨rest, r1, r2⟩
      · have hw := wk_set R k0 ts hk
        rw [hr, List.length_cons] at hw
        have hsub : ∀ x ∈ ts, x ∈ R.getD k0 [] := fun x hx => by rw [hr]; exact List.mem_cons_of_mem _ hx
        have ht0 : t.f0 = σ k0 := ho.1 k0 t (by rw [hr]; exact List.mem_cons_self ..)
        obtain ⟨rest, r1, r2⟩ := tm_split σ n (gas - t.f4) (R.set k0 ts) (by omega) (by omega) (hp.set hk hsub) (ho.set hk hsub) k (by rw [List.length_set]; exact hkR)
        rw [e]
        rw [getD_set R k0 k ts hk] at r1
        refine ⟨rest, ?_, fun x hx => by rw [sum4_cons]; have := r2 x hx; omega⟩
        by_cases q : k0 = k
        · rw [if_pos q] at r1
          rw [List.filter_cons, if_pos (by rw [ht0, q]; exact beq_self_eq_true _), List.cons_append, r1, ← q, hr]
        · rw [if_neg q] at r1
          rw [List.filter_cons, if_neg (by rw [ht0]; intro e2; exact q (ho.2 k0 k hk hkR (eq_of_beq e2))), r1]
/-- All gas there is. -/
def total (R : List (List Tx)) : Int := (R.map sum4).sum
theorem total_set : ∀ (R : List (List Tx)) (k : Nat) (v : List Tx), k < R.length → total (R.set k v) + sum4 (R.getD k []) = total R + sum4 v
  | [], k, v, h => absurd h (Nat.not_lt_zero _)
  | l :: R, 0, v, _ => by simp [total]; omega
  | l :: R, k + 1, v, h => by
    have := total_set R k v (by simpa using h)
    simp only [total, List.set_cons_succ, List.map_cons, List.sum_cons, List.getD_cons_succ] at this ⊢
    omega
theorem sum4_pos : ∀ l : List Tx, (∀ x ∈ l, 1 ≤ x.f4) → 0 ≤ sum4 l
  | [], _ => by simp [sum4]
  | x :: l, h => by
    rw [sum4_cons]
    have := sum4_pos l (fun y hy => h y (List.mem_cons_of_mem _ hy))
    have := h x (List.mem_cons_self ..)
    omega
theorem total_ge : ∀ (R : List (List Tx)), Pos R → 0 ≤ total R ∧ ∀ k, sum4 (R.getD k []) ≤ total R
  | [], _ => ⟨by simp [total], fun k => by simp [total, sum4]⟩
  | l :: R, h => by
    have hp : Pos R := fun j x hx => h (j + 1) x (by rw [List.getD_cons_succ]; exact hx)
    obtain ⟨h1, h2⟩ := total_ge R hp
    have h3 := sum4_pos l (fun x hx => h 0 x (by simpa using hx))
    have e : total (l :: R) = sum4 l + total R := by simp [total]
    refine ⟨by omega, fun k => ?_⟩
    cases k with
    | zero => rw [e, List.getD_cons_zero]; omega
    | succ k => rw [e, List.getD_cons_succ]; have := h2 k; omega
/-- Who stands next to another sender's is no better than it. -/
def Ord : List Tx → Prop
  | [] => True
  | [_] => True
  | x :: y :: r => (x.f0 ≠ y.f0 → B y x = false) ∧ Ord (y :: r)
theorem tm_all (σ : Nat → Int) : ∀ (n : Nat) (gas : Int) (R : List (List Tx)), wk R < n → total R ≤ gas → Pos R → (∀ k x, x ∈ R.getD k [] → x.f0 = σ k) → (tm n gas R).length = wk R ∧ Ord (tm n gas R)
  | 0, _, _, h, _, _, _ => absurd h (Nat.not_lt_zero _)
  | n + 1, gas, R, h, h0, hp, ho => by
    rcases tm_cases n gas R with ⟨h1, e⟩ | ⟨k0, t, ts, hk, hr, hb, hc⟩
    · rw [e]
      refine ⟨?_, trivial⟩
      rw [List.length_nil]
      clear h hp ho e h0
      induction R with
      | nil => rfl
      | cons l R ih =>
        have hl : l = [] := by simpa using h1 0
        have := ih (fun j => by have := h1 (j + 1); rwa [List.getD_cons_succ] at this)
        simp only [wk, List.map_cons, List.sum_cons] at this ⊢
        rw [hl, List.length_nil]
        omega
    · have hts := total_set R k0 ts hk
      rw [hr, sum4_cons] at hts
      have hsub : ∀ x ∈ ts, x ∈ R.getD k0 [] := fun x hx => by rw [hr]; exact List.mem_cons_of_mem _ hx
      have hp2 := hp.set hk hsub
      rcases hc with ⟨hg, e⟩ | ⟨hg, e⟩
      · have h2 := (total_ge R hp).2 k0
        rw [hr, sum4_cons] at h2
        have := sum4_pos ts (fun x hx => hp k0 x (hsub x hx))
        omega
      · have hw := wk_set R k0 ts hk
        rw [hr, List.length_cons] at hw
        have ho2 : ∀ k x, x ∈ (R.set k0 ts).getD k [] → x.f0 = σ k := fun k x hx => by
          rw [getD_set R k0 k ts hk] at hx
          split at hx
          · rename_i q; rw [← q]; exact ho k0 x (hsub x hx)
          · exact ho k x hx
        obtain ⟨i1, i2⟩ := tm_all σ n (gas - t.f4) (R.set k0 ts) (by omega) (by omega) hp2 ho2
        rw [e]
        refine ⟨by rw [List.length_cons, i1]; omega, ?_⟩
        rcases tm_first n (gas - t.f4) (R.set k0 ts) (by omega) with ⟨e1, _⟩ | ⟨y, r, e1, _, ⟨j, hj, hy⟩, _⟩
        · rw [e1]; trivial
        · rw [e1] at i2 ⊢
          refine ⟨fun hne => ?_, i2⟩
          by_cases q : k0 = j
          · exfalso
            obtain ⟨tt, htt⟩ := head_cons hj
            have hyj : y ∈ (R.set k0 ts).getD j [] := by rw [htt, hy]; exact List.mem_cons_self ..
            have hy0 := ho2 j y hyj
            have ht0 := ho k0 t (by rw [hr]; exact List.mem_cons_self ..)
            exact hne (by rw [hy0, ht0, q])
          · have e2 : (R.set k0 ts).getD j [] = R.getD j [] := by rw [getD_set R k0 j ts hk, if_neg q]
            have hy2 : headAt R j = y := by
              rw [← hy]
              unfold headAt
              rw [e2]
            rw [← hy2]
            exact hb j (by rw [← e2]; exact hj)
end Go.Proofs.Ytahopljippfadaa.GreedyLaws
namespace Go.Proofs.Ytahopljippfadaa.GreedyLaws
open Go.RowKit Go.Proofs.Ytahopljippfadaa.D Go.Proofs.Ytahopljippfadaa.TxnCodec Go.Proofs.Ytahopljippfadaa.TxnLaws Go.Proofs.YtahopljippfadaaW.PrintWords Go.Proofs.YtahopljippfadaaW.PrintLast
def goodT (x : Tx) : Bool := decide (ChkT x)
theorem good_eq (x : Tx) : greedy_ready.good x = goodT x := by
  unfold greedy_ready.good goodT
  rw [check_t]
  cases decide (ChkT x) <;> rfl
/-- A sender's line. -/
def lineA (a : Ac) : List Tx := (rdy a.f1 a.f2 0).takeWhile goodT
theorem ready_run (a : Ac) (h : a.f2.length ≤ 1000) : greedy_ready.f a.f0 a.f1 a.f2 = some (lineA a) := by
  unfold greedy_ready.f
  rw [ready_eq _ _ _ _ h (Nat.le_refl _), Option.bind_some, if_pos ⟨by have := rdy_len a.f1 a.f2 0; omega, List.all_eq_true.2 (fun x _ => by rw [check_t]; rfl)⟩, show greedy_ready.good = goodT from funext good_eq]
  rfl
theorem takeWhile_le (p : Tx → Bool) (l : List Tx) : (l.takeWhile p).length ≤ l.length := (List.takeWhile_prefix p).length_le
theorem line_len (a : Ac) : (lineA a).length ≤ a.f2.length := Nat.le_trans (takeWhile_le _ _) (rdy_len _ _ _)
theorem takeWhile_all (p : Tx → Bool) : ∀ (l : List Tx) (x : Tx), x ∈ l.takeWhile p → p x = true
  | [], x, h => absurd h List.not_mem_nil
  | y :: l, x, h => by
    rw [List.takeWhile_cons] at h
    split at h
    · rename_i hy
      rcases List.mem_cons.1 h with q | q
      · rw [q]; exact hy
      · exact takeWhile_all p l x q
    · exact absurd h List.not_mem_nil
theorem line_good (a : Ac) (x : Tx) (h : x ∈ lineA a) : ChkT x := of_decide_eq_true (takeWhile_all _ _ x h)
/-- The first account of each sender. -/
def fst : List Int → List Ac → List Ac
  | _, [] => []
  | S, a :: l => if S.contains a.f0 = true then fst (a.f0 :: S) l else a :: fst (a.f0 :: S) l
theorem fst_sub : ∀ (l : List Ac) (S : List Int) (a : Ac), a ∈ fst S l → a ∈ l
  | [], S, a, h => absurd h List.not_mem_nil
  | b :: l, S, a, h => by
    rw [fst] at h
    split at h
    · exact List.mem_cons_of_mem _ (fst_sub l _ a h)
    · rcases List.mem_cons.1 h with q | q
      · rw [q]; exact List.mem_cons_self ..
      · exact List.mem_cons_of_mem _ (fst_sub l _ a q)
theorem fst_len : ∀ (l : List Ac) (S : List Int), (fst S l).length ≤ l.length
  | [], S => Nat.le_refl _
  | b :: l, S => by
    rw [fst]
    split
    · exact Nat.le_succ_of_le (fst_len l _)
    · exact Nat.succ_le_succ (fst_len l _)
theorem lines_run : ∀ (l : List Ac) (S : List Int), (∀ a ∈ l, a.f2.length ≤ 1000) → linesF S l = some ((fst S l).map lineA)
  | [], S, _ => rfl
  | a :: l, S, h => by
    rw [linesF, fst]
    have ih := lines_run l (a.f0 :: S) (fun b hb => h b (List.mem_cons_of_mem _ hb))
    split
    · exact ih
    · rw [ready_run a (h a (List.mem_cons_self ..)), Option.bind_some, ih]
      rfl
/-- Few accounts, of few transactions. -/
def FewA (l : List Ac) : Prop := l.length ≤ 20 ∧ (∀ a ∈ l, a.f2.length ≤ 20) ∧ ∀ a ∈ l, (Lit.int .i64 a.f0).wf = true
def lns (l : List Ac) : List (List Tx) := (fst [] l).map lineA
theorem heads_run (l : List Ac) (h : FewA l) : greedy_Heads.f l = some (headsF (lns l)) := by
  unfold greedy_Heads.f
  rw [if_pos ⟨by have := h.1; omega, List.all_eq_true.2 h.2.2⟩, lines_run l [] (fun a ha => by have := h.2.1 a ha; omega)]
  rfl
theorem wk_le (m : Nat) : ∀ R : List (List Tx), (∀ x ∈ R, x.length ≤ m) → wk R ≤ R.length * m
  | [], _ => by simp [wk]
  | l :: R, h => by
    have h1 := h l (List.mem_cons_self ..)
    have h2 := wk_le m R (fun x hx => h x (List.mem_cons_of_mem _ hx))
    simp only [wk, List.map_cons, List.sum_cons, List.length_cons] at h2 ⊢
    rw [Nat.succ_mul]
    omega
theorem lns_len (l : List Ac) (h : FewA l) : (lns l).length ≤ 20 ∧ wk (lns l) ≤ 400 := by
  have h1 : (lns l).length ≤ 20 := by
    unfold lns
    rw [List.length_map]
    exact Nat.le_trans (fst_len l []) h.1
  refine ⟨h1, Nat.le_trans (wk_le 20 (lns l) (fun x hx => ?_)) (by omega)⟩
  obtain ⟨a, ha, rfl⟩ := List.mem_map.1 hx
  exact Nat.le_trans (line_len a) (h.2.1 a (fst_sub l [] a ha))
theorem getD_in {R : List (List Tx)} {j : Nat} {x : Tx} (h : x ∈ R.getD j []) : R.getD j [] ∈ R := by
  have hj : j < R.length := lt_of_getD (fun q => by rw [q] at h; exact absurd h List.not_mem_nil)
  rw [List.getD_eq_getElem?_getD, List.getElem?_eq_getElem hj]
  exact List.getElem_mem hj
theorem lns_good (l : List Ac) (j : Nat) (x : Tx) (h : x ∈ (lns l).getD j []) : ChkT x := by
  obtain ⟨a, _, e⟩ := List.mem_map.1 (getD_in h)
  have e' : lineA a = (lns l).getD j [] := e
  rw [← e'] at h
  exact line_good a x h
theorem lns_pos (l : List Ac) : Pos (lns l) := fun j x hx => by
  have := lns_good l j x hx
  unfold ChkT Chk at this
  omega
/-- The block's lists (X, who has a place: L) are the lists R. -/
def Rel (X : List (List Tx)) (L : List Bool) (R : List (List Tx)) : Prop := X.length = R.length ∧ L.length = R.length ∧ ∀ i, (L.getD i false = true → X.getD i [] = R.getD i [] ∧ R.getD i [] ≠ []) ∧ (L.getD i false = false → R.getD i [] = [])
theorem getD_setB (L : List Bool) (k i : Nat) : (L.set k false).getD i false = if k = i then false else L.getD i false := by
  rw [List.getD_eq_getElem?_getD, List.getElem?_set, List.getD_eq_getElem?_getD]
  split
  · split <;> rfl
  · rfl
theorem Rel.drop {X R : List (List Tx)} {L : List Bool} (h : Rel X L R) {k : Nat} (hk : k < R.length) : Rel X (L.set k false) (R.set k []) := by
  refine ⟨by rw [List.length_set]; exact h.1, by rw [List.length_set, List.length_set]; exact h.2.1, fun i => ?_⟩
  rw [getD_setB, getD_set R k i [] hk]
  by_cases e : k = i
  · rw [if_pos e, if_pos e]
    exact ⟨fun q => (by cases q), fun _ => rfl⟩
  · rw [if_neg e, if_neg e]
    exact h.2.2 i
theorem Rel.take {X R : List (List Tx)} {L : List Bool} (h : Rel X L R) {k : Nat} (hk : k < R.length) (hL : L.getD k false = true) (ts : List Tx) : Rel (X.set k ts) (if ts.length = 0 then L.set k false else L) (R.set k ts) := by
  have hX : k < X.length := by rw [h.1]; exact hk
  refine ⟨by rw [List.length_set, List.length_set]; exact h.1, by split <;> simp [h.2.1], fun i => ?_⟩
  rw [getD_set R k i ts hk, getD_set X k i ts hX]
  by_cases e : k = i
  · rw [if_pos e, if_pos e]
    by_cases h0 : ts.length = 0
    · rw [if_pos h0, getD_setB, if_pos e]
      exact ⟨fun q => (by cases q), fun _ => List.length_eq_zero_iff.1 h0⟩
    · rw [if_neg h0, ← e, hL]
      exact ⟨fun _ => ⟨rfl, fun q => h0 (by rw [q]; rfl)⟩, fun q => by cases q⟩
  · rw [if_neg e, if_neg e]
    by_cases h0 : ts.length = 0
    · rw [if_pos h0, getD_setB, if_neg e]
      exact h.2.2 i
    · rw [if_neg h0]
      exact h.2.2 i
theorem bestL_run {X R : List (List Tx)} {L : List Bool} (h : Rel X L R) : ∀ (n i : Nat) (k : Int), (k < 0 ∨ L.getD k.toNat false = true) → bestL X L n i k = some (bst R n i k)
  | 0, i, k, _ => rfl
  | n + 1, i, k, hk => by
    rw [bestL, bst]
    cases hL : L.getD i false with
    | false => rw [if_neg (by decide), if_pos ((h.2.2 i).2 hL), bestL_run h n (i + 1) k hk]
    | true =>
      obtain ⟨e1, e2⟩ := (h.2.2 i).1 hL
      rw [if_pos rfl, if_neg e2]
      have hi : ((i : Int) < 0 ∨ L.getD (i : Int).toNat false = true) := .inr (by rw [Int.toNat_natCast]; exact hL)
      by_cases h0 : k < 0
      · rw [if_pos h0, if_pos h0, bestL_run h n (i + 1) i hi]
      · rw [if_neg h0, if_neg h0, btk 5 (Nat.le_refl _), Option.bind_some]
        have hk2 : L.getD k.toNat false = true := hk.resolve_left h0
        have e3 := ((h.2.2 k.toNat).1 hk2).1
        have e4 : headAt X i = headAt R i := by unfold headAt; rw [e1]
        have e5 : headAt X k.toNat = headAt R k.toNat := by unfold headAt; rw [e3]
        rw [e4, e5]
        cases B (headAt R i) (headAt R k.toNat) with
        | true => rw [if_pos rfl, if_pos rfl, bestL_run h n (i + 1) i hi]
        | false => rw [if_neg (by decide), if_neg (by decide), bestL_run h n (i + 1) k hk]
theorem cnt_zero : ∀ (L : List Bool), PlK.cnt L = 0 → ∀ i, L.getD i false = false
  | [], _, i => by simp
  | b :: L, h, i => by
    unfold PlK.cnt at h
    rw [List.filter_cons] at h
    cases b with
    | true => simp at h
    | false =>
      cases i with
      | zero => rfl
      | succ i => rw [List.getD_cons_succ]; exact cnt_zero L h i
theorem all_zero : ∀ (L : List Bool), (∀ i, L.getD i false = false) → PlK.cnt L = 0
  | [], _ => rfl
  | b :: L, h => by
    have hb : b = false := h 0
    have := all_zero L (fun i => by have := h (i + 1); rwa [List.getD_cons_succ] at this)
    unfold PlK.cnt at this ⊢
    rw [hb, List.filter_cons, if_neg (by decide)]
    exact this
theorem tmplL_run : ∀ (m n : Nat) (gas : Int) (X R : List (List Tx)) (L : List Bool) (U : List Tx), Rel X L R → wk R < m → wk R < n → Pos R → 0 ≤ gas → gas ≤ 9223372036854775807 → tmplL m gas X L U = some (U ++ tm n gas R)
  | 0, _, _, _, _, _, _, _, h, _, _, _, _ => absurd h (Nat.not_lt_zero _)
  | m + 1, 0, _, _, _, _, _, _, _, h, _, _, _ => absurd h (Nat.not_lt_zero _)
  | m + 1, n + 1, gas, X, R, L, U, hr, hm, hn, hp, h0, h1 => by
    rw [tmplL]
    by_cases hc : PlK.cnt L = 0
    · rw [if_pos hc, tm_none gas R (fun j => (hr.2.2 j).2 (cnt_zero L hc j)), List.append_nil]
    · rw [if_neg hc, bestL_run hr X.length 0 (-1) (.inl (by omega)), Option.bind_some, hr.1, tm]
      have h := bst_inv R R.length 0 (-1) (.inl ⟨by omega, fun j hj => absurd hj (Nat.not_lt_zero _)⟩)
      rw [Nat.zero_add] at h
      generalize bst R R.length 0 (-1) = r at h ⊢
      rcases h with ⟨_, h2⟩ | ⟨h2, hk, h3, _⟩
      · exfalso
        refine hc (all_zero L (fun i => ?_))
        cases hL : L.getD i false with
        | false => rfl
        | true =>
          have h5 := ((hr.2.2 i).1 hL).2
          exact absurd (h2 i (lt_of_getD h5)) h5
      · rw [if_neg (by omega), if_neg (by omega)]
        obtain ⟨ts, hts⟩ := head_cons h3
        have hL : L.getD r.toNat false = true := by
          cases hL : L.getD r.toNat false with
          | true => rfl
          | false => exact absurd ((hr.2.2 r.toNat).2 hL) h3
        have e1 := ((hr.2.2 r.toNat).1 hL).1
        have e2 : headAt X r.toNat = headAt R r.toNat := by unfold headAt; rw [e1]
        have ht1 : 1 ≤ (headAt R r.toNat).f4 := hp r.toNat _ (by rw [hts]; exact List.mem_cons_self ..)
        unfold takeP
        rw [e2, e1, hts, List.tail_cons]
        by_cases hg : (headAt R r.toNat).f4 > gas
        · rw [if_pos hg, if_pos hg]
          have hw := wk_set R r.toNat [] hk
          rw [hts, List.length_cons, List.length_nil] at hw
          exact tmplL_run m n gas X _ _ U (hr.drop hk) (by omega) (by omega) (hp.set hk (fun x hx => absurd hx List.not_mem_nil)) h0 h1
        · rw [if_neg hg, if_neg hg]
          have hw := wk_set R r.toNat ts hk
          rw [hts, List.length_cons] at hw
          have hwr : wrap64 (gas - (headAt R r.toNat).f4) = gas - (headAt R r.toNat).f4 := by unfold wrap64; omega
          rw [tmplL_run m n (wrap64 (gas - (headAt R r.toNat).f4)) (X.set r.toNat ts) (R.set r.toNat ts) _ (U ++ [headAt R r.toNat]) (hr.take hk hL ts) (by omega) (by omega) (hp.set hk (fun x hx => by rw [hts]; exact List.mem_cons_of_mem _ hx)) (by rw [hwr]; omega) (by rw [hwr]; omega), List.append_assoc, hwr]
          rfl
theorem rel_start (X : List (List Tx)) : Rel X (placedG X) X := by
  have e : ∀ i, (placedG X).getD i false = !(X.getD i []).isEmpty := fun i => by
    unfold placedG
    rw [List.getD_eq_getElem?_getD, List.getElem?_map, List.getD_eq_getElem?_getD]
    cases X[i]? <;> rfl
  refine ⟨rfl, List.length_map .., fun i => ?_⟩
  rw [e]
  cases X.getD i [] with
  | nil => exact ⟨fun q => (by cases q), fun _ => rfl⟩
  | cons a l => exact ⟨fun _ => ⟨rfl, by simp⟩, fun q => by cases q⟩
/-- What a block takes. -/
def tmA (l : List Ac) (gas : Int) : List Tx := if gas < 0 then [] else tm (wk (lns l) + 1) gas (lns l)
theorem template_run (l : List Ac) (gas : Int) (h : FewA l) (hg : gas ≤ 9223372036854775807) : greedy_Template.f l gas = some (tmA l gas) := by
  unfold greedy_Template.f tmA
  by_cases h0 : gas < 0
  · rw [if_pos h0, if_pos h0]
  · obtain ⟨h1, h2⟩ := lns_len l h
    rw [if_neg h0, if_neg h0, if_pos ⟨by have := h.1; omega, List.all_eq_true.2 h.2.2⟩, lines_run l [] (fun a ha => by have := h.2.1 a ha; omega), Option.bind_some]
    show (if wk (lns l) + (lns l).length < 1000000000000 then tmplL (wk (lns l) + (lns l).length + 1) gas (lns l) (placedG (lns l)) [] else none) = _
    rw [if_pos (by omega), tmplL_run _ (wk (lns l) + 1) gas _ _ _ [] (rel_start _) (by omega) (by omega) (lns_pos l) (by omega) hg]
    rfl
end Go.Proofs.Ytahopljippfadaa.GreedyLaws
namespace Go.Proofs.Ytahopljippfadaa.GreedyLaws
open Go.RowKit Go.Proofs.Ytahopljippfadaa.D Go.Proofs.Ytahopljippfadaa.TxnCodec Go.Proofs.Ytahopljippfadaa.TxnLaws Go.Proofs.Ytahopljippfadaa.Row Go.Proofs.YtahopljippfadaaW.PrintWords Go.Proofs.YtahopljippfadaaW.PrintLast
theorem live8 : hopperlaw12_live.f 8 = some true := by kernel_rfl
theorem live_at (K : Nat) (h : 8 ≤ K) : hopperlaw12_live.f K = some true := at_rounds hopperlaw12_live.mono h live8
theorem few_start (k : Nat) (l : List Ac) (hl : (okL ok35) l) (hk : l.length + most l + 2 ≤ k) : ∃ b, hopperref11_Few.f k l 20 = some b ∧ (b = true → FewA l) := by
  obtain ⟨b, h1, h2⟩ := few11_eq k 20 l hl.1 (fun x hx => (hl.2 x hx).2.2.1) hk
  refine ⟨b, h1, fun hb => ⟨by have := (h2 hb).1; omega, (h2 hb).2, fun a ha => (hl.2 a ha).1⟩⟩
def prs (t : List Tx) : List S45 := t.map fun x => ⟨x.f2, x.f4⟩
theorem tot_from (k : Nat) (l : List Tx) (hl : l.length ≤ 1000) : ∀ (n i : Nat) (acc : List S45), i + n = l.length → acc.length = i → greedy_Totals.l0 (k + n + 1) acc l (l.length : Int) (i : Int) = some ((totF (acc ++ prs (l.drop i))).1, (totF (acc ++ prs (l.drop i))).2.1)
  | 0, i, acc, hn, ha => by
    unfold greedy_Totals.l0
    rw [if_neg (by omega), List.drop_eq_nil_of_le (by omega)]
    unfold sat_Totals.f prs
    rw [List.map_nil, List.append_nil]
    rfl
  | n + 1, i, acc, hn, ha => by
    have hi : i < l.length := by omega
    unfold greedy_Totals.l0
    rw [if_pos (by omega), if_pos (by omega), if_pos (by omega), if_pos (by omega), step_ i (by omega), rd_at l i hi, show k + (n + 1) = k + n + 1 from rfl, tot_from k l hl n (i + 1) _ (by omega) (by rw [List.length_append, List.length_singleton, ha]), List.drop_eq_getElem_cons hi, List.append_assoc]
    rfl
theorem totals_run (k : Nat) (l : List Tx) (hl : l.length ≤ 1000) (hk : l.length + 1 ≤ k) : greedy_Totals.f k l = some ((totF (prs l)).1, (totF (prs l)).2.1) := by
  have := tot_from (k - (l.length + 1)) l hl l.length 0 [] (by omega) rfl
  rw [show k - (l.length + 1) + l.length + 1 = k by omega] at this
  unfold greedy_Totals.f
  simpa using this
theorem prs_sum (t : List Tx) : sum1 (prs t) = sum4 t := by
  unfold sum1 prs sum4
  rw [List.map_map]
  rfl
theorem totals_good (k : Nat) (l : List Tx) (hl : l.length ≤ 1000) (hg : ∀ x ∈ l, ChkT x) (hk : l.length + 1 ≤ k) : ∃ s, greedy_Totals.f k l = some (s, sum4 l) := by
  rw [totals_run k l hl hk, totF_good (prs l) (by unfold prs; rw [List.length_map]; exact hl) (fun p hp => by
    obtain ⟨x, hx, rfl⟩ := List.mem_map.1 hp
    have := hg x hx
    unfold ChkT Chk at this
    unfold pairOk
    dsimp only
    omega), prs_sum]
  exact ⟨_, rfl⟩
theorem tmA_good (l : List Ac) (gas : Int) (x : Tx) (h : x ∈ tmA l gas) : ChkT x := by
  unfold tmA at h
  split at h
  · exact absurd h List.not_mem_nil
  · obtain ⟨j, hj⟩ := tm_mem _ _ _ x h
    exact lns_good l j x hj
theorem tmA_len (l : List Ac) (gas : Int) (h : FewA l) : (tmA l gas).length ≤ 400 := by
  unfold tmA
  split
  · exact Nat.zero_le _
  · exact Nat.le_trans (tm_len _ _ _) (lns_len l h).2
theorem tmA_fits (l : List Ac) (gas : Int) (h0 : 0 ≤ gas) : Fits gas (tmA l gas) := by
  unfold tmA
  rw [if_neg (by omega)]
  exact tm_fits _ _ _ (lns_pos l)
theorem chk_wf (x : Tx) (h : ChkT x) : (Lit.int .i64 x.f0).wf = true := by
  unfold ChkT Chk at h
  have e : wrap64 x.f0 = x.f0 := by unfold wrap64; omega
  rw [← e]
  exact wrap64_wf _
/-- What an account's sender has: the line of its first account. -/
def mineA (l : List Ac) (s : Int) : List Tx := match l.find? (fun a => a.f0 == s) with | some a => lineA a | none => []
theorem readyL_run : ∀ l : List Ac, (∀ a ∈ l, a.f2.length ≤ 1000) → readyL l = some (l.map fun a => (a.f0, lineA a))
  | [], _ => rfl
  | a :: l, h => by
    rw [readyL, ready_run a (h a (List.mem_cons_self ..)), Option.bind_some, readyL_run l (fun b hb => h b (List.mem_cons_of_mem _ hb))]
    rfl
theorem mine_start (l : List Ac) (s : Int) : mineP (l.map fun a => (a.f0, lineA a)).reverse s = mineA l s := by
  unfold mineP mineA
  rw [List.reverse_reverse, List.find?_map]
  have e : ((fun p : Int × List Tx => p.1 == s) ∘ fun a : Ac => (a.f0, lineA a)) = fun a => a.f0 == s := rfl
  rw [e]
  cases l.find? (fun a => a.f0 == s) <;> rfl
theorem mine_snoc (P : List (Int × List Tx)) (s s' : Int) (ys : List Tx) : mineP (P ++ [(s, ys)]) s' = if s = s' then ys else mineP P s' := by
  unfold mineP
  rw [List.reverse_append, List.reverse_singleton, List.singleton_append, List.find?_cons]
  by_cases e : s = s'
  · rw [if_pos e, show ((s, ys).1 == s') = true from beq_iff_eq.2 e]
  · rw [if_neg e, show ((s, ys).1 == s') = false from beq_eq_false_iff_ne.2 e]
theorem sameTx_eq (x y : Tx) : sameTx x y = true ↔ x = y := by
  constructor
  · intro h
    unfold sameTx at h
    simp only [Bool.and_eq_true, beq_iff_eq] at h
    obtain ⟨h0, h1, h2, h3, h4, h5⟩ := h
    have h6 := bytes_list _ _ h5
    cases x
    cases y
    simp only at h0 h1 h2 h3 h4 h6
    subst h0 h1 h2 h3 h4 h6
    rfl
  · rintro rfl
    unfold sameTx
    simp
def of_ (s : Int) (t : List Tx) : List Tx := t.filter fun x => x.f0 == s
theorem follP_iff : ∀ (t : List Tx) (P : List (Int × List Tx)), follP P t = true ↔ ∀ s, of_ s t <+: mineP P s
  | [], P => ⟨fun _ s => List.nil_prefix, fun _ => rfl⟩
  | x :: t, P => by
    rw [follP]
    have hof : ∀ s, of_ s (x :: t) = if x.f0 = s then x :: of_ s t else of_ s t := fun s => by
      unfold of_
      rw [List.filter_cons]
      by_cases e : x.f0 = s
      · rw [if_pos e, if_pos (beq_iff_eq.2 e)]
      · rw [if_neg e, if_neg (fun q => e (eq_of_beq q))]
    cases hM : mineP P x.f0 with
    | nil =>
      refine ⟨fun h => (by cases h), fun h => ?_⟩
      have := h x.f0
      rw [hof, if_pos rfl, hM] at this
      exact absurd (List.prefix_nil.1 this) (List.cons_ne_nil _ _)
    | cons y ys =>
      have hset : ∀ s, mineP (P ++ [(x.f0, ys)]) s = if x.f0 = s then ys else mineP P s := fun s => mine_snoc P x.f0 s ys
      dsimp only
      by_cases hxy : sameTx y x = true
      · have e := (sameTx_eq y x).1 hxy
        subst e
        rw [if_pos hxy, follP_iff t]
        constructor
        · intro h s
          have := h s
          rw [hset] at this
          rw [hof]
          by_cases q : y.f0 = s
          · rw [if_pos q] at this ⊢
            rw [← q, hM]
            rw [← q] at this
            exact List.cons_prefix_cons.2 ⟨rfl, this⟩
          · rw [if_neg q] at this ⊢
            exact this
        · intro h s
          have := h s
          rw [hof] at this
          rw [hset]
          by_cases q : y.f0 = s
          · rw [if_pos q] at this ⊢
            rw [← q, hM] at this
            rw [← q]
            exact (List.cons_prefix_cons.1 this).2
          · rw [if_neg q] at this ⊢
            exact this
      · rw [if_neg hxy]
        refine ⟨fun h => (by cases h), fun h => ?_⟩
        have := h x.f0
        rw [hof, if_pos rfl, hM] at this
        exact absurd ((sameTx_eq y x).2 (List.cons_prefix_cons.1 this).1.symm) hxy
theorem follows_run (l : List Ac) (t : List Tx) (h : FewA l) (ht : t.length < 1000000000000) (hw : ∀ x ∈ t, (Lit.int .i64 x.f0).wf = true) : ∃ b, greedy_Follows.f l t = some b ∧ (b = true ↔ ∀ s, of_ s t <+: mineA l s) := by
  unfold greedy_Follows.f
  rw [if_pos ⟨by have := h.1; omega, ht, List.all_eq_true.2 h.2.2, List.all_eq_true.2 hw⟩, readyL_run l (fun a ha => by have := h.2.1 a ha; omega)]
  refine ⟨_, rfl, ?_⟩
  rw [follP_iff]
  constructor
  · intro q s; have := q s; rwa [mine_start] at this
  · intro q s; rw [mine_start]; exact q s
end Go.Proofs.Ytahopljippfadaa.GreedyLaws
namespace Go.Proofs.Ytahopljippfadaa.GreedyLaws
open Go.RowKit Go.Proofs.Ytahopljippfadaa.D Go.Proofs.Ytahopljippfadaa.TxnCodec Go.Proofs.Ytahopljippfadaa.TxnLaws Go.Proofs.Ytahopljippfadaa.Row Go.Proofs.YtahopljippfadaaW.PrintWords Go.Proofs.YtahopljippfadaaW.PrintLast
theorem rtot_from (k : Nat) (l : List Tx) (hl : l.length ≤ 1000) : ∀ (n i : Nat) (acc : List S45), i + n = l.length → acc.length = i → hopperref12_Totals.l0 (k + n + 1) l acc (i : Int) = some ((totF (acc ++ prs (l.drop i))).1, (totF (acc ++ prs (l.drop i))).2.1)
  | 0, i, acc, hn, ha => by
    unfold hopperref12_Totals.l0
    rw [if_neg (by omega), List.drop_eq_nil_of_le (by omega)]
    unfold hopperref01_Totals.f prs
    rw [List.map_nil, List.append_nil]
    rfl
  | n + 1, i, acc, hn, ha => by
    have hi : i < l.length := by omega
    unfold hopperref12_Totals.l0
    rw [if_pos (by omega), if_pos (by omega), if_pos (by omega), step_ i (by omega), rd_at l i hi, show k + (n + 1) = k + n + 1 from rfl, rtot_from k l hl n (i + 1) _ (by omega) (by rw [List.length_append, List.length_singleton, ha]), List.drop_eq_getElem_cons hi, List.append_assoc]
    rfl
theorem rtotals_run (k : Nat) (l : List Tx) (hl : l.length ≤ 1000) (hk : l.length + 1 ≤ k) : hopperref12_Totals.f k l = some ((totF (prs l)).1, (totF (prs l)).2.1) := by
  have := rtot_from (k - (l.length + 1)) l hl l.length 0 [] (by omega) rfl
  rw [show k - (l.length + 1) + l.length + 1 = k by omega] at this
  unfold hopperref12_Totals.f
  simpa using this
theorem txs_from (K : Nat) (a b : List Tx) (ha : a.length ≤ 1000) (hab : a.length = b.length) : ∀ (n i : Nat), i + n = a.length → ∃ c, hopperref04_Txs.l0 (K + n + 1) a b (i : Int) = some c ∧ (c = true ↔ a.drop i = b.drop i)
  | 0, i, hn => by
    unfold hopperref04_Txs.l0
    rw [if_neg (by omega), List.drop_eq_nil_of_le (by omega), List.drop_eq_nil_of_le (by omega)]
    exact ⟨true, rfl, fun _ => rfl, fun _ => rfl⟩
  | n + 1, i, hn => by
    have hi : i < a.length := by omega
    have hb : i < b.length := by omega
    unfold hopperref04_Txs.l0
    rw [if_pos (by omega), if_pos (by omega), if_pos (by omega), rd_at a i hi, rd_at b i hb, step_ i (by omega), show K + (n + 1) = K + n + 1 from rfl, List.drop_eq_getElem_cons hi, List.drop_eq_getElem_cons hb]
    have e : (!(a[i].f0 == b[i].f0) || (!(a[i].f1 == b[i].f1) || (!(a[i].f2 == b[i].f2) || (!(a[i].f3 == b[i].f3) || (!(a[i].f4 == b[i].f4) || !(a[i].f5.toList == b[i].f5.toList)))))) = !sameTx a[i] b[i] := by
      unfold sameTx
      simp only [Bool.not_and]
    rw [e]
    cases hs : sameTx a[i] b[i] with
    | true =>
      rw [if_neg (by decide), (sameTx_eq _ _).1 hs]
      obtain ⟨c, h1, h2⟩ := txs_from K a b ha hab n (i + 1) (by omega)
      exact ⟨c, h1, h2.trans ⟨fun q => by rw [q], fun q => (List.cons.inj q).2⟩⟩
    | false =>
      rw [if_pos (by decide)]
      refine ⟨false, rfl, fun q => (by cases q), fun q => ?_⟩
      rw [(sameTx_eq _ _).2 (List.cons.inj q).1] at hs
      cases hs
theorem txs_run (k : Nat) (a b : List Tx) (ha : a.length ≤ 1000) (hk : a.length + 1 ≤ k) : ∃ c, hopperref04_Txs.f k a b = some c ∧ (c = true ↔ a = b) := by
  unfold hopperref04_Txs.f
  by_cases hab : a.length = b.length
  · obtain ⟨c, h1, h2⟩ := txs_from (k - (a.length + 1)) a b ha hab a.length 0 (by omega)
    rw [show k - (a.length + 1) + a.length + 1 = k by omega] at h1
    rw [if_pos (by omega)]
    exact ⟨c, h1, h2⟩
  · rw [if_neg (by omega)]
    exact ⟨false, rfl, fun q => (by cases q), fun q => absurd (by rw [q]) hab⟩
theorem txs_same (k : Nat) (a : List Tx) (ha : a.length ≤ 1000) (hk : a.length + 1 ≤ k) : hopperref04_Txs.f k a a = some true := by
  obtain ⟨c, h1, h2⟩ := txs_run k a a ha hk
  rw [h1, h2.2 rfl]
/-- The senders ahead of place i. -/
def snd_ (l : List Ac) (i : Nat) : List Int := ((l.take i).map fun a => a.f0).reverse
theorem snd_next (l : List Ac) (i : Nat) (h : i < l.length) : snd_ l (i + 1) = l[i].f0 :: snd_ l i := by
  unfold snd_
  rw [List.take_succ_eq_append_getElem h, List.map_append, List.reverse_append]
  rfl
theorem snd_any (l : List Ac) (i : Nat) (s : Int) : (snd_ l i).contains s = (l.take i).any fun a => a.f0 == s := by
  unfold snd_
  rw [Bool.eq_iff_iff, List.contains_iff_mem, List.mem_reverse, List.mem_map, List.any_eq_true]
  constructor
  · rintro ⟨a, ha, e⟩; exact ⟨a, ha, beq_iff_eq.2 e⟩
  · rintro ⟨a, ha, e⟩; exact ⟨a, ha, eq_of_beq e⟩
theorem firsts_in (l : List Ac) (hl : l.length ≤ 1000) (acc r1 r2 : List Ac) (hacc : acc.length ≤ 1000) (i : Nat) (hi : i < l.length) (C : Nat) (h1 : ∀ F, C ≤ F → hopperref12_firsts.l0 F l acc (((i + 1 : Nat)) : Int) = some r1) (h2 : ∀ F, C ≤ F → hopperref12_firsts.l0 F l (acc ++ [l[i]]) (((i + 1 : Nat)) : Int) = some r2) :
    ∀ (m j F : Nat) (is : Bool), j + m = i → C + m + 1 ≤ F → is = ((l.take j).any fun a => a.f0 == l[i].f0) → hopperref12_firsts.l1 F l acc (i : Int) is (j : Int) = some (if ((l.take i).any fun a => a.f0 == l[i].f0) = true then r1 else r2)
  | 0, j, F, is, hj, hF, his => by
    obtain ⟨F, rfl⟩ : ∃ G, F = G + 1 := ⟨F - 1, by omega⟩
    obtain rfl : j = i := by omega
    rw [hopperref12_firsts.l1, if_neg (by omega), ← his, step_ j (by omega)]
    cases is with
    | true => rw [if_pos rfl, if_pos rfl, h1 F (by omega)]
    | false =>
      simp only [Bool.false_eq_true, if_false]
      rw [if_pos (by omega), if_pos (by omega), if_pos (by omega), rd_eq l j hi]
      exact h2 F (by omega)
  | m + 1, j, F, is, hj, hF, his => by
    obtain ⟨F, rfl⟩ : ∃ G, F = G + 1 := ⟨F - 1, by omega⟩
    have hjl : j < l.length := by omega
    have hnext : ((l.take (j + 1)).any fun a => a.f0 == l[i].f0) = (is || (l[j].f0 == l[i].f0)) := by
      rw [List.take_succ_eq_append_getElem hjl, List.any_append, his]
      simp
    rw [hopperref12_firsts.l1, if_pos (by omega), step_ j (by omega)]
    cases is with
    | true =>
      rw [if_pos rfl]
      exact firsts_in l hl acc r1 r2 hacc i hi C h1 h2 m (j + 1) F true (by omega) (by omega) (by rw [hnext, Bool.true_or])
    | false =>
      rw [if_neg (by decide), if_pos (by omega), if_pos (by omega), if_pos (by omega), if_pos (by omega), rd_eq l j hjl, rd_eq l i hi]
      exact firsts_in l hl acc r1 r2 hacc i hi C h1 h2 m (j + 1) F _ (by omega) (by omega) (by rw [hnext, Bool.false_or])
theorem firsts_from (l : List Ac) (hl : l.length ≤ 20) : ∀ (n i F : Nat) (acc : List Ac), i + n = l.length → acc.length ≤ i → n * 23 + 1 ≤ F → hopperref12_firsts.l0 F l acc (i : Int) = some (acc ++ fst (snd_ l i) (l.drop i))
  | 0, i, F, acc, hn, ha, hF => by
    obtain ⟨F, rfl⟩ : ∃ G, F = G + 1 := ⟨F - 1, by omega⟩
    rw [hopperref12_firsts.l0, if_neg (by omega), List.drop_eq_nil_of_le (by omega), fst, List.append_nil]
  | n + 1, i, F, acc, hn, ha, hF => by
    obtain ⟨F, rfl⟩ : ∃ G, F = G + 1 := ⟨F - 1, by omega⟩
    have hi : i < l.length := by omega
    rw [hopperref12_firsts.l0, if_pos (by omega)]
    have := firsts_in l (by omega) acc (acc ++ fst (snd_ l (i + 1)) (l.drop (i + 1))) (acc ++ [l[i]] ++ fst (snd_ l (i + 1)) (l.drop (i + 1))) (by omega) i hi (n * 23 + 1) (fun F' hF' => firsts_from l hl n (i + 1) F' acc (by omega) (by omega) hF') (fun F' hF' => firsts_from l hl n (i + 1) F' (acc ++ [l[i]]) (by omega) (by rw [List.length_append, List.length_singleton]; omega) hF') i 0 F false (by omega) (by omega) rfl
    refine this.trans ?_
    rw [List.drop_eq_getElem_cons hi, fst, snd_any, snd_next l i hi]
    split <;> simp
theorem firsts_run (k : Nat) (l : List Ac) (hl : l.length ≤ 20) (hk : 500 ≤ k) : hopperref12_firsts.f k l = some (fst [] l) := by
  unfold hopperref12_firsts.f
  exact firsts_from l hl l.length 0 k [] (by omega) (Nat.le_refl _) (by omega)
theorem rline_from (K : Nat) (r : List Tx) (hr : r.length ≤ 1000) : ∀ (n i : Nat), i + n = r.length → hopperref12_Line.l0 (K + n + 1) r (i : Int) = some (r.take i ++ (r.drop i).takeWhile goodT)
  | 0, i, hn => by
    unfold hopperref12_Line.l0
    rw [if_neg (by omega), List.drop_eq_nil_of_le (by omega), List.take_of_length_le (by omega), List.takeWhile_nil, List.append_nil]
  | n + 1, i, hn => by
    have hi : i < r.length := by omega
    unfold hopperref12_Line.l0
    rw [if_pos (by omega), if_pos (by omega), rd_at r i hi, rcheck_t, Option.bind_some, step_ i (by omega), show K + (n + 1) = K + n + 1 from rfl, rline_from K r hr n (i + 1) (by omega), List.drop_eq_getElem_cons hi, List.takeWhile_cons]
    by_cases hg : ChkT r[i]
    · rw [decide_eq_true hg, if_pos rfl, if_pos (show goodT r[i] = true from decide_eq_true hg), List.take_succ_eq_append_getElem hi, List.append_assoc]
      rfl
    · rw [decide_eq_false hg, if_neg (by decide), if_pos (by omega), Int.toNat_natCast, if_neg (show ¬ goodT r[i] = true from fun q => hg (of_decide_eq_true q)), List.append_nil]
theorem rline_run (k : Nat) (a : Ac) (h : a.f2.length ≤ 1000) (hk : 1002 ≤ k) : hopperref12_Line.f k a.f0 a.f1 a.f2 = some (lineA a) := by
  have hl := rdy_len a.f1 a.f2 0
  unfold hopperref12_Line.f
  rw [rready_eq _ _ _ _ h (by omega), Option.bind_some]
  have := rline_from (k - ((rdy a.f1 a.f2 0).length + 1)) (rdy a.f1 a.f2 0) (by omega) (rdy a.f1 a.f2 0).length 0 (by omega)
  rw [show k - ((rdy a.f1 a.f2 0).length + 1) + (rdy a.f1 a.f2 0).length + 1 = k by omega] at this
  exact this
theorem rheads_from (K : Nat) (hK : 1002 ≤ K) (f : List Ac) (hf : f.length ≤ 20) (hx : ∀ a ∈ f, a.f2.length ≤ 20) : ∀ (n i : Nat) (acc : List Tx), i + n = f.length → acc.length ≤ i → hopperref12_Heads.l0 (K + n + 1) acc f (i : Int) = some (acc ++ headsF ((f.drop i).map lineA))
  | 0, i, acc, hn, ha => by
    unfold hopperref12_Heads.l0
    rw [if_neg (by omega), List.drop_eq_nil_of_le (by omega), List.map_nil, show headsF [] = [] from rfl, List.append_nil]
  | n + 1, i, acc, hn, ha => by
    have hi : i < f.length := by omega
    have h2 := hx f[i] (List.getElem_mem hi)
    unfold hopperref12_Heads.l0
    rw [if_pos (by omega), if_pos (by omega), rd_eq f i hi, rline_run _ _ (by omega) (by omega), Option.bind_some, step_ i (by omega), show K + (n + 1) = K + n + 1 from rfl, List.drop_eq_getElem_cons hi, List.map_cons]
    cases hl : lineA f[i] with
    | nil =>
      rw [if_neg (by simp), rheads_from K hK f hf hx n (i + 1) acc (by omega) (by omega)]
      rfl
    | cons t ts =>
      rw [if_pos (by rw [List.length_cons]; omega), if_pos (by rw [List.length_cons]; omega), if_pos (by omega), show rd_T38 (t :: ts) 0 = t from rfl, eta, rheads_from K hK f hf hx n (i + 1) (acc ++ [t]) (by omega) (by rw [List.length_append, List.length_singleton]; omega), List.append_assoc]
      rfl
theorem rheads_run (k : Nat) (l : List Ac) (h : FewA l) (hk : 1100 ≤ k) : hopperref12_Heads.f k l = some (headsF (lns l)) := by
  have hlen := fst_len l []
  have h20 := h.1
  unfold hopperref12_Heads.f
  rw [firsts_run k l h.1 (by omega), Option.bind_some]
  have := rheads_from (k - ((fst [] l).length + 1)) (by omega) (fst [] l) (by omega) (fun a ha => h.2.1 a (fst_sub l [] a ha)) (fst [] l).length 0 [] (by omega) (Nat.le_refl _)
  rw [show k - ((fst [] l).length + 1) + (fst [] l).length + 1 = k by omega] at this
  exact this
theorem rd3 (R : List (List Tx)) (i : Nat) : rd_L3 R (i : Int) = R.getD i [] := by
  unfold rd_L3
  rw [Int.toNat_natCast]
theorem rdh (l : List Tx) (h : l ≠ []) : rd_T38 l 0 = l.headD z38 := by
  cases l with
  | nil => exact absurd rfl h
  | cons t ts => rfl
theorem rbest_from (R : List (List Tx)) (hR : R.length ≤ 20) : ∀ (n i : Nat) (k : Int) (F : Nat), i + n = R.length → 400 + n + 1 ≤ F → (k < 0 ∨ (0 ≤ k ∧ k < (R.length : Int) ∧ R.getD k.toNat [] ≠ [])) → hopperref12_best.l0 F R k (i : Int) = some (bst R n i k)
  | 0, i, k, F, hn, hF, hk => by
    obtain ⟨F, rfl⟩ : ∃ G, F = G + 1 := ⟨F - 1, by omega⟩
    rw [hopperref12_best.l0, if_neg (by omega)]
    rfl
  | n + 1, i, k, F, hn, hF, hk => by
    obtain ⟨F, rfl⟩ : ∃ G, F = G + 1 := ⟨F - 1, by omega⟩
    rw [hopperref12_best.l0, bst, if_pos (by omega), if_pos (by omega), rd3, step_ i (by omega)]
    by_cases h0 : R.getD i [] = []
    · rw [if_pos h0, if_neg (by rw [h0]; simp)]
      exact rbest_from R hR n (i + 1) k F (by omega) (by omega) hk
    · have hp : 0 < (R.getD i []).length := List.length_pos_iff.2 h0
      have hi : ((i : Int) < 0 ∨ (0 ≤ (i : Int) ∧ (i : Int) < (R.length : Int) ∧ R.getD (i : Int).toNat [] ≠ [])) := .inr ⟨by omega, by omega, by rw [Int.toNat_natCast]; exact h0⟩
      rw [if_neg h0, if_pos (by omega)]
      by_cases hk0 : k < 0
      · rw [if_pos hk0, if_pos hk0]
        exact rbest_from R hR n (i + 1) i F (by omega) (by omega) hi
      · obtain ⟨k1, k2, k3⟩ := hk.resolve_left hk0
        have hp2 : 0 < (R.getD k.toNat []).length := List.length_pos_iff.2 k3
        have e3 : rd_L3 R k = R.getD k.toNat [] := rfl
        rw [if_neg hk0, if_neg hk0, if_pos (by omega), if_pos k1, if_pos k2, e3, if_pos (by omega), rdh _ h0, rdh _ k3]
        rw [show (R.getD i []).headD z38 = headAt R i from rfl, show (R.getD k.toNat []).headD z38 = headAt R k.toNat from rfl, rbt _ (by omega), Option.bind_some]
        cases B (headAt R i) (headAt R k.toNat) with
        | true => rw [if_pos rfl, if_pos rfl]; exact rbest_from R hR n (i + 1) i F (by omega) (by omega) hi
        | false => rw [if_neg (by decide), if_neg (by decide)]; exact rbest_from R hR n (i + 1) k F (by omega) (by omega) hk
theorem rtm_run : ∀ (n : Nat) (gas : Int) (R : List (List Tx)) (out : List Tx) (F : Nat), wk R < n → Pos R → 0 ≤ gas → gas ≤ 9223372036854775807 → R.length ≤ 20 → out.length + wk R ≤ 1000 → 2 * n + 600 ≤ F → hopperref12_Template.l1 F gas out R = some (out ++ tm n gas R)
  | 0, _, _, _, _, h, _, _, _, _, _, _ => absurd h (Nat.not_lt_zero _)
  | n + 1, gas, R, out, F, hn, hp, h0, h1, hR, ho, hF => by
    obtain ⟨F, rfl⟩ : ∃ G, F = G + 1 + 1 := ⟨F - 2, by omega⟩
    rw [hopperref12_Template.l1]
    unfold hopperref12_best.f
    rw [show hopperref12_best.l0 (F + 1) R (-1) 0 = some (bst R R.length 0 (-1)) from rbest_from R hR R.length 0 (-1) (F + 1) (by omega) (by omega) (.inl (by omega)), Option.bind_some, tm]
    have h := bst_inv R R.length 0 (-1) (.inl ⟨by omega, fun j hj => absurd hj (Nat.not_lt_zero _)⟩)
    rw [Nat.zero_add] at h
    generalize bst R R.length 0 (-1) = r at h ⊢
    rcases h with ⟨h2, _⟩ | ⟨h2, hk, h3, _⟩
    · rw [if_pos h2, if_pos h2, hopperref12_Template.j2, if_pos rfl, List.append_nil]
    · obtain ⟨ts, hts⟩ := head_cons h3
      have hlen : (R.getD r.toNat []).length = ts.length + 1 := by rw [hts, List.length_cons]
      have ht1 : 1 ≤ (headAt R r.toNat).f4 := hp r.toNat _ (by rw [hts]; exact List.mem_cons_self ..)
      have e3 : rd_L3 R r = R.getD r.toNat [] := rfl
      rw [if_neg (by omega), if_neg (by omega), decide_eq_false (by omega : ¬ gas < 0), hopperref12_Template.j2, if_neg (by decide), if_pos h2, if_pos (by omega), e3, if_pos (by omega), rdh _ h3, show (R.getD r.toNat []).headD z38 = headAt R r.toNat from rfl]
      by_cases hg : (headAt R r.toNat).f4 > gas
      · have hw := wk_set R r.toNat [] hk
        rw [hlen, List.length_nil] at hw
        rw [if_pos hg, if_pos hg]
        exact rtm_run n gas _ out F (by omega) (hp.set hk (fun x hx => absurd hx List.not_mem_nil)) h0 h1 (by rw [List.length_set]; exact hR) (by omega) (by omega)
      · have hw := wk_set R r.toNat ts hk
        rw [hlen] at hw
        have hwr : wrap64 (gas - (headAt R r.toNat).f4) = gas - (headAt R r.toNat).f4 := by unfold wrap64; omega
        have hdt : (R.getD r.toNat []).drop 1 = (R.getD r.toNat []).tail := List.drop_one
        rw [if_neg hg, if_neg hg, if_pos (by omega), if_pos (by omega), hwr, eta, hdt, hts, List.tail_cons, rtm_run n (gas - (headAt R r.toNat).f4) (R.set r.toNat ts) (out ++ [headAt R r.toNat]) F (by omega) (hp.set hk (fun x hx => by rw [hts]; exact List.mem_cons_of_mem _ hx)) (by omega) (by omega) (by rw [List.length_set]; exact hR) (by rw [List.length_append, List.length_singleton]; omega) (by omega), List.append_assoc]
        rfl
theorem rtm_neg (gas : Int) (hg : gas < 0) (R : List (List Tx)) (hR : R.length ≤ 20) (F : Nat) (hF : 600 ≤ F) : hopperref12_Template.l1 F gas [] R = some [] := by
  obtain ⟨F, rfl⟩ : ∃ G, F = G + 1 + 1 := ⟨F - 2, by omega⟩
  rw [hopperref12_Template.l1]
  unfold hopperref12_best.f
  rw [show hopperref12_best.l0 (F + 1) R (-1) 0 = some (bst R R.length 0 (-1)) from rbest_from R hR R.length 0 (-1) (F + 1) (by omega) (by omega) (.inl (by omega)), Option.bind_some, decide_eq_true hg, hopperref12_Template.j2, if_pos rfl]
  split <;> rfl
theorem rtmpl_from (K : Nat) (hK : 2000 ≤ K) (gas : Int) (f : List Ac) (hf : f.length ≤ 20) (hx : ∀ a ∈ f, a.f2.length ≤ 20) (r : List Tx) (cont : ∀ F, 2000 ≤ F → hopperref12_Template.l1 F gas [] (f.map lineA) = some r) : ∀ (n i : Nat), i + n = f.length → hopperref12_Template.l0 (K + n + 1) gas ((f.take i).map lineA) f (i : Int) = some r
  | 0, i, hn => by
    unfold hopperref12_Template.l0
    rw [if_neg (by omega), List.take_of_length_le (by omega)]
    exact cont _ (by omega)
  | n + 1, i, hn => by
    have hi : i < f.length := by omega
    have h2 := hx f[i] (List.getElem_mem hi)
    unfold hopperref12_Template.l0
    rw [if_pos (by omega), if_pos (by omega), rd_eq f i hi, rline_run _ _ (by omega) (by omega), Option.bind_some, step_ i (by omega), show K + (n + 1) = K + n + 1 from rfl, if_pos (by rw [List.length_map, List.length_take]; omega)]
    have := rtmpl_from K hK gas f hf hx r cont n (i + 1) (by omega)
    rw [List.take_succ_eq_append_getElem hi, List.map_append] at this
    exact this
theorem rtemplate_run (k : Nat) (l : List Ac) (gas : Int) (h : FewA l) (hg : gas ≤ 9223372036854775807) (hk : 3000 ≤ k) : hopperref12_Template.f k l gas = some (tmA l gas) := by
  have hlen := fst_len l []
  have h20 := h.1
  obtain ⟨w1, w2⟩ := lns_len l h
  unfold hopperref12_Template.f
  rw [firsts_run k l h.1 (by omega), Option.bind_some]
  have := rtmpl_from (k - ((fst [] l).length + 1)) (by omega) gas (fst [] l) (by omega) (fun a ha => h.2.1 a (fst_sub l [] a ha)) (tmA l gas) (fun F hF => by
    unfold tmA
    by_cases h0 : gas < 0
    · rw [if_pos h0]; exact rtm_neg gas h0 _ w1 F (by omega)
    · rw [if_neg h0]
      exact rtm_run (wk (lns l) + 1) gas (lns l) [] F (by omega) (lns_pos l) (by omega) hg w1 (by rw [List.length_nil]; omega) (by omega)) (fst [] l).length 0 (by omega)
  rw [show k - ((fst [] l).length + 1) + (fst [] l).length + 1 = k by omega] at this
  exact this
theorem rof_from (K : Nat) (t : List Tx) (ht : t.length ≤ 1000) (s : Int) : ∀ (n i : Nat) (acc : List Tx), i + n = t.length → acc.length ≤ i → hopperref12_of.l0 (K + n + 1) t s acc (i : Int) = some (acc ++ of_ s (t.drop i))
  | 0, i, acc, hn, ha => by
    unfold hopperref12_of.l0
    rw [if_neg (by omega), List.drop_eq_nil_of_le (by omega), show of_ s [] = [] from rfl, List.append_nil]
  | n + 1, i, acc, hn, ha => by
    have hi : i < t.length := by omega
    unfold hopperref12_of.l0
    rw [if_pos (by omega), if_pos (by omega), rd_at t i hi, step_ i (by omega), show K + (n + 1) = K + n + 1 from rfl, List.drop_eq_getElem_cons hi]
    by_cases e : t[i].f0 = s
    · rw [if_pos e, if_pos (by omega), eta, rof_from K t ht s n (i + 1) (acc ++ [t[i]]) (by omega) (by rw [List.length_append, List.length_singleton]; omega), List.append_assoc]
      unfold of_
      rw [List.filter_cons, if_pos (beq_iff_eq.2 e)]
      rfl
    · rw [if_neg e, rof_from K t ht s n (i + 1) acc (by omega) (by omega)]
      unfold of_
      rw [List.filter_cons, if_neg (fun q => e (eq_of_beq q))]
theorem rof_run (k : Nat) (t : List Tx) (ht : t.length ≤ 1000) (s : Int) (hk : 1001 ≤ k) : hopperref12_of.f k t s = some (of_ s t) := by
  unfold hopperref12_of.f
  have := rof_from (k - (t.length + 1)) t ht s t.length 0 [] (by omega) (Nat.le_refl _)
  rw [show k - (t.length + 1) + t.length + 1 = k by omega] at this
  exact this
/-- The line of the last account of a sender; acc: there is none. -/
def lm (s : Int) : List Tx → List Ac → List Tx
  | acc, [] => acc
  | acc, a :: l => lm s (if a.f0 = s then lineA a else acc) l
theorem lm_in (s : Int) : ∀ (l : List Ac) (S : List Int) (acc : List Tx), s ∈ S → lm s acc (fst S l) = acc
  | [], _, _, _ => rfl
  | a :: l, S, acc, h => by
    rw [fst]
    split
    · exact lm_in s l _ acc (List.mem_cons_of_mem _ h)
    · rename_i hc
      rw [lm, if_neg (fun e => hc (List.contains_iff_mem.2 (by rw [e]; exact h)))]
      exact lm_in s l _ acc (List.mem_cons_of_mem _ h)
theorem lm_out (s : Int) : ∀ (l : List Ac) (S : List Int) (acc : List Tx), ¬ s ∈ S → lm s acc (fst S l) = match l.find? (fun a => a.f0 == s) with | some a => lineA a | none => acc
  | [], _, _, _ => rfl
  | a :: l, S, acc, h => by
    rw [fst, List.find?_cons]
    by_cases e : a.f0 = s
    · rw [show (a.f0 == s) = true from beq_iff_eq.2 e, if_neg (fun q => h (by rw [← e]; exact List.contains_iff_mem.1 q)), lm, if_pos e, lm_in s l _ _ (by rw [e]; exact List.mem_cons_self ..)]
    · rw [show (a.f0 == s) = false from beq_eq_false_iff_ne.2 e]
      have h' : ¬ s ∈ a.f0 :: S := fun q => (List.mem_cons.1 q).elim (fun q => e q.symm) h
      split
      · exact lm_out s l _ acc h'
      · rw [lm, if_neg e]
        exact lm_out s l _ acc h'
theorem rfol_in (t : List Tx) (ht : t.length ≤ 60) (f : List Ac) (hf : f.length ≤ 20) (hx : ∀ a ∈ f, a.f2.length ≤ 20) (i : Nat) (hi : i < t.length) (mine : List Tx) (hm : mine.length ≤ 60) (C : Nat) (hC : 2000 ≤ C) (c : Bool) (cont : ∀ F, C ≤ F → hopperref12_Follows.l0 F t f (((i + 1 : Nat)) : Int) = some c) :
    ∀ (n j F : Nat) (acc : List Tx), j + n = f.length → C + n + 1 ≤ F → ∃ d, hopperref12_Follows.l1 F t f (i : Int) mine acc (j : Int) = some d ∧ (d = true ↔ mine <+: lm t[i].f0 acc (f.drop j) ∧ c = true)
  | 0, j, F, acc, hj, hF => by
    obtain ⟨F, rfl⟩ : ∃ G, F = G + 1 := ⟨F - 1, by omega⟩
    rw [hopperref12_Follows.l1, if_neg (by omega), List.drop_eq_nil_of_le (by omega), lm]
    by_cases hl : mine.length > acc.length
    · rw [if_pos (by omega)]
      exact ⟨false, rfl, fun q => (by cases q), fun q => absurd q.1.length_le (by omega)⟩
    · rw [if_neg (by omega), if_pos (by omega), if_pos (by omega), Int.toNat_natCast, step_ i (by omega)]
      obtain ⟨b, h1, h2⟩ := txs_run F mine (acc.take mine.length) (by omega) (by omega)
      rw [h1, Option.bind_some]
      cases b with
      | true =>
        rw [if_pos rfl, cont F (by omega)]
        exact ⟨c, rfl, fun q => ⟨List.prefix_iff_eq_take.2 (h2.1 rfl), q⟩, fun q => q.2⟩
      | false =>
        rw [if_neg (by decide)]
        exact ⟨false, rfl, fun q => (by cases q), fun q => (by have := h2.2 (List.prefix_iff_eq_take.1 q.1); cases this)⟩
  | n + 1, j, F, acc, hj, hF => by
    obtain ⟨F, rfl⟩ : ∃ G, F = G + 1 := ⟨F - 1, by omega⟩
    have hjf : j < f.length := by omega
    have h2 := hx f[j] (List.getElem_mem hjf)
    rw [hopperref12_Follows.l1, if_pos (by omega), if_pos (by omega), if_pos (by omega), if_pos (by omega), rd_eq f j hjf, rd_at t i hi, step_ j (by omega), List.drop_eq_getElem_cons hjf, lm]
    by_cases e : f[j].f0 = t[i].f0
    · rw [if_pos e, if_pos e, rline_run _ _ (by omega) (by omega), Option.bind_some]
      exact rfol_in t ht f hf hx i hi mine hm C hC c cont n (j + 1) F (lineA f[j]) (by omega) (by omega)
    · rw [if_neg e, if_neg e]
      exact rfol_in t ht f hf hx i hi mine hm C hC c cont n (j + 1) F acc (by omega) (by omega)
theorem rfol_from (l : List Ac) (h : FewA l) (t : List Tx) (ht : t.length ≤ 60) : ∀ (n i F : Nat), i + n = t.length → 2000 + n * 23 + 1 ≤ F → ∃ c, hopperref12_Follows.l0 F t (fst [] l) (i : Int) = some c ∧ (c = true ↔ ∀ j (hj : j < t.length), i ≤ j → of_ t[j].f0 t <+: mineA l t[j].f0)
  | 0, i, F, hn, hF => by
    obtain ⟨F, rfl⟩ : ∃ G, F = G + 1 := ⟨F - 1, by omega⟩
    rw [hopperref12_Follows.l0, if_neg (by omega)]
    exact ⟨true, rfl, fun _ j hj hij => by omega, fun _ => rfl⟩
  | n + 1, i, F, hn, hF => by
    obtain ⟨F, rfl⟩ : ∃ G, F = G + 1 := ⟨F - 1, by omega⟩
    have hi : i < t.length := by omega
    have hlen := fst_len l []
    have h20 := h.1
    have hol : (of_ t[i].f0 t).length ≤ t.length := List.length_filter_le _ _
    obtain ⟨c, _, hc2⟩ := rfol_from l h t ht n (i + 1) (2000 + n * 23 + 1) (by omega) (Nat.le_refl _)
    have hcont : ∀ F', 2000 + n * 23 + 1 ≤ F' → hopperref12_Follows.l0 F' t (fst [] l) (((i + 1 : Nat)) : Int) = some c := fun F' hF' => by
      obtain ⟨c', h1, h2⟩ := rfol_from l h t ht n (i + 1) F' (by omega) hF'
      have : c' = c := Bool.eq_iff_iff.2 (h2.trans hc2.symm)
      rw [h1, this]
    rw [hopperref12_Follows.l0, if_pos (by omega), if_pos (by omega), rd_at t i hi, rof_run _ t (by omega) _ (by omega), Option.bind_some]
    obtain ⟨d, h1, h2⟩ := rfol_in t ht (fst [] l) (by omega) (fun a ha => h.2.1 a (fst_sub l [] a ha)) i hi (of_ t[i].f0 t) (by omega) (2000 + n * 23 + 1) (by omega) c hcont (fst [] l).length 0 F [] (by omega) (by omega)
    rw [List.drop_zero, lm_out _ l [] [] List.not_mem_nil] at h2
    refine ⟨d, h1, h2.trans ⟨fun q j hj hij => ?_, fun q => ⟨q i hi (Nat.le_refl _), hc2.2 (fun j hj hij => q j hj (by omega))⟩⟩⟩
    by_cases e : j = i
    · subst e; exact q.1
    · exact hc2.1 q.2 j hj (by omega)
theorem rfollows_run (k : Nat) (l : List Ac) (h : FewA l) (t : List Tx) (ht : t.length ≤ 60) (hk : 4000 ≤ k) : ∃ c, hopperref12_Follows.f k l t = some c ∧ (c = true ↔ ∀ s, of_ s t <+: mineA l s) := by
  unfold hopperref12_Follows.f
  rw [firsts_run k l h.1 (by omega), Option.bind_some]
  obtain ⟨c, h1, h2⟩ := rfol_from l h t ht t.length 0 k (by omega) (by omega)
  refine ⟨c, h1, h2.trans ⟨fun q s => ?_, fun q j hj _ => q _⟩⟩
  by_cases hs : ∃ j, ∃ hj : j < t.length, t[j].f0 = s
  · obtain ⟨j, hj, rfl⟩ := hs
    exact q j hj (Nat.zero_le _)
  · have : of_ s t = [] := by
      unfold of_
      rw [List.filter_eq_nil_iff]
      intro x hx e
      obtain ⟨j, hj, rfl⟩ := List.getElem_of_mem hx
      exact hs ⟨j, hj, eq_of_beq e⟩
    rw [this]
    exact List.nil_prefix
end Go.Proofs.Ytahopljippfadaa.GreedyLaws
