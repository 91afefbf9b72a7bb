/- Plain laws on ascending transactions of one sender; no condition but the order. -/
import Derived.Test.YtehncbhmdgdkjaaQueueLaws
namespace Go.Proofs.Ytehncbhmdgdkjaa.QueueLaws
set_option linter.unusedSimpArgs false
set_option linter.unusedVariables false
open Go.RowKit Go.Proofs.Ytehncbhmdgdkjaa.Q Go.Proofs.Ytehncbhmdgdkjaa.TxnCodec Go.Proofs.Ytehncbhmdgdkjaa.TxnLaws Go.Proofs.YtehncbhmdgdkjaaW.PrintWords Go.Proofs.YtehncbhmdgdkjaaW.PrintLast
theorem Asc.mono (s : Int) : ∀ (l : List Tx) (n m : Int), m ≤ n → Asc s n l → Asc s m l
  | [], _, _, _, _ => trivial
  | x :: r, n, m, h, q => ⟨q.1, q.2.1, by have := q.2.2.1; omega, q.2.2.2⟩
theorem Asc.base (s : Int) : ∀ (l : List Tx) (n : Int), Asc s n l → ∀ x ∈ l, n ≤ x.f1
  | [], _, _, x, hx => by simp at hx
  | y :: r, n, q, x, hx => by
    rcases List.mem_cons.1 hx with rfl | hx
    · exact q.2.2.1
    · have := Asc.base s r _ q.2.2.2 x hx
      have := q.2.2.1
      omega
theorem Asc.filter (s : Int) (p : Tx → Bool) : ∀ (l : List Tx) (n : Int), Asc s n l → Asc s n (l.filter p)
  | [], _, _ => trivial
  | x :: r, n, q => by
    rw [List.filter_cons]
    have ih := Asc.filter s p r _ q.2.2.2
    split
    · exact ⟨q.1, q.2.1, q.2.2.1, ih⟩
    · exact ih.mono s _ _ _ (by have := q.2.2.1; omega)
theorem low_nil (n : Int) (l : List Tx) (h : ∀ x ∈ l, n ≤ x.f1) : low n l = [] ∧ high n l = l := by
  constructor
  · exact List.filter_eq_nil_iff.2 (fun x hx => by simp; exact h x hx)
  · exact List.filter_eq_self.2 (fun x hx => by simp; exact h x hx)
theorem Asc.split (s : Int) (n : Int) : ∀ (l : List Tx) (m : Int), Asc s m l → low n l ++ high n l = l
  | [], _, _ => rfl
  | x :: r, m, q => by
    rw [low_cons, high_cons]
    by_cases h : x.f1 < n
    · rw [if_pos h, if_pos h, List.cons_append, Asc.split s n r _ q.2.2.2]
    · have := low_nil n r (fun y hy => by have := Asc.base s r _ q.2.2.2 y hy; omega)
      rw [if_neg h, if_neg h, this.1, this.2, List.nil_append]
theorem Asc.high (s : Int) (n : Int) (l : List Tx) (m : Int) (h : Asc s m l) : Asc s n (high n l) := by
  have h1 := Asc.filter s (fun x => !decide (x.f1 < n)) l m h
  have h2 : ∀ x ∈ QueueLaws.high n l, n ≤ x.f1 := fun x hx => by
    have := (List.mem_filter.1 hx).2
    simpa using this
  show Asc s n (QueueLaws.high n l)
  cases hl : QueueLaws.high n l with
  | nil => trivial
  | cons y r =>
    have h3 : Asc s m (y :: r) := by rw [← hl]; exact h1
    exact ⟨h3.1, h3.2.1, h2 y (by rw [hl]; simp), h3.2.2.2⟩
theorem high_high (x y : Int) (h : x ≤ y) (l : List Tx) : high y (high x l) = high y l := by
  unfold high
  rw [List.filter_filter]
  congr 1
  funext a
  by_cases h1 : a.f1 < x
  · have : a.f1 < y := by omega
    simp [h1, this]
  · simp [h1]
theorem low_low (x y : Int) (h : x ≤ y) (l : List Tx) : low y (low x l) = low x l := by
  unfold low
  rw [List.filter_filter]
  congr 1
  funext a
  by_cases h1 : a.f1 < x
  · have : a.f1 < y := by omega
    simp [h1, this]
  · simp [h1]
theorem low_append (n : Int) (l m : List Tx) : low n (l ++ m) = low n l ++ low n m := List.filter_append ..
theorem Asc.lows (s x y : Int) (h : x ≤ y) (l : List Tx) (m : Int) (q : Asc s m l) : low x l ++ low y (QueueLaws.high x l) = low y l := by
  conv => rhs; rw [← Asc.split s x l m q, low_append, low_low x y h]
theorem sum_split (n : Int) : ∀ l : List Tx, sum (high n l) + sum (low n l) = sum l
  | [] => rfl
  | x :: r => by
    have := sum_split n r
    rw [low_cons, high_cons, sum]
    split
    · rw [sum]; omega
    · rw [sum]; omega
theorem has_drop (n : Int) (l : List Tx) : has n (l.filter fun x => !(x.f1 == n)) = false := by
  unfold has
  rw [List.any_eq_false]
  intro x hx
  have := (List.mem_filter.1 hx).2
  simpa using this
theorem find_drop (n : Int) (l : List Tx) : fnd n (l.filter fun x => !(x.f1 == n)) = none := fnd_none _ _ (by rw [has_drop]; decide)
/-! put, in an ascending row -/
def ins (t : Tx) : List Tx → List Tx
  | [] => [t]
  | x :: r => if x.f1 < t.f1 then x :: ins t r else if x.f1 = t.f1 then t :: r else t :: x :: r
def Up : Int → List Tx → Prop
  | _, [] => True
  | n, x :: r => n ≤ x.f1 ∧ Up (x.f1 + 1) r
theorem Asc.up (s : Int) : ∀ (l : List Tx) (n : Int), Asc s n l → Up n l
  | [], _, _ => trivial
  | x :: r, n, q => ⟨q.2.2.1, Asc.up s r _ q.2.2.2⟩
theorem Up.mono : ∀ (l : List Tx) (n m : Int), m ≤ n → Up n l → Up m l
  | [], _, _, _, _ => trivial
  | x :: r, n, m, h, q => ⟨by have := q.1; omega, q.2⟩
theorem Up.base : ∀ (l : List Tx) (n : Int), Up n l → ∀ x ∈ l, n ≤ x.f1
  | [], _, _, x, hx => by simp at hx
  | y :: r, n, q, x, hx => by
    rcases List.mem_cons.1 hx with rfl | hx
    · exact q.1
    · have := Up.base r _ q.2 x hx
      have := q.1
      omega
theorem has_above (n : Int) (l : List Tx) (h : ∀ x ∈ l, n < x.f1) : has n l = false := by
  unfold has
  rw [List.any_eq_false]
  intro x hx
  have := h x hx
  simp
  omega
theorem has_cons (n : Int) (x : Tx) (l : List Tx) : has n (x :: l) = (x.f1 == n || has n l) := List.any_cons
theorem put_ins (t : Tx) : ∀ (l : List Tx) (n : Int), Up n l → putQ t l = ins t l
  | [], _, _ => rfl
  | x :: r, n, q => by
    have ih := put_ins t r _ q.2
    unfold putQ at ih ⊢
    rw [has_cons, ins]
    by_cases h1 : x.f1 < t.f1
    · have hx : ¬ x.f1 = t.f1 := by omega
      rw [if_pos h1, beq_eq_false_iff_ne.2 hx, Bool.false_or, putA, putB, if_neg hx, if_neg (show ¬ t.f1 < x.f1 by omega), ← ih]
      split <;> rfl
    · by_cases h2 : x.f1 = t.f1
      · rw [if_neg h1, if_pos h2, beq_iff_eq.2 h2, Bool.true_or, if_pos rfl, putA, if_pos h2]
      · have h3 := has_above t.f1 r (fun y hy => by have := Up.base r _ q.2 y hy; omega)
        rw [if_neg h1, if_neg h2, beq_eq_false_iff_ne.2 h2, h3, Bool.false_or, if_neg (by decide), putB, if_pos (by omega)]
theorem ins_up (t : Tx) : ∀ (l : List Tx) (n : Int), n ≤ t.f1 → Up n l → Up n (ins t l)
  | [], n, h, _ => ⟨h, trivial⟩
  | x :: r, n, h, q => by
    rw [ins]
    by_cases h1 : x.f1 < t.f1
    · rw [if_pos h1]
      exact ⟨q.1, ins_up t r _ (by omega) q.2⟩
    · by_cases h2 : x.f1 = t.f1
      · rw [if_neg h1, if_pos h2]
        exact ⟨h, h2 ▸ q.2⟩
      · rw [if_neg h1, if_neg h2]
        exact ⟨h, by omega, q.2⟩
theorem ins_asc (s : Int) (t : Tx) (hc : ChkT t) (hs : t.f0 = s) : ∀ (l : List Tx) (n : Int), n ≤ t.f1 → Asc s n l → Asc s n (ins t l)
  | [], n, h, _ => ⟨hc, hs, h, trivial⟩
  | x :: r, n, h, q => by
    rw [ins]
    by_cases h1 : x.f1 < t.f1
    · rw [if_pos h1]
      exact ⟨q.1, q.2.1, q.2.2.1, ins_asc s t hc hs r _ (by omega) q.2.2.2⟩
    · by_cases h2 : x.f1 = t.f1
      · rw [if_neg h1, if_pos h2]
        exact ⟨hc, hs, h, h2 ▸ q.2.2.2⟩
      · rw [if_neg h1, if_neg h2]
        exact ⟨hc, hs, h, q.1, q.2.1, by omega, q.2.2.2⟩
theorem ins_comm (t u : Tx) (hn : t.f1 ≠ u.f1) : ∀ l : List Tx, ins u (ins t l) = ins t (ins u l)
  | [] => by
    simp only [ins]
    by_cases h : t.f1 < u.f1
    · rw [if_pos h, if_neg (by omega), if_neg (by omega)]
    · rw [if_neg h, if_neg hn, if_pos (by omega)]
  | x :: r => by
    have ih := ins_comm t u hn r
    rcases Int.lt_trichotomy x.f1 t.f1 with ht | ht | ht
    · rcases Int.lt_trichotomy x.f1 u.f1 with hu | hu | hu
      · simp only [ins, if_pos ht, if_pos hu, ih]
      · have h1 : ¬ x.f1 < u.f1 := by omega
        have h2 : u.f1 < t.f1 := by omega
        simp only [ins, if_pos ht, if_neg h1, if_pos hu, if_pos h2]
      · have h1 : ¬ x.f1 < u.f1 := by omega
        have h3 : ¬ x.f1 = u.f1 := by omega
        have h2 : u.f1 < t.f1 := by omega
        simp only [ins, if_pos ht, if_neg h1, if_neg h3, if_pos h2]
    · have h0 : ¬ x.f1 < t.f1 := by omega
      rcases Int.lt_trichotomy x.f1 u.f1 with hu | hu | hu
      · have h2 : t.f1 < u.f1 := by omega
        simp only [ins, if_neg h0, if_pos ht, if_pos hu, if_pos h2]
      · exact absurd (ht.symm.trans hu) hn
      · have h1 : ¬ x.f1 < u.f1 := by omega
        have h3 : ¬ x.f1 = u.f1 := by omega
        have h2 : u.f1 < t.f1 := by omega
        have h4 : ¬ t.f1 < u.f1 := by omega
        have h5 : ¬ t.f1 = u.f1 := by omega
        simp only [ins, if_neg h0, if_pos ht, if_neg h1, if_neg h3, if_pos h2, if_neg h4, if_neg h5]
    · have h0 : ¬ x.f1 < t.f1 := by omega
      have h0' : ¬ x.f1 = t.f1 := by omega
      rcases Int.lt_trichotomy x.f1 u.f1 with hu | hu | hu
      · have h2 : t.f1 < u.f1 := by omega
        simp only [ins, if_neg h0, if_neg h0', if_pos hu, if_pos h2]
      · have h1 : ¬ x.f1 < u.f1 := by omega
        have h2 : t.f1 < u.f1 := by omega
        have h4 : ¬ u.f1 < t.f1 := by omega
        have h5 : ¬ u.f1 = t.f1 := by omega
        simp only [ins, if_neg h0, if_neg h0', if_neg h1, if_pos hu, if_pos h2, if_neg h4, if_neg h5]
      · have h1 : ¬ x.f1 < u.f1 := by omega
        have h3 : ¬ x.f1 = u.f1 := by omega
        rcases Int.lt_trichotomy t.f1 u.f1 with h | h | h
        · have h4 : ¬ u.f1 < t.f1 := by omega
          have h5 : ¬ u.f1 = t.f1 := by omega
          simp only [ins, if_neg h0, if_neg h0', if_neg h1, if_neg h3, if_pos h, if_neg h4, if_neg h5]
        · exact absurd h hn
        · have h4 : ¬ t.f1 < u.f1 := by omega
          have h5 : ¬ t.f1 = u.f1 := by omega
          simp only [ins, if_neg h0, if_neg h0', if_neg h1, if_neg h3, if_pos h, if_neg h4, if_neg h5]
theorem find_cons (n : Int) (x : Tx) (l : List Tx) : fnd n (x :: l) = if x.f1 = n then some x else fnd n l := by
  unfold fnd
  by_cases h : x.f1 = n
  · rw [if_pos h, List.find?_cons_of_pos (by simpa using h)]
  · rw [if_neg h, List.find?_cons_of_neg (by simpa using h)]
theorem find_above (n : Int) (l : List Tx) (h : ∀ x ∈ l, n < x.f1) : fnd n l = none := fnd_none _ _ (by rw [has_above n l h]; decide)
def slotO : Option Tx → Int
  | some o => slo_ o
  | none => 0
theorem ins_sum (t : Tx) : ∀ (l : List Tx) (n : Int), Up n l → sum (ins t l) = sum l + slo_ t - slotO (fnd t.f1 l)
  | [], _, _ => by simp [ins, sum, fnd, slotO]
  | x :: r, n, q => by
    have ih := ins_sum t r _ q.2
    rw [ins, find_cons]
    by_cases h1 : x.f1 < t.f1
    · rw [if_pos h1, if_neg (by omega), sum, sum, ih]; omega
    · by_cases h2 : x.f1 = t.f1
      · rw [if_neg h1, if_pos h2, if_pos h2, sum, sum, slotO]; omega
      · rw [if_neg h1, if_neg h2, if_neg h2, find_above t.f1 r (fun y hy => by have := Up.base r _ q.2 y hy; omega), sum, sum, slotO]; omega
theorem ins_len (t : Tx) : ∀ (l : List Tx) (n : Int), Up n l → (ins t l).length = if (fnd t.f1 l).isSome = true then l.length else l.length + 1
  | [], _, _ => rfl
  | x :: r, n, q => by
    have ih := ins_len t r _ q.2
    rw [ins, find_cons]
    by_cases h1 : x.f1 < t.f1
    · rw [if_pos h1, if_neg (show ¬ x.f1 = t.f1 by omega), List.length_cons, ih, List.length_cons]; split <;> rfl
    · by_cases h2 : x.f1 = t.f1
      · rw [if_neg h1, if_pos h2, if_pos h2]; rfl
      · rw [if_neg h1, if_neg h2, if_neg h2, find_above t.f1 r (fun y hy => by have := Up.base r _ q.2 y hy; omega)]; rfl
/-! whatever the order -/
theorem find_putA (t : Tx) : ∀ l : List Tx, has t.f1 l = true → fnd t.f1 (putA t l) = some t
  | [], h => by simp [has] at h
  | x :: r, h => by
    rw [putA]
    by_cases hx : x.f1 = t.f1
    · rw [if_pos hx, find_cons, if_pos rfl]
    · rw [if_neg hx, find_cons, if_neg hx, find_putA t r (by simpa [has, hx] using h)]
theorem find_putB (t : Tx) : ∀ l : List Tx, has t.f1 l = false → fnd t.f1 (putB t l) = some t
  | [], h => by rw [putB, find_cons, if_pos rfl]
  | x :: r, h => by
    have hx : ¬ x.f1 = t.f1 := fun q => by simp [has, q] at h
    rw [putB]
    split
    · rw [find_cons, if_pos rfl]
    · rw [find_cons, if_neg hx, find_putB t r (by simpa [has, hx] using h)]
theorem find_put (t : Tx) (l : List Tx) : fnd t.f1 (putQ t l) = some t := by
  unfold putQ
  split
  · rename_i h; exact find_putA t l h
  · rename_i h; exact find_putB t l (Bool.eq_false_iff.2 h)
theorem putA_putA (t : Tx) : ∀ l : List Tx, putA t (putA t l) = putA t l
  | [] => rfl
  | x :: r => by
    rw [putA]
    by_cases hx : x.f1 = t.f1
    · rw [if_pos hx, putA, if_pos rfl]
    · rw [if_neg hx, putA, if_neg hx, putA_putA t r]
theorem putA_putB (t : Tx) : ∀ l : List Tx, has t.f1 l = false → putA t (putB t l) = putB t l
  | [], _ => by rw [putB, putA, if_pos rfl]
  | x :: r, h => by
    have hx : ¬ x.f1 = t.f1 := fun q => by simp [has, q] at h
    rw [putB]
    split
    · rw [putA, if_pos rfl]
    · rw [putA, if_neg hx, putA_putB t r (by simpa [has, hx] using h)]
theorem put_put (t : Tx) (l : List Tx) : putQ t (putQ t l) = putQ t l := by
  have h : has t.f1 (putQ t l) = true := by rw [← fnd_has, find_put]; rfl
  rw [putQ, if_pos h]
  unfold putQ
  split
  · exact putA_putA t l
  · rename_i h2; exact putA_putB t l (Bool.eq_false_iff.2 h2)
theorem putA_len (t : Tx) : ∀ l : List Tx, (putA t l).length = l.length
  | [] => rfl
  | x :: r => by rw [putA]; split <;> simp [putA_len t r]
theorem putB_len (t : Tx) : ∀ l : List Tx, (putB t l).length = l.length + 1
  | [] => rfl
  | x :: r => by rw [putB]; split <;> simp [putB_len t r]
theorem put_len (t : Tx) (l : List Tx) : (putQ t l).length ≤ l.length + 1 := by
  unfold putQ
  split
  · rw [putA_len]; omega
  · rw [putB_len]; exact Nat.le_refl _
/-! who is ready stands without a gap -/
theorem rdy_spec (s b : Int) (hb : 0 ≤ b ∧ b ≤ 4294967295) : ∀ (l : List Tx) (i : Nat), i + l.length ≤ 1000 → Asc s (b + i) l → ∃ m, m ≤ l.length ∧ rdy b l i = l.take m ∧ (∀ j (h : j < m) (h2 : j < l.length), (l[j]).f1 = b + i + j) ∧ (∀ x ∈ l.drop m, b + i + m < x.f1)
  | [], i, _, _ => ⟨0, Nat.le_refl _, rfl, fun j h => absurd h (by omega), fun x hx => by simp at hx⟩
  | x :: r, i, hi, q => by
    have hx := chk_nonce x q.1
    have hge := q.2.2.1
    rw [List.length_cons] at hi
    have hw : wrap64 (x.f1 - b) = x.f1 - b := by unfold wrap64; omega
    rw [rdy, if_neg (by omega), hw]
    by_cases he : x.f1 - b = (i : Int)
    · have hq : Asc s (b + ((i + 1 : Nat) : Int)) r := by
        have := q.2.2.2
        rwa [show x.f1 + 1 = b + ((i + 1 : Nat) : Int) by omega] at this
      obtain ⟨m, h1, h2, h3, h4⟩ := rdy_spec s b hb r (i + 1) (by omega) hq
      refine ⟨m + 1, by rw [List.length_cons]; omega, by rw [if_pos he, h2, List.take_succ_cons], fun j h hl => ?_, fun y hy => ?_⟩
      · cases j with
        | zero => show x.f1 = _; omega
        | succ j =>
          have := h3 j (by omega) (by simpa using hl)
          show (r[j]'(by simpa using hl)).f1 = _
          omega
      · have := h4 y (by simpa using hy)
        omega
    · refine ⟨0, by omega, by rw [if_neg he, List.take_zero], fun j h => absurd h (by omega), fun y hy => ?_⟩
      rw [List.drop_zero] at hy
      rcases List.mem_cons.1 hy with rfl | hy
      · omega
      · have := Asc.base s r _ q.2.2.2 y hy
        omega
end Go.Proofs.Ytehncbhmdgdkjaa.QueueLaws
