/- Plain laws of the document's own accounts: they come to the same; no condition but the lists' lengths. -/
import Derived.Test.YtehncbhmdgdkjaaQueueSame
import Derived.Test.YtehncbhmdgdkjaaQueueTxnRef
import Derived.Test.YtehncbhmdgdkjaaQx11
import Derived.Test.YtehncbhmdgdkjaaQx3
import Derived.Test.YtehncbhmdgdkjaaQx4
import Derived.Test.YtehncbhmdgdkjaaQx11
namespace Go.Proofs.Ytehncbhmdgdkjaa.QueueLaws
set_option linter.unusedSimpArgs false
set_option linter.unusedVariables false
open Go.RowKit Go.Proofs.Ytehncbhmdgdkjaa.Q Go.Proofs.Ytehncbhmdgdkjaa.TxnCodec Go.Proofs.Ytehncbhmdgdkjaa.TxnLaws Go.Proofs.YtehncbhmdgdkjaaW.PrintWords Go.Proofs.YtehncbhmdgdkjaaW.PrintLast
theorem rcheck_t (x : Tx) : hopperref04_Check.f x.f0 x.f1 x.f2 x.f3 x.f4 x.f5 = some (decide (ChkT x)) := ref_check _ _ _ _ _ _
theorem rslots_t (x : Tx) (k : Nat) (hk : 20 ≤ k) : hopperref04_Slots.f k x.f0 x.f1 x.f2 x.f3 x.f4 x.f5 = some (slo_ x) := ref_slots _ _ _ _ _ _ k hk
theorem rfind_from (k : Nat) (s b n : Int) : ∀ (m i : Nat) (l : List Tx), m = l.length - i → i ≤ l.length → l.length ≤ 1000 → hopperref05_Find.l0 (k + m + 1) n (i : Int) s b l = some (tell (fnd n (l.drop i)))
  | 0, i, l, hm, hi, hl => by
    unfold hopperref05_Find.l0
    rw [if_neg (by omega), List.drop_eq_nil_of_le (by omega)]
    rfl
  | m + 1, i, l, hm, hi, hl => by
    have hlt : i < l.length := by omega
    unfold hopperref05_Find.l0
    rw [if_pos (by omega), if_pos (by omega), step_ i (by omega), rd_at l i hlt, List.drop_eq_getElem_cons hlt, show k + (m + 1) = k + m + 1 from rfl]
    by_cases h : l[i].f1 = n
    · rw [if_pos h, fnd, List.find?_cons_of_pos (by simpa using h)]
      rfl
    · rw [if_neg h, fnd, List.find?_cons_of_neg (by simpa using h)]
      exact rfind_from k s b n m (i + 1) l (by omega) (by omega) hl
theorem rfind_eq (k : Nat) (s b : Int) (l : List Tx) (n : Int) (h : l.length ≤ 1000) (hk : l.length + 1 ≤ k) : hopperref05_Find.f k s b l n = some (tell (fnd n l)) := by
  have := rfind_from (k - (l.length + 1)) s b n l.length 0 l (by omega) (by omega) h
  rw [show k - (l.length + 1) + l.length + 1 = k by omega] at this
  unfold hopperref05_Find.f
  simpa using this
theorem rready_from (k : Nat) (b s : Int) : ∀ (m i : Nat) (a l : List Tx), m = l.length - i → i ≤ l.length → l.length ≤ 1000 → a.length + m ≤ 2000 → hopperref05_Ready.l0 (k + m + 1) a (i : Int) s b l = some (a ++ rdy b (l.drop i) i)
  | 0, i, a, l, hm, hi, hl, _ => by
    unfold hopperref05_Ready.l0
    rw [if_neg (by omega), List.drop_eq_nil_of_le (by omega), rdy, List.append_nil]
  | m + 1, i, a, l, hm, hi, hl, ha => by
    have hlt : i < l.length := by omega
    unfold hopperref05_Ready.l0
    rw [if_pos (by omega), if_pos (by omega), step_ i (by omega), rd_at l i hlt, List.drop_eq_getElem_cons hlt, rdy, show k + (m + 1) = k + m + 1 from rfl, eta]
    by_cases h : l[i].f1 < b
    · rw [if_pos h, if_pos h, List.append_nil]
    · by_cases h2 : wrap64 (l[i].f1 - b) = (i : Int)
      · rw [if_neg h, if_neg h, if_pos h2, if_pos h2, if_pos (by omega), rready_from k b s m (i + 1) (a ++ [l[i]]) l (by omega) (by omega) hl (by rw [List.length_append, List.length_singleton]; omega), List.append_assoc, List.singleton_append]
      · rw [if_neg h, if_neg h, if_neg h2, if_neg h2, List.append_nil]
theorem rready_eq (k : Nat) (s b : Int) (l : List Tx) (h : l.length ≤ 1000) (hk : l.length + 1 ≤ k) : hopperref05_Ready.f k s b l = some (rdy b l 0) := by
  have := rready_from (k - (l.length + 1)) b s l.length 0 [] l (by omega) (by omega) h (by simp; omega)
  rw [show k - (l.length + 1) + l.length + 1 = k by omega] at this
  unfold hopperref05_Ready.f
  simpa using this
theorem rslots_from (k : Nat) (hk : 20 ≤ k) (s b : Int) : ∀ (m i : Nat) (a : Int) (l : List Tx), m = l.length - i → i ≤ l.length → l.length ≤ 1000 → 0 ≤ a → a + 10 * m ≤ 100000 → hopperref05_Slots.l0 (k + m + 1) a (i : Int) s b l = some (a + sum (l.drop i))
  | 0, i, a, l, hm, hi, hl, _, _ => by
    unfold hopperref05_Slots.l0
    rw [if_neg (by omega), List.drop_eq_nil_of_le (by omega), sum, Int.add_zero]
  | m + 1, i, a, l, hm, hi, hl, h0, h1 => by
    have hlt : i < l.length := by omega
    have hr := slo_range l[i]
    unfold hopperref05_Slots.l0
    rw [if_pos (by omega), if_pos (by omega), step_ i (by omega), rd_at l i hlt, List.drop_eq_getElem_cons hlt, sum, show k + (m + 1) = k + m + 1 from rfl, rslots_t _ _ (by omega), Option.bind_some, wadd a (slo_ l[i]) (by omega) (by omega), rslots_from k hk s b m (i + 1) (a + slo_ l[i]) l (by omega) (by omega) hl (by omega) (by omega), Int.add_assoc]
theorem rqslots_eq (k : Nat) (s b : Int) (l : List Tx) (h : l.length ≤ 1000) (hk : l.length + 21 ≤ k) : hopperref05_Slots.f k s b l = some (sum l) := by
  have := rslots_from (k - (l.length + 1)) (by omega) s b l.length 0 0 l (by omega) (by omega) h (by omega) (by omega)
  rw [show k - (l.length + 1) + l.length + 1 = k by omega] at this
  unfold hopperref05_Slots.f
  simpa using this
/-- The document's own rule: no less than the base, and above the one ahead of it. -/
theorem asc_mono (s : Int) : ∀ (l : List Tx) (n m : Int), m ≤ n → Asc s n l → Asc s m l
  | [], _, _, _, _ => trivial
  | x :: r, n, m, h, q => ⟨q.1, q.2.1, by have := q.2.2.1; omega, q.2.2.2⟩
theorem asc_base (s : Int) : ∀ (l : List Tx) (n : Int), Asc s n l → ∀ x ∈ l, n ≤ x.f1
  | [], _, _, x, hx => by simp at hx
  | y :: r, n, q, x, hx => by
    rcases List.mem_cons.1 hx with rfl | hx
    · exact q.2.2.1
    · have := asc_base s r _ q.2.2.2 x hx
      have := q.2.2.1
      omega
theorem wback (i : Nat) (h0 : 0 < i) (h : i ≤ 1000) : wrap64 ((i : Int) - 1) = ((i - 1 : Nat) : Int) := by unfold wrap64; omega
theorem rcheck_from (k : Nat) (s b : Int) : ∀ (m i : Nat) (n : Int) (l : List Tx), m = l.length - i → i ≤ l.length → l.length ≤ 1000 → b ≤ n → (i = 0 → n = b) → (∀ (h0 : 0 < i) (h : i ≤ l.length), n = (l[i - 1]'(by omega)).f1 + 1) → hopperref05_Check.l0 (k + m + 1) (i : Int) s b l = some (decide (Asc s n (l.drop i)))
  | 0, i, n, l, hm, hi, hl, _, _, _ => by
    unfold hopperref05_Check.l0
    rw [if_neg (by omega), List.drop_eq_nil_of_le (by omega), decide_eq_true (show Asc s n [] from trivial)]
  | m + 1, i, n, l, hm, hi, hl, hb, hz, hp => by
    have hlt : i < l.length := by omega
    unfold hopperref05_Check.l0
    rw [if_pos (by omega), if_pos (by omega), step_ i (by omega), rd_at l i hlt, List.drop_eq_getElem_cons hlt, show k + (m + 1) = k + m + 1 from rfl, rcheck_t, Option.bind_some]
    by_cases h1 : ChkT l[i]
    · rw [decide_eq_true h1, if_pos rfl]
      by_cases h2 : l[i].f0 = s
      · rw [if_pos h2]
        have next : n ≤ l[i].f1 → b ≤ l[i].f1 → hopperref05_Check.l0 (k + m + 1) (((i + 1 : Nat)) : Int) s b l = some (decide (Asc s n (l[i] :: l.drop (i + 1)))) := fun h3 h4 => by
          rw [rcheck_from k s b m (i + 1) (l[i].f1 + 1) l (by omega) (by omega) hl (by omega) (by omega) (fun _ _ => by simp)]
          congr 1
          exact decide_eq_decide.2 ⟨fun q => ⟨h1, h2, h3, q⟩, fun q => q.2.2.2⟩
        by_cases h3 : l[i].f1 < b
        · rw [if_pos h3, decide_eq_false (fun q => by have := q.2.2.1; omega)]
        · rw [if_neg h3]
          by_cases h0 : 0 < i
          · have hn := hp h0 (by omega)
            rw [if_pos (by omega), wback i h0 (by omega), if_pos (by omega), if_pos (by omega), rd_at l (i - 1) (by omega)]
            by_cases h4 : (l[i - 1]'(by omega)).f1 ≥ l[i].f1
            · rw [if_pos h4, decide_eq_false (fun q => by have := q.2.2.1; omega)]
            · rw [if_neg h4]
              exact next (by omega) (by omega)
          · rw [if_neg (by omega)]
            have := hz (by omega)
            exact next (by omega) (by omega)
      · rw [if_neg h2, decide_eq_false (fun q => h2 q.2.1)]
    · rw [decide_eq_false h1, if_neg (by decide), decide_eq_false (fun q => h1 q.1)]
theorem rqcheck_eq (k : Nat) (s b : Int) (l : List Tx) (per : Int) (h : l.length ≤ 1000) (hk : l.length + 2 ≤ k) : hopperref05_Check.f k s b l per = some (decide (May s b l per)) := by
  obtain ⟨k, rfl⟩ : ∃ m, k = m + 1 := ⟨k - 1, by omega⟩
  have key : ∀ c : Bool, hopperref05_Check.j0 (k + 1) c s b l = some (if c = true then false else decide (Asc s b l)) := fun c => by
    have := rcheck_from (k - (l.length + 1)) s b l.length 0 b l (by omega) (by omega) h (by omega) (fun _ => rfl) (fun q => by omega)
    rw [show k - (l.length + 1) + l.length + 1 = k by omega] at this
    unfold hopperref05_Check.j0
    try dsimp only
    by_cases hc : c = true
    · rw [if_pos hc, if_pos hc]
    · rw [if_neg hc, if_neg hc]
      simpa using this
  unfold hopperref05_Check.f
  simp only [key]
  by_cases h1 : s < 0
  · rw [if_pos h1, if_pos trivial, decide_eq_false (fun q => by have := q.1; omega)]
  · by_cases h2 : s > 255
    · rw [if_neg h1, if_pos h2, if_pos trivial, decide_eq_false (fun q => by have := q.2.1; omega)]
    · by_cases h3 : b < 0
      · rw [if_neg h1, if_neg h2, if_pos h3, if_pos trivial, decide_eq_false (fun q => by have := q.2.2.1; omega)]
      · by_cases h4 : b ≥ 4294967296
        · rw [if_neg h1, if_neg h2, if_neg h3, if_pos h4, if_pos trivial, decide_eq_false (fun q => by have := q.2.2.2.1; omega)]
        · by_cases h5 : per < 1
          · rw [if_neg h1, if_neg h2, if_neg h3, if_neg h4, if_pos h5, if_pos trivial, decide_eq_false (fun q => by have := q.2.2.2.2.1; omega)]
          · by_cases h6 : per > 16
            · rw [if_neg h1, if_neg h2, if_neg h3, if_neg h4, if_neg h5, if_pos h6, if_pos trivial, decide_eq_false (fun q => by have := q.2.2.2.2.2.1; omega)]
            · rw [if_neg h1, if_neg h2, if_neg h3, if_neg h4, if_neg h5, if_neg h6]
              by_cases h7 : (l.length : Int) > per
              · rw [if_pos (decide_eq_true h7), decide_eq_false (fun q => by have := q.2.2.2.2.2.2.1; omega)]
              · rw [if_neg (by simpa using h7)]
                congr 1
                exact decide_eq_decide.2 ⟨fun q => ⟨by omega, by omega, by omega, by omega, by omega, by omega, by omega, q⟩, fun q => q.2.2.2.2.2.2.2⟩
end Go.Proofs.Ytehncbhmdgdkjaa.QueueLaws
