/- Plain laws: who is ready, who may be, few; a sender's line. -/
import Derived.Test.YtahopljippfadaaRow
import Derived.Test.YtahopljippfadaaGreedyB
import Derived.Test.YtahopljippfadaaDx3
import Derived.Test.YtahopljippfadaaDx12
import Derived.Test.YtahopljippfadaaDx18
import Derived.Test.YtahopljippfadaaDx2
import Derived.Test.YtahopljippfadaaDx2
import Derived.Test.YtahopljippfadaaDx10
import Derived.Test.YtahopljippfadaaDx3
import Derived.Test.YtahopljippfadaaDx4
import Derived.Test.YtahopljippfadaaDx8
import Derived.Test.YtahopljippfadaaDx9
import Derived.Test.YtahopljippfadaaDx2
namespace Go.Proofs.Ytahopljippfadaa.GreedyLaws
set_option linter.unusedSimpArgs false
set_option linter.unusedVariables false
open Go.RowKit Go.Proofs.Ytahopljippfadaa.D Go.Proofs.Ytahopljippfadaa.TxnCodec Go.Proofs.Ytahopljippfadaa.TxnLaws Go.Proofs.YtahopljippfadaaW.PrintWords Go.Proofs.YtahopljippfadaaW.PrintLast
abbrev Ac := S35
/-- May a transaction be? -/
def ChkT (x : Tx) : Prop := Chk x.f0 x.f1 x.f2 x.f3 x.f4 x.f5
instance (x : Tx) : Decidable (ChkT x) := inferInstanceAs (Decidable (Chk _ _ _ _ _ _))
theorem check_t (x : Tx) : txn_Check.f x.f0 x.f1 x.f2 x.f3 x.f4 x.f5 = some (decide (ChkT x)) := check _ _ _ _ _ _
theorem rd_at (l : List Tx) (i : Nat) (h : i < l.length) : rd_T38 l (i : Int) = l[i] := by
  show l.getD i d = _
  rw [List.getD_eq_getElem?_getD, List.getElem?_eq_getElem h, Option.getD_some]
theorem eta (x : Tx) : (⟨x.f0, x.f1, x.f2, x.f3, x.f4, x.f5⟩ : Tx) = x := rfl
def rdy (b : Int) : List Tx → Nat → List Tx
  | [], _ => []
  | x :: r, i => if x.f1 < b then [] else if wrap64 (x.f1 - b) = (i : Int) then x :: rdy b r (i + 1) else []
theorem rdy_len (b : Int) : ∀ (l : List Tx) (i : Nat), (rdy b l i).length ≤ l.length
  | [], _ => Nat.le_refl _
  | x :: r, i => by
    rw [rdy]
    split
    · simp
    · split
      · simp [rdy_len b r (i + 1)]
      · simp
theorem ready_from (k : Nat) (b s b' : Int) (l0 : List Tx) : ∀ (m i : Nat) (a l : List Tx), m = l.length - i → i ≤ l.length → l.length ≤ 1000 → a.length + m ≤ 2000 → queue_Ready.l0 (k + m + 1) a l (l.length : Int) (i : Int) s b l0 = some (a ++ rdy b (l.drop i) i)
  | 0, i, a, l, hm, hi, hl, _ => by
    unfold queue_Ready.l0
    rw [if_neg (by omega), List.drop_eq_nil_of_le (by omega), rdy, List.append_nil]
  | m + 1, i, a, l, hm, hi, hl, ha => by
    have hlt : i < l.length := by omega
    unfold queue_Ready.l0
    rw [if_pos (by omega), if_pos (by omega), if_pos (by omega), step_ i (by omega), rd_at l i hlt, List.drop_eq_getElem_cons hlt, rdy, show k + (m + 1) = k + m + 1 from rfl, eta]
    by_cases h : l[i].f1 < b
    · rw [if_pos h, if_pos h, List.append_nil]
    · by_cases h2 : wrap64 (l[i].f1 - b) = (i : Int)
      · rw [if_neg h, if_neg h, if_pos h2, if_pos h2, if_pos (by omega), ready_from k b s b' l0 m (i + 1) (a ++ [l[i]]) l (by omega) (by omega) hl (by rw [List.length_append, List.length_singleton]; omega), List.append_assoc, List.singleton_append]
      · rw [if_neg h, if_neg h, if_neg h2, if_neg h2, List.append_nil]
theorem ready_eq (k : Nat) (s b : Int) (l : List Tx) (h : l.length ≤ 1000) (hk : l.length + 1 ≤ k) : queue_Ready.f k s b l = some (rdy b l 0) := by
  have := ready_from (k - (l.length + 1)) b s b l l.length 0 [] l (by omega) (by omega) h (by simp; omega)
  rw [show k - (l.length + 1) + l.length + 1 = k by omega] at this
  unfold queue_Ready.f
  simpa using this
def Asc (s : Int) : Int → List Tx → Prop
  | _, [] => True
  | n, x :: r => ChkT x ∧ x.f0 = s ∧ n ≤ x.f1 ∧ Asc s (x.f1 + 1) r
instance decAsc (s : Int) : ∀ (n : Int) (l : List Tx), Decidable (Asc s n l)
  | _, [] => inferInstanceAs (Decidable True)
  | n, x :: r => by
    have := decAsc s (x.f1 + 1) r
    exact inferInstanceAs (Decidable (ChkT x ∧ x.f0 = s ∧ n ≤ x.f1 ∧ Asc s (x.f1 + 1) r))
theorem chk_nonce (x : Tx) (h : ChkT x) : 0 ≤ x.f1 ∧ x.f1 ≤ 4294967295 := by
  unfold ChkT Chk at h
  omega
theorem wnext (n : Int) (h : 0 ≤ n ∧ n ≤ 4294967295) : wrap64 (n + 1) = n + 1 := by unfold wrap64; omega
def May (s b : Int) (l : List Tx) (per : Int) : Prop := 0 ≤ s ∧ s ≤ 255 ∧ 0 ≤ b ∧ b ≤ 4294967295 ∧ 1 ≤ per ∧ per ≤ 16 ∧ (l.length : Int) ≤ per ∧ Asc s b l
instance (s b : Int) (l : List Tx) (per : Int) : Decidable (May s b l per) := inferInstanceAs (Decidable (_ ∧ _ ∧ _ ∧ _ ∧ _ ∧ _ ∧ _ ∧ _))
theorem rcheck_t (x : Tx) : hopperref04_Check.f x.f0 x.f1 x.f2 x.f3 x.f4 x.f5 = some (decide (ChkT x)) := ref_check _ _ _ _ _ _
theorem rready_from (k : Nat) (b s : Int) : ∀ (m i : Nat) (a l : List Tx), m = l.length - i → i ≤ l.length → l.length ≤ 1000 → a.length + m ≤ 2000 → hopperref05_Ready.l0 (k + m + 1) a (i : Int) s b l = some (a ++ rdy b (l.drop i) i)
  | 0, i, a, l, hm, hi, hl, _ => by
    unfold hopperref05_Ready.l0
    rw [if_neg (by omega), List.drop_eq_nil_of_le (by omega), rdy, List.append_nil]
  | m + 1, i, a, l, hm, hi, hl, ha => by
    have hlt : i < l.length := by omega
    unfold hopperref05_Ready.l0
    rw [if_pos (by omega), if_pos (by omega), step_ i (by omega), rd_at l i hlt, List.drop_eq_getElem_cons hlt, rdy, show k + (m + 1) = k + m + 1 from rfl, eta]
    by_cases h : l[i].f1 < b
    · rw [if_pos h, if_pos h, List.append_nil]
    · by_cases h2 : wrap64 (l[i].f1 - b) = (i : Int)
      · rw [if_neg h, if_neg h, if_pos h2, if_pos h2, if_pos (by omega), rready_from k b s m (i + 1) (a ++ [l[i]]) l (by omega) (by omega) hl (by rw [List.length_append, List.length_singleton]; omega), List.append_assoc, List.singleton_append]
      · rw [if_neg h, if_neg h, if_neg h2, if_neg h2, List.append_nil]
theorem rready_eq (k : Nat) (s b : Int) (l : List Tx) (h : l.length ≤ 1000) (hk : l.length + 1 ≤ k) : hopperref05_Ready.f k s b l = some (rdy b l 0) := by
  have := rready_from (k - (l.length + 1)) b s l.length 0 [] l (by omega) (by omega) h (by simp; omega)
  rw [show k - (l.length + 1) + l.length + 1 = k by omega] at this
  unfold hopperref05_Ready.f
  simpa using this
theorem wback (i : Nat) (h0 : 0 < i) (h : i ≤ 1000) : wrap64 ((i : Int) - 1) = ((i - 1 : Nat) : Int) := by unfold wrap64; omega
theorem rcheck_from (k : Nat) (s b : Int) : ∀ (m i : Nat) (n : Int) (l : List Tx), m = l.length - i → i ≤ l.length → l.length ≤ 1000 → b ≤ n → (i = 0 → n = b) → (∀ (h0 : 0 < i) (h : i ≤ l.length), n = (l[i - 1]'(by omega)).f1 + 1) → hopperref05_Check.l0 (k + m + 1) (i : Int) s b l = some (decide (Asc s n (l.drop i)))
  | 0, i, n, l, hm, hi, hl, _, _, _ => by
    unfold hopperref05_Check.l0
    rw [if_neg (by omega), List.drop_eq_nil_of_le (by omega), decide_eq_true (show Asc s n [] from trivial)]
  | m + 1, i, n, l, hm, hi, hl, hb, hz, hp => by
    have hlt : i < l.length := by omega
    unfold hopperref05_Check.l0
    rw [if_pos (by omega), if_pos (by omega), step_ i (by omega), rd_at l i hlt, List.drop_eq_getElem_cons hlt, show k + (m + 1) = k + m + 1 from rfl, rcheck_t, Option.bind_some]
    by_cases h1 : ChkT l[i]
    · rw [decide_eq_true h1, if_pos rfl]
      by_cases h2 : l[i].f0 = s
      · rw [if_pos h2]
        have next : n ≤ l[i].f1 → b ≤ l[i].f1 → hopperref05_Check.l0 (k + m + 1) (((i + 1 : Nat)) : Int) s b l = some (decide (Asc s n (l[i] :: l.drop (i + 1)))) := fun h3 h4 => by
          rw [rcheck_from k s b m (i + 1) (l[i].f1 + 1) l (by omega) (by omega) hl (by omega) (by omega) (fun _ _ => by simp)]
          congr 1
          exact decide_eq_decide.2 ⟨fun q => ⟨h1, h2, h3, q⟩, fun q => q.2.2.2⟩
        by_cases h3 : l[i].f1 < b
        · rw [if_pos h3, decide_eq_false (fun q => by have := q.2.2.1; omega)]
        · rw [if_neg h3]
          by_cases h0 : 0 < i
          · have hn := hp h0 (by omega)
            rw [if_pos (by omega), wback i h0 (by omega), if_pos (by omega), if_pos (by omega), rd_at l (i - 1) (by omega)]
            by_cases h4 : (l[i - 1]'(by omega)).f1 ≥ l[i].f1
            · rw [if_pos h4, decide_eq_false (fun q => by have := q.2.2.1; omega)]
            · rw [if_neg h4]
              exact next (by omega) (by omega)
          · rw [if_neg (by omega)]
            have := hz (by omega)
            exact next (by omega) (by omega)
      · rw [if_neg h2, decide_eq_false (fun q => h2 q.2.1)]
    · rw [decide_eq_false h1, if_neg (by decide), decide_eq_false (fun q => h1 q.1)]
theorem rqcheck_eq (k : Nat) (s b : Int) (l : List Tx) (per : Int) (h : l.length ≤ 1000) (hk : l.length + 2 ≤ k) : hopperref05_Check.f k s b l per = some (decide (May s b l per)) := by
  obtain ⟨k, rfl⟩ : ∃ m, k = m + 1 := ⟨k - 1, by omega⟩
  have key : ∀ c : Bool, hopperref05_Check.j0 (k + 1) c s b l = some (if c = true then false else decide (Asc s b l)) := fun c => by
    have := rcheck_from (k - (l.length + 1)) s b l.length 0 b l (by omega) (by omega) h (by omega) (fun _ => rfl) (fun q => by omega)
    rw [show k - (l.length + 1) + l.length + 1 = k by omega] at this
    unfold hopperref05_Check.j0
    try dsimp only
    by_cases hc : c = true
    · rw [if_pos hc, if_pos hc]
    · rw [if_neg hc, if_neg hc]
      simpa using this
  unfold hopperref05_Check.f
  simp only [key]
  by_cases h1 : s < 0
  · rw [if_pos h1, if_pos trivial, decide_eq_false (fun q => by have := q.1; omega)]
  · by_cases h2 : s > 255
    · rw [if_neg h1, if_pos h2, if_pos trivial, decide_eq_false (fun q => by have := q.2.1; omega)]
    · by_cases h3 : b < 0
      · rw [if_neg h1, if_neg h2, if_pos h3, if_pos trivial, decide_eq_false (fun q => by have := q.2.2.1; omega)]
      · by_cases h4 : b ≥ 4294967296
        · rw [if_neg h1, if_neg h2, if_neg h3, if_pos h4, if_pos trivial, decide_eq_false (fun q => by have := q.2.2.2.1; omega)]
        · by_cases h5 : per < 1
          · rw [if_neg h1, if_neg h2, if_neg h3, if_neg h4, if_pos h5, if_pos trivial, decide_eq_false (fun q => by have := q.2.2.2.2.1; omega)]
          · by_cases h6 : per > 16
            · rw [if_neg h1, if_neg h2, if_neg h3, if_neg h4, if_neg h5, if_pos h6, if_pos trivial, decide_eq_false (fun q => by have := q.2.2.2.2.2.1; omega)]
            · rw [if_neg h1, if_neg h2, if_neg h3, if_neg h4, if_neg h5, if_neg h6]
              by_cases h7 : (l.length : Int) > per
              · rw [if_pos (decide_eq_true h7), decide_eq_false (fun q => by have := q.2.2.2.2.2.2.1; omega)]
              · rw [if_neg (by simpa using h7)]
                congr 1
                exact decide_eq_decide.2 ⟨fun q => ⟨by omega, by omega, by omega, by omega, by omega, by omega, by omega, q⟩, fun q => q.2.2.2.2.2.2.2⟩
theorem few04_from (k : Nat) (m : Int) : ∀ (n i : Nat) (l : List Tx), n = l.length - i → i ≤ l.length → l.length ≤ 9223372036854775807 → ∃ b, hopperref04_Few.l0 (k + n + 1) l m (i : Int) = some b ∧ (b = true → (l.length : Int) ≤ m)
  | 0, i, l, hn, hi, hl => by
    obtain rfl : i = l.length := by omega
    unfold hopperref04_Few.l0
    rw [if_neg (by omega)]
    exact ⟨_, rfl, fun h => by simpa using h⟩
  | n + 1, i, l, hn, hi, hl => by
    obtain ⟨b, h1, h2⟩ := few04_from k m n (i + 1) l (by omega) (by omega) hl
    unfold hopperref04_Few.l0
    rw [if_pos (by omega), if_pos (by omega), step_ i (by omega), show k + (n + 1) = k + n + 1 from rfl, h1]
    unfold hopperref04_Small.f
    rw [Option.bind_some]
    split
    · exact ⟨b, rfl, h2⟩
    · exact ⟨false, rfl, fun h => by cases h⟩
theorem few04_eq (k : Nat) (m : Int) (l : List Tx) (h : l.length ≤ 9223372036854775807) (hk : l.length + 1 ≤ k) : ∃ b, hopperref04_Few.f k l m = some b ∧ (b = true → (l.length : Int) ≤ m) := by
  obtain ⟨b, h1, h2⟩ := few04_from (k - (l.length + 1)) m l.length 0 l (by omega) (by omega) h
  rw [show k - (l.length + 1) + l.length + 1 = k by omega] at h1
  exact ⟨b, h1, h2⟩
/-- How many rounds accounts want. -/
def most (l : List Ac) : Nat := l.foldr (fun x n => max x.f2.length n) 0
theorem most_le : ∀ (l : List Ac) (x : Ac), x ∈ l → x.f2.length ≤ most l
  | y :: l, x, h => by
    rcases List.mem_cons.1 h with rfl | h
    · exact Nat.le_max_left _ _
    · exact Nat.le_trans (most_le l x h) (Nat.le_max_right _ _)
theorem getD_mem (l : List Ac) (i : Nat) (h : i < l.length) : rd_T35 l (i : Int) ∈ l := by
  unfold rd_T35
  rw [Int.toNat_natCast, List.getD_eq_getElem?_getD, List.getElem?_eq_getElem h]
  exact List.getElem_mem ..
theorem rd_eq (l : List Ac) (i : Nat) (h : i < l.length) : rd_T35 l (i : Int) = l[i] := by
  unfold rd_T35
  rw [Int.toNat_natCast, List.getD_eq_getElem?_getD, List.getElem?_eq_getElem h]
  rfl
theorem few11_from (k : Nat) (m : Int) (l : List Ac) (hl : l.length ≤ 9223372036854775807) (hx : ∀ x ∈ l, x.f2.length ≤ 9223372036854775807 ∧ x.f2.length + 1 ≤ k) : ∀ (n i : Nat), n = l.length - i → i ≤ l.length → ∃ b, hopperref11_Few.l0 (k + n + 1) l m (i : Int) = some b ∧ (b = true → (l.length : Int) ≤ m ∧ ∀ j, i ≤ j → (h : j < l.length) → l[j].f2.length ≤ 20)
  | 0, i, hn, hi => by
    obtain rfl : i = l.length := by omega
    unfold hopperref11_Few.l0
    rw [if_neg (by omega)]
    exact ⟨_, rfl, fun h => ⟨by simpa using h, fun j h1 h2 => by omega⟩⟩
  | n + 1, i, hn, hi => by
    obtain ⟨b, h1, h2⟩ := few11_from k m l hl hx n (i + 1) (by omega) (by omega)
    have hm := getD_mem l i (by omega)
    obtain ⟨c, h3, h4⟩ := few04_eq (k + n + 1) 20 (rd_T35 l (i : Int)).f2 (hx _ hm).1 (by have := (hx _ hm).2; omega)
    unfold hopperref11_Few.l0
    rw [if_pos (by omega), if_pos (by omega), step_ i (by omega), show k + (n + 1) = k + n + 1 from rfl, h3, Option.bind_some, h1]
    cases c with
    | false => exact ⟨false, by simp, fun h => by cases h⟩
    | true =>
      refine ⟨b, by simp, fun h => ⟨(h2 h).1, fun j j1 j2 => ?_⟩⟩
      by_cases e : j = i
      · subst e
        have := h4 rfl
        rw [rd_eq l j j2] at this
        omega
      · exact (h2 h).2 j (by omega) j2
theorem few11_eq (k : Nat) (m : Int) (l : List Ac) (h : l.length ≤ 9223372036854775807) (hx : ∀ x ∈ l, x.f2.length ≤ 9223372036854775807) (hk : l.length + most l + 2 ≤ k) : ∃ b, hopperref11_Few.f k l m = some b ∧ (b = true → (l.length : Int) ≤ m ∧ ∀ x ∈ l, x.f2.length ≤ 20) := by
  obtain ⟨b, h1, h2⟩ := few11_from (k - (l.length + 1)) m l h (fun x hxl => ⟨hx x hxl, by have := most_le l x hxl; omega⟩) l.length 0 (by omega) (by omega)
  rw [show k - (l.length + 1) + l.length + 1 = k by omega] at h1
  refine ⟨b, h1, fun hb => ⟨(h2 hb).1, fun x hxl => ?_⟩⟩
  obtain ⟨j, hj, rfl⟩ := List.getElem_of_mem hxl
  exact (h2 hb).2 j (Nat.zero_le _) hj
end Go.Proofs.Ytahopljippfadaa.GreedyLaws
