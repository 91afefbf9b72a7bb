/- Plain laws of the document's own accounts, changed: they come to the same; no condition but the lists' lengths. -/
import Derived.Test.YtehncbhmdgdkjaaQueueRef
import Derived.Test.YtehncbhmdgdkjaaQueuePlace
import Derived.Test.YtehncbhmdgdkjaaQueueSatRef
import Derived.Test.YtehncbhmdgdkjaaQx13
import Derived.Test.YtehncbhmdgdkjaaQx13
import Derived.Test.YtehncbhmdgdkjaaQx14
import Derived.Test.YtehncbhmdgdkjaaQx14
namespace Go.Proofs.Ytehncbhmdgdkjaa.QueueLaws
set_option linter.unusedSimpArgs false
set_option linter.unusedVariables false
open Go.RowKit Go.Proofs.Ytehncbhmdgdkjaa.Q Go.Proofs.Ytehncbhmdgdkjaa.TxnCodec Go.Proofs.Ytehncbhmdgdkjaa.TxnLaws Go.Proofs.Ytehncbhmdgdkjaa.SatLaws Go.Proofs.YtehncbhmdgdkjaaW.PrintWords Go.Proofs.YtehncbhmdgdkjaaW.PrintLast
theorem rplace_j1 (k : Nat) (hk : 20 ≤ k) (c : Bool) (t o : Tx) : hopperref05_Place.j1 (k + 1) c t.f0 t.f1 t.f2 t.f3 t.f4 t.f5 o.f0 o.f1 o.f2 o.f3 o.f4 o.f5 = some (if c = true then (0, 4) else (slo_ t - slo_ o, 0)) := by
  unfold hopperref05_Place.j1
  try dsimp only
  by_cases hc : c = true
  · rw [if_pos hc, if_pos hc]
  · rw [if_neg hc, if_neg hc, rslots_t _ _ hk, rslots_t _ _ hk, Option.bind_some, Option.bind_some, wsub _ _ (slo_range t) (slo_range o)]
/-- With no more than per, per is as many as there are, just if it is no more. -/
theorem rplace_j0 (k : Nat) (per bump : Int) (c : Bool) (s b : Int) (l : List Tx) (t : Tx) (h : l.length ≤ 1000) (hk : l.length + 30 ≤ k) (hp : c = false → (l.length : Int) ≤ per) : hopperref05_Place.j0 (k + 3) per bump c s b l t.f0 t.f1 t.f2 t.f3 t.f4 t.f5 = some (if c = true then (0, 1) else placed b l t per bump) := by
  unfold hopperref05_Place.j0
  try dsimp only
  by_cases hc : c = true
  · rw [if_pos hc, if_pos hc]
  · rw [if_neg hc, if_neg hc]
    have hle := hp (Bool.eq_false_iff.2 hc)
    unfold placed
    by_cases hb : t.f1 < b
    · rw [if_pos hb, if_pos hb]
    · rw [if_neg hb, if_neg hb, rfind_eq _ s b l t.f1 h (by omega), Option.bind_some]
      cases hf : fnd t.f1 l with
      | none =>
        rw [tell, if_neg Bool.false_ne_true, rslots_t _ _ (by omega), Option.bind_some]
        dsimp only
        by_cases he : (l.length : Int) = per
        · rw [if_pos he, if_pos (by omega)]
        · rw [if_neg he, if_neg (by omega)]
      | some o =>
        rw [tell, if_pos rfl]
        show ((hopperref01_Raise.f (k + 1 + 1) o.f2 bump).bind _) = _
        rw [ref_raise, Option.bind_some]
        dsimp only
        by_cases hr : (rai o.f2 bump).2 = true
        · rw [if_pos hr, rplace_j1 _ (by omega)]
          by_cases hlt : t.f2 < (rai o.f2 bump).1
          · rw [decide_eq_true hlt, if_pos rfl, if_neg (fun q => q.2 hlt)]
          · rw [decide_eq_false hlt, if_neg (by decide), if_pos ⟨hr, hlt⟩]
        · rw [if_neg hr, rplace_j1 _ (by omega), if_pos rfl, if_neg (fun q => hr q.1)]
theorem rplace_eq (k : Nat) (s b : Int) (l : List Tx) (t : Tx) (per bump : Int) (h : l.length ≤ 1000) (hk : l.length + 40 ≤ k) : hopperref05_Place.f k s b l t.f0 t.f1 t.f2 t.f3 t.f4 t.f5 per bump = some (placeQ s b l t per bump) := by
  obtain ⟨k, rfl⟩ : ∃ m, k = m + 3 := ⟨k - 3, by omega⟩
  unfold hopperref05_Place.f placeQ
  rw [rqcheck_eq _ s b l per h (by omega), Option.bind_some, rplace_j0 k per bump true s b l t h (by omega) (fun q => by cases q)]
  by_cases h1 : May s b l per
  · have hle : (l.length : Int) ≤ per := h1.2.2.2.2.2.2.1
    rw [decide_eq_true h1, if_pos rfl, rcheck_t, Option.bind_some, rplace_j0 k per bump _ s b l t h (by omega) (fun _ => hle)]
    by_cases h2 : ChkT t
    · rw [decide_eq_true h2, if_pos rfl]
      by_cases h3 : t.f0 = s
      · rw [if_pos h3]
        by_cases h4 : bump < 0
        · rw [if_pos h4, if_pos rfl, if_neg (fun q => by have := q.2.2.2.1; omega)]
        · rw [if_neg h4]
          by_cases h5 : bump > 100
          · rw [decide_eq_true h5, if_pos rfl, if_neg (fun q => by have := q.2.2.2.2; omega)]
          · rw [decide_eq_false h5, if_neg (by decide), if_pos ⟨h1, h2, h3, by omega, by omega⟩]
      · rw [if_neg h3, if_pos rfl, if_neg (fun q => h3 q.2.2.1)]
    · rw [decide_eq_false h2, if_neg (by decide), if_pos rfl, if_neg (fun q => h2 q.2.1)]
  · rw [decide_eq_false h1, if_neg (by decide), if_pos rfl, if_neg (fun q => h1 q.1)]
theorem radv_from (k : Nat) (n s b : Int) (a : List Tx) (ha : a.length ≤ 1000) : ∀ (m i : Nat) (l g : List Tx), m = a.length - i → i ≤ a.length → l.length + m ≤ 2000 → g.length + m ≤ 2000 → hopperref05_Advance.l0 (k + m + 1) n l g (i : Int) s b a = some (s, n, l ++ high n (a.drop i), g ++ low n (a.drop i), 0)
  | 0, i, l, g, hm, hi, _, _ => by
    unfold hopperref05_Advance.l0
    rw [if_neg (by omega), List.drop_eq_nil_of_le (by omega)]
    simp [high, low]
  | m + 1, i, l, g, hm, hi, hl, hg => by
    have hlt : i < a.length := by omega
    unfold hopperref05_Advance.l0
    rw [if_pos (by omega), if_pos (by omega), step_ i (by omega), rd_at a i hlt, List.drop_eq_getElem_cons hlt, low_cons, high_cons, show k + (m + 1) = k + m + 1 from rfl, eta]
    by_cases h : a[i].f1 < n
    · rw [if_pos h, if_pos (by omega), if_pos h, if_pos h, radv_from k n s b a ha m (i + 1) l (g ++ [a[i]]) (by omega) (by omega) (by omega) (by rw [List.length_append, List.length_singleton]; omega)]
      simp
    · rw [if_neg h, if_pos (by omega), if_neg h, if_neg h, radv_from k n s b a ha m (i + 1) (l ++ [a[i]]) g (by omega) (by omega) (by rw [List.length_append, List.length_singleton]; omega) (by omega)]
      simp
def advQ (s b : Int) (l : List Tx) (n : Int) : Int × Int × List Tx × List Tx × Int := if 0 ≤ n ∧ n ≤ 4294967295 then (if n < b then (s, b, l, [], 3) else (s, n, high n l, low n l, 0)) else (s, b, l, [], 1)
theorem radv_eq (k : Nat) (s b : Int) (l : List Tx) (n : Int) (h : l.length ≤ 1000) (hk : l.length + 2 ≤ k) : hopperref05_Advance.f k s b l n = some (advQ s b l n) := by
  obtain ⟨k, rfl⟩ : ∃ m, k = m + 1 := ⟨k - 1, by omega⟩
  have hl0 := radv_from (k - (l.length + 1)) n s b l h l.length 0 [] [] (by omega) (by omega) (by simp; omega) (by simp; omega)
  rw [show k - (l.length + 1) + l.length + 1 = k by omega, List.drop_zero, List.nil_append, List.nil_append, Int.ofNat_zero] at hl0
  unfold hopperref05_Advance.f advQ
  by_cases h1 : n < 0
  · rw [if_pos h1, if_neg (by omega)]
    unfold hopperref05_Advance.j0
    try dsimp only
    rw [if_pos rfl]
  · rw [if_neg h1]
    unfold hopperref05_Advance.j0
    try dsimp only
    by_cases h2 : n ≥ 4294967296
    · rw [decide_eq_true h2, if_pos rfl, if_neg (by omega)]
    · rw [decide_eq_false h2, if_neg (by decide), if_pos (show 0 ≤ n ∧ n ≤ 4294967295 by omega)]
      by_cases h3 : n < b
      · rw [if_pos h3, if_pos h3]
      · rw [if_neg h3, if_neg h3]
        exact hl0
theorem rdrop_from (k : Nat) (n s b : Int) (a : List Tx) (ha : a.length ≤ 1000) : ∀ (m i : Nat) (l : List Tx), m = a.length - i → i ≤ a.length → l.length + m ≤ 2000 → hopperref05_Drop.l0 (k + m + 1) n l (i : Int) s b a = some (s, b, l ++ (a.drop i).filter fun x => !(x.f1 == n))
  | 0, i, l, hm, hi, _ => by
    unfold hopperref05_Drop.l0
    rw [if_neg (by omega), List.drop_eq_nil_of_le (by omega)]
    simp
  | m + 1, i, l, hm, hi, hl => by
    have hlt : i < a.length := by omega
    unfold hopperref05_Drop.l0
    rw [if_pos (by omega), if_pos (by omega), step_ i (by omega), rd_at a i hlt, List.drop_eq_getElem_cons hlt, List.filter_cons, show k + (m + 1) = k + m + 1 from rfl, eta]
    by_cases h : a[i].f1 = n
    · rw [if_pos h, rdrop_from k n s b a ha m (i + 1) l (by omega) (by omega) (by omega)]
      simp [h]
    · rw [if_neg h, if_pos (by omega), rdrop_from k n s b a ha m (i + 1) (l ++ [a[i]]) (by omega) (by omega) (by rw [List.length_append, List.length_singleton]; omega)]
      simp [h]
theorem rdrop_eq (k : Nat) (s b : Int) (l : List Tx) (n : Int) (h : l.length ≤ 1000) (hk : l.length + 1 ≤ k) : hopperref05_Drop.f k s b l n = some (s, b, l.filter fun x => !(x.f1 == n)) := by
  have := rdrop_from (k - (l.length + 1)) n s b l h l.length 0 [] (by omega) (by omega) (by simp; omega)
  rw [show k - (l.length + 1) + l.length + 1 = k by omega] at this
  unfold hopperref05_Drop.f
  simpa using this
/-- What is laid behind place i: laid: whether t is laid already; is: whether its nonce is there. -/
def layR (t : Tx) (is : Bool) : Bool → List Tx → List Tx
  | laid, [] => if laid = true then [] else [t]
  | laid, x :: r => if laid = true then x :: layR t is true r else if x.f1 = t.f1 then t :: layR t is true r else if is = true then x :: layR t is false r else if x.f1 > t.f1 then t :: x :: layR t is true r else x :: layR t is false r
theorem rput_from (k : Nat) (is : Bool) (s b : Int) (t : Tx) (l : List Tx) (hl : l.length ≤ 1000) : ∀ (m i : Nat) (a : List Tx) (laid : Bool), m = l.length - i → i ≤ l.length → a.length + 2 * m ≤ 4000 → hopperref05_Put.l0 (k + 2 * m + 1) a laid is (i : Int) s b l t.f0 t.f1 t.f2 t.f3 t.f4 t.f5 = some (s, b, a ++ layR t is laid (l.drop i))
  | 0, i, a, laid, hm, hi, ha => by
    unfold hopperref05_Put.l0
    rw [if_neg (by omega), List.drop_eq_nil_of_le (by omega), layR]
    by_cases h : laid = true
    · rw [if_pos h, if_pos h, List.append_nil]
    · rw [if_neg h, if_neg h, if_pos (by omega)]
  | m + 1, i, a, laid, hm, hi, ha => by
    have hlt : i < l.length := by omega
    have h1 : ∀ (x : Tx), (a ++ [x]).length + 2 * m ≤ 4000 := fun x => by rw [List.length_append, List.length_singleton]; omega
    have h2 : ∀ (x y : Tx), (a ++ [x] ++ [y]).length + 2 * m ≤ 4000 := fun x y => by rw [List.length_append, List.length_append, List.length_singleton, List.length_singleton]; omega
    have ih := fun (a : List Tx) (c : Bool) (ha : a.length + 2 * m ≤ 4000) => rput_from k is s b t l hl m (i + 1) a c (by omega) (by omega) ha
    rw [show k + 2 * (m + 1) + 1 = (k + 2 * m + 1) + 1 + 1 by omega]
    unfold hopperref05_Put.l0
    rw [if_pos (by omega), if_pos (by omega), rd_at l i hlt, List.drop_eq_getElem_cons hlt, layR]
    unfold hopperref05_Put.j1
    try dsimp only
    have hA : a.length < 2513169434916 := by omega
    rw [step_ i (by omega), eta, eta]
    by_cases hd : laid = true
    · rw [if_pos hd, if_pos hd, if_neg (by decide), if_pos hd, if_pos hA, ih _ _ (h1 _), List.append_assoc, hd]
      rfl
    · rw [if_neg hd, if_neg hd, if_neg hd]
      obtain rfl : laid = false := Bool.eq_false_iff.2 hd
      by_cases he : l[i].f1 = t.f1
      · rw [if_pos he, if_pos (by simpa using he), if_pos hA, ih _ _ (h1 _), List.append_assoc]
        rfl
      · rw [if_neg he, if_neg (by simpa using he)]
        by_cases hs : is = true
        · rw [if_pos hs, if_pos hs, if_pos hA, ih _ _ (h1 _), List.append_assoc]
          rfl
        · rw [if_neg hs, if_neg hs]
          by_cases hg : l[i].f1 > t.f1
          · rw [if_pos hg, if_pos hg, if_pos hA, Option.bind_some, if_pos (by rw [List.length_append, List.length_singleton]; omega), ih _ _ (h2 _ _), List.append_assoc, List.append_assoc]
            rfl
          · rw [if_neg hg, if_neg hg, if_pos hA, ih _ _ (h1 _), List.append_assoc]
            rfl
theorem lay_laid (t : Tx) (is : Bool) : ∀ l : List Tx, layR t is true l = l
  | [] => rfl
  | x :: r => by rw [layR, if_pos rfl, lay_laid t is r]
theorem lay_is (t : Tx) : ∀ l : List Tx, has t.f1 l = true → layR t true false l = putA t l
  | [], h => by simp [has] at h
  | x :: r, h => by
    rw [layR, putA, if_neg (by decide), if_pos rfl]
    by_cases hx : x.f1 = t.f1
    · rw [if_pos hx, if_pos hx, lay_laid]
    · rw [if_neg hx, if_neg hx, lay_is t r (by simpa [has, hx] using h)]
theorem lay_no (t : Tx) : ∀ l : List Tx, has t.f1 l = false → layR t false false l = putB t l
  | [], h => rfl
  | x :: r, h => by
    have hx : ¬ x.f1 = t.f1 := fun q => by simp [has, q] at h
    rw [layR, putB, if_neg (by decide), if_neg hx, if_neg (by decide)]
    by_cases hg : x.f1 > t.f1
    · rw [if_pos hg, if_pos hg, lay_laid]
    · rw [if_neg hg, if_neg hg, lay_no t r (by simpa [has, hx] using h)]
theorem rput_eq (k : Nat) (s b : Int) (l : List Tx) (t : Tx) (h : l.length ≤ 1000) (hk : 2 * l.length + 1 ≤ k) : hopperref05_Put.f k s b l t.f0 t.f1 t.f2 t.f3 t.f4 t.f5 = some (s, b, putQ t l) := by
  have hh := fnd_has t.f1 l
  have key : ∀ is : Bool, hopperref05_Put.l0 k [] false is 0 s b l t.f0 t.f1 t.f2 t.f3 t.f4 t.f5 = some (s, b, layR t is false l) := fun is => by
    have := rput_from (k - (2 * l.length + 1)) is s b t l h l.length 0 [] false (by omega) (by omega) (by simp; omega)
    rw [show k - (2 * l.length + 1) + 2 * l.length + 1 = k by omega] at this
    simpa using this
  unfold hopperref05_Put.f putQ
  rw [rfind_eq k s b l _ h (by omega), Option.bind_some, key]
  cases hf : fnd t.f1 l with
  | none =>
    rw [hf] at hh
    have h0 : has t.f1 l = false := hh.symm
    rw [h0, if_neg (by decide), ← lay_no t l h0]
    rfl
  | some x =>
    rw [hf] at hh
    have h0 : has t.f1 l = true := hh.symm
    rw [h0, if_pos rfl, ← lay_is t l h0]
    rfl
end Go.Proofs.Ytehncbhmdgdkjaa.QueueLaws
