/- Plain laws of a sender's transactions: what each function of the queue comes to, told over lists; no condition but the lists' lengths. -/
import Derived.Test.YtehncbhmdgdkjaaQueueTxn
import Derived.Test.YtehncbhmdgdkjaaRow
import Derived.Test.YtehncbhmdgdkjaaQx4
import Derived.Test.YtehncbhmdgdkjaaQx4
import Derived.Test.YtehncbhmdgdkjaaQx5
import Derived.Test.YtehncbhmdgdkjaaQx9
import Derived.Test.YtehncbhmdgdkjaaQx9
import Derived.Test.YtehncbhmdgdkjaaQx8
import Derived.Test.YtehncbhmdgdkjaaQx5
import Derived.Test.YtehncbhmdgdkjaaQx6
import Derived.Test.YtehncbhmdgdkjaaQx4
import Derived.Test.YtehncbhmdgdkjaaQx4
namespace Go.Proofs.Ytehncbhmdgdkjaa.QueueLaws
set_option linter.unusedSimpArgs false
set_option linter.unusedVariables false
open Go.RowKit Go.Proofs.Ytehncbhmdgdkjaa.Q Go.Proofs.Ytehncbhmdgdkjaa.TxnCodec Go.Proofs.Ytehncbhmdgdkjaa.TxnLaws Go.Proofs.YtehncbhmdgdkjaaW.PrintWords Go.Proofs.YtehncbhmdgdkjaaW.PrintLast
abbrev Tx := S24
abbrev d : Tx := z24
/-- May a transaction be? -/
def ChkT (x : Tx) : Prop := Chk x.f0 x.f1 x.f2 x.f3 x.f4 x.f5
instance (x : Tx) : Decidable (ChkT x) := inferInstanceAs (Decidable (Chk _ _ _ _ _ _))
def slo_ (x : Tx) : Int := slotsOf x.f0 x.f1 x.f2 x.f3 x.f4 x.f5
theorem check_t (x : Tx) : txn_Check.f x.f0 x.f1 x.f2 x.f3 x.f4 x.f5 = some (decide (ChkT x)) := check _ _ _ _ _ _
theorem slots_t (x : Tx) : txn_Slots.f x.f0 x.f1 x.f2 x.f3 x.f4 x.f5 = some (slo_ x) := slots _ _ _ _ _ _
theorem slo_range (x : Tx) : 0 ≤ slo_ x ∧ slo_ x ≤ 10 := ⟨(slots_range _ _ _ _ _ _).1, (slots_range _ _ _ _ _ _).2.1⟩
theorem step_ (i : Nat) (h : i < 9223372036854775807) : wrap64 ((i : Int) + 1) = ((i + 1 : Nat) : Int) := by unfold wrap64; omega
theorem rd_at (l : List Tx) (i : Nat) (h : i < l.length) : rd_T24 l (i : Int) = l[i] := by
  show l.getD i d = _
  rw [List.getD_eq_getElem?_getD, List.getElem?_eq_getElem h, Option.getD_some]
theorem eta (x : Tx) : (⟨x.f0, x.f1, x.f2, x.f3, x.f4, x.f5⟩ : Tx) = x := rfl
theorem qin (a b c : Int) : queue_in.f a b c = some (decide (b ≤ a ∧ a ≤ c)) := by
  unfold queue_in.f
  split
  · rename_i h; simp [h]
  · rename_i h; simp [h]
/-! the first one of a nonce -/
def fnd (n : Int) (l : List Tx) : Option Tx := l.find? fun x => x.f1 == n
def tell : Option Tx → Int × Int × Int × Int × Int × ByteArray × Bool
  | some x => (x.f0, x.f1, x.f2, x.f3, x.f4, x.f5, true)
  | none => (0, 0, 0, 0, 0, ⟨#[]⟩, false)
def has (n : Int) (l : List Tx) : Bool := l.any fun x => x.f1 == n
theorem fnd_has (n : Int) (l : List Tx) : (fnd n l).isSome = has n l := by
  unfold fnd has
  induction l with
  | nil => rfl
  | cons x r ih =>
    rw [List.find?_cons, List.any_cons]
    by_cases h : (x.f1 == n) = true
    · rw [h]; rfl
    · rw [Bool.eq_false_iff.2 h]; exact ih
/-- How many stand ahead of the first one of a nonce; of the first one of a greater nonce. -/
def aheadE (n : Int) : List Tx → Nat
  | [] => 0
  | x :: r => if x.f1 = n then 0 else aheadE n r + 1
def aheadG (n : Int) : List Tx → Nat
  | [] => 0
  | x :: r => if n < x.f1 then 0 else aheadG n r + 1
theorem aheadG_le (n : Int) : ∀ l : List Tx, aheadG n l ≤ l.length
  | [] => Nat.le_refl _
  | x :: r => by rw [aheadG]; split <;> simp [aheadG_le n r]
theorem aheadE_lt (n : Int) : ∀ l : List Tx, has n l = true → aheadE n l < l.length
  | [], h => by simp [has] at h
  | x :: r, h => by
    rw [aheadE]
    split
    · simp
    · rename_i hx
      have h2 : has n r = true := by simpa [has, hx] using h
      have := aheadE_lt n r h2
      rw [List.length_cons]; omega
theorem place_yes (n len : Int) : ∀ (l : List Tx) (i b : Int), has n l = true → placeL n len l i b = (i + aheadE n l, true)
  | [], _, _, h => by simp [has] at h
  | x :: r, i, b, h => by
    rw [placeL, aheadE]
    by_cases hx : x.f1 = n
    · rw [if_pos hx, if_pos hx]; simp
    · rw [if_neg hx, if_neg hx, place_yes n len r (i + 1) _ (by simpa [has, hx] using h)]
      congr 1
      omega
theorem place_kept (n len : Int) : ∀ (l : List Tx) (i b : Int), has n l = false → b ≠ len → placeL n len l i b = (b, false)
  | [], _, _, _, _ => rfl
  | x :: r, i, b, h, hb => by
    have hx : ¬ x.f1 = n := fun q => by simp [has, q] at h
    rw [placeL, if_neg hx, if_neg (fun q => hb q.2)]
    exact place_kept n len r _ _ (by simpa [has, hx] using h) hb
theorem place_no (n len : Int) : ∀ (l : List Tx) (i : Int), has n l = false → i + l.length = len → placeL n len l i len = (i + aheadG n l, false)
  | [], i, _, hl => by rw [placeL, aheadG]; simp at hl ⊢; omega
  | x :: r, i, h, hl => by
    have hx : ¬ x.f1 = n := fun q => by simp [has, q] at h
    have h2 : has n r = false := by simpa [has, hx] using h
    rw [List.length_cons] at hl
    rw [placeL, if_neg hx, aheadG]
    by_cases hg : n < x.f1
    · rw [if_pos ⟨hg, rfl⟩, if_pos hg, place_kept n len r _ _ h2 (by omega)]
      simp
    · rw [if_neg (fun q => hg q.1), if_neg hg, place_no n len r (i + 1) h2 (by omega)]
      congr 1
      omega
theorem place_eq (l : List Tx) (n : Int) (h : l.length ≤ 1000) : queue_place.f l n = some (if has n l = true then ((aheadE n l : Int), true) else ((aheadG n l : Int), false)) := by
  unfold queue_place.f
  rw [if_pos (by omega)]
  by_cases hh : has n l = true
  · rw [if_pos hh, place_yes n _ l 0 _ hh, Int.zero_add]
  · rw [if_neg hh, place_no n _ l 0 (Bool.eq_false_iff.2 hh) (by omega), Int.zero_add]
theorem aheadE_get (n : Int) : ∀ (l : List Tx) (h : aheadE n l < l.length), has n l = true → fnd n l = some (l[aheadE n l]'h)
  | [], h, _ => absurd h (by simp)
  | x :: r, h, hh => by
    by_cases hx : x.f1 = n
    · have e : aheadE n (x :: r) = 0 := by rw [aheadE, if_pos hx]
      simp [fnd, hx, e]
    · have e : aheadE n (x :: r) = aheadE n r + 1 := by rw [aheadE, if_neg hx]
      have h2 : has n r = true := by simpa [has, hx] using hh
      have := aheadE_get n r (aheadE_lt n r h2) h2
      unfold fnd at this ⊢
      rw [List.find?_cons_of_neg (by simpa using hx), this]
      simp [e]
theorem fnd_none (n : Int) (l : List Tx) (h : ¬ has n l = true) : fnd n l = none := by
  have := fnd_has n l
  cases e : fnd n l with
  | none => rfl
  | some x => rw [e] at this; exact absurd this.symm h
theorem find_eq (s b : Int) (l : List Tx) (n : Int) (h : l.length ≤ 1000) : queue_Find.f s b l n = some (tell (fnd n l)) := by
  unfold queue_Find.f
  rw [place_eq l n h, Option.bind_some]
  by_cases hh : has n l = true
  · have hlt := aheadE_lt n l hh
    rw [if_pos hh, if_pos rfl, if_pos (by simp), if_pos (by simpa using hlt), rd_at l _ hlt, aheadE_get n l hlt hh]
    rfl
  · rw [if_neg hh, if_neg Bool.false_ne_true, fnd_none n l hh]
    rfl
/-! put, drop, advance -/
def putA (t : Tx) : List Tx → List Tx
  | [] => []
  | x :: r => if x.f1 = t.f1 then t :: r else x :: putA t r
def putB (t : Tx) : List Tx → List Tx
  | [] => [t]
  | x :: r => if t.f1 < x.f1 then t :: x :: r else x :: putB t r
def putQ (t : Tx) (l : List Tx) : List Tx := if has t.f1 l = true then putA t l else putB t l
theorem putA_set (t : Tx) : ∀ l : List Tx, has t.f1 l = true → l.set (aheadE t.f1 l) t = putA t l
  | [], h => by simp [has] at h
  | x :: r, h => by
    rw [putA, aheadE]
    by_cases hx : x.f1 = t.f1
    · rw [if_pos hx, if_pos hx]; rfl
    · rw [if_neg hx, if_neg hx, List.set_cons_succ, putA_set t r (by simpa [has, hx] using h)]
theorem putB_ins (t : Tx) : ∀ l : List Tx, l.take (aheadG t.f1 l) ++ [t] ++ l.drop (aheadG t.f1 l) = putB t l
  | [] => rfl
  | x :: r => by
    rw [putB, aheadG]
    by_cases hx : t.f1 < x.f1
    · rw [if_pos hx, if_pos hx]; rfl
    · rw [if_neg hx, if_neg hx, List.take_succ_cons, List.drop_succ_cons, ← putB_ins t r]; rfl
theorem put_eq (s b : Int) (l : List Tx) (t : Tx) (h : l.length ≤ 1000) : queue_Put.f s b l t.f0 t.f1 t.f2 t.f3 t.f4 t.f5 = some (s, b, putQ t l) := by
  unfold queue_Put.f putQ
  rw [place_eq l _ h, Option.bind_some]
  by_cases hh : has t.f1 l = true
  · have hlt := aheadE_lt t.f1 l hh
    rw [if_pos hh, if_pos hh, if_pos (by simp), if_pos (by simp; omega), if_pos rfl, if_pos (by simpa using hlt), eta, ← putA_set t l hh]
    rfl
  · have hle := aheadG_le t.f1 l
    rw [if_neg hh, if_neg hh, if_pos (by simp), if_pos (by simpa using hle), if_neg Bool.false_ne_true, if_pos (by omega), eta, ← putB_ins t l]
    rfl
theorem drop_eq (s b : Int) (l : List Tx) (n : Int) (h : l.length ≤ 1000) : queue_Drop.f s b l n = some (s, b, l.filter fun x => !(x.f1 == n)) := by
  unfold queue_Drop.f
  rw [if_pos (by omega)]
def low (n : Int) (l : List Tx) : List Tx := l.filter fun x => decide (x.f1 < n)
def high (n : Int) (l : List Tx) : List Tx := l.filter fun x => !decide (x.f1 < n)
theorem low_cons (n : Int) (x : Tx) (l : List Tx) : low n (x :: l) = if x.f1 < n then x :: low n l else low n l := by
  unfold low; rw [List.filter_cons]; simp
theorem high_cons (n : Int) (x : Tx) (l : List Tx) : high n (x :: l) = if x.f1 < n then high n l else x :: high n l := by
  unfold high; rw [List.filter_cons]
  by_cases h : x.f1 < n
  · simp [h]
  · simp [h]
theorem adv_from (k : Nat) (n s b : Int) (l0 : List Tx) : ∀ (m i : Nat) (l g : List Tx) (a : List Tx), m = a.length - i → i ≤ a.length → a.length ≤ 1000 → l.length + m ≤ 2000 → g.length + m ≤ 2000 → queue_Advance.l0 (k + m + 1) n l g a (a.length : Int) (i : Int) s b l0 = some (s, n, l ++ high n (a.drop i), g ++ low n (a.drop i), 0)
  | 0, i, l, g, a, hm, hi, ha, _, _ => by
    unfold queue_Advance.l0
    rw [if_neg (by omega), List.drop_eq_nil_of_le (by omega)]
    simp [high, low]
  | m + 1, i, l, g, a, hm, hi, ha, hl, hg => by
    have hlt : i < a.length := by omega
    unfold queue_Advance.l0
    rw [if_pos (by omega), if_pos (by omega), if_pos (by omega), step_ i (by omega), rd_at a i hlt, List.drop_eq_getElem_cons hlt, low_cons, high_cons, show k + (m + 1) = k + m + 1 from rfl, eta]
    by_cases h : a[i].f1 < n
    · rw [if_pos h, if_pos (by omega), if_pos h, if_pos h, adv_from k n s b l0 m (i + 1) l (g ++ [a[i]]) a (by omega) (by omega) ha (by omega) (by rw [List.length_append, List.length_singleton]; omega)]
      simp
    · rw [if_neg h, if_pos (by omega), if_neg h, if_neg h, adv_from k n s b l0 m (i + 1) (l ++ [a[i]]) g a (by omega) (by omega) ha (by rw [List.length_append, List.length_singleton]; omega) (by omega)]
      simp
theorem adv_eq (k : Nat) (s b : Int) (l : List Tx) (n : Int) (h : l.length ≤ 1000) (hk : l.length + 1 ≤ k) : queue_Advance.f k s b l n = some (if 0 ≤ n ∧ n ≤ 4294967295 then (if n < b then (s, b, l, [], 3) else (s, n, high n l, low n l, 0)) else (s, b, l, [], 1)) := by
  unfold queue_Advance.f
  rw [qin, Option.bind_some]
  by_cases hn : 0 ≤ n ∧ n ≤ 4294967295
  · rw [decide_eq_true hn, if_pos rfl, if_pos hn]
    by_cases hb : n < b
    · rw [if_pos hb, if_pos hb]
    · have := adv_from (k - (l.length + 1)) n s b l l.length 0 [] [] l (by omega) (by omega) h (by simp; omega) (by simp; omega)
      rw [show k - (l.length + 1) + l.length + 1 = k by omega] at this
      rw [if_neg hb, if_neg hb]
      simpa using this
  · rw [decide_eq_false hn, if_neg (by decide), if_neg hn]
/-! who is ready; slots -/
def rdy (b : Int) : List Tx → Nat → List Tx
  | [], _ => []
  | x :: r, i => if x.f1 < b then [] else if wrap64 (x.f1 - b) = (i : Int) then x :: rdy b r (i + 1) else []
theorem rdy_len (b : Int) : ∀ (l : List Tx) (i : Nat), (rdy b l i).length ≤ l.length
  | [], _ => Nat.le_refl _
  | x :: r, i => by
    rw [rdy]
    split
    · simp
    · split
      · simp [rdy_len b r (i + 1)]
      · simp
theorem ready_from (k : Nat) (b s b' : Int) (l0 : List Tx) : ∀ (m i : Nat) (a l : List Tx), m = l.length - i → i ≤ l.length → l.length ≤ 1000 → a.length + m ≤ 2000 → queue_Ready.l0 (k + m + 1) a l (l.length : Int) (i : Int) s b l0 = some (a ++ rdy b (l.drop i) i)
  | 0, i, a, l, hm, hi, hl, _ => by
    unfold queue_Ready.l0
    rw [if_neg (by omega), List.drop_eq_nil_of_le (by omega), rdy, List.append_nil]
  | m + 1, i, a, l, hm, hi, hl, ha => by
    have hlt : i < l.length := by omega
    unfold queue_Ready.l0
    rw [if_pos (by omega), if_pos (by omega), if_pos (by omega), step_ i (by omega), rd_at l i hlt, List.drop_eq_getElem_cons hlt, rdy, show k + (m + 1) = k + m + 1 from rfl, eta]
    by_cases h : l[i].f1 < b
    · rw [if_pos h, if_pos h, List.append_nil]
    · by_cases h2 : wrap64 (l[i].f1 - b) = (i : Int)
      · rw [if_neg h, if_neg h, if_pos h2, if_pos h2, if_pos (by omega), ready_from k b s b' l0 m (i + 1) (a ++ [l[i]]) l (by omega) (by omega) hl (by rw [List.length_append, List.length_singleton]; omega), List.append_assoc, List.singleton_append]
      · rw [if_neg h, if_neg h, if_neg h2, if_neg h2, List.append_nil]
theorem ready_eq (k : Nat) (s b : Int) (l : List Tx) (h : l.length ≤ 1000) (hk : l.length + 1 ≤ k) : queue_Ready.f k s b l = some (rdy b l 0) := by
  have := ready_from (k - (l.length + 1)) b s b l l.length 0 [] l (by omega) (by omega) h (by simp; omega)
  rw [show k - (l.length + 1) + l.length + 1 = k by omega] at this
  unfold queue_Ready.f
  simpa using this
def sum : List Tx → Int
  | [] => 0
  | x :: r => slo_ x + sum r
theorem sum_range : ∀ l : List Tx, 0 ≤ sum l ∧ sum l ≤ 10 * l.length
  | [] => by simp [sum]
  | x :: r => by
    have := sum_range r
    have := slo_range x
    rw [sum, List.length_cons]
    omega
theorem sum_append : ∀ l m : List Tx, sum (l ++ m) = sum l + sum m
  | [], m => by simp [sum]
  | x :: r, m => by rw [List.cons_append, sum, sum, sum_append r m]; omega
theorem wadd (a b : Int) (ha : 0 ≤ a ∧ a ≤ 1000000) (hb : 0 ≤ b ∧ b ≤ 1000000) : wrap64 (a + b) = a + b := by unfold wrap64; omega
theorem slots_from (k : Nat) : ∀ (m i : Nat) (a : Int) (l : List Tx), m = l.length - i → i ≤ l.length → l.length ≤ 1000 → 0 ≤ a → a + 10 * m ≤ 100000 → queue_Slots.l0 (k + m + 1) a l (l.length : Int) (i : Int) = some (a + sum (l.drop i))
  | 0, i, a, l, hm, hi, hl, _, _ => by
    unfold queue_Slots.l0
    rw [if_neg (by omega), List.drop_eq_nil_of_le (by omega), sum, Int.add_zero]
  | m + 1, i, a, l, hm, hi, hl, h0, h1 => by
    have hlt : i < l.length := by omega
    have hr := slo_range l[i]
    unfold queue_Slots.l0
    rw [if_pos (by omega), if_pos (by omega), if_pos (by omega), step_ i (by omega), rd_at l i hlt, List.drop_eq_getElem_cons hlt, sum, show k + (m + 1) = k + m + 1 from rfl, slots_t, Option.bind_some, wadd a (slo_ l[i]) (by omega) (by omega), slots_from k m (i + 1) (a + slo_ l[i]) l (by omega) (by omega) hl (by omega) (by omega), Int.add_assoc]
theorem qslots_eq (k : Nat) (s b : Int) (l : List Tx) (h : l.length ≤ 1000) (hk : l.length + 1 ≤ k) : queue_Slots.f k s b l = some (sum l) := by
  have := slots_from (k - (l.length + 1)) l.length 0 0 l (by omega) (by omega) h (by omega) (by omega)
  rw [show k - (l.length + 1) + l.length + 1 = k by omega] at this
  unfold queue_Slots.f
  simpa using this
/-! may an account be? -/
def Asc (s : Int) : Int → List Tx → Prop
  | _, [] => True
  | n, x :: r => ChkT x ∧ x.f0 = s ∧ n ≤ x.f1 ∧ Asc s (x.f1 + 1) r
instance decAsc (s : Int) : ∀ (n : Int) (l : List Tx), Decidable (Asc s n l)
  | _, [] => inferInstanceAs (Decidable True)
  | n, x :: r => by
    have := decAsc s (x.f1 + 1) r
    exact inferInstanceAs (Decidable (ChkT x ∧ x.f0 = s ∧ n ≤ x.f1 ∧ Asc s (x.f1 + 1) r))
theorem chk_nonce (x : Tx) (h : ChkT x) : 0 ≤ x.f1 ∧ x.f1 ≤ 4294967295 := by
  unfold ChkT Chk at h
  omega
theorem wnext (n : Int) (h : 0 ≤ n ∧ n ≤ 4294967295) : wrap64 (n + 1) = n + 1 := by unfold wrap64; omega
theorem check_from (k : Nat) (s b : Int) (l0 : List Tx) : ∀ (m i : Nat) (n : Int) (l : List Tx), m = l.length - i → i ≤ l.length → l.length ≤ 1000 → queue_Check.l0 (k + m + 1) n l (l.length : Int) (i : Int) s b l0 = some (decide (Asc s n (l.drop i)))
  | 0, i, n, l, hm, hi, hl => by
    unfold queue_Check.l0
    rw [if_neg (by omega), List.drop_eq_nil_of_le (by omega), decide_eq_true (show Asc s n [] from trivial)]
  | m + 1, i, n, l, hm, hi, hl => by
    have hlt : i < l.length := by omega
    unfold queue_Check.l0
    rw [if_pos (by omega), if_pos (by omega), if_pos (by omega), step_ i (by omega), rd_at l i hlt, List.drop_eq_getElem_cons hlt, show k + (m + 1) = k + m + 1 from rfl, check_t, Option.bind_some]
    by_cases h1 : ChkT l[i]
    · rw [decide_eq_true h1, if_pos rfl]
      by_cases h2 : l[i].f0 = s
      · rw [if_pos h2]
        by_cases h3 : l[i].f1 < n
        · rw [if_pos h3, decide_eq_false (fun q => by have := q.2.2.1; omega)]
        · rw [if_neg h3, wnext _ (chk_nonce _ h1), check_from k s b l0 m (i + 1) (l[i].f1 + 1) l (by omega) (by omega) hl]
          congr 1
          exact decide_eq_decide.2 ⟨fun q => ⟨h1, h2, by omega, q⟩, fun q => q.2.2.2⟩
      · rw [if_neg h2, decide_eq_false (fun q => h2 q.2.1)]
    · rw [decide_eq_false h1, if_neg (by decide), decide_eq_false (fun q => h1 q.1)]
def May (s b : Int) (l : List Tx) (per : Int) : Prop := 0 ≤ s ∧ s ≤ 255 ∧ 0 ≤ b ∧ b ≤ 4294967295 ∧ 1 ≤ per ∧ per ≤ 16 ∧ (l.length : Int) ≤ per ∧ Asc s b l
instance (s b : Int) (l : List Tx) (per : Int) : Decidable (May s b l per) := inferInstanceAs (Decidable (_ ∧ _ ∧ _ ∧ _ ∧ _ ∧ _ ∧ _ ∧ _))
theorem qcheck_eq (k : Nat) (s b : Int) (l : List Tx) (per : Int) (h : l.length ≤ 1000) (hk : l.length + 2 ≤ k) : queue_Check.f k s b l per = some (decide (May s b l per)) := by
  obtain ⟨k, rfl⟩ : ∃ m, k = m + 1 := ⟨k - 1, by omega⟩
  have key : ∀ c : Bool, queue_Check.j0 (k + 1) c s b l = some (if c = true then false else decide (Asc s b l)) := fun c => by
    have := check_from (k - (l.length + 1)) s b l l.length 0 b l (by omega) (by omega) h
    rw [show k - (l.length + 1) + l.length + 1 = k by omega] at this
    unfold queue_Check.j0
    try dsimp only
    by_cases hc : c = true
    · rw [if_pos hc, if_pos hc]
    · rw [if_neg hc, if_neg hc]
      simpa using this
  unfold queue_Check.f
  rw [qin, qin, qin, key, key]
  simp only [Option.bind_some]
  by_cases h1 : 0 ≤ s ∧ s ≤ 255
  · rw [decide_eq_true h1, if_pos rfl]
    by_cases h2 : 0 ≤ b ∧ b ≤ 4294967295
    · rw [decide_eq_true h2, if_pos rfl]
      by_cases h3 : 1 ≤ per ∧ per ≤ 16
      · rw [decide_eq_true h3, if_pos rfl]
        by_cases h4 : (l.length : Int) > per
        · rw [if_pos (decide_eq_true h4), decide_eq_false (fun q => by have := q.2.2.2.2.2.2.1; omega)]
        · rw [if_neg (by simpa using h4)]
          congr 1
          exact decide_eq_decide.2 ⟨fun q => ⟨h1.1, h1.2, h2.1, h2.2, h3.1, h3.2, by omega, q⟩, fun q => q.2.2.2.2.2.2.2⟩
      · rw [decide_eq_false h3, if_neg (by decide), if_pos trivial, decide_eq_false (fun q => h3 ⟨q.2.2.2.2.1, q.2.2.2.2.2.1⟩)]
    · rw [decide_eq_false h2, if_neg (by decide), if_pos trivial, decide_eq_false (fun q => h2 ⟨q.2.2.1, q.2.2.2.1⟩)]
  · rw [decide_eq_false h1, if_neg (by decide), if_pos trivial, decide_eq_false (fun q => h1 ⟨q.1, q.2.1⟩)]
/-! few; the same -/
theorem few_from (k : Nat) (m : Int) : ∀ (n i : Nat) (l : List Tx), n = l.length - i → i ≤ l.length → l.length ≤ 9223372036854775807 → ∃ b, hopperref04_Few.l0 (k + n + 1) l m (i : Int) = some b ∧ (b = true → (l.length : Int) ≤ m)
  | 0, i, l, hn, hi, hl => by
    unfold hopperref04_Few.l0
    rw [if_neg (by omega)]
    exact ⟨_, rfl, fun h => of_decide_eq_true h⟩
  | n + 1, i, l, hn, hi, hl => by
    unfold hopperref04_Few.l0 hopperref04_Small.f
    rw [if_pos (by omega), if_pos (by omega), Option.bind_some, step_ i (by omega), show k + (n + 1) = k + n + 1 from rfl]
    split
    · exact few_from k m n (i + 1) l (by omega) (by omega) hl
    · exact ⟨_, rfl, fun h => by cases h⟩
theorem small_eq (k : Nat) (s b : Int) (l : List Tx) (h : l.length ≤ 9223372036854775807) (hk : l.length + 1 ≤ k) : ∃ c, hopperref05_Small.f k s b l = some c ∧ (c = true → l.length ≤ 30) := by
  obtain ⟨c, hc, hl⟩ := few_from (k - (l.length + 1)) 30 l.length 0 l (by omega) (by omega) h
  rw [show k - (l.length + 1) + l.length + 1 = k by omega] at hc
  refine ⟨c, ?_, fun q => by have := hl q; omega⟩
  have hc' : hopperref04_Few.f k l 30 = some c := hc
  unfold hopperref05_Small.f
  rw [hc']
  rfl
end Go.Proofs.Ytehncbhmdgdkjaa.QueueLaws
