/- Plain laws of a transaction's place among a sender's; no condition but the list's length. -/
import Derived.Test.YtehncbhmdgdkjaaQueueLaws
import Derived.Test.YtehncbhmdgdkjaaQueueSat
import Derived.Test.YtehncbhmdgdkjaaQx7
namespace Go.Proofs.Ytehncbhmdgdkjaa.QueueLaws
set_option linter.unusedSimpArgs false
set_option linter.unusedVariables false
open Go.RowKit Go.Proofs.Ytehncbhmdgdkjaa.Q Go.Proofs.Ytehncbhmdgdkjaa.TxnCodec Go.Proofs.Ytehncbhmdgdkjaa.TxnLaws Go.Proofs.Ytehncbhmdgdkjaa.SatLaws Go.Proofs.YtehncbhmdgdkjaaW.PrintWords Go.Proofs.YtehncbhmdgdkjaaW.PrintLast
/-- What is told of a place: an error, or by how many slots there are more. -/
def Right (s b : Int) (l : List Tx) (t : Tx) (per bump : Int) : Prop := May s b l per ∧ ChkT t ∧ t.f0 = s ∧ 0 ≤ bump ∧ bump ≤ 100
instance (s b : Int) (l : List Tx) (t : Tx) (per bump : Int) : Decidable (Right s b l t per bump) := inferInstanceAs (Decidable (_ ∧ _ ∧ _ ∧ _ ∧ _))
def placed (b : Int) (l : List Tx) (t : Tx) (per bump : Int) : Int × Int :=
  if t.f1 < b then (0, 3) else
    match fnd t.f1 l with
    | some o => if (rai o.f2 bump).2 = true ∧ ¬ t.f2 < (rai o.f2 bump).1 then (slo_ t - slo_ o, 0) else (0, 4)
    | none => if (l.length : Int) = per then (0, 5) else (slo_ t, 0)
def placeQ (s b : Int) (l : List Tx) (t : Tx) (per bump : Int) : Int × Int := if Right s b l t per bump then placed b l t per bump else (0, 1)
theorem wsub (a b : Int) (ha : 0 ≤ a ∧ a ≤ 10) (hb : 0 ≤ b ∧ b ≤ 10) : wrap64 (a - b) = a - b := by unfold wrap64; omega
theorem place_j1 (k : Nat) (c : Bool) (t o : Tx) : queue_Place.j1 (k + 1) c t.f0 t.f1 t.f2 t.f3 t.f4 t.f5 o.f0 o.f1 o.f2 o.f3 o.f4 o.f5 = some (if c = true then (0, 4) else (slo_ t - slo_ o, 0)) := by
  unfold queue_Place.j1
  try dsimp only
  by_cases hc : c = true
  · rw [if_pos hc, if_pos hc]
  · rw [if_neg hc, if_neg hc, slots_t, slots_t, Option.bind_some, Option.bind_some, wsub _ _ (slo_range t) (slo_range o)]
theorem place_j0 (k : Nat) (per bump : Int) (c : Bool) (s b : Int) (l : List Tx) (t : Tx) (h : l.length ≤ 1000) : queue_Place.j0 (k + 3) per bump c s b l t.f0 t.f1 t.f2 t.f3 t.f4 t.f5 = some (if c = true then (0, 1) else placed b l t per bump) := by
  unfold queue_Place.j0
  try dsimp only
  by_cases hc : c = true
  · rw [if_pos hc, if_pos hc]
  · rw [if_neg hc, if_neg hc]
    unfold placed
    by_cases hb : t.f1 < b
    · rw [if_pos hb, if_pos hb]
    · rw [if_neg hb, if_neg hb, find_eq s b l t.f1 h, Option.bind_some]
      cases hf : fnd t.f1 l with
      | none =>
        rw [tell, if_neg Bool.false_ne_true, slots_t, Option.bind_some]
        split <;> rfl
      | some o =>
        rw [tell, if_pos rfl]
        show ((sat_Raise.f (k + 1 + 1) o.f2 bump).bind _) = _
        rw [raise, Option.bind_some]
        dsimp only
        by_cases hr : (rai o.f2 bump).2 = true
        · rw [if_pos hr, place_j1]
          by_cases hlt : t.f2 < (rai o.f2 bump).1
          · rw [decide_eq_true hlt, if_pos rfl, if_neg (fun q => q.2 hlt)]
          · rw [decide_eq_false hlt, if_neg (by decide), if_pos ⟨hr, hlt⟩]
        · rw [if_neg hr, place_j1, if_pos rfl, if_neg (fun q => hr q.1)]
theorem qplace_eq (k : Nat) (s b : Int) (l : List Tx) (t : Tx) (per bump : Int) (h : l.length ≤ 1000) (hk : l.length + 5 ≤ k) : queue_Place.f k s b l t.f0 t.f1 t.f2 t.f3 t.f4 t.f5 per bump = some (placeQ s b l t per bump) := by
  obtain ⟨k, rfl⟩ : ∃ m, k = m + 3 := ⟨k - 3, by omega⟩
  unfold queue_Place.f placeQ
  rw [qcheck_eq _ s b l per h (by omega), Option.bind_some, place_j0 k per bump true s b l t h]
  by_cases h1 : May s b l per
  · rw [decide_eq_true h1, if_pos rfl, check_t, Option.bind_some]
    by_cases h2 : ChkT t
    · rw [decide_eq_true h2, if_pos rfl]
      by_cases h3 : t.f0 = s
      · rw [if_pos h3, qin, Option.bind_some, place_j0 k per bump _ s b l t h]
        by_cases h4 : 0 ≤ bump ∧ bump ≤ 100
        · rw [decide_eq_true h4, if_neg (by decide), if_pos ⟨h1, h2, h3, h4⟩]
        · rw [decide_eq_false h4, if_pos (by decide), if_neg (fun q => h4 q.2.2.2)]
      · rw [if_neg h3, if_pos rfl, if_neg (fun q => h3 q.2.2.1)]
    · rw [decide_eq_false h2, if_neg (by decide), if_pos rfl, if_neg (fun q => h2 q.2.1)]
  · rw [decide_eq_false h1, if_neg (by decide), if_pos rfl, if_neg (fun q => h1 q.1)]
theorem rai_above (t p : Int) (h : (rai t p).2 = true) : t < (rai t p).1 := by
  unfold rai at h ⊢
  split at h
  · rename_i q
    rw [if_pos q]
    have := prod_range t p q.1 q.2.1 q.2.2.1 q.2.2.2.1
    show t < SatLaws.up t (t * p)
    unfold SatLaws.up
    split <;> omega
  · cases h
/-- What is told of a place says of the account and the transaction. -/
theorem place_spec (s b : Int) (l : List Tx) (t : Tx) (per bump : Int) :
    ((placeQ s b l t per bump).2 = 0 ∧ b ≤ t.f1 ∧ May s b l per ∧ ChkT t ∧ t.f0 = s ∧ ((∃ o, fnd t.f1 l = some o ∧ o.f2 < t.f2 ∧ (placeQ s b l t per bump).1 = slo_ t - slo_ o) ∨ (fnd t.f1 l = none ∧ (l.length : Int) < per ∧ (placeQ s b l t per bump).1 = slo_ t))) ∨
    ((placeQ s b l t per bump).1 = 0 ∧ ((placeQ s b l t per bump).2 = 1 ∨ ((placeQ s b l t per bump).2 = 3 ∧ t.f1 < b) ∨ ((placeQ s b l t per bump).2 = 4 ∧ ∃ o, fnd t.f1 l = some o) ∨ ((placeQ s b l t per bump).2 = 5 ∧ fnd t.f1 l = none ∧ (l.length : Int) = per))) := by
  unfold placeQ
  by_cases hr : Right s b l t per bump
  · rw [if_pos hr]
    have hle : (l.length : Int) ≤ per := hr.1.2.2.2.2.2.2.1
    have hs : t.f0 = s := hr.2.2.1
    unfold placed
    by_cases h1 : t.f1 < b
    · rw [if_pos h1]
      exact .inr ⟨rfl, .inr (.inl ⟨rfl, h1⟩)⟩
    · rw [if_neg h1]
      cases hf : fnd t.f1 l with
      | none =>
        dsimp only
        by_cases h2 : (l.length : Int) = per
        · rw [if_pos h2]
          exact .inr ⟨rfl, .inr (.inr (.inr ⟨rfl, rfl, h2⟩))⟩
        · rw [if_neg h2]
          exact .inl ⟨rfl, by omega, hr.1, hr.2.1, hs, .inr ⟨rfl, by omega, rfl⟩⟩
      | some o =>
        dsimp only
        by_cases h2 : (rai o.f2 bump).2 = true ∧ ¬ t.f2 < (rai o.f2 bump).1
        · rw [if_pos h2]
          have h3 := rai_above o.f2 bump h2.1
          exact .inl ⟨rfl, by omega, hr.1, hr.2.1, hs, .inl ⟨o, rfl, by have := h2.2; omega, rfl⟩⟩
        · rw [if_neg h2]
          exact .inr ⟨rfl, .inr (.inr (.inl ⟨rfl, o, rfl⟩))⟩
  · rw [if_neg hr]
    exact .inr ⟨rfl, .inl rfl⟩
end Go.Proofs.Ytehncbhmdgdkjaa.QueueLaws
