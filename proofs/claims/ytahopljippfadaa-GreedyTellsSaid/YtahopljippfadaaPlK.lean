/- A map of places by their numbers, told by who has one; no condition. -/
import Derived.Test.YtahopljippfadaaMapK
namespace Go.Proofs.Ytahopljippfadaa.PlK
set_option linter.unusedSimpArgs false
set_option linter.unusedVariables false
open Go Go.RowKit
/-- Has number i a place? -/
def on (L : List Bool) (i : Int) : Bool := decide (0 ≤ i) && L.getD i.toNat false
def cnt (L : List Bool) : Nat := (L.filter fun b => b).length
structure Pl (D : DataW Value) (p : Nat → Value) (L : List Bool) : Prop where
  tidy : Maps.Tidy D
  map_ : Maps.IsMap D
  at_ : ∀ i : Int, D.atKey (.int .i64 i) (.held (.pointer none)) = .held (if on L i = true then p i.toNat else .pointer none)
  has_ : ∀ i : Int, Maps.has D (.int .i64 i) = on L i
  size_ : Maps.size D = cnt L
theorem on_nat (L : List Bool) (k : Nat) : on L (k : Int) = L.getD k false := by
  unfold on
  rw [decide_eq_true (by omega), Bool.true_and, Int.toNat_natCast]
theorem on_snoc (L : List Bool) (b : Bool) (i : Int) (h : i ≠ (L.length : Int)) : on (L ++ [b]) i = on L i := by
  unfold on
  by_cases h0 : 0 ≤ i
  · rw [decide_eq_true h0, Bool.true_and, Bool.true_and]
    by_cases h1 : i.toNat < L.length
    · rw [List.getD_eq_getElem?_getD, List.getD_eq_getElem?_getD, List.getElem?_append_left h1]
    · rw [List.getD_eq_getElem?_getD, List.getD_eq_getElem?_getD, List.getElem?_eq_none (by rw [List.length_append, List.length_singleton]; omega), List.getElem?_eq_none (by omega)]
  · rw [decide_eq_false h0, Bool.false_and, Bool.false_and]
theorem on_last (L : List Bool) (b : Bool) : on (L ++ [b]) (L.length : Int) = b := by
  rw [on_nat, List.getD_eq_getElem?_getD, List.getElem?_append_right (Nat.le_refl _), Nat.sub_self]
  rfl
theorem on_end (L : List Bool) : on L (L.length : Int) = false := by
  rw [on_nat, List.getD_eq_getElem?_getD, List.getElem?_eq_none (Nat.le_refl _)]
  rfl
theorem on_set (L : List Bool) (k : Nat) (i : Int) (h : i ≠ (k : Int)) : on (L.set k false) i = on L i := by
  unfold on
  by_cases h0 : 0 ≤ i
  · rw [decide_eq_true h0, Bool.true_and, Bool.true_and, List.getD_eq_getElem?_getD, List.getD_eq_getElem?_getD, List.getElem?_set_ne (by omega)]
  · rw [decide_eq_false h0, Bool.false_and, Bool.false_and]
theorem on_set_same (L : List Bool) (k : Nat) : on (L.set k false) (k : Int) = false := by
  rw [on_nat, List.getD_eq_getElem?_getD]
  by_cases h : k < L.length
  · rw [List.getElem?_set_self h]; rfl
  · rw [List.getElem?_eq_none (by rw [List.length_set]; omega)]; rfl
theorem cnt_set : ∀ (L : List Bool) (k : Nat), cnt (L.set k false) + (if L.getD k false = true then 1 else 0) = cnt L
  | [], k => by simp [cnt]
  | b :: L, 0 => by cases b <;> simp [cnt]
  | b :: L, k + 1 => by
    have ih := cnt_set L k
    rw [List.set_cons_succ, List.getD_cons_succ]
    unfold cnt at ih ⊢
    rw [List.getD_eq_getElem?_getD] at ih ⊢
    cases b <;> simp only [List.filter_cons] <;> simp <;> omega
theorem Pl.nil (p : Nat → Value) : Pl (.map []) p [] := by
  refine ⟨?_, ⟨[], rfl⟩, fun i => ?_, fun i => ?_, rfl⟩
  · exact Maps.tidy_empty
  · have : on [] i = false := by unfold on; simp
    rw [this]
    rfl
  · have : on [] i = false := by unfold on; simp
    rw [this]
    rfl
theorem ne_lit {i j : Int} (h : i ≠ j) : (Lit.int .i64 i) ≠ Lit.int .i64 j := fun e => h (by injection e)
theorem Pl.skip {D : DataW Value} {p : Nat → Value} {L : List Bool} (h : Pl D p L) : Pl D p (L ++ [false]) := by
  have hon : ∀ i, on (L ++ [false]) i = on L i := fun i => by
    by_cases e : i = (L.length : Int)
    · subst e; rw [on_last, on_end]
    · exact on_snoc L false i e
  refine ⟨h.tidy, h.map_, fun i => by rw [hon]; exact h.at_ i, fun i => by rw [hon]; exact h.has_ i, ?_⟩
  rw [h.size_]
  unfold cnt
  simp
theorem Pl.put {D : DataW Value} {p : Nat → Value} {L : List Bool} (h : Pl D p L) : Pl (D.put (.int .i64 (L.length : Int)) (.held (p L.length))) p (L ++ [true]) := by
  refine ⟨h.tidy.put (MapK.key_lit _) _, h.map_.put _ _, fun i => ?_, fun i => ?_, ?_⟩
  · by_cases e : i = (L.length : Int)
    · subst e
      rw [Maps.atKey_put_same h.map_ (MapK.key_lit _), on_last, if_pos rfl, Int.toNat_natCast]
    · rw [Maps.atKey_put_other (ne_lit e), on_snoc L true i e]
      exact h.at_ i
  · by_cases e : i = (L.length : Int)
    · subst e
      rw [Maps.has_put_same h.map_ (MapK.key_lit _), on_last]
    · rw [Maps.has_put_other (ne_lit e), on_snoc L true i e]
      exact h.has_ i
  · rw [Maps.size_put h.tidy, h.has_, on_end, if_neg (by decide), h.size_]
    unfold cnt
    simp
theorem Pl.del {D : DataW Value} {p : Nat → Value} {L : List Bool} (h : Pl D p L) (k : Nat) : Pl (D.del (.int .i64 (k : Int))) p (L.set k false) := by
  refine ⟨h.tidy.del _, h.map_.del _, fun i => ?_, fun i => ?_, ?_⟩
  · by_cases e : i = (k : Int)
    · subst e
      rw [Maps.atKey_del_same, on_set_same, if_neg (by decide)]
    · rw [Maps.atKey_del_other (ne_lit e), on_set L k i e]
      exact h.at_ i
  · by_cases e : i = (k : Int)
    · subst e
      rw [Maps.has_del_same, on_set_same]
    · rw [Maps.has_del_other (ne_lit e), on_set L k i e]
      exact h.has_ i
  · have h1 := Maps.size_del (k := .int .i64 (k : Int)) h.tidy
    rw [h.has_, on_nat, h.size_] at h1
    have h2 := cnt_set L k
    omega
end Go.Proofs.Ytahopljippfadaa.PlK
