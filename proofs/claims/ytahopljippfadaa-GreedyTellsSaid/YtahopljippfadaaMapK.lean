/- Plain laws on a map by whole numbers, told by what was laid in it, one behind another; no condition. -/
import Derived.Maps.Views
import Derived.Maps.OwnIn
import Derived.Maps.OwnOps
namespace Go.Proofs.Ytahopljippfadaa.MapK
set_option linter.unusedSimpArgs false
set_option linter.unusedVariables false
open Go Go.RowKit
/-- How an element reads: as it is. -/
def Rh (v : Value) : Option (DataW Value × List MemPlace) := some (.held v, [])
/-- What was laid, one behind another. -/
def dat (l : List (Int × Value)) : DataW Value := l.foldl (fun D a => D.put (.int .i64 a.1) (.held a.2)) (.map [])
theorem dat_snoc (l : List (Int × Value)) (a : Int × Value) : dat (l ++ [a]) = (dat l).put (.int .i64 a.1) (.held a.2) := by
  unfold dat
  rw [List.foldl_append]
  rfl
theorem put_isMap {D : DataW Value} (h : Maps.IsMap D) (k : Lit) (d : DataW Value) : Maps.IsMap (D.put k d) := h.put k d
theorem foldl_isMap : ∀ (l : List (Int × Value)) (D : DataW Value), Maps.IsMap D → Maps.IsMap (l.foldl (fun D a => D.put (.int .i64 a.1) (.held a.2)) D)
  | [], _, h => h
  | a :: l, D, h => foldl_isMap l _ (h.put _ _)
theorem dat_isMap (l : List (Int × Value)) : Maps.IsMap (dat l) := foldl_isMap l _ ⟨[], rfl⟩
theorem rev_ind {α : Type} {p : List α → Prop} (h0 : p []) (h1 : ∀ l a, p l → p (l ++ [a])) (l : List α) : p l := by
  have : ∀ r : List α, p r.reverse := fun r => by
    induction r with
    | nil => exact h0
    | cons a r ih => rw [List.reverse_cons]; exact h1 _ _ ih
  have h := this l.reverse
  rwa [List.reverse_reverse] at h
theorem key_lit (k : Int) : WideAt.IsKeyLit (.int .i64 k) := by unfold WideAt.IsKeyLit; trivial
/-- What a key's element is. -/
theorem dat_at (k : Int) (z : DataW Value) : ∀ l : List (Int × Value), (dat l).atKey (.int .i64 k) z = match l.reverse.find? (fun a => a.1 == k) with | some a => .held a.2 | none => z := by
  refine rev_ind rfl fun l a ih => ?_
  rw [dat_snoc, List.reverse_append, List.reverse_singleton, List.singleton_append, List.find?_cons]
  by_cases e : a.1 = k
  · subst e
    rw [Maps.atKey_put_same (dat_isMap l) (key_lit _)]
    simp
  · rw [Maps.atKey_put_other (fun q => e (by injection q with _ q; exact q.symm)), ih]
    rw [show (a.1 == k) = false from beq_eq_false_iff_ne.2 e]
theorem dat_has (k : Int) : ∀ l : List (Int × Value), Maps.has (dat l) (.int .i64 k) = l.any fun a => a.1 == k := by
  refine rev_ind rfl fun l a ih => ?_
  rw [dat_snoc, List.any_append, List.any_cons, List.any_nil, Bool.or_false]
  by_cases e : a.1 = k
  · subst e
    rw [Maps.has_put_same (dat_isMap l) (key_lit _)]
    simp
  · rw [Maps.has_put_other (fun q => e (by injection q with _ q; exact q.symm)), ih]
    simp [e]
end Go.Proofs.Ytahopljippfadaa.MapK
