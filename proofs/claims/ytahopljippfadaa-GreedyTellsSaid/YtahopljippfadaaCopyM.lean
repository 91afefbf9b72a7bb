/- Plain laws on rows told element by element; no condition but the elements' size. -/
import Derived.Test.YtahopljippfadaaCopyK
namespace Go.Proofs.Ytahopljippfadaa.CopyK
set_option linter.unusedSimpArgs false
set_option linter.unusedVariables false
open Go.RowKit Go.Proofs.YtahopljippfadaaW.PrintWords
/-- A row's cells, told element by element, are the elements' cells in line. -/
theorem rows_eq {α : Type} (sz : Nat) (f : α → List Value) (hf : ∀ x, (f x).length = sz) : ∀ (xs : List α) (inner : List Value), inner.length = xs.length * sz → (∀ j p, xs[j]? = some p → (inner.drop (j * sz)).take sz = f p) → inner = (xs.map f).flatten
  | [], inner, hl, _ => List.eq_nil_of_length_eq_zero (by simpa using hl)
  | x :: r, inner, hl, h => by
    have h0 : inner.take sz = f x := by simpa using h 0 x rfl
    have hd : inner.drop sz = (r.map f).flatten := rows_eq sz f hf r (inner.drop sz) (by rw [List.length_drop, hl, List.length_cons, Nat.add_mul]; omega) (fun j p hj => by
      rw [List.drop_drop, show sz + j * sz = (j + 1) * sz by rw [Nat.add_mul]; omega]
      exact h (j + 1) p (by simpa using hj))
    rw [List.map_cons, List.flatten_cons, ← h0, ← hd, List.take_append_drop]
theorem rows_at {α : Type} (sz : Nat) (f : α → List Value) (hf : ∀ x, (f x).length = sz) : ∀ (xs : List α) (j : Nat) (p : α), xs[j]? = some p → ((xs.map f).flatten.drop (j * sz)).take sz = f p
  | [], j, p, h => by simp at h
  | x :: r, 0, p, h => by
    obtain rfl : x = p := by simpa using h
    rw [Nat.zero_mul, List.drop_zero, List.map_cons, List.flatten_cons, List.take_left' (hf x)]
  | x :: r, j + 1, p, h => by
    rw [List.map_cons, List.flatten_cons, show (j + 1) * sz = (f x).length + j * sz by rw [hf x, Nat.add_mul]; omega, List.drop_append, List.drop_eq_nil_of_le (by omega), Nat.add_sub_cancel_left, List.nil_append]
    exact rows_at sz f hf r j p (by simpa using h)
theorem rows_len {α : Type} (sz : Nat) (f : α → List Value) (hf : ∀ x, (f x).length = sz) (xs : List α) : ∀ r ∈ xs.map f, r.length = sz := by
  intro r hr
  obtain ⟨x, _, rfl⟩ := List.mem_map.1 hr
  exact hf x
theorem rows_length {α : Type} (sz : Nat) (f : α → List Value) (hf : ∀ x, (f x).length = sz) (xs : List α) : (xs.map f).flatten.length = xs.length * sz := by
  rw [flat_length sz _ (rows_len sz f hf xs), List.length_map]
end Go.Proofs.Ytahopljippfadaa.CopyK
