/- Plain laws on rows in blocks of the call's own that are only read; no condition but the row's length. -/
import Derived.Test.YtnjnogkhbadioaaRowN
namespace Go.Proofs.Ytnjnogkhbadioaa.RowN
set_option linter.unusedSimpArgs false
set_option linter.unusedVariables false
open Go.RowKit Go.Proofs.YtnjnogkhbadioaaW.PrintWords
section
variable {α : Type} {d : Kd α} {e base n c : Nat} {ok ok' : Nat → Prop} {w w1 : World} {A : Option Addr} {v : Value} {xs : List α}
/-- A block whose cells are the elements' cells, in line: a row that is read. -/
theorem C_block {b : Nat} {rows : List (List Value)} (hb : w.heap[b]? = some (.cells rows.flatten.toArray e (0, 0))) (hl : rows.length = xs.length) (hm : xs.length ≤ 9223372036854775807) (hk : ∀ (j : Nat) (x : α) (c : List Value), xs[j]? = some x → rows[j]? = some c → d.K w x c) : Kd.C d w (some ⟨b, 0, none⟩) xs.length xs := by
  have hlr : ∀ r ∈ rows, r.length = d.sz := fun r hr => by
    obtain ⟨j, hj⟩ := List.getElem?_of_mem hr
    have hlt := (List.getElem?_eq_some_iff.1 hj).1
    exact d.K_len (hk j xs[j] r (List.getElem?_eq_getElem (by omega)) hj)
  refine ⟨rfl, hm, fun _ => ⟨_, rfl, fun j x hx => ?_⟩⟩
  have hlt := (List.getElem?_eq_some_iff.1 hx).1
  have hr : rows[j]? = some rows[j] := List.getElem?_eq_getElem (by omega)
  refine ⟨rows[j], hlr _ (List.getElem_mem ..), hk j x _ hx hr, fun i u hu => ?_⟩
  have hi := (List.getElem?_eq_some_iff.1 hu).1
  rw [hlr _ (List.getElem_mem ..)] at hi
  have hf := CopyK.flat_at d.sz rows hlr j i _ hr hi
  rw [Addr.add_lit, Nat.zero_add, blk_cell hb, List.getElem?_toArray, hf]
  exact hu
/-- What is read, whatever it leads to. -/
theorem V_all (hd : Kd.Heap d) (h : Kd.C d w A xs.length xs) (hc : xs.length ≤ c) : Kd.V d e w base (fun _ => True) (.slice A xs.length c) xs := Kd.V_mk hc (Kd.F_mono (Kd.C_F hd h) (fun _ _ => trivial))
theorem N_all (h : Kd.N d e w base ok v xs) : ∃ A c, v = .slice A xs.length c ∧ xs.length ≤ c ∧ Kd.V d e w base (fun _ => True) (.slice A xs.length c) xs ∧ Kd.C d w A xs.length xs := by
  obtain ⟨A, c, rfl⟩ := Kd.N_slice h
  obtain ⟨_, h2, h3⟩ := Kd.N_reads' h
  exact ⟨A, c, rfl, h2, Kd.V_mono (Kd.N_V h) (fun _ _ => trivial), h3⟩
end
end Go.Proofs.Ytnjnogkhbadioaa.RowN
