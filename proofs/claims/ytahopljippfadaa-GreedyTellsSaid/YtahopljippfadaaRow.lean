/- Plain laws for a statement's frame: whatever reads as data at a type is told by that type's kind, with its bounds; no condition but the types' shapes. -/
import Derived.Test.YtahopljippfadaaWMore
import Derived.Deep.Slices
import Derived.OpenShut
import Derived.ChangeSame
import Derived.ProofKit
import Derived.Carry
namespace Go.Proofs.Ytahopljippfadaa.Row
set_option linter.unusedSimpArgs false
set_option linter.unusedVariables false
open Go.RowKit Go.ChangeShapes Go.WideShapes Go.Deep Go.Proofs.YtahopljippfadaaW.PrintWords
def okI (k : IntKind) (n : Int) : Prop := (Lit.int k n).wf = true
def okB (_ : Bool) : Prop := True
def okS (s : ByteArray) : Prop := s.size ≤ maxLen
def okL {α : Type} (ok : α → Prop) (xs : List α) : Prop := xs.length ≤ maxLen ∧ ∀ x ∈ xs, ok x
/-- What reads at type t is of kind d, within its bounds. -/
def Opens {α : Type} (P : Program) (w : World) (t : TypeId) (d : Kd α) (ok : α → Prop) : Prop :=
  ∀ (H : Type) (enc : TypeId × Value → H) (base : Nat) (spare : Nat → Bool) (held : Bool) (fuel : Nat) (cs : List Value) (x : DataW H × List MemPlace), DataW.trod enc P w base spare held fuel t cs = some x → ∃ a, d.K w a cs ∧ ok a
section
variable {P : Program} {w : World} {t : TypeId}
theorem opens_int {k : IntKind} (ht : P.underlying t = some (.int k)) : Opens P w t (Kd.int k) (okI k) := by
  intro H enc base spare held fuel cs x h
  obtain ⟨n, rfl, _, hw⟩ := DataW.trod_int ht h
  exact ⟨n, rfl, hw⟩
theorem opens_bool (ht : P.underlying t = some .bool) : Opens P w t Kd.bool okB := by
  intro H enc base spare held fuel cs x h
  obtain ⟨b, rfl, _⟩ := DataW.trod_bool ht h
  exact ⟨b, rfl, trivial⟩
theorem opens_string (ht : P.underlying t = some .string) : Opens P w t Kd.string okS := by
  intro H enc base spare held fuel cs x h
  obtain ⟨s, rfl, _, hs⟩ := DataW.trod_string ht h
  exact ⟨s, rfl, hs⟩
theorem listed {α : Type} {p : Nat → α → Prop} (n : Nat) (h : ∀ i, i < n → ∃ a, p i a) : ∃ xs : List α, xs.length = n ∧ ∀ i a, xs[i]? = some a → p i a := by
  induction n with
  | zero => exact ⟨[], rfl, fun i a h => by simp at h⟩
  | succ n ih =>
    obtain ⟨xs, hl, hx⟩ := ih (fun i hi => h i (by omega))
    obtain ⟨a, ha⟩ := h n (by omega)
    refine ⟨xs ++ [a], by simp [hl], fun i b hb => ?_⟩
    rcases Nat.lt_or_ge i xs.length with hlt | hge
    · rw [List.getElem?_append_left hlt] at hb; exact hx i b hb
    · rw [List.getElem?_append_right hge] at hb
      have e : i - xs.length = 0 := by
        rcases Nat.eq_zero_or_pos (i - xs.length) with e | e
        · exact e
        · rw [List.getElem?_eq_none (by simp; omega)] at hb; cases hb
      rw [e] at hb
      obtain rfl : a = b := by simpa using hb
      obtain rfl : i = n := by omega
      exact ha
theorem opens_slice {α : Type} {e : TypeId} {d : Kd α} {ok : α → Prop} (ht : P.underlying t = some (.slice e)) (hc : P.cellsOf e = d.sz) (ho : Opens P w e d ok) : Opens P w t (Kd.slice e d) (okL ok) := by
  intro H enc base spare held fuel cs x h
  rcases open_slice ht h with ⟨rfl, _⟩ | ⟨a, len, cap, m, n, D, Pl, rfl, _, hl, hm, hmm, _, hi⟩
  · exact ⟨[], ⟨none, 0, rfl, Nat.le_refl _, rfl, by simp, fun h => absurd h (by simp)⟩, by simp [maxLen], fun x hx => by simp at hx⟩
  · have hlm : len ≤ m := by rw [hmm]; split <;> omega
    obtain ⟨xs, hxl, hxs⟩ := listed (p := fun i b => ok b ∧ ∃ c, c.length = d.sz ∧ d.K w b c ∧ ∀ j u, c[j]? = some u → w.cell? (a.add (i * d.sz + j)) = some u) len (fun i hlt => by
      obtain ⟨cs', hc1, hc2⟩ := hi i (by omega)
      obtain ⟨b, hb, hok⟩ := ho H enc base spare held n cs' _ hc2
      obtain ⟨_, hcl, hat⟩ := World.cells?_some hc1
      refine ⟨b, hok, cs', d.K_len hb, hb, fun j u hu => ?_⟩
      have hj : j < P.cellsOf e := by
        have := (List.getElem?_eq_some_iff.1 hu).1
        rw [d.K_len hb] at this; omega
      have h2 := hat j hj
      rw [hu] at h2
      rw [← h2, ← hc]
      rw [Go.Deep.add_add])
    have hm2 : len ≤ maxLen := Nat.le_trans hl hm
    refine ⟨xs, ⟨some a, cap, by rw [hxl], by omega, rfl, by rw [hxl]; exact hm2, fun _ => ⟨a, rfl, fun j b hb => ?_⟩⟩, by rw [hxl]; exact hm2, fun b hb => ?_⟩
    · obtain ⟨_, c, h1, h2, h3⟩ := hxs j b hb
      exact ⟨c, h1, h2, h3⟩
    · obtain ⟨j, hj⟩ := List.mem_iff_getElem?.1 hb
      exact (hxs j b hj).1
/-- From place o on the cells are of kind d. -/
def At {α : Type} (w : World) (o : Nat) (d : Kd α) (ok : α → Prop) (cs : List Value) : Prop := ∃ a, d.K w a ((cs.drop o).take d.sz) ∧ ok a
theorem at_field {α : Type} {d : Kd α} {ok : α → Prop} {H : Type} {enc : TypeId × Value → H} {base : Nat} {spare : Nat → Bool} {held : Bool} {n o i : Nat} {cs : List Value} {xs : List (DataW H × List MemPlace)}
    (ho : Opens P w t d ok) (hi : i < xs.length) (hz : P.cellsOf t = d.sz) (h : DataW.trod enc P w base spare held n t ((cs.drop o).take (P.cellsOf t)) = xs[i]?) : At w o d ok cs := by
  rw [List.getElem?_eq_getElem hi] at h
  have := ho H enc base spare held n _ _ h
  rw [hz] at this
  exact this
theorem at_pair {α β : Type} {a : Kd α} {b : Kd β} {oka : α → Prop} {okb : β → Prop} {o : Nat} {cs : List Value} (ha : At w o a oka cs) (hb : At w (o + a.sz) b okb cs) : At w o (Kd.pair a b) (fun x => oka x.1 ∧ okb x.2) cs := by
  obtain ⟨x, hx, ox⟩ := ha
  obtain ⟨y, hy, oy⟩ := hb
  refine ⟨(x, y), ⟨_, _, ?_, hx, hy⟩, ox, oy⟩
  show (cs.drop o).take (a.sz + b.sz) = _
  rw [List.take_add, List.drop_drop]
theorem of_at {α β : Type} {d : Kd α} {ok : α → Prop} {f : β → α} (g : α → β) (hg : ∀ x, f (g x) = x) {cs : List Value} (hl : cs.length = d.sz) (h : At w 0 d ok cs) : ∃ x, (Kd.iso d f).K w x cs ∧ ok (f x) := by
  obtain ⟨a, ha, oa⟩ := h
  rw [List.drop_zero, ← hl, List.take_length] at ha
  refine ⟨g a, ?_, ?_⟩
  · show d.K w (f (g a)) cs
    rw [hg]; exact ha
  · rw [hg]; exact oa
theorem okWide_array {r : Reach} {b n : Nat} {e : TypeId} {v : Value} (ht : P.underlying t = some (.array n e)) (h : Value.okWide P w r b t v) : ∃ cs, v = .agg cs ∧ cs.size = P.cellsOf t := by
  simp only [Value.okWide, ht] at h
  obtain ⟨cs, h1, h2, _⟩ := h
  exact ⟨cs, h1, h2⟩
theorem agg_of {cs : Array Value} {l : List Value} (h : cs.toList = l) : cs = l.toArray := by rw [← h]
end
end Go.Proofs.Ytahopljippfadaa.Row
