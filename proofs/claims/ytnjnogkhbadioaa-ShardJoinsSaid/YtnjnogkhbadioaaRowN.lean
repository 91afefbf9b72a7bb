/- Plain laws on rows of elements that lead to rows elsewhere, told as pairs (what an element is, its cells): out of what came in, and into a row of the call's own; no condition but the elements' size. -/
import Derived.Test.YtnjnogkhbadioaaCopyM
import Derived.Test.YtnjnogkhbadioaaWMore
import Derived.Test.YtnjnogkhbadioaaWNEv
namespace Go.Proofs.Ytnjnogkhbadioaa.RowN
set_option linter.unusedSimpArgs false
set_option linter.unusedVariables false
open Go.RowKit Go.Proofs.YtnjnogkhbadioaaW.PrintWords
section
variable {α : Type} {d : Kd α} {e base n c : Nat} {ok ok' : Nat → Prop} {w w1 : World} {A : Option Addr} {v : Value} {xs : List α}
/-- Elements with their cells; what these lead to lies in ok. -/
def Prs (d : Kd α) (w : World) (ok : Nat → Prop) (Z : List (α × List Value)) : Prop := ∀ z ∈ Z, z.2.length = d.sz ∧ Kd.FK d w ok z.1 z.2
theorem Prs.len {Z : List (α × List Value)} (h : Prs d w ok Z) : ∀ r ∈ Z.map Prod.snd, r.length = d.sz := fun r hr => by
  obtain ⟨z, hz, rfl⟩ := List.mem_map.1 hr
  exact (h z hz).1
theorem Prs.one {Z : List (α × List Value)} (h : Prs d w ok Z) : ∀ u ∈ (Z.map Prod.snd).flatten, u.oneCell' = true := fun u hu => by
  obtain ⟨r, hr, hur⟩ := List.mem_flatten.1 hu
  obtain ⟨z, hz, rfl⟩ := List.mem_map.1 hr
  exact d.K_one (Kd.FK_now (h z hz).2) u hur
theorem Prs.mono {Z : List (α × List Value)} (h : Prs d w ok Z) (hok : ∀ k, ok k → ok' k) : Prs d w ok' Z := fun z hz => ⟨(h z hz).1, Kd.FK_mono (h z hz).2 hok⟩
theorem Prs.bound {Z : List (α × List Value)} (h : Prs d w ok Z) : Prs d w (fun k => ok k ∧ k < w.heap.size) Z := fun z hz => ⟨(h z hz).1, Kd.FK_bound (h z hz).2⟩
theorem Prs.below {Z : List (α × List Value)} (h : Prs d w ok Z) (hb : Below w.heap.size w w1) : Prs d w1 ok Z := fun z hz => ⟨(h z hz).1, Kd.FK_below (h z hz).2 hb⟩
theorem Prs.app {Y Z : List (α × List Value)} (h : Prs d w ok Y) (g : Prs d w ok Z) : Prs d w ok (Y ++ Z) := fun z hz => (List.mem_append.1 hz).elim (h z) (g z)
theorem Prs.sub {Y Z : List (α × List Value)} (h : Prs d w ok Z) (hs : ∀ z ∈ Y, z ∈ Z) : Prs d w ok Y := fun z hz => h z (hs z hz)
/-- What came in, as pairs. -/
theorem of_V (h : Kd.V d e w base ok (.slice A n c) xs) : ∃ Z : List (α × List Value), Z.map Prod.fst = xs ∧ Z.length = n ∧ Prs d w ok Z ∧ (0 < n → ∃ ad, A = some ad) ∧ ∀ ad, A = some ad → ∀ j u, (Z.map Prod.snd).flatten[j]? = some u → w.cell? (ad.add j) = some u := by
  obtain ⟨hn, _, hF⟩ := Kd.V_at h
  subst hn
  obtain ⟨_, _, hr⟩ := Kd.F_rows hF
  cases hxs : xs with
  | nil =>
    refine ⟨[], rfl, rfl, fun z hz => (List.not_mem_nil hz).elim, fun h0 => (Nat.lt_irrefl 0 h0).elim, fun ad _ j u hu => ?_⟩
    rw [List.map_nil, List.flatten_nil, List.getElem?_nil] at hu
    cases hu
  | cons x0 xr =>
    rw [← hxs]
    obtain ⟨ad, rfl, hj⟩ := hr (by rw [hxs]; simp)
    have hj' : ∀ j, ∃ cl : List Value, ∀ p, xs[j]? = some p → cl.length = d.sz ∧ Kd.FK d w ok p cl ∧ ∀ i u, cl[i]? = some u → w.cell? (ad.add (j * d.sz + i)) = some u := fun j => by
      cases hx : xs[j]? with
      | none => exact ⟨[], fun p hp => by cases hp⟩
      | some q =>
        obtain ⟨c, h1, h2, h3⟩ := hj j q hx
        exact ⟨c, fun p hp => by obtain rfl := Option.some.inj hp; exact ⟨h1, h2, h3⟩⟩
    obtain ⟨cl, hcl⟩ : ∃ cl : Nat → List Value, ∀ j p, xs[j]? = some p → (cl j).length = d.sz ∧ Kd.FK d w ok p (cl j) ∧ ∀ i u, (cl j)[i]? = some u → w.cell? (ad.add (j * d.sz + i)) = some u := ⟨fun j => Classical.choose (hj' j), fun j => Classical.choose_spec (hj' j)⟩
    have hget : ∀ j, (xs.zipIdx.map fun q => (q.1, cl q.2))[j]? = (xs[j]?).map fun p => (p, cl j) := fun j => by
      rw [List.getElem?_map, List.getElem?_zipIdx]
      cases xs[j]? <;> simp
    refine ⟨xs.zipIdx.map fun q => (q.1, cl q.2), ?_, by simp, fun z hz => ?_, fun _ => ⟨ad, rfl⟩, fun ad' he j u hu => ?_⟩
    · apply List.ext_getElem?
      intro j
      rw [List.getElem?_map, hget]
      cases xs[j]? <;> rfl
    · obtain ⟨j, hj⟩ := List.getElem?_of_mem hz
      rw [hget] at hj
      cases hx : xs[j]? with
      | none => rw [hx] at hj; cases hj
      | some p =>
        rw [hx] at hj
        obtain rfl := Option.some.inj hj
        exact ⟨(hcl j p hx).1, (hcl j p hx).2.1⟩
    · obtain rfl := Option.some.inj he
      have hlen : ∀ r ∈ (xs.zipIdx.map fun q => (q.1, cl q.2)).map Prod.snd, r.length = d.sz := fun r hr => by
        obtain ⟨z, hz, rfl⟩ := List.mem_map.1 hr
        obtain ⟨j, hj⟩ := List.getElem?_of_mem hz
        rw [hget] at hj
        cases hx : xs[j]? with
        | none => rw [hx] at hj; cases hj
        | some p => rw [hx] at hj; obtain rfl := Option.some.inj hj; exact (hcl j p hx).1
      have hjl := (List.getElem?_eq_some_iff.1 hu).1
      rw [CopyK.flat_length d.sz _ hlen, List.length_map, List.length_map, List.length_zipIdx] at hjl
      have hs : 0 < d.sz := by rcases Nat.eq_zero_or_pos d.sz with q | q; · rw [q] at hjl; omega
                               · exact q
      have hq : j / d.sz < xs.length := (Nat.div_lt_iff_lt_mul hs).2 hjl
      have hdm : j / d.sz * d.sz + j % d.sz = j := by rw [Nat.mul_comm]; exact Nat.div_add_mod j d.sz
      have hx : xs[j / d.sz]? = some xs[j / d.sz] := List.getElem?_eq_getElem hq
      have hf := CopyK.flat_at d.sz _ hlen (j / d.sz) (j % d.sz) (cl (j / d.sz)) (by rw [List.getElem?_map, hget, hx]; rfl) (Nat.mod_lt _ hs)
      rw [hdm, hu] at hf
      have := (hcl _ _ hx).2.2 (j % d.sz) u hf.symm
      rwa [hdm] at this
/-- Pairs, as a row of the call's own. -/
theorem to_N {Z : List (α × List Value)} (ho : w.ownsRow base e d.sz v Z.length (Z.map Prod.snd).flatten) (hf : Prs d w (fun k => ok k ∧ some k ≠ v.ownBlock) Z) (hok : ∀ k, v.ownBlock = some k → ok k) : Kd.N d e w base ok v (Z.map Prod.fst) := by
  refine ⟨hok, Z.map Prod.snd, by rw [List.length_map, List.length_map], ⟨fun k hk => hk.symm, (Z.map Prod.snd).flatten, by rw [List.length_map]; exact ho, ?_⟩, fun j x c hx hc => ?_⟩
  · have hl : ∀ r ∈ Z.map Prod.snd, r.length = d.sz := hf.len
    refine ⟨by rw [CopyK.flat_length d.sz _ hl]; rfl, fun j p hj => ?_⟩
    have hpad : ∀ r : List Value, (if r.length = d.sz then r else List.replicate d.sz (.slice none 0 0)).length = d.sz := fun r => by
      split
      · assumption
      · simp
    have hp : ((Z.map Prod.snd).flatten.drop (j * d.sz)).take d.sz = p := by
      have := CopyK.rows_at d.sz (fun r : List Value => if r.length = d.sz then r else List.replicate d.sz (.slice none 0 0)) hpad (Z.map Prod.snd) j p hj
      have hm : (Z.map Prod.snd).map (fun r : List Value => if r.length = d.sz then r else List.replicate d.sz (.slice none 0 0)) = Z.map Prod.snd := by
        conv => rhs; rw [← List.map_id (Z.map Prod.snd)]
        exact List.map_congr_left (fun r hr => if_pos (hl r hr))
      rw [hm, if_pos (hl p (List.mem_of_getElem? hj))] at this
      exact this
    obtain ⟨z, hz, rfl⟩ := List.mem_map.1 (List.mem_of_getElem? hj)
    exact ⟨hp, by rw [show ((Z.map Prod.snd).flatten.drop (j * (Kd.raw d.sz).sz)).take (Kd.raw d.sz).sz = z.2 from hp]; exact (hf z hz).1, by rw [show ((Z.map Prod.snd).flatten.drop (j * (Kd.raw d.sz).sz)).take (Kd.raw d.sz).sz = z.2 from hp]; exact d.K_one (Kd.FK_now (hf z hz).2)⟩
  · rw [List.getElem?_map] at hx hc
    cases hz : Z[j]? with
    | none => rw [hz] at hx; cases hx
    | some z =>
      rw [hz] at hx hc
      obtain rfl := Option.some.inj hx
      obtain rfl := Option.some.inj hc
      exact (hf z (List.mem_of_getElem? hz)).2
/-- A row of the call's own, as pairs. -/
theorem of_N (h : Kd.N d e w base ok v xs) : ∃ Z : List (α × List Value), Z.map Prod.fst = xs ∧ Prs d w (fun k => ok k ∧ some k ≠ v.ownBlock) Z ∧ w.ownsRow base e d.sz v Z.length (Z.map Prod.snd).flatten := by
  obtain ⟨_, rows, hl, ⟨_, inner, ho, hr1, hr2⟩, hf⟩ := h
  have hsn : (xs.zip rows).map Prod.snd = rows := List.map_snd_zip (by omega)
  have hlr : ∀ r ∈ rows, r.length = d.sz := fun r hm => by
    obtain ⟨j, hj⟩ := List.getElem?_of_mem hm
    obtain ⟨e1, e2, _⟩ := hr2 j r hj
    rw [← e1]
    exact e2
  have hin : inner = rows.flatten := by
    have hpad : ∀ r : List Value, (if r.length = d.sz then r else List.replicate d.sz (.slice none 0 0)).length = d.sz := fun r => by
      split
      · assumption
      · simp
    have := CopyK.rows_eq d.sz (fun r : List Value => if r.length = d.sz then r else List.replicate d.sz (.slice none 0 0)) hpad rows inner hr1 (fun j p hj => by
      rw [if_pos (hlr p (List.mem_of_getElem? hj))]
      exact (hr2 j p hj).1)
    rw [this]
    congr 1
    conv => rhs; rw [← List.map_id rows]
    exact List.map_congr_left (fun r hm => if_pos (hlr r hm))
  refine ⟨xs.zip rows, List.map_fst_zip (by omega), fun z hz => ?_, ?_⟩
  · obtain ⟨j, hj⟩ := List.getElem?_of_mem hz
    obtain ⟨hx, hc⟩ := List.getElem?_zip_eq_some.1 hj
    exact ⟨hlr _ (List.mem_of_getElem? hc), hf j _ _ hx hc⟩
  · rw [hsn, ← hin, List.length_zip, hl, Nat.min_self, ← hl]
    exact ho
/-- A filter by the cells is one by the elements. -/
theorem filter_map {Z : List (α × List Value)} (p : List Value → Bool) (q : α → Bool) (h : ∀ z ∈ Z, p z.2 = q z.1) : ((Z.map Prod.snd).filter fun x => !p x) = (Z.filter fun z => !q z.1).map Prod.snd ∧ (Z.filter fun z => !q z.1).map Prod.fst = (Z.map Prod.fst).filter fun x => !q x := by
  induction Z with
  | nil => exact ⟨rfl, rfl⟩
  | cons z Z ih =>
    obtain ⟨i1, i2⟩ := ih (fun y hy => h y (List.mem_cons_of_mem _ hy))
    have hz := h z (List.mem_cons_self ..)
    rw [List.map_cons, List.filter_cons, List.filter_cons, List.map_cons, List.filter_cons, hz, i1]
    cases q z.1
    · simp only [Bool.not_false, if_true, List.map_cons, i2]
      exact ⟨trivial, trivial⟩
    · simp only [Bool.not_true, Bool.false_eq_true, if_false]
      exact ⟨trivial, i2⟩
/-- The first place by the cells is the first by the elements. -/
theorem idx_map {Z : List (α × List Value)} (p : List Value → Bool) (q : α → Bool) (h : ∀ z ∈ Z, p z.2 = q z.1) : ∀ i : Int, CopyK.idxC p (Z.map Prod.snd) i = if (Z.map Prod.fst).findIdx q < Z.length then i + ((Z.map Prod.fst).findIdx q : Nat) else -1 := by
  induction Z with
  | nil => intro i; rfl
  | cons z Z ih =>
    intro i
    have hz := h z (List.mem_cons_self ..)
    rw [List.map_cons, CopyK.idxC, List.map_cons, List.findIdx_cons, hz]
    cases q z.1
    · simp only [Bool.false_eq_true, if_false, cond_false]
      rw [ih (fun y hy => h y (List.mem_cons_of_mem _ hy)) (i + 1), List.length_cons]
      by_cases c : (Z.map Prod.fst).findIdx q < Z.length
      · rw [if_pos c, if_pos (by omega)]; omega
      · rw [if_neg c, if_neg (by omega)]
    · simp
theorem idx_none {Z : List (α × List Value)} (q : α → Bool) (h : ¬ (Z.map Prod.fst).findIdx q < Z.length) : (Z.map Prod.fst).findIdx q = Z.length := by
  have := List.findIdx_le_length (xs := Z.map Prod.fst) (p := q)
  rw [List.length_map] at this
  omega
/-- An element's cells laid at a place. -/
theorem put_at {sz : Nat} {Z : List (α × List Value)} (hl : ∀ r ∈ Z.map Prod.snd, r.length = sz) (i : Nat) (hi : i ≤ Z.length) (x : α) (cs : List Value) : (Z.map Prod.snd).flatten.take (i * sz) ++ cs ++ (Z.map Prod.snd).flatten.drop (i * sz) = ((Z.take i ++ (x, cs) :: Z.drop i).map Prod.snd).flatten := by
  have h1 : ((Z.take i).map Prod.snd).flatten.length = i * sz := by
    rw [CopyK.flat_length sz _ (fun r hr => hl r (by rw [List.map_take] at hr; exact List.mem_of_mem_take hr)), List.length_map, List.length_take, Nat.min_eq_left hi]
  have h2 : (Z.map Prod.snd).flatten = ((Z.take i).map Prod.snd).flatten ++ ((Z.drop i).map Prod.snd).flatten := by
    rw [← List.flatten_append, ← List.map_append, List.take_append_drop]
  rw [h2, List.take_left' h1, List.drop_left' h1, List.map_append, List.map_cons, List.flatten_append, List.flatten_cons, List.append_assoc]
end
end Go.Proofs.Ytnjnogkhbadioaa.RowN
