/- Plain laws on rows whose elements have several cells: copy between two of them, and what an insertion leaves of a row of one's own; no condition but the rows' shapes. -/
import Derived.Test.YtahopljippfadaaWMore
import Derived.Laws.IdiomCopy
import Derived.Laws.Externs
import Derived.Lib.Overlaps
import Derived.Lib.AppendZeros
import Derived.Lib.AppendZerosOnto
namespace Go.Proofs.Ytahopljippfadaa.CopyK
set_option linter.unusedSimpArgs false
set_option linter.unusedVariables false
open Go.RowKit Go.Proofs.YtahopljippfadaaW.PrintWords
section
variable {P : Program}
theorem run_copyK (w : World) (dT sT ty elem : TypeId) (sz : Nat) (b o dLen dCap : Nat) (a : Addr) (sLen sCap : Nat) (cs : List Value)
    (hu : P.underlying dT = some (.slice elem)) (hs : (P.info? elem).map (·.size) = some sz) (hn : cs.length = Nat.min sLen dLen * sz)
    (hsrc : ∀ j v, cs[j]? = some v → w.cell? (a.add j) = some v) (hc : ∀ j, j < cs.length → (w.cell? ⟨b, o + j, none⟩).isSome = true) (hf : ∀ j, j < cs.length → w.frozen? ⟨b, o + j, none⟩ = false) (h1 : ∀ v ∈ cs, v.oneCell' = true) :
    (Builtin.copy_ #[dT, sT] ty #[.slice (some ⟨b, o, none⟩) dLen dCap, .slice (some a) sLen sCap]).run P w = .ok (goInt (Nat.min sLen dLen)) (w.setCells b o cs) := by
  have hl := run_loadCells_list (P := P) w a cs hsrc
  have hst := run_storeCells_cells (P := P) b o cs 0 w (by simpa using hc) (by simpa using hf) h1
  cases hq : P.info? elem with
  | none => simp [hq] at hs
  | some i =>
    have hi : i.size = sz := by simpa [hq] using hs
    simp [Builtin.copy_, run_underlying hu, Builtin.lenOf, Builtin.firstCells, sizeOf, typeInfo, hq, hi, ← hn, hl, hst]
/-- The operation 'copy(d, s)' where its run is known. -/
theorem wp_copy_run_ (w : World) {o : Oper} {a : Act} {K : Act → World → Prop} {Q : Exit → Act → World → Prop} (d s : Operand) (t t' : TypeId)
    (ho : o.op = .call { callee := .builtin .copy, args := #[d, s], argTypes := #[t, t'] }) (v u : Value) (hd : a.eval d = v) (hs : a.eval s = u) {v' : Value} {w' : World}
    (hr : (Builtin.copy_ #[t, t'] o.type #[v, u]).run P w = .ok v' w') (h : K (a.put o.dst v') w') : o.wp P a w K Q := by
  unfold Oper.wp execOp
  simp only [ho, resolve, invoke, builtin, Sem.run_bind, Sem.run_pure, Result.andThen_ok, List.map_toArray, List.map_cons, List.map_nil, hd, hs, hr]
  exact h
theorem wpList_copy_run_ (w : World) {ops : Array Oper} {rest : List Oper} {o : Oper} {a : Act} {Q : Exit → Act → World → Prop} (hgd : o.guard = none) (d s : Operand) (t t' : TypeId)
    (ho : o.op = .call { callee := .builtin .copy, args := #[d, s], argTypes := #[t, t'] }) (v u : Value) (hd : a.eval d = v) (hs : a.eval s = u) {v' : Value} {w' : World}
    (hr : (Builtin.copy_ #[t, t'] o.type #[v, u]).run P w = .ok v' w') (h : wpList P ops Q rest (a.put o.dst v') w') : wpList P ops Q (o :: rest) a w :=
  wpList_plain hgd fun _ hK => wp_copy_run_ w d s t t' ho v u hd hs hr (hK _ _ h)
theorem step_copy_run_ {ops : Array Oper} {o : Oper} {a : Act} {w : World} {K : Act → World → Prop} {Q : Exit → Act → World → Prop} {E : Prop}
    (hg : o.guard = none) (d x : Operand) (dT sT : TypeId) (hop : o.op = Op.call { callee := Callee.builtin Builtin.copy, args := #[d, x], argTypes := #[dT, sT] })
    (v u : Value) (hd : a.eval d = v) (hx : a.eval x = u) {v' : Value} {w' : World} (hr : (Builtin.copy_ #[dT, sT] o.type #[v, u]).run P w = .ok v' w') (hK : K (a.put o.dst v') w') :
    if Region.wanted o (yielded ops a.tmps) = true then Oper.wp P o a w K Q else E := by
  have hw : Region.wanted o (yielded ops a.tmps) = true := by simp [Region.wanted, hg]
  rw [if_pos hw]
  unfold Oper.wp
  simp [execOp, hop, resolve, invoke, builtin, hd, hx, hr, Result.andThen]
  exact hK
end
theorem mid_list (l cs : List Value) (a b : Nat) (hb : b ≤ l.length) (hc : a + cs.length = b) : (l.take b ++ l.drop a).take a ++ cs ++ (l.take b ++ l.drop a).drop (a + cs.length) = l.take a ++ cs ++ l.drop a := by
  have hT : (l.take b).length = b := by rw [List.length_take]; omega
  have e1 : (l.take b).drop b = [] := List.drop_eq_nil_of_le (by omega)
  rw [List.take_append, List.drop_append, hT, List.take_take, Nat.min_eq_left (by omega), show a - b = 0 by omega, hc, Nat.sub_self, List.take_zero, List.append_nil, List.drop_zero, e1, List.nil_append]
theorem grow_list (l cs z : List Value) (a : Nat) (ha : a ≤ l.length) : ((l.take a ++ z).take a ++ cs ++ (l.take a ++ z).drop (a + cs.length)).take (a + cs.length) ++ l.drop a = l.take a ++ cs ++ l.drop a := by
  have hT : (l.take a).length = a := by rw [List.length_take]; omega
  have e0 : (l.take a ++ z).take a = l.take a := List.take_left' hT
  rw [e0, List.take_left' (by rw [List.length_append, hT])]
/-- A row of one's own, its block named. -/
def Blk (w : World) (e : TypeId) (sz g n cap : Nat) (inner : List Value) : Prop := inner.length = n * sz ∧ n ≤ cap ∧ cap ≤ maxLen ∧ ∃ cur : Array Value, w.heap[g]? = some (.cells cur e (0, 0)) ∧ cur.size = cap * sz ∧ cur.toList.take (n * sz) = inner
section
variable {w : World} {e : TypeId} {sz g n cap : Nat} {inner : List Value}
theorem Blk.own (h : Blk w e sz g n cap inner) {base : Nat} (hb : base ≤ g) : w.ownsRow base e sz (.slice (some ⟨g, 0, none⟩) n cap) n inner := by
  obtain ⟨h1, h2, h3, cur, h4, h5, h6⟩ := h
  exact ⟨h1, .inr ⟨g, cap, cur, rfl, hb, h4, h2, h3, h5, h6⟩⟩
theorem Blk.of {base : Nat} {v : Value} (h : w.ownsRow base e sz v n inner) : (v = .slice none 0 0 ∧ n = 0 ∧ inner = []) ∨ ∃ g cap, v = .slice (some ⟨g, 0, none⟩) n cap ∧ base ≤ g ∧ Blk w e sz g n cap inner := by
  obtain ⟨h1, h2⟩ := h
  rcases h2 with ⟨rfl, rfl⟩ | ⟨g, cap, cur, rfl, hb, hh, a, b, c, d⟩
  · exact .inl ⟨rfl, rfl, List.eq_nil_of_length_eq_zero (by omega)⟩
  · exact .inr ⟨g, cap, rfl, hb, h1, a, b, cur, hh, c, d⟩
theorem Blk.cell (h : Blk w e sz g n cap inner) (j : Nat) (u : Value) (hj : inner[j]? = some u) : w.cell? ⟨g, j, none⟩ = some u := by
  obtain ⟨h1, h2, h3, cur, h4, h5, h6⟩ := h
  rw [blk_cell h4 j]
  rw [← h6, List.getElem?_take] at hj
  split at hj
  · rw [← Array.getElem?_toList]; exact hj
  · cases hj
theorem Blk.there (h : Blk w e sz g n cap inner) (j : Nat) (hj : j < cap * sz) : (w.cell? ⟨g, j, none⟩).isSome = true := by
  obtain ⟨h1, h2, h3, cur, h4, h5, h6⟩ := h
  rw [blk_cell h4 j, Array.getElem?_eq_getElem (by omega)]
  rfl
theorem Blk.free (h : Blk w e sz g n cap inner) (j : Nat) : w.frozen? ⟨g, j, none⟩ = false := by
  obtain ⟨h1, h2, h3, cur, h4, h5, h6⟩ := h
  exact blk_frozen h4 j
theorem Blk.lt (h : Blk w e sz g n cap inner) : g < w.heap.size := by
  obtain ⟨h1, h2, h3, cur, h4, h5, h6⟩ := h
  exact (Array.getElem?_eq_some_iff.1 h4).1
theorem Blk.shape (h : Blk w e sz g n cap inner) : w.shape? g = some (e, cap * sz) := by
  obtain ⟨h1, h2, h3, cur, h4, h5, h6⟩ := h
  simp [World.shape?, h4, h5]
/-- A run of cells written from o on. -/
theorem Blk.put (h : Blk w e sz g n cap inner) (o m : Nat) (vs : List Value) (hn : n ≤ m) (hm : m ≤ cap) (ho : o ≤ n * sz) (hv : o + vs.length = m * sz) : Blk (w.setCells g o vs) e sz g m cap (inner.take o ++ vs) := by
  obtain ⟨h1, h2, h3, cur, h4, h5, h6⟩ := h
  have hmc : m * sz ≤ cap * sz := Nat.mul_le_mul_right _ hm
  obtain ⟨cur', a, b, c⟩ := setCells_row vs o w cur h4 (by omega)
  refine ⟨?_, hm, h3, cur', a, by omega, ?_⟩
  · rw [List.length_append, List.length_take]; omega
  · have hl : cur.toList.length = cap * sz := by simpa using h5
    rw [c, ← h6, List.take_take, Nat.min_eq_left ho]
    have hlen : (cur.toList.take o ++ vs).length = m * sz := by rw [List.length_append, List.length_take]; omega
    rw [← hlen, List.take_left']
    rfl
/-- A run of cells written within. -/
theorem Blk.mid (h : Blk w e sz g n cap inner) (o : Nat) (vs : List Value) (hv : o + vs.length ≤ n * sz) : Blk (w.setCells g o vs) e sz g n cap (inner.take o ++ vs ++ inner.drop (o + vs.length)) := by
  obtain ⟨h1, h2, h3, cur, h4, h5, h6⟩ := h
  have hmc : n * sz ≤ cap * sz := Nat.mul_le_mul_right _ h2
  obtain ⟨cur', a, b, c⟩ := setCells_row vs o w cur h4 (by omega)
  have hl : cur.toList.length = cap * sz := by simpa using h5
  refine ⟨?_, h2, h3, cur', a, by omega, ?_⟩
  · rw [List.length_append, List.length_append, List.length_take, List.length_drop]; omega
  · have ho : o ≤ n * sz := by omega
    have hA : (cur.toList.take o).length = o := by rw [List.length_take]; omega
    have e1 : (cur.toList.take o).take (n * sz) = cur.toList.take o := List.take_of_length_le (by omega)
    have e2 : vs.take (n * sz - o) = vs := List.take_of_length_le (by omega)
    rw [c, ← h6, List.take_take, Nat.min_eq_left ho, List.take_append, List.take_append, List.drop_take, hA, List.length_append, hA, e1, e2]
end
/-- Cells, element by element. -/
theorem flat_at (sz : Nat) : ∀ (rows : List (List Value)), (∀ r ∈ rows, r.length = sz) → ∀ (k j : Nat) (x : List Value), rows[k]? = some x → j < sz → rows.flatten[k * sz + j]? = x[j]?
  | [], _, k, j, x, h, _ => by simp at h
  | r :: rest, hr, 0, j, x, h, hj => by
    obtain rfl : r = x := by simpa using h
    have := hr r (by simp)
    rw [List.flatten_cons, Nat.zero_mul, Nat.zero_add, List.getElem?_append_left (by omega)]
  | r :: rest, hr, k + 1, j, x, h, hj => by
    have hl := hr r (by simp)
    rw [List.flatten_cons, List.getElem?_append_right (by rw [hl, Nat.add_mul]; omega), hl, show (k + 1) * sz + j - sz = k * sz + j by rw [Nat.add_mul]; omega]
    exact flat_at sz rest (fun q hq => hr q (by simp [hq])) k j x (by simpa using h) hj
theorem flat_length (sz : Nat) : ∀ (rows : List (List Value)), (∀ r ∈ rows, r.length = sz) → rows.flatten.length = rows.length * sz
  | [], _ => by simp
  | r :: rest, hr => by
    rw [List.flatten_cons, List.length_append, hr r (by simp), flat_length sz rest (fun q hq => hr q (by simp [hq])), List.length_cons, Nat.add_mul]
    omega
/-- The first place from i on at which p holds; -1: none. -/
def idxC (p : List Value → Bool) : List (List Value) → Int → Int
  | [], _ => -1
  | x :: r, i => if p x = true then i else idxC p r (i + 1)
theorem grown_none {w w' : World} (h : w.grownBy w' none) (k : Nat) (hk : k < w.heap.size) : w'.heap[k]? = w.heap[k]? := h.block k hk (by simp)
theorem grown_any {w w' : World} (h : w.grownBy w' none) (row : Option Nat) : w.grownBy w' row := ⟨h.os, h.tape, h.output, h.size, fun k hk _ => h.block k hk (by simp)⟩
theorem grown_drew (w : World) : w.grownBy w.drew none := ⟨rfl, rfl, rfl, Nat.le_refl _, fun _ _ _ => rfl⟩
theorem grown_drewN (w : World) (n : Nat) : w.grownBy (w.drewN n) none := ⟨rfl, rfl, rfl, Nat.le_refl _, fun _ _ _ => rfl⟩
theorem grown_refl (w : World) (r : Option Nat) : w.grownBy w r := ⟨rfl, rfl, rfl, Nat.le_refl _, fun _ _ _ => rfl⟩
theorem Blk.grown {w w' : World} {e : TypeId} {sz g n cap : Nat} {inner : List Value} (h : Blk w e sz g n cap inner) {row : Option Nat} (hg : w.grownBy w' row) (hne : some g ≠ row) : Blk w' e sz g n cap inner := by
  have hl := h.lt
  obtain ⟨h1, h2, h3, cur, h4, h5, h6⟩ := h
  exact ⟨h1, h2, h3, cur, (hg.block g hl hne).trans h4, h5, h6⟩
theorem below_of_grown {w w' : World} (h : w.grownBy w' none) : Below w.heap.size w w' := (Below.refl _ w).grown h (Nat.le_refl _) (fun j hj => by cases hj)
theorem grown_of_below {w w' : World} (h : Below w.heap.size w w') : w.grownBy w' none := ⟨h.os, h.tape, h.output, h.size, fun k hk _ => h.block k hk⟩
theorem idxC_spec (p : List Value → Bool) : ∀ (rows : List (List Value)) (i : Int), (idxC p rows i = -1 ∧ ∀ x ∈ rows, p x = false) ∨ ∃ (k : Nat) (hk : k < rows.length), idxC p rows i = i + k ∧ p rows[k] = true ∧ ∀ x ∈ rows.take k, p x = false
  | [], i => .inl ⟨rfl, fun x hx => by simp at hx⟩
  | x :: r, i => by
    by_cases h : p x = true
    · exact .inr ⟨0, by simp, by simp [idxC, h], h, fun y hy => by simp at hy⟩
    · rw [idxC, if_neg h]
      have hf : p x = false := Bool.eq_false_iff.2 h
      rcases idxC_spec p r (i + 1) with ⟨a, b⟩ | ⟨k, hk, a, b, c⟩
      · refine .inl ⟨a, fun y hy => ?_⟩
        rcases List.mem_cons.1 hy with rfl | hy
        · exact hf
        · exact b y hy
      · refine .inr ⟨k + 1, by simp; omega, by rw [a]; omega, by simpa using b, fun y hy => ?_⟩
        rw [List.take_succ_cons] at hy
        rcases List.mem_cons.1 hy with rfl | hy
        · exact hf
        · exact c y hy
theorem flat_set (sz : Nat) (x : List Value) (hx : x.length = sz) : ∀ (D : List (List Value)), (∀ r ∈ D, r.length = sz) → ∀ (i : Nat), i < D.length → (D.set i x).flatten = D.flatten.take (i * sz) ++ x ++ D.flatten.drop (i * sz + x.length)
  | [], _, i, hi => absurd hi (by simp)
  | r :: rest, hr, 0, _ => by
    have hl := hr r (by simp)
    rw [List.set_cons_zero, List.flatten_cons, List.flatten_cons, Nat.zero_mul, Nat.zero_add, List.take_zero, List.nil_append, hx, ← hl, List.drop_left']
    rfl
  | r :: rest, hr, i + 1, hi => by
    have hl := hr r (by simp)
    have e : (i + 1) * sz = r.length + i * sz := by rw [hl, Nat.add_mul]; omega
    have e1 : r.take (r.length + i * sz) = r := List.take_of_length_le (by omega)
    have e2 : r.drop (r.length + i * sz + x.length) = [] := List.drop_eq_nil_of_le (by omega)
    rw [List.set_cons_succ, List.flatten_cons, List.flatten_cons, flat_set sz x hx rest (fun q hq => hr q (by simp [hq])) i (by simpa using hi), e, List.take_append, e1, Nat.add_sub_cancel_left, List.drop_append, e2, List.nil_append, Nat.add_assoc, Nat.add_sub_cancel_left]
    simp only [List.append_assoc]
/-- What holds between two rounds: the first i of D are those of the first j that stay; from j on it is as it was. -/
def Del (p : List Value → Bool) (sz n : Nat) (rows D : List (List Value)) (i j : Nat) : Prop := D.length = n ∧ (∀ r ∈ D, r.length = sz) ∧ D.take i = (rows.take j).filter (fun x => !p x) ∧ D.drop j = rows.drop j ∧ i < j ∧ j ≤ n
theorem Del.start {p : List Value → Bool} {sz n k : Nat} {rows : List (List Value)} (hn : rows.length = n) (hr : ∀ r ∈ rows, r.length = sz) (hk : k < rows.length) (ht : p rows[k] = true) (hf : ∀ x ∈ rows.take k, p x = false) : Del p sz n rows rows k (k + 1) := by
  refine ⟨hn, hr, ?_, rfl, by omega, by omega⟩
  rw [List.take_succ_eq_append_getElem hk, List.filter_append, List.filter_eq_self.2 (fun x hx => by simp [hf x hx])]
  simp [ht]
theorem Del.at {p : List Value → Bool} {sz n i j : Nat} {rows D : List (List Value)} (h : Del p sz n rows D i j) (hn : rows.length = n) (hj : j < n) : ∃ x, rows[j]? = some x ∧ D[j]? = some x ∧ x ∈ rows ∧ x.length = sz := by
  obtain ⟨a, b, c, d, e, f⟩ := h
  have h1 : D[j]? = rows[j]? := by
    have z := congrArg List.head? d
    rwa [List.head?_drop, List.head?_drop] at z
  have hx : rows[j]? = some (rows[j]'(by omega)) := List.getElem?_eq_getElem (by omega)
  exact ⟨_, hx, h1.trans hx, List.getElem_mem _, b _ (List.mem_of_getElem? (h1.trans hx))⟩
theorem take_next {α : Type} {l : List α} {j : Nat} {x : α} (h : l[j]? = some x) : l.take (j + 1) = l.take j ++ [x] := by
  obtain ⟨hj, e⟩ := List.getElem?_eq_some_iff.1 h
  rw [List.take_succ_eq_append_getElem hj, e]
theorem Del.skip {p : List Value → Bool} {sz n i j : Nat} {rows D : List (List Value)} (h : Del p sz n rows D i j) {x : List Value} (hx : rows[j]? = some x) (hp : p x = true) (hj : j < n) : Del p sz n rows D i (j + 1) := by
  obtain ⟨a, b, c, d, e, f⟩ := h
  refine ⟨a, b, ?_, ?_, by omega, by omega⟩
  · rw [take_next hx, List.filter_append, c]
    simp [hp]
  · have z := congrArg (List.drop 1) d
    rwa [List.drop_drop, List.drop_drop] at z
theorem Del.keep {p : List Value → Bool} {sz n i j : Nat} {rows D : List (List Value)} (h : Del p sz n rows D i j) {x : List Value} (hx : rows[j]? = some x) (hl : x.length = sz) (hp : p x = false) (hj : j < n) : Del p sz n rows (D.set i x) (i + 1) (j + 1) := by
  obtain ⟨a, b, c, d, e, f⟩ := h
  have hi : i < D.length := by omega
  refine ⟨by rw [List.length_set, a], fun r hr => ?_, ?_, ?_, by omega, by omega⟩
  · rcases List.mem_or_eq_of_mem_set hr with hr | rfl
    · exact b r hr
    · exact hl
  · rw [take_next hx, List.filter_append, ← c, take_next (l := D.set i x) (j := i) (x := x) (by rw [List.getElem?_set_self hi]), List.take_set_of_le (Nat.le_refl i)]
    simp [hp]
  · rw [List.drop_set_of_lt (by omega)]
    have z := congrArg (List.drop 1) d
    rwa [List.drop_drop, List.drop_drop] at z
theorem Del.done {p : List Value → Bool} {sz n i : Nat} {rows D : List (List Value)} (h : Del p sz n rows D i n) (hn : rows.length = n) : i = (rows.filter fun x => !p x).length ∧ D.flatten.take (i * sz) = (rows.filter fun x => !p x).flatten := by
  obtain ⟨a, b, c, d, e, f⟩ := h
  rw [List.take_of_length_le (l := rows) (by omega)] at c
  have hi : (D.take i).length = i := by rw [List.length_take]; omega
  refine ⟨by rw [← c, hi], ?_⟩
  have hb : ∀ r ∈ D.take i, r.length = sz := fun r hr => b r (List.mem_of_mem_take hr)
  have hs : D.flatten = (D.take i).flatten ++ (D.drop i).flatten := by rw [← List.flatten_append, List.take_append_drop]
  rw [hs, ← c, List.take_left']
  rw [flat_length sz _ hb, hi]
/-- A row cut short. -/
theorem Blk.cut {w : World} {e : TypeId} {sz g n cap : Nat} {inner : List Value} (h : Blk w e sz g n cap inner) (m : Nat) (hm : m ≤ n) : Blk w e sz g m cap (inner.take (m * sz)) := by
  obtain ⟨h1, h2, h3, cur, h4, h5, h6⟩ := h
  have hmn : m * sz ≤ n * sz := Nat.mul_le_mul_right _ hm
  refine ⟨by rw [List.length_take]; omega, by omega, h3, cur, h4, h5, ?_⟩
  rw [← h6, List.take_take, Nat.min_eq_left hmn]
theorem grown_cell {w w' : World} (h : w.grownBy w' none) {a : Addr} {u : Value} (hc : w.cell? a = some u) : w'.cell? a = some u := h.cell hc (by simp)
theorem wrap_next (k : Nat) (h : k < 2513169434916) : wrap64 ((k : Int) + 1) = ((k + 1 : Nat) : Int) := by unfold wrap64; omega
theorem zero_one {z : Array Value} (hz : z.all (·.oneCell') = true) (h0 : 0 < z.size) (m : Nat) : ∀ u ∈ (Builtin.zeroCells z m).toList, u.oneCell' = true := by
  intro u hu
  simp only [Builtin.zeroCells, Array.toList_map, List.mem_map] at hu
  obtain ⟨k, _, rfl⟩ := hu
  have hk : k % z.size < z.size := Nat.mod_lt _ h0
  rw [getElem!_pos z _ hk]
  exact Array.all_eq_true.1 hz _ hk
theorem run_clearK {P : Program} (w : World) (t e ty : TypeId) (z : Value) (ht : P.underlying t = some (.slice e)) (hv : ∀ w, (zeroValue e).run P w = .ok z w) (h1 : z.cells.all (·.oneCell') = true) (h0 : 0 < z.cells.size) (b o n c : Nat) (hn : 0 < n)
    (hc : ∀ j, j < n * z.cells.size → (w.cell? ⟨b, o + j, none⟩).isSome = true) (hf : ∀ j, j < n * z.cells.size → w.frozen? ⟨b, o + j, none⟩ = false) :
    (Builtin.clear_ #[t] ty #[.slice (some ⟨b, o, none⟩) n c]).run P w = .ok (.tuple #[]) (w.setCells b o (Builtin.zeroCells z.cells n).toList) := by
  have hl : (Builtin.zeroCells z.cells n).toList.length = n * z.cells.size := by simp [Builtin.zeroCells]
  have hst := run_storeCells_cells (P := P) b o (Builtin.zeroCells z.cells n).toList 0 w (fun j hj => by simpa using hc j (by omega)) (fun j hj => by simpa using hf j (by omega)) (zero_one h1 h0 n)
  simp only [Nat.add_zero] at hst
  obtain ⟨m, rfl⟩ : ∃ m, n = m + 1 := ⟨n - 1, by omega⟩
  simp [Builtin.clear_, run_underlying ht, hv, hst]
end Go.Proofs.Ytahopljippfadaa.CopyK
