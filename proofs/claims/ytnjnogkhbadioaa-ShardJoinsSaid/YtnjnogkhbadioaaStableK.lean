/- Plain laws on the stable sort's parts (an exchange of two ranges, a rotation, a merge of two sorted parts, blocks): what they keep and that they sort; no condition but the places' bounds. -/
import Derived.Sort.LotA
import Derived.Shelf.SlSortCmp.KitK
namespace Go.Proofs.Ytnjnogkhbadioaa.StableK
set_option linter.unusedSimpArgs false
set_option linter.unusedVariables false
open Go.Sort
variable {α : Type}
theorem get_toList [Inhabited α] (d : Array α) (i : Nat) : d[i]! = d.toList[i]! := by
  simp [getElem!_def]
theorem swp_list [Inhabited α] (d : Array α) (S T U : List α) (x y : α) (i j : Nat) (h : d.toList = S ++ x :: (T ++ y :: U)) (hi : i = S.length) (hj : j = S.length + 1 + T.length) : (swp d i j).toList = S ++ y :: (T ++ x :: U) := by
  subst hi hj
  have hx : d[S.length]! = x := by rw [get_toList, h]; simp [getElem!_def]
  have hy : d[S.length + 1 + T.length]! = y := by
    rw [get_toList, h]
    simp only [getElem!_def]
    rw [List.getElem?_append_right (by omega), show S.length + 1 + T.length - S.length = T.length + 1 by omega, List.getElem?_cons_succ, List.getElem?_append_right (by omega)]
    simp
  unfold swp
  rw [Array.toList_setIfInBounds, Array.toList_setIfInBounds, h, hx, hy, List.set_append_right _ _ (by omega), Nat.sub_self, List.set_cons_zero, List.set_append_right _ _ (by omega), show S.length + 1 + T.length - S.length = T.length + 1 by omega, List.set_cons_succ, List.set_append_right _ _ (by omega), Nat.sub_self, List.set_cons_zero]
/-- Two ranges, i of n exchanged. -/
def Sw (P X M Y Q : List α) (i : Nat) : List α := P ++ (Y.take i ++ X.drop i) ++ M ++ (X.take i ++ Y.drop i) ++ Q
theorem Sw.step [Inhabited α] (P X M Y Q : List α) (i n a b : Nat) (dk : Array α) (h : dk.toList = Sw P X M Y Q i) (hX : X.length = n) (hY : Y.length = n) (hi : i < n) (ha : a = P.length) (hb : b = P.length + n + M.length) : (swp dk (a + i) (b + i)).toList = Sw P X M Y Q (i + 1) := by
  obtain ⟨x, hx⟩ : ∃ x, X.drop i = x :: X.drop (i + 1) := ⟨_, List.drop_eq_getElem_cons (by omega)⟩
  obtain ⟨y, hy⟩ : ∃ y, Y.drop i = y :: Y.drop (i + 1) := ⟨_, List.drop_eq_getElem_cons (by omega)⟩
  have hx' : X.take (i + 1) = X.take i ++ [x] := by
    rw [List.take_add, hx]; rfl
  have hy' : Y.take (i + 1) = Y.take i ++ [y] := by
    rw [List.take_add, hy]; rfl
  have lY : (Y.take i).length = i := by rw [List.length_take]; omega
  have lX : (X.take i).length = i := by rw [List.length_take]; omega
  have lD : (X.drop (i + 1)).length = n - (i + 1) := by rw [List.length_drop, hX]
  rw [swp_list dk (P ++ Y.take i) (X.drop (i + 1) ++ M ++ X.take i) (Y.drop (i + 1) ++ Q) x y (a + i) (b + i) (by rw [h]; unfold Sw; rw [hx, hy]; simp) (by rw [List.length_append, lY, ha]) (by simp only [List.length_append, lY, lX, lD]; omega)]
  unfold Sw
  rw [hx', hy']
  simp
section
variable (key : α → Int)
/-- Each key's elements stand in the same order. -/
def Sim (l r : List α) : Prop := ∀ v : Int, (l.filter fun x => key x == v) = (r.filter fun x => key x == v)
variable {key}
theorem Sim.refl (l : List α) : Sim key l l := fun _ => rfl
theorem Sim.trans {l r s : List α} (h : Sim key l r) (g : Sim key r s) : Sim key l s := fun v => (h v).trans (g v)
theorem Sim.symm {l r : List α} (h : Sim key l r) : Sim key r l := fun v => (h v).symm
theorem Sim.app {l l' r r' : List α} (h : Sim key l l') (g : Sim key r r') : Sim key (l ++ r) (l' ++ r') := fun v => by
  rw [List.filter_append, List.filter_append, h v, g v]
theorem Sim.mid {P A B Q : List α} (h : Sim key A B) : Sim key (P ++ (A ++ Q)) (P ++ (B ++ Q)) := (Sim.refl P).app (h.app (Sim.refl Q))
theorem Sim.cut {P A B Q : List α} (h : Sim key (P ++ (A ++ Q)) (P ++ (B ++ Q))) : Sim key A B := fun v => by
  have := h v
  rw [List.filter_append, List.filter_append, List.filter_append, List.filter_append] at this
  exact List.append_cancel_right (List.append_cancel_left this)
theorem Sim.mem {l r : List α} (h : Sim key l r) {x : α} (hx : x ∈ l) : x ∈ r := by
  have : x ∈ l.filter fun y => key y == key x := List.mem_filter.2 ⟨hx, by simp⟩
  rw [h (key x)] at this
  exact (List.mem_filter.1 this).1
theorem Sim.swap {A B : List α} (h : ∀ x ∈ A, ∀ y ∈ B, key y < key x) : Sim key (A ++ B) (B ++ A) := fun v => by
  rw [List.filter_append, List.filter_append]
  by_cases ha : ∃ x ∈ A, key x = v
  · obtain ⟨x, hx, rfl⟩ := ha
    have : (B.filter fun y => key y == key x) = [] := List.filter_eq_nil_iff.2 (fun y hy => by
      have := h x hx y hy
      simp only [beq_iff_eq]
      omega)
    rw [this, List.append_nil, List.nil_append]
  · have : (A.filter fun y => key y == v) = [] := List.filter_eq_nil_iff.2 (fun y hy => by
      simp only [beq_iff_eq]
      exact fun e => ha ⟨y, hy, e⟩)
    rw [this, List.append_nil, List.nil_append]
/-- Two rows with each key's elements in the same order, both rising, are one. -/
theorem Sim.eq : ∀ {l r : List α}, Sim key l r → l.Pairwise (fun x y => key x ≤ key y) → r.Pairwise (fun x y => key x ≤ key y) → l = r
  | [], r, h, _, _ => by
    cases r with
    | nil => rfl
    | cons y s => exact absurd (h.symm.mem (List.mem_cons_self ..)) (by simp)
  | x :: l, [], h, _, _ => absurd (h.mem (List.mem_cons_self ..)) (by simp)
  | x :: l, y :: r, h, hl, hr => by
    have h1 : key x ≤ key y := by
      rcases List.mem_cons.1 (h.symm.mem (List.mem_cons_self (a := y) (l := r))) with e | e
      · rw [e]; exact Int.le_refl _
      · exact (List.pairwise_cons.1 hl).1 y e
    have h2 : key y ≤ key x := by
      rcases List.mem_cons.1 (h.mem (List.mem_cons_self (a := x) (l := l))) with e | e
      · rw [e]; exact Int.le_refl _
      · exact (List.pairwise_cons.1 hr).1 x e
    have hk : key x = key y := Int.le_antisymm h1 h2
    have hv := h (key x)
    rw [List.filter_cons_of_pos (by simp), List.filter_cons_of_pos (by simp [hk])] at hv
    obtain ⟨rfl, ht⟩ := List.cons.inj hv
    have hs : Sim key l r := fun v => by
      by_cases e : key x = v
      · subst e; exact ht
      · have := h v
        rwa [List.filter_cons_of_neg (by simpa using e), List.filter_cons_of_neg (by simpa using e)] at this
    rw [hs.eq (List.pairwise_cons.1 hl).2 (List.pairwise_cons.1 hr).2]
end
section
variable (key : α → Int)
/-- The row's part from a to b is another, each key's elements in the same order; all else is as it was. -/
def Step (a b : Nat) (d d' : Array α) : Prop := d'.size = d.size ∧ ∃ P C C' Q, d.toList = P ++ (C ++ Q) ∧ d'.toList = P ++ (C' ++ Q) ∧ P.length = a ∧ a + C.length = b ∧ C'.length = C.length ∧ Sim key C C'
/-- The part from a to b rises. -/
def Srt [Inhabited α] (a b : Nat) (d : Array α) : Prop := ∀ i j, a ≤ i → i < j → j < b → key d[i]! ≤ key d[j]!
variable {key}
theorem cut3 (d : Array α) (a b : Nat) (hab : a ≤ b) (hb : b ≤ d.size) : ∃ P C Q, d.toList = P ++ (C ++ Q) ∧ P.length = a ∧ a + C.length = b := by
  refine ⟨d.toList.take a, (d.toList.drop a).take (b - a), d.toList.drop b, ?_, by rw [List.length_take, Array.length_toList]; omega, by rw [List.length_take, List.length_drop, Array.length_toList]; omega⟩
  have : d.toList.drop b = (d.toList.drop a).drop (b - a) := by rw [List.drop_drop]; congr 1; omega
  rw [this, List.take_append_drop, List.take_append_drop]
theorem Step.refl [Inhabited α] (a b : Nat) (d : Array α) (hab : a ≤ b) (hb : b ≤ d.size) : Step key a b d d := by
  obtain ⟨P, C, Q, h, h1, h2⟩ := cut3 d a b hab hb
  exact ⟨rfl, P, C, C, Q, h, h, h1, h2, rfl, Sim.refl _⟩
theorem Step.trans {a b : Nat} {d d' d'' : Array α} (h : Step key a b d d') (g : Step key a b d' d'') : Step key a b d d'' := by
  obtain ⟨h0, P, C, C', Q, h1, h2, h3, h4, h5, h6⟩ := h
  obtain ⟨g0, P2, D, D', Q2, g1, g2, g3, g4, g5, g6⟩ := g
  obtain ⟨rfl, e⟩ := List.append_inj (h2.symm.trans g1) (by omega)
  obtain ⟨rfl, rfl⟩ := List.append_inj e (by omega)
  exact ⟨by omega, P, C, D', Q, h1, g2, h3, h4, by omega, h6.trans g6⟩
theorem Step.mono {a b a' b' : Nat} {d d' : Array α} (h : Step key a b d d') (ha : a' ≤ a) (hb : b ≤ b') (hb' : b' ≤ d.size) : Step key a' b' d d' := by
  obtain ⟨h0, P, C, C', Q, h1, h2, h3, h4, h5, h6⟩ := h
  have hl := congrArg List.length h1
  simp only [List.length_append, Array.length_toList] at hl
  refine ⟨h0, P.take a', P.drop a' ++ (C ++ Q.take (b' - b)), P.drop a' ++ (C' ++ Q.take (b' - b)), Q.drop (b' - b), ?_, ?_, by rw [List.length_take]; omega, ?_, ?_, Sim.mid h6⟩
  · rw [h1]
    conv => lhs; rw [← List.take_append_drop a' P, ← List.take_append_drop (b' - b) Q]
    simp only [List.append_assoc]
  · rw [h2]
    conv => lhs; rw [← List.take_append_drop a' P, ← List.take_append_drop (b' - b) Q]
    simp only [List.append_assoc]
  · simp only [List.length_append, List.length_take, List.length_drop]; omega
  · simp only [List.length_append, List.length_take, List.length_drop]; omega
theorem Step.out [Inhabited α] {a b : Nat} {d d' : Array α} (h : Step key a b d d') (i : Nat) (hi : i < a ∨ b ≤ i) : d'[i]! = d[i]! := by
  obtain ⟨h0, P, C, C', Q, h1, h2, h3, h4, h5, h6⟩ := h
  rw [get_toList, get_toList, h1, h2]
  simp only [getElem!_def]
  rcases hi with hi | hi
  · rw [List.getElem?_append_left (by omega), List.getElem?_append_left (by omega)]
  · rw [List.getElem?_append_right (by omega), List.getElem?_append_right (by omega), List.getElem?_append_right (by omega), List.getElem?_append_right (by omega), h5]
theorem Step.all [Inhabited α] {a b : Nat} {d d' : Array α} (h : Step key a b d d') (p : α → Prop) (hp : ∀ i, a ≤ i → i < b → p d[i]!) (i : Nat) (h1 : a ≤ i) (h2 : i < b) : p d'[i]! := by
  obtain ⟨h0, P, C, C', Q, e1, e2, h3, h4, h5, h6⟩ := h
  have hm : d'[i]! ∈ C' := by
    rw [get_toList, e2]
    simp only [getElem!_def]
    rw [List.getElem?_append_right (by omega), List.getElem?_append_left (by omega), List.getElem?_eq_getElem (by omega)]
    exact List.getElem_mem ..
  obtain ⟨k, hk, e⟩ := List.getElem_of_mem (h6.symm.mem hm)
  have := hp (a + k) (by omega) (by omega)
  rw [get_toList, e1] at this
  simp only [getElem!_def] at this
  rw [List.getElem?_append_right (by omega), List.getElem?_append_left (by omega), List.getElem?_eq_getElem (by omega)] at this
  rw [← e]
  simpa [show a + k - P.length = k by omega] using this
theorem Step.sim {a b : Nat} {d d' : Array α} (h : Step key a b d d') : Sim key d.toList d'.toList := by
  obtain ⟨h0, P, C, C', Q, e1, e2, h3, h4, h5, h6⟩ := h
  rw [e1, e2]
  exact Sim.mid h6
/-- Two neighbours that do not rise, exchanged. -/
theorem Step.nb [Inhabited α] (d : Array α) (j : Nat) (hj : j + 1 < d.size) (h : key d[j + 1]! < key d[j]!) : Step key j (j + 2) d (swp d j (j + 1)) ∧ Step key j (j + 2) d (swp d (j + 1) j) := by
  obtain ⟨P, C, Q, e, h1, h2⟩ := cut3 d j (j + 2) (by omega) (by omega)
  match C, h2 with
  | [x, y], _ =>
    have ex : d[j]! = x := by rw [get_toList, e]; simp [getElem!_def, ← h1]
    have ey : d[j + 1]! = y := by
      rw [get_toList, e]; simp only [getElem!_def]
      rw [List.getElem?_append_right (by omega), show j + 1 - P.length = 1 by omega]
      rfl
    have e1 := swp_list d P [] Q x y j (j + 1) (by rw [e]; rfl) h1.symm (by rw [h1]; rfl)
    have hc : swp d (j + 1) j = swp d j (j + 1) := by
      refine Array.ext (by rw [swp_size, swp_size]) fun t t1 t2 => ?_
      have g1 := swp_get d (i := j + 1) (j := j) hj (by omega) t
      have g2 := swp_get d (i := j) (j := j + 1) (by omega) hj t
      rw [getElem!_pos _ t t1] at g1
      rw [getElem!_pos _ t t2] at g2
      rw [g1, g2]
      by_cases q : t = j
      · subst q; simp
      · simp [q]
    have hs : Step key j (j + 2) d (swp d j (j + 1)) := ⟨swp_size .., P, [x, y], [y, x], Q, e, by rw [e1]; rfl, h1, rfl, rfl, Sim.swap (A := [x]) (B := [y]) (by
      intro a ha b hb
      rw [List.mem_singleton] at ha hb
      subst ha hb
      rw [← ex, ← ey]; exact h)⟩
    exact ⟨hs, by rw [hc]; exact hs⟩
end
section
variable {key : α → Int} {lt : α → α → Bool}
theorem insInner_step [Inhabited α] (hl : ∀ x y, lt x y = decide (key x < key y)) (a b : Nat) : ∀ (j : Nat) (d : Array α), a ≤ j → j < b → b ≤ d.size → Step key a b d (insInner lt a j d)
  | 0, d, h1, h2, h3 => by rw [insInner]; exact Step.refl a b d (by omega) h3
  | j + 1, d, h1, h2, h3 => by
    rw [insInner]
    split
    · rename_i hc
      rw [Bool.and_eq_true, decide_eq_true_eq, hl, decide_eq_true_eq] at hc
      have s := ((Step.nb d j (by omega) hc.2).2).mono (a' := a) (b' := b) (by omega) (by omega) h3
      exact s.trans (insInner_step hl a b j (swp d (j + 1) j) (by omega) (by omega) (by rw [swp_size]; exact h3))
    · exact Step.refl a b d (by omega) h3
theorem insOuter_step [Inhabited α] (hl : ∀ x y, lt x y = decide (key x < key y)) (a b : Nat) : ∀ (n i : Nat) (d : Array α), b - i = n → a < i → b ≤ d.size → a ≤ b → Step key a b d (insOuter lt a b i d)
  | 0, i, d, hn, _, h, hab => by rw [insOuter, if_neg (by omega)]; exact Step.refl a b d hab h
  | n + 1, i, d, hn, hi, h, hab => by
    rw [insOuter, if_pos (by omega)]
    have s := insInner_step hl a b i d (by omega) (by omega) h
    exact s.trans (insOuter_step hl a b n (i + 1) (insInner lt a i d) (by omega) (by omega) (by rw [s.1]; exact h) hab)
theorem swo_key [Inhabited α] (hl : ∀ x y, lt x y = decide (key x < key y)) : SWO lt := by
  refine ⟨fun x => ?_, fun x y z h g => ?_, fun x y z h g => ?_⟩
  · rw [hl]; exact decide_eq_false (by omega)
  · rw [hl, decide_eq_true_eq] at *; omega
  · rw [hl, decide_eq_false_iff_not] at *; omega
theorem ins_all [Inhabited α] (hl : ∀ x y, lt x y = decide (key x < key y)) (d : Array α) (a b : Nat) (hab : a ≤ b) (hb : b ≤ d.size) : Step key a b d (insertionSort lt d a b) ∧ Srt key a b (insertionSort lt d a b) := by
  refine ⟨insOuter_step hl a b _ (a + 1) d rfl (by omega) hb hab, fun i j h1 h2 h3 => ?_⟩
  have := (insertionSort_holds (swo_key hl) d a b hab hb).2 i j h1 h2 h3
  rw [hl, decide_eq_false_iff_not] at this
  omega
/-- The element at a is moved up to k. -/
def Up [Inhabited α] (key : α → Int) (d dk : Array α) (a k : Nat) : Prop := a ≤ k ∧ (∀ h, h < a ∨ k < h → dk[h]! = d[h]!) ∧ (∀ h, a ≤ h → h < k → dk[h]! = d[h + 1]!) ∧ dk[k]! = d[a]! ∧ Step key a (k + 1) d dk
theorem Up.start [Inhabited α] (d : Array α) (a : Nat) (h : a < d.size) : Up key d d a a := ⟨Nat.le_refl _, fun _ _ => rfl, fun h h1 h2 => by omega, rfl, Step.refl _ _ _ (by omega) h⟩
theorem Up.step [Inhabited α] {d dk : Array α} {a k : Nat} (u : Up key d dk a k) (hk : k + 1 < d.size) (h : key d[k + 1]! < key d[a]!) : Up key d (swp dk k (k + 1)) a (k + 1) := by
  obtain ⟨u0, u1, u2, u3, u4⟩ := u
  have hs : dk.size = d.size := u4.1
  have g := swp_get dk (i := k) (j := k + 1) (by omega) (by omega)
  have e1 : dk[k + 1]! = d[k + 1]! := u1 _ (Or.inr (by omega))
  refine ⟨by omega, fun t ht => ?_, fun t h1 h2 => ?_, ?_, ?_⟩
  · rw [g, if_neg (by omega), if_neg (by omega)]
    exact u1 t (by omega)
  · rw [g, if_neg (by omega)]
    by_cases q : t = k
    · subst q; rw [if_pos rfl]; exact e1
    · rw [if_neg q]; exact u2 t h1 (by omega)
  · rw [g, if_pos rfl]; exact u3
  · refine (u4.mono (Nat.le_refl _) (by omega) (by omega)).trans ?_
    exact ((Step.nb dk k (by omega) (by rw [e1, u3]; exact h)).1).mono u0 (Nat.le_refl _) (by omega)
theorem Up.done [Inhabited α] {d dk : Array α} {a m b i : Nat} (hm : m = a + 1) (hb : b ≤ d.size) (h1 : m ≤ i) (h2 : i ≤ b) (hs : Srt key m b d) (hlo : ∀ h, m ≤ h → h < i → key d[h]! < key d[a]!) (hhi : ∀ h, i ≤ h → h < b → key d[a]! ≤ key d[h]!) (u : Up key d dk a (i - 1)) : Step key a b d dk ∧ Srt key a b dk := by
  obtain ⟨u0, u1, u2, u3, u4⟩ := u
  refine ⟨u4.mono (Nat.le_refl _) (by omega) hb, fun p q hp hpq hq => ?_⟩
  by_cases c1 : q < i - 1
  · rw [u2 p hp (by omega), u2 q (by omega) c1]; exact hs _ _ (by omega) (by omega) (by omega)
  · by_cases c2 : q = i - 1
    · rw [c2, u3, u2 p hp (by omega)]; exact Int.le_of_lt (hlo _ (by omega) (by omega))
    · rw [u1 q (Or.inr (by omega))]
      by_cases c3 : p < i - 1
      · rw [u2 p hp c3]; exact hs _ _ (by omega) (by omega) hq
      · by_cases c4 : p = i - 1
        · rw [c4, u3]; exact hhi _ (by omega) hq
        · rw [u1 p (Or.inr (by omega))]; exact hs _ _ (by omega) hpq hq
/-- The element at m is moved down to k. -/
def Dn [Inhabited α] (key : α → Int) (d dk : Array α) (m k : Nat) : Prop := k ≤ m ∧ (∀ h, h < k ∨ m < h → dk[h]! = d[h]!) ∧ (∀ h, k < h → h ≤ m → dk[h]! = d[h - 1]!) ∧ dk[k]! = d[m]! ∧ Step key k (m + 1) d dk
theorem Dn.start [Inhabited α] (d : Array α) (a : Nat) (h : a < d.size) : Dn key d d a a := ⟨Nat.le_refl _, fun _ _ => rfl, fun h h1 h2 => by omega, rfl, Step.refl _ _ _ (by omega) h⟩
theorem Dn.step [Inhabited α] {d dk : Array α} {m k : Nat} (u : Dn key d dk m (k + 1)) (hk : m < d.size) (h : key d[m]! < key d[k]!) : Dn key d (swp dk (k + 1) k) m k := by
  obtain ⟨u0, u1, u2, u3, u4⟩ := u
  have hs : dk.size = d.size := u4.1
  have g := swp_get dk (i := k + 1) (j := k) (by omega) (by omega)
  have e1 : dk[k]! = d[k]! := u1 _ (Or.inl (by omega))
  refine ⟨by omega, fun t ht => ?_, fun t h1 h2 => ?_, ?_, ?_⟩
  · rw [g, if_neg (by omega), if_neg (by omega)]
    exact u1 t (by omega)
  · rw [g, if_neg (by omega)]
    by_cases q : t = k + 1
    · subst q; rw [if_pos rfl]; exact e1
    · rw [if_neg q]; exact u2 t (by omega) h2
  · rw [g, if_pos rfl]; exact u3
  · refine (u4.mono (by omega) (Nat.le_refl _) (by omega)).trans ?_
    exact ((Step.nb dk k (by omega) (by rw [e1, u3]; exact h)).2).mono (Nat.le_refl _) (by omega) (by omega)
theorem Dn.done [Inhabited α] {d dk : Array α} {a m b i : Nat} (hm : b = m + 1) (hb : b ≤ d.size) (h1 : a ≤ i) (h2 : i ≤ m) (hs : Srt key a m d) (hlo : ∀ h, a ≤ h → h < i → key d[h]! ≤ key d[m]!) (hhi : ∀ h, i ≤ h → h < m → key d[m]! < key d[h]!) (u : Dn key d dk m i) : Step key a b d dk ∧ Srt key a b dk := by
  obtain ⟨u0, u1, u2, u3, u4⟩ := u
  refine ⟨u4.mono h1 (by omega) hb, fun p q hp hpq hq => ?_⟩
  by_cases c1 : q < i
  · rw [u1 p (Or.inl (by omega)), u1 q (Or.inl c1)]; exact hs _ _ hp hpq (by omega)
  · by_cases c2 : q = i
    · rw [c2, u3, u1 p (Or.inl (by omega))]; exact hlo _ hp (by omega)
    · rw [u2 q (by omega) (by omega)]
      by_cases c3 : p < i
      · rw [u1 p (Or.inl c3)]; exact hs _ _ hp (by omega) (by omega)
      · by_cases c4 : p = i
        · rw [c4, u3]; exact Int.le_of_lt (hhi _ (by omega) (by omega))
        · rw [u2 p (by omega) (by omega)]; exact hs _ _ (by omega) (by omega) (by omega)
/-- Two parts, s to m and m to e, exchanged. -/
def Rot (d d' : Array α) (s m e : Nat) : Prop := ∃ P A B Q, d.toList = P ++ (A ++ (B ++ Q)) ∧ d'.toList = P ++ (B ++ (A ++ Q)) ∧ P.length = s ∧ s + A.length = m ∧ m + B.length = e
theorem Rot.idle (d : Array α) (s m e : Nat) (h1 : s ≤ m) (h2 : m ≤ e) (h3 : e ≤ d.size) (h : s = m ∨ m = e) : Rot d d s m e := by
  obtain ⟨P, C, Q, e1, e2, e3⟩ := cut3 d s e (by omega) h3
  rcases h with rfl | rfl
  · exact ⟨P, [], C, Q, e1, e1, e2, rfl, e3⟩
  · exact ⟨P, C, [], Q, e1, e1, e2, e3, rfl⟩
theorem Rot.size {d d' : Array α} {s m e : Nat} (h : Rot d d' s m e) : d'.size = d.size := by
  obtain ⟨P, A, B, Q, e1, e2, h3, h4, h5⟩ := h
  have a := congrArg List.length e1
  have b := congrArg List.length e2
  simp only [List.length_append, Array.length_toList] at a b
  omega
theorem Rot.get [Inhabited α] {d d' : Array α} {s m e : Nat} (h : Rot d d' s m e) (i : Nat) : d'[i]! = if i < s then d[i]! else if i < s + (e - m) then d[m + (i - s)]! else if i < e then d[i - (e - m)]! else d[i]! := by
  obtain ⟨P, A, B, Q, e1, e2, h3, h4, h5⟩ := h
  simp only [get_toList, e1, e2]
  simp only [getElem!_def]
  by_cases c1 : i < s
  · rw [if_pos c1, List.getElem?_append_left (by omega), List.getElem?_append_left (by omega)]
  · rw [if_neg c1, List.getElem?_append_right (by omega)]
    by_cases c2 : i < s + (e - m)
    · rw [if_pos c2, List.getElem?_append_left (by omega), List.getElem?_append_right (by omega), List.getElem?_append_right (by omega), List.getElem?_append_left (by omega)]
      congr 2; omega
    · rw [if_neg c2, List.getElem?_append_right (by omega)]
      by_cases c3 : i < e
      · rw [if_pos c3, List.getElem?_append_left (by omega), List.getElem?_append_right (by omega), List.getElem?_append_left (by omega)]
        congr 2; omega
      · rw [if_neg c3, List.getElem?_append_right (by omega), List.getElem?_append_right (by omega), List.getElem?_append_right (by omega), List.getElem?_append_right (by omega)]
        congr 2; omega
theorem Rot.step [Inhabited α] {d d' : Array α} {s m e : Nat} (h : Rot d d' s m e) (hx : ∀ i j, s ≤ i → i < m → m ≤ j → j < e → key d[j]! < key d[i]!) : Step key s e d d' := by
  have hs := h.size
  obtain ⟨P, A, B, Q, e1, e2, h3, h4, h5⟩ := h
  refine ⟨hs, P, A ++ B, B ++ A, Q, by rw [e1]; simp, by rw [e2]; simp, h3, by rw [List.length_append]; omega, by rw [List.length_append, List.length_append]; omega, Sim.swap fun x hxA y hyB => ?_⟩
  obtain ⟨i, hi, rfl⟩ := List.getElem_of_mem hxA
  obtain ⟨j, hj, rfl⟩ := List.getElem_of_mem hyB
  have := hx (s + i) (m + j) (by omega) (by omega) (by omega) (by omega)
  rw [get_toList, get_toList, e1] at this
  simp only [getElem!_def] at this
  rw [List.getElem?_append_right (by omega), List.getElem?_append_right (by omega), List.getElem?_append_left (by omega), List.getElem?_append_right (by omega), List.getElem?_append_left (by omega), List.getElem?_eq_getElem (by omega), List.getElem?_eq_getElem (by omega)] at this
  simpa [show s + i - P.length = i by omega, show m + j - P.length - A.length = j by omega] using this
/-- Where the search for the middle stands. -/
def Bin [Inhabited α] (key : α → Int) (d : Array α) (p s0 r0 s r : Nat) : Prop := s0 ≤ s ∧ s ≤ r ∧ r ≤ r0 ∧ (∀ c, s0 ≤ c → c < s → key d[c]! ≤ key d[p - c]!) ∧ (∀ c, r ≤ c → c < r0 → key d[p - c]! < key d[c]!)
theorem Bin.right [Inhabited α] {d : Array α} {p s0 r0 s r a m b : Nat} (h : Bin key d p s0 r0 s r) (ha : Srt key a m d) (hb : Srt key m b d) (h1 : a ≤ s0) (h2 : r0 ≤ m) (h3 : p < b + s0) (h4 : m + r0 ≤ p + 1) (c : Nat) (hc1 : s ≤ c) (hc2 : c < r) (hc : ¬ key d[p - c]! < key d[c]!) : Bin key d p s0 r0 (c + 1) r := by
  obtain ⟨g1, g2, g3, g4, g5⟩ := h
  refine ⟨by omega, by omega, g3, fun x hx1 hx2 => ?_, g5⟩
  by_cases e : x = c
  · subst e; omega
  · have q1 := ha x c (by omega) (by omega) (by omega)
    have q2 := hb (p - c) (p - x) (by omega) (by omega) (by omega)
    omega
theorem Bin.left [Inhabited α] {d : Array α} {p s0 r0 s r a m b : Nat} (h : Bin key d p s0 r0 s r) (ha : Srt key a m d) (hb : Srt key m b d) (h1 : a ≤ s0) (h2 : r0 ≤ m) (h3 : p < b + s0) (h4 : m + r0 ≤ p + 1) (c : Nat) (hc1 : s ≤ c) (hc2 : c < r) (hc : key d[p - c]! < key d[c]!) : Bin key d p s0 r0 s c := by
  obtain ⟨g1, g2, g3, g4, g5⟩ := h
  refine ⟨g1, hc1, by omega, g4, fun x hx1 hx2 => ?_⟩
  by_cases e : x = c
  · subst e; exact hc
  · have q1 := ha c x (by omega) (by omega) (by omega)
    have q2 := hb (p - x) (p - c) (by omega) (by omega) (by omega)
    omega
/-- Behind the search and the rotation: four rising parts, and no one of the first two is above one of the last two. -/
theorem merge_mid [Inhabited α] {d d1 : Array α} {a m b mid s s0 r0 : Nat} (ha : Srt key a m d) (hb : Srt key m b d) (h1 : a < m) (h2 : m < b) (hb' : b ≤ d.size) (hmid : mid = (a + b) / 2)
    (hs0 : s0 = if m > mid then mid + m - b else a) (hr0 : r0 = if m > mid then mid else m) (hB : Bin key d (mid + m - 1) s0 r0 s s) (hR : Rot d d1 s m (mid + m - s)) :
    Step key a b d d1 ∧ Srt key a s d1 ∧ Srt key s mid d1 ∧ Srt key mid (mid + m - s) d1 ∧ Srt key (mid + m - s) b d1 ∧ (∀ i j, a ≤ i → i < mid → mid ≤ j → j < b → key d1[i]! ≤ key d1[j]!) ∧ a ≤ s ∧ s ≤ mid ∧ mid ≤ mid + m - s ∧ mid + m - s ≤ b := by
  obtain ⟨g1, g2, g3, g4, g5⟩ := hB
  have hsm : s ≤ mid ∧ s ≤ m ∧ a ≤ s ∧ mid + m - s ≤ b ∧ s0 ≤ s := by
    by_cases c : m > mid
    · rw [if_pos c] at hs0 hr0; omega
    · rw [if_neg c] at hs0 hr0; omega
  have hcross : ∀ i j, s ≤ i → i < m → m ≤ j → j < mid + m - s → key d[j]! < key d[i]! := fun i j i1 i2 j1 j2 => by
    by_cases c : m > mid
    · rw [if_pos c] at hs0 hr0
      have q := g5 s (Nat.le_refl _) (by omega)
      by_cases e1 : i = s
      · by_cases e2 : j = mid + m - 1 - s
        · rw [e1, e2]; exact q
        · have := hb j (mid + m - 1 - s) (by omega) (by omega) (by omega); rw [e1]; omega
      · have q1 := ha s i (by omega) (by omega) (by omega)
        by_cases e2 : j = mid + m - 1 - s
        · rw [e2]; omega
        · have := hb j (mid + m - 1 - s) (by omega) (by omega) (by omega); omega
    · rw [if_neg c] at hs0 hr0
      have q := g5 s (Nat.le_refl _) (by omega)
      by_cases e1 : i = s
      · by_cases e2 : j = mid + m - 1 - s
        · rw [e1, e2]; exact q
        · have := hb j (mid + m - 1 - s) (by omega) (by omega) (by omega); rw [e1]; omega
      · have q1 := ha s i (by omega) (by omega) (by omega)
        by_cases e2 : j = mid + m - 1 - s
        · rw [e2]; omega
        · have := hb j (mid + m - 1 - s) (by omega) (by omega) (by omega); omega
  have hout : ∀ i j, a ≤ i → i < s → mid + m - s ≤ j → j < b → key d[i]! ≤ key d[j]! := fun i j i1 i2 j1 j2 => by
    by_cases c0 : s = s0
    · by_cases c : m > mid
      · rw [if_pos c] at hs0 hr0; omega
      · rw [if_neg c] at hs0 hr0; omega
    · have q := g4 (s - 1) (by omega) (by omega)
      have e : mid + m - 1 - (s - 1) = mid + m - s := by omega
      rw [e] at q
      have q1 : key d[i]! ≤ key d[s - 1]! := by
        by_cases e1 : i = s - 1
        · rw [e1]; exact Int.le_refl _
        · exact ha i (s - 1) i1 (by omega) (by omega)
      have q2 : key d[mid + m - s]! ≤ key d[j]! := by
        by_cases e1 : j = mid + m - s
        · rw [e1]; exact Int.le_refl _
        · exact hb _ j (by omega) (by omega) j2
      omega
  have gt := hR.get
  have hst := (hR.step hcross).mono (a' := a) (b' := b) (by omega) (by omega) hb'
  obtain ⟨_, P, A, B, Q, e1, e2, l1, l2, l3⟩ := (⟨trivial, hR⟩ : True ∧ Rot d d1 s m (mid + m - s))
  clear e1 e2
  refine ⟨hst, fun i j h1 h2 h3 => ?_, fun i j h1 h2 h3 => ?_, fun i j h1 h2 h3 => ?_, fun i j h1 h2 h3 => ?_, fun i j i1 i2 j1 j2 => ?_, by omega, by omega, by omega, by omega⟩
  · rw [gt i, if_pos (by omega), gt j, if_pos h3]; exact ha i j h1 h2 (by omega)
  · rw [gt i, if_neg (by omega), if_pos (by omega), gt j, if_neg (by omega), if_pos (by omega)]; exact hb _ _ (by omega) (by omega) (by omega)
  · rw [gt i, if_neg (by omega), if_neg (by omega), if_pos (by omega), gt j, if_neg (by omega), if_neg (by omega), if_pos (by omega)]; exact ha _ _ (by omega) (by omega) (by omega)
  · rw [gt i, if_neg (by omega), if_neg (by omega), if_neg (by omega), gt j, if_neg (by omega), if_neg (by omega), if_neg (by omega)]; exact hb _ _ (by omega) (by omega) (by omega)
  · rw [gt j, if_neg (by omega), if_neg (by omega)]
    by_cases cj : j < mid + m - s
    · rw [if_pos cj, gt i]
      by_cases ci : i < s
      · rw [if_pos ci]; exact ha _ _ i1 (by omega) (by omega)
      · rw [if_neg ci, if_pos (by omega)]; exact Int.le_of_lt (hcross _ _ (by omega) (by omega) (by omega) (by omega))
    · rw [if_neg cj, gt i]
      by_cases ci : i < s
      · rw [if_pos ci]; exact hout _ _ i1 ci (by omega) j2
      · rw [if_neg ci, if_pos (by omega)]; exact hb _ _ (by omega) (by omega) j2
/-- The two halves merged. -/
theorem merge_end [Inhabited α] {d d1 d2 d3 : Array α} {a mid b : Nat} (h1 : a ≤ mid) (h2 : mid ≤ b) (hb : b ≤ d.size) (s1 : Step key a b d d1) (hx : ∀ i j, a ≤ i → i < mid → mid ≤ j → j < b → key d1[i]! ≤ key d1[j]!)
    (s2 : Step key a mid d1 d2) (r2 : Srt key a mid d2) (s3 : Step key mid b d2 d3) (r3 : Srt key mid b d3) : Step key a b d d3 ∧ Srt key a b d3 := by
  have z1 := s1.1
  have z2 := s2.1
  refine ⟨(s1.trans (s2.mono (Nat.le_refl _) h2 (by omega))).trans (s3.mono h1 (Nat.le_refl _) (by omega)), fun i j i1 ij j1 => ?_⟩
  by_cases cj : j < mid
  · rw [s3.out i (Or.inl (by omega)), s3.out j (Or.inl cj)]; exact r2 i j i1 ij cj
  · by_cases ci : i < mid
    · rw [s3.out i (Or.inl ci)]
      refine s3.all (fun y => key d2[i]! ≤ key y) (fun q q1 q2 => ?_) j (by omega) j1
      rw [s2.out q (Or.inr q1)]
      exact s2.all (fun x => key x ≤ key d1[q]!) (fun t t1 t2 => hx t q t1 t2 q1 q2) i i1 ci
    · exact r3 i j (by omega) ij j1
theorem Srt.glue [Inhabited α] {d : Array α} {a s b : Nat} (h1 : Srt key a s d) (h2 : Srt key s b d) (h : a = s ∨ s = b) : Srt key a b d := by
  rcases h with rfl | rfl
  · exact h2
  · exact h1
theorem Srt.of_step [Inhabited α] {d d' : Array α} {a b a' b' : Nat} (h : Srt key a b d) (s : Step key a' b' d d') (ho : b ≤ a' ∨ b' ≤ a) : Srt key a b d' := fun i j h1 h2 h3 => by
  rw [s.out i (by omega), s.out j (by omega)]; exact h i j h1 h2 h3
end
section
variable {key : α → Int}
/-- The blocks of s that lie in a to b rise, each by itself. -/
def Runs [Inhabited α] (key : α → Int) (s a b : Nat) (d : Array α) : Prop := ∀ i j, a ≤ i → i < j → j < b → i / s = j / s → key d[i]! ≤ key d[j]!
theorem div_at {s t i : Nat} (h1 : t * s ≤ i) (h2 : i < t * s + s) : i / s = t := Nat.div_eq_of_lt_le h1 (by rw [Nat.add_mul, Nat.one_mul]; exact h2)
theorem div_le {s t i : Nat} (hs : 0 < s) (h1 : i < t * s) : i / s < t := (Nat.div_lt_iff_lt_mul hs).2 h1
theorem div_ge {s t i : Nat} (hs : 0 < s) (h1 : t * s ≤ i) : t ≤ i / s := (Nat.le_div_iff_mul_le hs).2 h1
/-- One more block, which may be cut short. -/
theorem Runs.next [Inhabited α] {d d' : Array α} {s t b : Nat} (h : Runs key s 0 (t * s) d) (hs : 0 < s) (g : Step key (t * s) b d d') (hr : Srt key (t * s) b d') (hb : b ≤ t * s + s) : Runs key s 0 b d' := fun i j h0 h1 h2 h3 => by
  by_cases c : j < t * s
  · rw [g.out i (Or.inl (by omega)), g.out j (Or.inl c)]; exact h i j h0 h1 c h3
  · by_cases c2 : i < t * s
    · have := div_le hs c2
      have := div_ge hs (show t * s ≤ j by omega)
      omega
    · exact hr i j (by omega) h1 h2
theorem Runs.rest [Inhabited α] {d d' : Array α} {s t a b n : Nat} (h : Runs key s a n d) (g : Step key a b d d') (h0 : a ≤ b) (hb : b = t * s) : Runs key s b n d' := fun i j h1 h2 h3 h4 => by
  rw [g.out i (Or.inr h1), g.out j (Or.inr (by omega))]
  exact h i j (by omega) h2 h3 h4
theorem Runs.part [Inhabited α] {d : Array α} {s t a b n : Nat} (h : Runs key s a n d) (ha : a = t * s) (hb : b ≤ a + s) (hn : b ≤ n) : Srt key a b d := fun i j h1 h2 h3 => h i j h1 h2 (by omega) (by
  rw [div_at (t := t) (by omega) (by omega), div_at (t := t) (by omega) (by omega)])
theorem Runs.whole [Inhabited α] {d : Array α} {s n : Nat} (h : Runs key s 0 n d) (hn : n ≤ s) : Srt key 0 n d := fun i j h1 h2 h3 => h i j h1 h2 h3 (by
  rw [Nat.div_eq_of_lt (by omega), Nat.div_eq_of_lt (by omega)])
theorem Runs.none [Inhabited α] (d : Array α) (s b : Nat) : Runs key s b b d := fun i j h1 h2 h3 => by omega
end
end Go.Proofs.Ytnjnogkhbadioaa.StableK
