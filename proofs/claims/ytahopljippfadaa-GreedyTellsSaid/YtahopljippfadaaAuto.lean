/- Short words for the printed walks' own steps: lemmas whose last premise is proved by a fixed tactic. Plain theorems. -/
import Derived.Test.YtahopljippfadaaWWords
import Derived.Test.YtahopljippfadaaWLast
import Derived.Test.YtahopljippfadaaWTab
import Derived.Test.YtahopljippfadaaWMore
import Derived.Tactics
namespace Go.Proofs.Ytahopljippfadaa
set_option linter.unusedSimpArgs false
set_option linter.unusedVariables false
open Go.RowKit Go.Proofs.YtahopljippfadaaW.PrintWords Go.Proofs.YtahopljippfadaaW.PrintLast Go.Proofs.YtahopljippfadaaW.PrintMore
theorem six_ {a b c d e x y z u v : Int} {s t : List UInt8} (h : (a == x && (b == y && (c == z && (d == u && (e == v && (s == t)))))) = true) : (a = x) = True ∧ (b = y) = True ∧ (c = z) = True ∧ (d = u) = True ∧ (e = v) = True ∧ (s = t) = True := by
  simp only [Bool.and_eq_true, beq_iff_eq] at h
  simp [h]
abbrev T : Bool := true
abbrev F : Bool := false
theorem on_ {W W' : World} {p : Addr} {v : Value} (hb : Below W.heap.size W W') (h : W.cell? p = some v) : W'.cell? p = some v := (hb.cell (World.block_lt_of_cell? _ _ h)).trans h
theorem f6_ {α : Type} {d : Kd α} {e base g : Nat} {w : World} {ok : Nat → Prop} {v : Value} {xs : List α} (h : Kd.R d e w base ok v xs) (hok : ∀ k, ok k → k ≠ g) (a0 a1 a2 a3 a4 a5 : Value) : Kd.R d e ((((((w.setCell ⟨g, 0, none⟩ a0).setCell ⟨g, 1, none⟩ a1).setCell ⟨g, 2, none⟩ a2).setCell ⟨g, 3, none⟩ a3).setCell ⟨g, 4, none⟩ a4).setCell ⟨g, 5, none⟩ a5) base ok v xs := Kd.R_far (p := ⟨g, 5, none⟩) (Kd.R_far (p := ⟨g, 4, none⟩) (Kd.R_far (p := ⟨g, 3, none⟩) (Kd.R_far (p := ⟨g, 2, none⟩) (Kd.R_far (p := ⟨g, 1, none⟩) (Kd.R_far (p := ⟨g, 0, none⟩) h hok a0) hok a1) hok a2) hok a3) hok a4) hok a5
theorem bw_ {P : Prop} (h : P := by repeat (first | (with_reducible first | exact HB.out | apply below_alloc | apply pw_below_drewN | apply below_drew1 | refine below_set ?_ (Aside0.out (by assumption))) | exact HB.out)) : P := h
theorem gz_ {w W : World} {n : Nat} (hg : n = W.heap.size) (h : Below w.heap.size w W := by repeat (first | (with_reducible first | exact HB.out | apply below_alloc | apply pw_below_drewN | apply below_drew1 | refine below_set ?_ (Aside0.out (by assumption))) | exact HB.out)) : w.heap.size ≤ n := by rw [hg]; exact below_size h
theorem pr_ {Q P : Prop} (x : Q) (h : Q → P := by intro h_; (with_reducible repeat (first | apply Kd.R_alloc | apply Kd.R_drewN | apply Kd.R_drew)); exact h_) : P := h x
theorem cf_ {W w : World} {p a : Addr} {v v1 u : Value} (x : w.cell? a = some v1) (G : w.heap.size ≤ p.block) (h : W.cell? a = some v) : (W.setCell p u).cell? a = some v := (cell_far (Nat.ne_of_lt (Nat.lt_of_lt_of_le (World.block_lt_of_cell? _ _ x) G)) u).trans h
theorem pv_ {Q P : Prop} (x : Q) (h : Q → P := by intro h_; (with_reducible repeat (first | apply Kd.V_alloc | apply Kd.V_drewN | apply Kd.V_drew)); exact h_) : P := h x
theorem bk_ {P : Prop} (h : P := by (repeat (first | (with_reducible first | refine blk_drewN ?_ _ | refine blk_drew ?_ | refine blk_alloc ?_ _) | refine blk_far ?_ (Aside0.out (by assumption)) _)); exact Aside0.out (by assumption)) : P := h
theorem kb_ {w0 w w1 : World} {g : Nat} {o : Obj} (x : Aside0 (w0.heap[g]? = some o)) (hb : Below w.heap.size w w1) (h : w0.heap[g]? = some o → w.heap[g]? = some o := by intro h_; (repeat (first | (with_reducible first | refine blk_drewN ?_ _ | refine blk_drew ?_ | refine blk_alloc ?_ _) | refine blk_far ?_ (Aside0.out (by assumption)) _)); exact h_) : w1.heap[g]? = some o := blk_below (h x.out) hb
theorem nl_ {w0 w : World} {g n : Nat} {o : Obj} (x : Aside0 (w0.heap[g]? = some o)) (hg : n = w.heap.size) (h : w0.heap[g]? = some o → w.heap[g]? = some o := by intro h_; (with_reducible repeat (first | refine blk_drewN ?_ _ | refine blk_drew ?_ | refine blk_alloc ?_ _)); exact h_) : g ≠ n := by rw [hg]; exact Nat.ne_of_lt (blk_lt (h x.out))
theorem ng_ {w0 w : World} {g n : Nat} {o : Obj} (x : Aside0 (w0.heap[g]? = some o)) (hg : n = w.heap.size) (h : w0.heap[g]? = some o → w.heap[g]? = some o := by intro h_; (with_reducible repeat (first | refine blk_drewN ?_ _ | refine blk_drew ?_ | refine blk_alloc ?_ _)); exact h_) : n ≠ g := by rw [hg]; exact Nat.ne_of_gt (blk_lt (h x.out))
theorem pq_ {P : Program} {ops : Array Oper} {Q : Exit → Act → World → Prop} {md : Region.Mode} {S : World → Prop} {ds : List Nat} {T : Bool × List (List Nat × List Nat)} {oi : Oper} {v : Value} {fuel : Nat} {l : Array Bool} {a a1 : Act} {w : World} (i n : Nat) (HT : Aside0 (rtab md ops = T)) (h : wpAnyLast P md ops Q S ds fuel (l.setIfInBounds i true) a1 w) (hi : ops[i]? = some oi := by rfl) (hN : oi.dst = some n := by rfl) (hk : anyT T l.toList (l.setIfInBounds i true).toList i = true := by kernel_rfl) (hQ : ∀ c a w, Q (.panic c) (a.put oi.dst v) w → Q (.panic c) a w := by exact fun _ _ _ h => h) (hy : Yields P ops oi v a := by exact Or.inl ⟨by rfl, by intro w1; go_simp; with_reducible rfl⟩) (ha : a.put (some n) v = a1 := by simp only [Act.put, List.setIfInBounds_toArray, List.set_cons_zero, List.set_cons_succ, i64_w, i32_w]; rfl) : wpAnyLast P md ops Q S ds (fuel + 1) l a w := pure_ _ hi hN (any_of HT.out hk) hQ hy ha h
theorem pu_ {P : Program} {ops : Array Oper} {Q : Exit → Act → World → Prop} {md : Region.Mode} {S : World → Prop} {ds : List Nat} {T : Bool × List (List Nat × List Nat)} {oi : Oper} {fuel : Nat} {l : Array Bool} {a a1 : Act} {w : World} (i n : Nat) (HT : Aside0 (rtab md ops = T)) (h : wpAnyLast P md ops Q S ds fuel (l.setIfInBounds i true) a1 w) (hi : ops[i]? = some oi := by rfl) (hN : oi.dst = some n := by rfl) (hk : anyT T l.toList (l.setIfInBounds i true).toList i = true := by kernel_rfl) (hQ : ∀ c a w, Q (.panic c) (a.put oi.dst undef) w → Q (.panic c) a w := by exact fun _ _ _ h => h) (hy : Yields P ops oi undef a := by exact Or.inr ⟨by rfl, rfl⟩) (ha : a.put (some n) undef = a1 := by simp only [Act.put, List.setIfInBounds_toArray, List.set_cons_zero, List.set_cons_succ, i64_w, i32_w]; rfl) : wpAnyLast P md ops Q S ds (fuel + 1) l a w := pure_ _ hi hN (any_of HT.out hk) hQ hy ha h
theorem tk_ {P : Program} {ops : Array Oper} {Q : Exit → Act → World → Prop} {md : Region.Mode} {S : World → Prop} {ds B : List Nat} {T : Bool × List (List Nat × List Nat)} {oi : Oper} {v : Value} {fuel : Nat} {l : Array Bool} {a a1 : Act} {w : World} (i n : Nat) (HT : Aside0 (rtab md ops = T)) (HW : Aside0 (waitsOk T.2 B = true)) (hS : S w) (h : wpAnyLast P md ops Q S ds fuel (l.setIfInBounds i true) a1 w) (hi : ops[i]? = some oi := by rfl) (hN : oi.dst = some n := by rfl) (hk : takeW T B ds l.toList (l.setIfInBounds i true).toList i = true := by kernel_rfl) (hQ : ∀ c a w, Q (.panic c) (a.put oi.dst v) w → Q (.panic c) a w := by exact fun _ _ _ h => h) (hy : YieldsIf P ops S oi v a := by exact Or.inl ⟨by rfl, by intro w1; (try simp only [and_imp]); intros; go_simp; with_reducible rfl⟩) (ha : a.put (some n) v = a1 := by simp only [Act.put, List.setIfInBounds_toArray, List.set_cons_zero, List.set_cons_succ, i64_w, i32_w]; rfl) : wpAnyLast P md ops Q S ds (fuel + 1) l a w := take_ _ hi hN (take_ofW HT.out HW.out hk) hQ hy hS ha h
theorem pk_ {P Q : Prop} (x : P) (h : P → Q := by intro h_; (with_reducible repeat (first | refine blk_drewN ?_ _ | refine blk_drew ?_ | refine blk_alloc ?_ _)); exact h_) : Q := h x
theorem e_ {w : World} {g : Nat} {t : TypeId} {cs : Array Value} {v : Value} (h : Aside0 (w.heap[g]? = some (.cells cs t (0, 0)))) (i : Nat) (hv : cs[i]? = some v := by rfl) : w.cell? ⟨g, i, none⟩ = some v := (blk_cell h.out i).trans hv
theorem b3_ {w : World} {g : Nat} {t : TypeId} {z0 z1 z2 a0 a1 a2 : Value} (h : w.heap[g]? = some (.cells #[z0, z1, z2] t (0, 0))) : (((w.setCell ⟨g, 0, none⟩ a0).setCell ⟨g, 1, none⟩ a1).setCell ⟨g, 2, none⟩ a2).heap[g]? = some (.cells #[a0, a1, a2] t (0, 0)) := (blk_put (cs := #[a0, a1, z2]) (blk_put (cs := #[a0, z1, z2]) (blk_put (cs := #[z0, z1, z2]) h 0 _ rfl) 1 _ rfl) 2 _ rfl)
theorem b6_ {w : World} {g : Nat} {t : TypeId} {z0 z1 z2 z3 z4 z5 a0 a1 a2 a3 a4 a5 : Value} (h : w.heap[g]? = some (.cells #[z0, z1, z2, z3, z4, z5] t (0, 0))) : ((((((w.setCell ⟨g, 0, none⟩ a0).setCell ⟨g, 1, none⟩ a1).setCell ⟨g, 2, none⟩ a2).setCell ⟨g, 3, none⟩ a3).setCell ⟨g, 4, none⟩ a4).setCell ⟨g, 5, none⟩ a5).heap[g]? = some (.cells #[a0, a1, a2, a3, a4, a5] t (0, 0)) := (blk_put (cs := #[a0, a1, a2, a3, a4, z5]) (blk_put (cs := #[a0, a1, a2, a3, z4, z5]) (blk_put (cs := #[a0, a1, a2, z3, z4, z5]) (blk_put (cs := #[a0, a1, z2, z3, z4, z5]) (blk_put (cs := #[a0, z1, z2, z3, z4, z5]) (blk_put (cs := #[z0, z1, z2, z3, z4, z5]) h 0 _ rfl) 1 _ rfl) 2 _ rfl) 3 _ rfl) 4 _ rfl) 5 _ rfl)
theorem c3_ {w : World} {g : Nat} {t : TypeId} {a0 a1 a2 : Value} (h : Aside0 (w.heap[g]? = some (.cells #[a0, a1, a2] t (0, 0)))) : w.cell? ⟨g, 0, none⟩ = some a0 ∧ w.cell? ⟨g, 1, none⟩ = some a1 ∧ w.cell? ⟨g, 2, none⟩ = some a2 := ⟨(blk_cell h.out 0).trans rfl, (blk_cell h.out 1).trans rfl, (blk_cell h.out 2).trans rfl⟩
theorem z3_ {w : World} {g : Nat} {t : TypeId} {cs : Array Value} (h : Aside0 (w.heap[g]? = some (.cells cs t (0, 0)))) : w.frozen? ⟨g, 0, none⟩ = false ∧ w.frozen? ⟨g, 1, none⟩ = false ∧ w.frozen? ⟨g, 2, none⟩ = false := ⟨blk_frozen h.out 0, blk_frozen h.out 1, blk_frozen h.out 2⟩
theorem c6_ {w : World} {g : Nat} {t : TypeId} {a0 a1 a2 a3 a4 a5 : Value} (h : Aside0 (w.heap[g]? = some (.cells #[a0, a1, a2, a3, a4, a5] t (0, 0)))) : w.cell? ⟨g, 0, none⟩ = some a0 ∧ w.cell? ⟨g, 1, none⟩ = some a1 ∧ w.cell? ⟨g, 2, none⟩ = some a2 ∧ w.cell? ⟨g, 3, none⟩ = some a3 ∧ w.cell? ⟨g, 4, none⟩ = some a4 ∧ w.cell? ⟨g, 5, none⟩ = some a5 := ⟨(blk_cell h.out 0).trans rfl, (blk_cell h.out 1).trans rfl, (blk_cell h.out 2).trans rfl, (blk_cell h.out 3).trans rfl, (blk_cell h.out 4).trans rfl, (blk_cell h.out 5).trans rfl⟩
theorem z6_ {w : World} {g : Nat} {t : TypeId} {cs : Array Value} (h : Aside0 (w.heap[g]? = some (.cells cs t (0, 0)))) : w.frozen? ⟨g, 0, none⟩ = false ∧ w.frozen? ⟨g, 1, none⟩ = false ∧ w.frozen? ⟨g, 2, none⟩ = false ∧ w.frozen? ⟨g, 3, none⟩ = false ∧ w.frozen? ⟨g, 4, none⟩ = false ∧ w.frozen? ⟨g, 5, none⟩ = false := ⟨blk_frozen h.out 0, blk_frozen h.out 1, blk_frozen h.out 2, blk_frozen h.out 3, blk_frozen h.out 4, blk_frozen h.out 5⟩
abbrev bn_ := @blk_drewN
abbrev bd_ := @blk_drew
abbrev ba_ := @blk_alloc
abbrev ra_ := @Kd.R_alloc
abbrev rn_ := @Kd.R_drewN
abbrev rd_ := @Kd.R_drew
abbrev ca_ := @Kd.C_alloc
abbrev cn_ := @Kd.C_drewN
abbrev cd_ := @Kd.C_drew
abbrev wa_ := @below_alloc
abbrev wn_ := @pw_below_drewN
abbrev wd_ := @below_drew1
abbrev ws_ := @below_set
abbrev A_ := @Aside0.mk
abbrev s0_ := @List.setIfInBounds_toArray
abbrev s1_ := @List.set_cons_zero
abbrev s2_ := @List.set_cons_succ
abbrev m0_ := @List.map_toArray
abbrev m1_ := @List.map_cons
abbrev m2_ := @List.map_nil
end Go.Proofs.Ytahopljippfadaa
