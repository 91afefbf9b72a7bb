/- Written by this session's own program over the kit's print: functions of Go told as plain functions, or the row of one statement; proved for every input, with no condition of ours. -/
import Derived.Test.YtehncbhmdgdkjaaQx0
import Derived.Test.YtehncbhmdgdkjaaQx4
namespace Go.Proofs.Ytehncbhmdgdkjaa.Q
open Go.RowKit Go.Proofs.YtehncbhmdgdkjaaW.PrintWords Go.Proofs.YtehncbhmdgdkjaaW.PrintLast Go.Proofs.YtehncbhmdgdkjaaW.PrintMore
attribute [local go_sem] max2_int min2_int max_two min_two max_three min_three max_four min_four   -- for this text's walks alone
set_option linter.unusedVariables false
set_option linter.unusedSimpArgs false

/-! ### queue_Advance: function 60 -/
def queue_Advance.l0 : Nat → Int → List (S24) → List (S24) → List (S24) → Int → Int → Int → Int → List (S24) → Option (Int × Int × (List (S24)) × (List (S24)) × Int)
 | 0, _, _, _, _, _, _, _, _, _ => none
 | k + 1, x1, x7, x8, x23, x24, x25, x175000, x175001, x175002 => if x25 < x24 then (if 0 ≤ x25 then (if x25 < (x23.length : Int) then (if ((rd_T24 x23 x25).f1) < x1 then (if x8.length < 2513169434916 then (queue_Advance.l0 k x1 x7 (x8 ++ [(⟨(rd_T24 x23 x25).f0, (rd_T24 x23 x25).f1, (rd_T24 x23 x25).f2, (rd_T24 x23 x25).f3, (rd_T24 x23 x25).f4, (rd_T24 x23 x25).f5⟩ : S24)]) x23 x24 (wrap64 (x25 + 1)) x175000 x175001 x175002) else (none)) else (if x7.length < 2513169434916 then (queue_Advance.l0 k x1 (x7 ++ [(⟨(rd_T24 x23 x25).f0, (rd_T24 x23 x25).f1, (rd_T24 x23 x25).f2, (rd_T24 x23 x25).f3, (rd_T24 x23 x25).f4, (rd_T24 x23 x25).f5⟩ : S24)]) x8 x23 x24 (wrap64 (x25 + 1)) x175000 x175001 x175002) else (none))) else (none)) else (none)) else (some (x175000, x1, x7, x8, 0))
def queue_Advance.f (k : Nat) (a0_0 : Int) (a0_1 : Int) (l0_2 : List (S24)) (a1 : Int) : Option (Int × Int × (List (S24)) × (List (S24)) × Int) := (queue_in.f a1 0 4294967295).bind fun t176 => (if t176 = true then (if a1 < a0_1 then (some (a0_0, a0_1, l0_2, ([] : List (S24)), 3)) else (queue_Advance.l0 k a1 ([] : List (S24)) ([] : List (S24)) l0_2 (l0_2.length : Int) 0 a0_0 a0_1 l0_2)) else (some (a0_0, a0_1, l0_2, ([] : List (S24)), 1)))
theorem queue_Advance.mono_l : ∀ k, (∀ y0 y1 y2 y3 y4 y5 y6 y7 y8, LeO (queue_Advance.l0 k y0 y1 y2 y3 y4 y5 y6 y7 y8) (queue_Advance.l0 (k + 1) y0 y1 y2 y3 y4 y5 y6 y7 y8))
 | 0 => fun _ _ _ _ _ _ _ _ _ r h => by simp [queue_Advance.l0] at h
 | k + 1 => by
  have ih0 := queue_Advance.mono_l k
  · intro y0 y1 y2 y3 y4 y5 y6 y7 y8
    unfold queue_Advance.l0
    repeat' first
    | (with_reducible exact ih0 _ _ _ _ _ _ _ _ _)
    | (with_reducible exact LeO.refl _)
    | (with_reducible exact LeO.none _)
    | (with_reducible refine LeO.ite ?_ ?_)
    | (with_reducible refine LeO.bind ?_ (fun _ => ?_))
    | exact ih0 _ _ _ _ _ _ _ _ _
    | exact LeO.none _
    | refine LeO.ite ?_ ?_
    | refine LeO.bind ?_ (fun _ => ?_)
theorem queue_Advance.mono : ∀ a0 a1 a2 a3 k, LeO (queue_Advance.f k a0 a1 a2 a3) (queue_Advance.f (k + 1) a0 a1 a2 a3) := by
 intro a0 a1 a2 a3 k
 have ih0 := queue_Advance.mono_l k
 unfold queue_Advance.f
 repeat' first
  | (with_reducible exact ih0 _ _ _ _ _ _ _ _ _)
  | (with_reducible exact LeO.refl _)
  | (with_reducible exact LeO.none _)
  | (with_reducible refine LeO.ite ?_ ?_)
  | (with_reducible refine LeO.bind ?_ (fun _ => ?_))
  | exact ih0 _ _ _ _ _ _ _ _ _
  | exact LeO.none _
  | refine LeO.ite ?_ ?_
  | refine LeO.bind ?_ (fun _ => ?_)
set_option maxHeartbeats 8000000 in
set_option maxRecDepth 100000 in
theorem queue_Advance.calls (k : Nat) (a0_0 : Int) (a0_1 : Int) (P0_2_ : Nat → Prop) (A0_2 : Option Addr) (c0_2 : Nat) (l0_2 : List (S24)) (a1 : Int) (r1 : Int) (r2 : Int) (r3 : List (S24)) (r4 : List (S24)) (r5 : Int) (w : World) (hs0_2 : Kd.V k24 24 w w.heap.size (fun k_ => P0_2_ k_) (.slice A0_2 l0_2.length c0_2) l0_2) (h : queue_Advance.f k a0_0 a0_1 l0_2 a1 = some (r1, r2, r3, r4, r5)) :
 Calls Try.prog 60 #[.agg #[.int .i64 a0_0, .int .i64 a0_1, .slice A0_2 l0_2.length c0_2], .int .i64 a1] w fun e w' => ∃ v2_ v3_ : Value, e = .returned (.tuple #[.agg #[.int .i64 r1, .int .i64 r2, v2_], v3_, .int .i64 r5]) ∧ Kd.V k24 24 w' w.heap.size (fun k_ => (P0_2_ k_ ∨ w.heap.size ≤ k_) ∧ some k_ ≠ (v3_ : Value).ownBlock) v2_ r3 ∧ Kd.R k24 24 w' w.heap.size (fun k_ => (w.heap.size ≤ k_)) v3_ r4 ∧ Below w.heap.size w w' := by
 have hu46 := Try.underlying46
 have hu24 := Try.underlying24
 have HO0_2 := A_ (show Kd.V k24 24 w w.heap.size (fun k_ => (P0_2_ k_ ∨ w.heap.size ≤ k_)) (.slice A0_2 l0_2.length c0_2) l0_2 from Kd.V_mono hs0_2 (fun k_ hk => .inl hk))
 have HB := A_ (Below.refl w.heap.size w)
 have H : ((queue_in.f a1 0 4294967295).bind fun t176 => (if t176 = true then (if a1 < a0_1 then (some (a0_0, a0_1, l0_2, ([] : List (S24)), 3)) else (queue_Advance.l0 k a1 ([] : List (S24)) ([] : List (S24)) l0_2 (l0_2.length : Int) 0 a0_0 a0_1 l0_2)) else (some (a0_0, a0_1, l0_2, ([] : List (S24)), 1)))) = some (r1, r2, r3, r4, r5) := h
 clear h
 replace H := Option.bind_eq_some_iff.mp H
 obtain ⟨t176, A30, H⟩ := H
 replace H : (if t176 = true then (if a1 < a0_1 then (some (a0_0, a0_1, l0_2, ([] : List (S24)), 3)) else (queue_Advance.l0 k a1 ([] : List (S24)) ([] : List (S24)) l0_2 (l0_2.length : Int) 0 a0_0 a0_1 l0_2)) else (some (a0_0, a0_1, l0_2, ([] : List (S24)), 1))) = some (r1, r2, r3, r4, r5) := H
 have A3 := A_ A30
 clear A30
 by_cases c4 : t176 = true
 · subst c4
   have H1 : (if a1 < a0_1 then (some (a0_0, a0_1, l0_2, ([] : List (S24)), 3)) else (queue_Advance.l0 k a1 ([] : List (S24)) ([] : List (S24)) l0_2 (l0_2.length : Int) 0 a0_0 a0_1 l0_2)) = some (r1, r2, r3, r4, r5) := by rw [if_pos rfl] at H; exact H
   clear H
   have H := H1
   clear H1
   by_cases c5 : a1 < a0_1
   · rw [if_pos c5] at H
     have c5b0 : decide (a1 < a0_1) = true := decide_eq_true c5
     clear c5
     simp only [Option.some.injEq, Prod.mk.injEq] at H
     obtain ⟨rfl, rfl, rfl, rfl, rfl⟩ := H
     go_enter Try.func60, Try.ntmps60
     go_wp2_with (first | ((with_reducible refine gate_dst (N := 2) rfl ?_); refine box_event ?hg (N := 2) ?hd (cs := #[.int .i64 a0_0, .int .i64 a0_1, .slice A0_2 l0_2.length c0_2]) (t := 46) ?hr ?_; (case hd => rfl); (case hg => rfl); (case hr => first | (go_simp; done) | (go_simp; rfl)); intro gb174 hg w6 hbox hb; have n0_ := A_ (Kd.V_below (Kd.V_elderB (by (with_reducible repeat (first | apply Kd.V_alloc | apply Kd.V_drewN | apply Kd.V_drew)); exact HO0_2.out) gb174 (Nat.le_of_eq hg.symm)) hb); have n1_ := A_ (below_step bw_ hb); have n2_ := A_ (hbox); have n3_ := A_ (gz_ (w := w) hg); have n4_ := A_ (gz_ (w := w) hg); replace HO0_2 := n0_; replace HB := n1_; have BK174 := n2_; have GW174 := n3_; have GE174 := n4_; clear n0_ n1_ n2_ n3_ n4_; clear hb hbox hg) | ((with_reducible refine gate_dst (N := 4) rfl ?_); refine box_event ?hg (N := 4) ?hd (cs := #[.int .i64 0, .int .i64 0, .slice none 0 0]) (t := 46) ?hr ?_; (case hd => rfl); (case hg => rfl); (case hr => first | (go_simp; done) | (go_simp; rfl)); intro gb175 hg w7 hbox hb; have n0_ := A_ (Kd.V_below (Kd.V_elderB (by (with_reducible repeat (first | apply Kd.V_alloc | apply Kd.V_drewN | apply Kd.V_drew)); exact HO0_2.out) gb175 (Nat.le_of_eq hg.symm)) hb); have n1_ := A_ (kb_ BK174 hb); have n2_ := A_ (below_step bw_ hb); have n3_ := A_ (hbox); have n4_ := A_ (gz_ (w := w) hg); have n5_ := A_ (gz_ (w := w) hg); have n6_ := A_ (nl_ BK174 hg); have n7_ := A_ (ng_ BK174 hg); replace HO0_2 := n0_; replace BK174 := n1_; replace HB := n2_; have BK175 := n3_; have GW175 := n4_; have GE175 := n5_; have NB174_175 := n6_; have NB175_174 := n7_; clear n0_ n1_ n2_ n3_ n4_ n5_ n6_ n7_; clear hb hbox hg) | ((with_reducible refine gate_callee (f := 101) rfl ?_); refine goesL_ (some 13) rfl rfl Try.func101 (by kernel_rfl) rfl #[.int .i64 a1, .int .i64 0, .int .i64 4294967295] rfl (by (try simp only [m0_, m1_, m2_]); first | done | rfl) ?_; (with_reducible refine (queue_in.calls a1 0 4294967295 true _ A3.out).mono ?_); rintro e w' ⟨rfl, ⟨nd, rfl⟩⟩; refine ⟨_, rfl, ?_⟩; (try (rw [drewN_self w7]; generalize hq_ : World.drewN w7 _ = w7; have n0_ : Aside0 (Kd.V k24 24 w7 w.heap.size (fun k_ => (P0_2_ k_ ∨ w.heap.size ≤ k_) ∧ k_ ≠ gb174 ∧ k_ ≠ gb175) (.slice A0_2 l0_2.length c0_2) l0_2) := ⟨by rw [← hq_]; exact (by (with_reducible repeat (first | apply Kd.V_alloc | apply Kd.V_drewN | apply Kd.V_drew)); exact Kd.V_mono HO0_2.out (fun _ hk => ⟨hk.1.1, ⟨hk.1.2, hk.2⟩⟩))⟩; have n1_ : Aside0 (w7.heap[gb174]? = some (.cells #[.int .i64 a0_0, .int .i64 a0_1, .slice A0_2 l0_2.length c0_2] 46 (0, 0))) := ⟨by rw [← hq_]; exact (by (with_reducible repeat (first | refine bn_ ?_ _ | refine bd_ ?_ | refine ba_ ?_ _)); exact BK174.out)⟩; have n2_ : Aside0 (w7.heap[gb175]? = some (.cells #[.int .i64 0, .int .i64 0, .slice none 0 0] 46 (0, 0))) := ⟨by rw [← hq_]; exact (by (with_reducible repeat (first | refine bn_ ?_ _ | refine bd_ ?_ | refine ba_ ?_ _)); exact BK175.out)⟩; have n3_ : Aside0 (Below w.heap.size w w7) := ⟨by rw [← hq_]; exact bw_⟩; clear HO0_2 BK174 BK175 HB hq_; have HO0_2 := n0_; have BK174 := n1_; have BK175 := n2_; have HB := n3_; clear n0_ n1_ n2_ n3_)); have hnb8 := NB174_175.out; have hnc8 := NB175_174.out; have hcz9_0 : w7.cell? ⟨gb174, 0, none⟩ = some (.int .i64 a0_0) := e_ BK174 0; have hcz9_1 : w7.cell? ⟨gb174, 1, none⟩ = some (.int .i64 a0_1) := e_ BK174 1; have hcz9_2 : w7.cell? ⟨gb174, 2, none⟩ = some (.slice A0_2 l0_2.length c0_2) := e_ BK174 2; obtain ⟨hfz9_0, hfz9_1, hfz9_2⟩ := z3_ BK174; have hcz10_0 : w7.cell? ⟨gb175, 0, none⟩ = some (.int .i64 0) := e_ BK175 0; have hcz10_1 : w7.cell? ⟨gb175, 1, none⟩ = some (.int .i64 0) := e_ BK175 1; have hcz10_2 : w7.cell? ⟨gb175, 2, none⟩ = some (.slice none 0 0) := e_ BK175 2; obtain ⟨hfz10_0, hfz10_1, hfz10_2⟩ := z3_ BK175))
     refine bodyPost_ret (results_ctt rfl _ _ gb175 46 #[.int .i64 a0_0, .int .i64 a0_1, .slice A0_2 l0_2.length c0_2] (0, 0) _ rfl (by exact pk_ (b3_ BK175.out)) Try.underlying46 rfl (by kernel_rfl)) rfl ?_
     exact ⟨_, _, by first | rfl | (simp [errW_none, errW_some] <;> rfl) | (simp [*, errW_none, errW_some] <;> rfl), by (with_reducible repeat (first | apply Kd.V_alloc | apply Kd.V_drewN | apply Kd.V_drew)); exact Kd.V_mono (Kd.V_far (p := ⟨gb175, 2, none⟩) (Kd.V_far (p := ⟨gb175, 1, none⟩) (Kd.V_far (p := ⟨gb175, 0, none⟩) (Kd.V_mono HO0_2.out (fun k_ hk => (⟨hk, hk.2.2⟩ : _ ∧ k_ ≠ gb175))) (fun _ hk => hk.2) (.int .i64 a0_0)) (fun _ hk => hk.2) (.int .i64 a0_1)) (fun _ hk => hk.2) (.slice A0_2 l0_2.length c0_2)) (fun _ hk => ⟨hk.1.1, (by simp [Value.ownBlock])⟩), by first | exact Kd.R_nil _ _ _ _ _ | exact Kd.N_nil _ _ _ _ _ | exact Kd.V_nil _ _ _ _ _ | exact Kd.Q_nil _ _ _ _ _ | exact Kd.S_nil _ _ _ _ _, by repeat (first | (with_reducible first | exact HB.out | apply wa_ | apply wn_ | apply wd_ | refine ws_ ?_ GE174.out | refine ws_ ?_ GE175.out) | exact HB.out)⟩
   rw [if_neg c5] at H
   have c5b0 : decide (a1 < a0_1) = false := decide_eq_false c5
   clear c5
   have H' := A_ H
   clear H
   go_enter Try.func60, Try.ntmps60
   go_wp2_with (first | ((with_reducible refine gate_dst (N := 2) rfl ?_); refine box_event ?hg (N := 2) ?hd (cs := #[.int .i64 a0_0, .int .i64 a0_1, .slice A0_2 l0_2.length c0_2]) (t := 46) ?hr ?_; (case hd => rfl); (case hg => rfl); (case hr => first | (go_simp; done) | (go_simp; rfl)); intro gb174 hg w11 hbox hb; have n0_ := A_ (Kd.V_below (Kd.V_elderB (by (with_reducible repeat (first | apply Kd.V_alloc | apply Kd.V_drewN | apply Kd.V_drew)); exact HO0_2.out) gb174 (Nat.le_of_eq hg.symm)) hb); have n1_ := A_ (below_step bw_ hb); have n2_ := A_ (hbox); have n3_ := A_ (gz_ (w := w) hg); have n4_ := A_ (gz_ (w := w) hg); replace HO0_2 := n0_; replace HB := n1_; have BK174 := n2_; have GW174 := n3_; have GE174 := n4_; clear n0_ n1_ n2_ n3_ n4_; clear hb hbox hg) | ((with_reducible refine gate_dst (N := 4) rfl ?_); refine box_event ?hg (N := 4) ?hd (cs := #[.int .i64 0, .int .i64 0, .slice none 0 0]) (t := 46) ?hr ?_; (case hd => rfl); (case hg => rfl); (case hr => first | (go_simp; done) | (go_simp; rfl)); intro gb175 hg w12 hbox hb; have n0_ := A_ (Kd.V_below (Kd.V_elderB (by (with_reducible repeat (first | apply Kd.V_alloc | apply Kd.V_drewN | apply Kd.V_drew)); exact HO0_2.out) gb175 (Nat.le_of_eq hg.symm)) hb); have n1_ := A_ (kb_ BK174 hb); have n2_ := A_ (below_step bw_ hb); have n3_ := A_ (hbox); have n4_ := A_ (gz_ (w := w) hg); have n5_ := A_ (gz_ (w := w) hg); have n6_ := A_ (nl_ BK174 hg); have n7_ := A_ (ng_ BK174 hg); replace HO0_2 := n0_; replace BK174 := n1_; replace HB := n2_; have BK175 := n3_; have GW175 := n4_; have GE175 := n5_; have NB174_175 := n6_; have NB175_174 := n7_; clear n0_ n1_ n2_ n3_ n4_ n5_ n6_ n7_; clear hb hbox hg) | ((with_reducible refine gate_callee (f := 101) rfl ?_); refine goesL_ (some 13) rfl rfl Try.func101 (by kernel_rfl) rfl #[.int .i64 a1, .int .i64 0, .int .i64 4294967295] rfl (by (try simp only [m0_, m1_, m2_]); first | done | rfl) ?_; (with_reducible refine (queue_in.calls a1 0 4294967295 true _ A3.out).mono ?_); rintro e w' ⟨rfl, ⟨nd, rfl⟩⟩; refine ⟨_, rfl, ?_⟩; have hnb13 := NB174_175.out; have hnc13 := NB175_174.out; have hcz14_0 : w12.cell? ⟨gb174, 0, none⟩ = some (.int .i64 a0_0) := e_ BK174 0; have hcz14_1 : w12.cell? ⟨gb174, 1, none⟩ = some (.int .i64 a0_1) := e_ BK174 1; have hcz14_2 : w12.cell? ⟨gb174, 2, none⟩ = some (.slice A0_2 l0_2.length c0_2) := e_ BK174 2; obtain ⟨hfz14_0, hfz14_1, hfz14_2⟩ := z3_ BK174))
   go_loopg [7, 8, 25] k (fun kq v7 v8 v25 w' => ∃ (x7_1 : List (S24)) (x8_1 : List (S24)) (x25_1 : Int), v25 = .int .i64 x25_1 ∧ Aside0 (queue_Advance.l0 kq a1 x7_1 x8_1 l0_2 (l0_2.length : Int) x25_1 a0_0 a0_1 l0_2 = some (r1, r2, r3, r4, r5)) ∧ Aside0 (kq ≤ k) ∧ Aside0 (Kd.R k24 24 w' w.heap.size (fun k_ => (w.heap.size ≤ k_) ∧ some k_ ≠ (v8 : Value).ownBlock) v7 x7_1) ∧ Aside0 (Kd.R k24 24 w' w.heap.size (fun k_ => (w.heap.size ≤ k_) ∧ some k_ ≠ (v7 : Value).ownBlock) v8 x8_1) ∧ Aside0 (Kd.V k24 24 w' w.heap.size (fun k_ => (P0_2_ k_ ∨ w.heap.size ≤ k_) ∧ some k_ ≠ (v7 : Value).ownBlock ∧ some k_ ≠ (v8 : Value).ownBlock ∧ k_ ≠ gb174 ∧ k_ ≠ gb175) (.slice A0_2 l0_2.length c0_2) l0_2) ∧ Aside0 (Kd.V k24 24 w' w.heap.size (fun k_ => (P0_2_ k_ ∨ w.heap.size ≤ k_) ∧ some k_ ≠ (v7 : Value).ownBlock ∧ some k_ ≠ (v8 : Value).ownBlock ∧ k_ ≠ gb174 ∧ k_ ≠ gb175) (.slice A0_2 l0_2.length c0_2) l0_2) ∧ Aside0 (w'.heap[gb174]? = some (.cells #[.int .i64 a0_0, .int .i64 a0_1, (.slice A0_2 l0_2.length c0_2)] 46 (0, 0))) ∧ Aside0 (w'.heap[gb175]? = some (.cells #[.int .i64 0, .int .i64 0, (.slice none 0 0)] 46 (0, 0))) ∧ Aside0 (Below w.heap.size w w'))
   case atStart => exact ⟨(([] : List (S24))), (([] : List (S24))), (0), (by first | rfl | (simp; done) | (simp [*]; done)), H', ⟨Nat.le_refl _⟩, ⟨by first | exact Kd.R_nil _ _ _ _ _ | exact Kd.N_nil _ _ _ _ _ | exact Kd.V_nil _ _ _ _ _ | exact Kd.Q_nil _ _ _ _ _ | exact Kd.S_nil _ _ _ _ _⟩, ⟨by first | exact Kd.R_nil _ _ _ _ _ | exact Kd.N_nil _ _ _ _ _ | exact Kd.V_nil _ _ _ _ _ | exact Kd.Q_nil _ _ _ _ _ | exact Kd.S_nil _ _ _ _ _⟩, ⟨by (with_reducible repeat (first | apply Kd.V_alloc | apply Kd.V_drewN | apply Kd.V_drew)); exact Kd.V_mono HO0_2.out (fun _ hk => ⟨hk.1.1, ⟨(by simp [Value.ownBlock]), ⟨(by simp [Value.ownBlock]), ⟨hk.1.2, hk.2⟩⟩⟩⟩)⟩, ⟨by (with_reducible repeat (first | apply Kd.V_alloc | apply Kd.V_drewN | apply Kd.V_drew)); exact Kd.V_mono HO0_2.out (fun _ hk => ⟨hk.1.1, ⟨(by simp [Value.ownBlock]), ⟨(by simp [Value.ownBlock]), ⟨hk.1.2, hk.2⟩⟩⟩⟩)⟩, ⟨bk_⟩, ⟨bk_⟩, ⟨by repeat (first | (with_reducible first | exact HB.out | apply wa_ | apply wn_ | apply wd_ | refine ws_ ?_ GE174.out | refine ws_ ?_ GE175.out) | exact HB.out)⟩⟩
   case round =>
    clear H'; (try clear c1); (try clear p2); (try clear c4); (try clear c5); (try clear c5b0); (try clear c6); (try clear c8); (try clear c10); (try clear c13); (try clear hcz10_0 hcz10_1 hcz10_2); (try clear hcz14_0 hcz14_1 hcz14_2); (try clear hcz9_0 hcz9_1 hcz9_2); (try clear hfz10_0 hfz10_1 hfz10_2); (try clear hfz14_0 hfz14_1 hfz14_2); (try clear hfz9_0 hfz9_1 hfz9_2)
    obtain ⟨x7_1, x8_1, x25_1, rfl, HA, HK1, HO_7, HO_8, HO_23, HO_175002, BK174, BK175, HB⟩ := hrel
    cases gk with
    | zero => exact absurd HA.out (by simp [queue_Advance.l0])
    | succ k1 =>
     have H := HA.out
     clear HA
     simp only [queue_Advance.l0] at H
     by_cases c15 : x25_1 < (l0_2.length : Int)
     · rw [if_pos c15] at H
       have c15b0 : decide (x25_1 < (l0_2.length : Int)) = true := decide_eq_true c15
       clear c15
       by_cases c16 : 0 ≤ x25_1
       rotate_left
       · rw [if_neg c16] at H
         exact absurd H (by simp)
       rw [if_pos c16] at H
       have c16b0 : decide (0 ≤ x25_1) = true := decide_eq_true c16
       clear c16
       by_cases c17 : x25_1 < (l0_2.length : Int)
       rotate_left
       · rw [if_neg c17] at H
         exact absurd H (by simp)
       rw [if_pos c17] at H
       have c17b0 : decide (x25_1 < (l0_2.length : Int)) = true := decide_eq_true c17
       clear c17
       by_cases c18 : ((rd_T24 l0_2 x25_1).f1) < a1
       · rw [if_pos c18] at H
         have c18b0 : decide (((rd_T24 l0_2 x25_1).f1) < a1) = true := decide_eq_true c18
         clear c18
         by_cases c19 : x8_1.length < 2513169434916
         rotate_left
         · rw [if_neg c19] at H
           exact absurd H (by simp)
         rw [if_pos c19] at H
         have LMc19 := A_ c19
         clear c19
         obtain ⟨y179, hy179⟩ : ∃ y_ : List (S24), y_ = (x8_1 ++ [(⟨(rd_T24 l0_2 x25_1).f0, (rd_T24 l0_2 x25_1).f1, (rd_T24 l0_2 x25_1).f2, (rd_T24 l0_2 x25_1).f3, (rd_T24 l0_2 x25_1).f4, (rd_T24 l0_2 x25_1).f5⟩ : S24)]) := ⟨_, rfl⟩
         replace H : (queue_Advance.l0 k1 a1 x7_1 y179 l0_2 (l0_2.length : Int) (wrap64 (x25_1 + 1)) a0_0 a0_1 l0_2) = some (r1, r2, r3, r4, r5) := by first | (rw [hy179]; with_reducible exact H) | (have H2_ := (Option.bind_some _ _).symm.trans H; rw [hy179]; with_reducible exact H2_) | (have H2_ := (Option.bind_some _ _).symm.trans H; with_reducible exact H2_) | with_reducible exact H | (rw [hy179]; exact H) | exact H
         have Ny179 := A_ hy179
         clear hy179
         have H' := A_ H
         clear H
         have p177 : 0 ≤ (x25_1 : Int) := of_decide_eq_true (by first | (with_reducible assumption) | assumption)
         have q177 : x25_1 < (l0_2.length : Int) := of_decide_eq_true (by first | (with_reducible assumption) | assumption)
         obtain ⟨ad177, e177, hx177_0, hx177_1, hx177_2, hx177_3, hx177_4, hx177_5⟩ := at_T24 (Kd.V_reads' HO_23.out).2.2 x25_1 p177 q177
         cases e177
         replace p177 := eq_true p177
         replace q177 := eq_true q177
         go_wp2_with (first | ((with_reducible refine gate_dst (N := 10) rfl ?_); refine box_event ?hg (N := 10) ?hd (cs := #[.int .i64 0, .int .i64 0, .int .i64 0, .int .i64 0, .int .i64 0, .string (⟨#[]⟩ : ByteArray)]) (t := 24) ?hr ?_; (case hd => rfl); (case hg => rfl); (case hr => first | (go_simp; done) | (go_simp; rfl)); intro gb178 hg w20 hbox hb; have n0_ := A_ (Kd.R_below (Kd.R_elderB (pr_ HO_7.out) gb178 (Nat.le_of_eq hg.symm)) hb); have n1_ := A_ (Kd.R_below (Kd.R_elderB (pr_ HO_8.out) gb178 (Nat.le_of_eq hg.symm)) hb); have n2_ := A_ (Kd.V_below (Kd.V_elderB (pv_ HO_23.out) gb178 (Nat.le_of_eq hg.symm)) hb); have n3_ := A_ (Kd.V_below (Kd.V_elderB (pv_ HO_175002.out) gb178 (Nat.le_of_eq hg.symm)) hb); have n4_ := A_ (kb_ BK174 hb); have n5_ := A_ (kb_ BK175 hb); have n6_ := A_ (below_step bw_ hb); have n7_ := A_ (hbox); have n8_ := A_ (gz_ (w := w) hg); have n9_ := A_ (gz_ (w := w) hg); have n10_ := A_ (nl_ BK174 hg); have n11_ := A_ (ng_ BK174 hg); have n12_ := A_ (nl_ BK175 hg); have n13_ := A_ (ng_ BK175 hg); replace HO_7 := n0_; replace HO_8 := n1_; replace HO_23 := n2_; replace HO_175002 := n3_; replace BK174 := n4_; replace BK175 := n5_; replace HB := n6_; have BK178 := n7_; have GW178 := n8_; have GE178 := n9_; have NB174_178 := n10_; have NB178_174 := n11_; have NB175_178 := n12_; have NB178_175 := n13_; clear n0_ n1_ n2_ n3_ n4_ n5_ n6_ n7_ n8_ n9_ n10_ n11_ n12_ n13_; clear hb hbox hg; have hnb21 := NB178_174.out; have hnc21 := NB174_178.out; have hnb22 := NB178_175.out; have hnc22 := NB175_178.out; have hcz23_0 : w20.cell? ⟨gb178, 0, none⟩ = some (.int .i64 0) := e_ BK178 0; have hcz23_1 : w20.cell? ⟨gb178, 1, none⟩ = some (.int .i64 0) := e_ BK178 1; have hcz23_2 : w20.cell? ⟨gb178, 2, none⟩ = some (.int .i64 0) := e_ BK178 2; have hcz23_3 : w20.cell? ⟨gb178, 3, none⟩ = some (.int .i64 0) := e_ BK178 3; have hcz23_4 : w20.cell? ⟨gb178, 4, none⟩ = some (.int .i64 0) := e_ BK178 4; have hcz23_5 : w20.cell? ⟨gb178, 5, none⟩ = some (.string (⟨#[]⟩ : ByteArray)) := e_ BK178 5; obtain ⟨hfz23_0, hfz23_1, hfz23_2, hfz23_3, hfz23_4, hfz23_5⟩ := z6_ BK178) | ((with_reducible refine gate_builtin (b := .append) (xs := #[.tmp 33, .tmp 35]) rfl ?_); at_builtin; refine Kd.R_append k24 (w0 := w) w.heap.size rfl (.tmp 33) (.tmp 35) 22 24 (.agg #[(.int .i64 0), (.int .i64 0), (.int .i64 0), (.int .i64 0), (.int .i64 0), (.string ⟨#[]⟩)]) 56 rfl Try.underlying22 info24 rfl (by decide) (by omega) u8 x8_1 (⟨(rd_T24 l0_2 x25_1).f0, (rd_T24 l0_2 x25_1).f1, (rd_T24 l0_2 x25_1).f2, (rd_T24 l0_2 x25_1).f3, (rd_T24 l0_2 x25_1).f4, (rd_T24 l0_2 x25_1).f5⟩ : S24) [.int .i64 ((rd_T24 l0_2 x25_1).f0), .int .i64 ((rd_T24 l0_2 x25_1).f1), .int .i64 ((rd_T24 l0_2 x25_1).f2), .int .i64 ((rd_T24 l0_2 x25_1).f3), .int .i64 ((rd_T24 l0_2 x25_1).f4), .string ((rd_T24 l0_2 x25_1).f5)] (fun k_ => (w.heap.size ≤ k_) ∧ some k_ ≠ (u7 : Value).ownBlock ∧ k_ ≠ gb178) (fun _ => False) rfl (by first | (go_simp; done) | (go_simp; rfl)) ?aP (fun _ hk => hk.elim) ?aF ?aO ?aB ?aS ?aL ?_; (case aP => exact k24_mkM _ _ _ (⟨(rd_T24 l0_2 x25_1).f0, (rd_T24 l0_2 x25_1).f1, (rd_T24 l0_2 x25_1).f2, (rd_T24 l0_2 x25_1).f3, (rd_T24 l0_2 x25_1).f4, (rd_T24 l0_2 x25_1).f5⟩ : S24)); (case aB => exact bw_); (case aF => exact (fun k_ hk => ⟨(Nat.le_trans (below_size bw_) hk), Kd.fresh' (Kd.R_lt (by (with_reducible repeat (first | apply ra_ | apply rn_ | apply rd_)); exact (Kd.R_mono (f6_ (g := gb178) (Kd.R_mono HO_7.out (fun k_ hk => (⟨hk, hk.2⟩ : _ ∧ k_ ≠ gb178))) (fun _ hk => hk.2) (.int .i64 ((rd_T24 l0_2 x25_1).f0)) (.int .i64 ((rd_T24 l0_2 x25_1).f1)) (.int .i64 ((rd_T24 l0_2 x25_1).f2)) (.int .i64 ((rd_T24 l0_2 x25_1).f3)) (.int .i64 ((rd_T24 l0_2 x25_1).f4)) (.string ((rd_T24 l0_2 x25_1).f5))) (fun _ h_ => h_.1)))) k_ hk, Kd.freshB (g := gb178) (o := .cells #[.int .i64 ((rd_T24 l0_2 x25_1).f0), .int .i64 ((rd_T24 l0_2 x25_1).f1), .int .i64 ((rd_T24 l0_2 x25_1).f2), .int .i64 ((rd_T24 l0_2 x25_1).f3), .int .i64 ((rd_T24 l0_2 x25_1).f4), .string ((rd_T24 l0_2 x25_1).f5)] 24 (0, 0)) (by exact pk_ (b6_ BK178.out)) k_ hk⟩)); (case aO => exact (by (with_reducible repeat (first | apply ra_ | apply rn_ | apply rd_)); exact Kd.R_mono (f6_ (g := gb178) (Kd.R_mono HO_8.out (fun k_ hk => (⟨hk, hk.2⟩ : _ ∧ k_ ≠ gb178))) (fun _ hk => hk.2) (.int .i64 ((rd_T24 l0_2 x25_1).f0)) (.int .i64 ((rd_T24 l0_2 x25_1).f1)) (.int .i64 ((rd_T24 l0_2 x25_1).f2)) (.int .i64 ((rd_T24 l0_2 x25_1).f3)) (.int .i64 ((rd_T24 l0_2 x25_1).f4)) (.string ((rd_T24 l0_2 x25_1).f5))) (fun _ hk => ⟨hk.1.1.1, ⟨hk.1.1.2, hk.1.2⟩⟩))); (case aS => exact (below_size bw_)); (case aL => have := LMc19.out; omega); intro v180 w24 ho hb hg hat; rw [← Ny179.out] at ho; have n0_ := A_ (Kd.R_after (ok := (fun k_ => (w.heap.size ≤ k_) ∧ k_ ≠ gb178)) (by (with_reducible repeat (first | apply ra_ | apply rn_ | apply rd_)); exact Kd.R_mono (f6_ (g := gb178) (Kd.R_mono HO_7.out (fun k_ hk => (⟨hk, hk.2⟩ : _ ∧ k_ ≠ gb178))) (fun _ hk => hk.2) (.int .i64 ((rd_T24 l0_2 x25_1).f0)) (.int .i64 ((rd_T24 l0_2 x25_1).f1)) (.int .i64 ((rd_T24 l0_2 x25_1).f2)) (.int .i64 ((rd_T24 l0_2 x25_1).f3)) (.int .i64 ((rd_T24 l0_2 x25_1).f4)) (.string ((rd_T24 l0_2 x25_1).f5))) (fun _ hk => ⟨⟨hk.1.1.1, hk.1.2⟩, hk.1.1.2⟩)) hg hat); have n1_ := A_ (Kd.V_afterv (ok := (fun k_ => (P0_2_ k_ ∨ w.heap.size ≤ k_) ∧ some k_ ≠ (u7 : Value).ownBlock ∧ k_ ≠ gb174 ∧ k_ ≠ gb175 ∧ k_ ≠ gb178)) (by (with_reducible repeat (first | apply Kd.V_alloc | apply Kd.V_drewN | apply Kd.V_drew)); exact Kd.V_mono (Kd.V_far (p := ⟨gb178, 5, none⟩) (Kd.V_far (p := ⟨gb178, 4, none⟩) (Kd.V_far (p := ⟨gb178, 3, none⟩) (Kd.V_far (p := ⟨gb178, 2, none⟩) (Kd.V_far (p := ⟨gb178, 1, none⟩) (Kd.V_far (p := ⟨gb178, 0, none⟩) (Kd.V_mono HO_23.out (fun k_ hk => (⟨hk, hk.2⟩ : _ ∧ k_ ≠ gb178))) (fun _ hk => hk.2) (.int .i64 ((rd_T24 l0_2 x25_1).f0))) (fun _ hk => hk.2) (.int .i64 ((rd_T24 l0_2 x25_1).f1))) (fun _ hk => hk.2) (.int .i64 ((rd_T24 l0_2 x25_1).f2))) (fun _ hk => hk.2) (.int .i64 ((rd_T24 l0_2 x25_1).f3))) (fun _ hk => hk.2) (.int .i64 ((rd_T24 l0_2 x25_1).f4))) (fun _ hk => hk.2) (.string ((rd_T24 l0_2 x25_1).f5))) (fun _ hk => ⟨⟨hk.1.1.1, ⟨hk.1.1.2.1, ⟨hk.1.1.2.2.2.1, ⟨hk.1.1.2.2.2.2, hk.1.2⟩⟩⟩⟩, hk.1.1.2.2.1⟩)) hg hat); have n2_ := A_ (Kd.V_afterv (ok := (fun k_ => (P0_2_ k_ ∨ w.heap.size ≤ k_) ∧ some k_ ≠ (u7 : Value).ownBlock ∧ k_ ≠ gb174 ∧ k_ ≠ gb175 ∧ k_ ≠ gb178)) (by (with_reducible repeat (first | apply Kd.V_alloc | apply Kd.V_drewN | apply Kd.V_drew)); exact Kd.V_mono (Kd.V_far (p := ⟨gb178, 5, none⟩) (Kd.V_far (p := ⟨gb178, 4, none⟩) (Kd.V_far (p := ⟨gb178, 3, none⟩) (Kd.V_far (p := ⟨gb178, 2, none⟩) (Kd.V_far (p := ⟨gb178, 1, none⟩) (Kd.V_far (p := ⟨gb178, 0, none⟩) (Kd.V_mono HO_175002.out (fun k_ hk => (⟨hk, hk.2⟩ : _ ∧ k_ ≠ gb178))) (fun _ hk => hk.2) (.int .i64 ((rd_T24 l0_2 x25_1).f0))) (fun _ hk => hk.2) (.int .i64 ((rd_T24 l0_2 x25_1).f1))) (fun _ hk => hk.2) (.int .i64 ((rd_T24 l0_2 x25_1).f2))) (fun _ hk => hk.2) (.int .i64 ((rd_T24 l0_2 x25_1).f3))) (fun _ hk => hk.2) (.int .i64 ((rd_T24 l0_2 x25_1).f4))) (fun _ hk => hk.2) (.string ((rd_T24 l0_2 x25_1).f5))) (fun _ hk => ⟨⟨hk.1.1.1, ⟨hk.1.1.2.1, ⟨hk.1.1.2.2.2.1, ⟨hk.1.1.2.2.2.2, hk.1.2⟩⟩⟩⟩, hk.1.1.2.2.1⟩)) hg hat); have n3_ := A_ (blk_grown (g := gb174) (o := .cells #[.int .i64 a0_0, .int .i64 a0_1, .slice (some ad177) l0_2.length c0_2] 46 (0, 0)) bk_ hg (Kd.R_ne HO_8.out BK174.out (by decide))); have n4_ := A_ (blk_grown (g := gb175) (o := .cells #[.int .i64 0, .int .i64 0, .slice none 0 0] 46 (0, 0)) bk_ hg (Kd.R_ne HO_8.out BK175.out (by decide))); have n5_ := A_ (blk_grown (g := gb178) (o := .cells #[.int .i64 ((rd_T24 l0_2 x25_1).f0), .int .i64 ((rd_T24 l0_2 x25_1).f1), .int .i64 ((rd_T24 l0_2 x25_1).f2), .int .i64 ((rd_T24 l0_2 x25_1).f3), .int .i64 ((rd_T24 l0_2 x25_1).f4), .string ((rd_T24 l0_2 x25_1).f5)] 24 (0, 0)) (by exact pk_ (b6_ BK178.out)) hg (Kd.R_away HO_8.out (fun _ hk => hk.2))); have n6_ := A_ (hb); have n7_ := A_ (ho); clear HO_8; replace HO_7 := n0_; replace HO_23 := n1_; replace HO_175002 := n2_; replace BK174 := n3_; replace BK175 := n4_; replace BK178 := n5_; replace HB := n6_; have HO181 := n7_; clear n0_ n1_ n2_ n3_ n4_ n5_ n6_ n7_; clear ho hb hg hat))
         go_roundg k1
         case measure => have := HK1.out; omega
         case rel => exact ⟨(x7_1), (y179), (wrap64 (x25_1 + 1)), (by first | rfl | (simp; done) | (simp [*]; done)), H', ⟨by have := HK1.out; omega⟩, ⟨by (with_reducible repeat (first | apply ra_ | apply rn_ | apply rd_)); exact Kd.R_mono HO_7.out (fun _ hk => ⟨hk.1.1, hk.2⟩)⟩, ⟨by (with_reducible repeat (first | apply ra_ | apply rn_ | apply rd_)); exact Kd.R_mono HO181.out (fun _ hk => ⟨hk.1, hk.2.1⟩)⟩, ⟨by (with_reducible repeat (first | apply Kd.V_alloc | apply Kd.V_drewN | apply Kd.V_drew)); exact Kd.V_mono HO_23.out (fun _ hk => ⟨hk.1.1, ⟨hk.1.2.1, ⟨hk.2, ⟨hk.1.2.2.1, hk.1.2.2.2.1⟩⟩⟩⟩)⟩, ⟨by (with_reducible repeat (first | apply Kd.V_alloc | apply Kd.V_drewN | apply Kd.V_drew)); exact Kd.V_mono HO_175002.out (fun _ hk => ⟨hk.1.1, ⟨hk.1.2.1, ⟨hk.2, ⟨hk.1.2.2.1, hk.1.2.2.2.1⟩⟩⟩⟩)⟩, ⟨bk_⟩, ⟨bk_⟩, ⟨by repeat (first | (with_reducible first | exact HB.out | apply wa_ | apply wn_ | apply wd_ | refine ws_ ?_ GE174.out | refine ws_ ?_ GE175.out | refine ws_ ?_ GE178.out) | exact HB.out)⟩⟩
       · rw [if_neg c18] at H
         have c18b0 : decide (((rd_T24 l0_2 x25_1).f1) < a1) = false := decide_eq_false c18
         clear c18
         by_cases c25 : x7_1.length < 2513169434916
         rotate_left
         · rw [if_neg c25] at H
           exact absurd H (by simp)
         rw [if_pos c25] at H
         have LMc25 := A_ c25
         clear c25
         obtain ⟨y182, hy182⟩ : ∃ y_ : List (S24), y_ = (x7_1 ++ [(⟨(rd_T24 l0_2 x25_1).f0, (rd_T24 l0_2 x25_1).f1, (rd_T24 l0_2 x25_1).f2, (rd_T24 l0_2 x25_1).f3, (rd_T24 l0_2 x25_1).f4, (rd_T24 l0_2 x25_1).f5⟩ : S24)]) := ⟨_, rfl⟩
         replace H : (queue_Advance.l0 k1 a1 y182 x8_1 l0_2 (l0_2.length : Int) (wrap64 (x25_1 + 1)) a0_0 a0_1 l0_2) = some (r1, r2, r3, r4, r5) := by first | (rw [hy182]; with_reducible exact H) | (have H2_ := (Option.bind_some _ _).symm.trans H; rw [hy182]; with_reducible exact H2_) | (have H2_ := (Option.bind_some _ _).symm.trans H; with_reducible exact H2_) | with_reducible exact H | (rw [hy182]; exact H) | exact H
         have Ny182 := A_ hy182
         clear hy182
         have H' := A_ H
         clear H
         have p177 : 0 ≤ (x25_1 : Int) := of_decide_eq_true (by first | (with_reducible assumption) | assumption)
         have q177 : x25_1 < (l0_2.length : Int) := of_decide_eq_true (by first | (with_reducible assumption) | assumption)
         obtain ⟨ad177, e177, hx177_0, hx177_1, hx177_2, hx177_3, hx177_4, hx177_5⟩ := at_T24 (Kd.V_reads' HO_23.out).2.2 x25_1 p177 q177
         cases e177
         replace p177 := eq_true p177
         replace q177 := eq_true q177
         go_wp2_with (first | ((with_reducible refine gate_dst (N := 10) rfl ?_); refine box_event ?hg (N := 10) ?hd (cs := #[.int .i64 0, .int .i64 0, .int .i64 0, .int .i64 0, .int .i64 0, .string (⟨#[]⟩ : ByteArray)]) (t := 24) ?hr ?_; (case hd => rfl); (case hg => rfl); (case hr => first | (go_simp; done) | (go_simp; rfl)); intro gb178 hg w26 hbox hb; have n0_ := A_ (Kd.R_below (Kd.R_elderB (pr_ HO_7.out) gb178 (Nat.le_of_eq hg.symm)) hb); have n1_ := A_ (Kd.R_below (Kd.R_elderB (pr_ HO_8.out) gb178 (Nat.le_of_eq hg.symm)) hb); have n2_ := A_ (Kd.V_below (Kd.V_elderB (pv_ HO_23.out) gb178 (Nat.le_of_eq hg.symm)) hb); have n3_ := A_ (Kd.V_below (Kd.V_elderB (pv_ HO_175002.out) gb178 (Nat.le_of_eq hg.symm)) hb); have n4_ := A_ (kb_ BK174 hb); have n5_ := A_ (kb_ BK175 hb); have n6_ := A_ (below_step bw_ hb); have n7_ := A_ (hbox); have n8_ := A_ (gz_ (w := w) hg); have n9_ := A_ (gz_ (w := w) hg); have n10_ := A_ (nl_ BK174 hg); have n11_ := A_ (ng_ BK174 hg); have n12_ := A_ (nl_ BK175 hg); have n13_ := A_ (ng_ BK175 hg); replace HO_7 := n0_; replace HO_8 := n1_; replace HO_23 := n2_; replace HO_175002 := n3_; replace BK174 := n4_; replace BK175 := n5_; replace HB := n6_; have BK178 := n7_; have GW178 := n8_; have GE178 := n9_; have NB174_178 := n10_; have NB178_174 := n11_; have NB175_178 := n12_; have NB178_175 := n13_; clear n0_ n1_ n2_ n3_ n4_ n5_ n6_ n7_ n8_ n9_ n10_ n11_ n12_ n13_; clear hb hbox hg; have hnb27 := NB178_174.out; have hnc27 := NB174_178.out; have hnb28 := NB178_175.out; have hnc28 := NB175_178.out; have hcz29_0 : w26.cell? ⟨gb178, 0, none⟩ = some (.int .i64 0) := e_ BK178 0; have hcz29_1 : w26.cell? ⟨gb178, 1, none⟩ = some (.int .i64 0) := e_ BK178 1; have hcz29_2 : w26.cell? ⟨gb178, 2, none⟩ = some (.int .i64 0) := e_ BK178 2; have hcz29_3 : w26.cell? ⟨gb178, 3, none⟩ = some (.int .i64 0) := e_ BK178 3; have hcz29_4 : w26.cell? ⟨gb178, 4, none⟩ = some (.int .i64 0) := e_ BK178 4; have hcz29_5 : w26.cell? ⟨gb178, 5, none⟩ = some (.string (⟨#[]⟩ : ByteArray)) := e_ BK178 5; obtain ⟨hfz29_0, hfz29_1, hfz29_2, hfz29_3, hfz29_4, hfz29_5⟩ := z6_ BK178) | ((with_reducible refine gate_builtin (b := .append) (xs := #[.tmp 37, .tmp 39]) rfl ?_); at_builtin; refine Kd.R_append k24 (w0 := w) w.heap.size rfl (.tmp 37) (.tmp 39) 22 24 (.agg #[(.int .i64 0), (.int .i64 0), (.int .i64 0), (.int .i64 0), (.int .i64 0), (.string ⟨#[]⟩)]) 56 rfl Try.underlying22 info24 rfl (by decide) (by omega) u7 x7_1 (⟨(rd_T24 l0_2 x25_1).f0, (rd_T24 l0_2 x25_1).f1, (rd_T24 l0_2 x25_1).f2, (rd_T24 l0_2 x25_1).f3, (rd_T24 l0_2 x25_1).f4, (rd_T24 l0_2 x25_1).f5⟩ : S24) [.int .i64 ((rd_T24 l0_2 x25_1).f0), .int .i64 ((rd_T24 l0_2 x25_1).f1), .int .i64 ((rd_T24 l0_2 x25_1).f2), .int .i64 ((rd_T24 l0_2 x25_1).f3), .int .i64 ((rd_T24 l0_2 x25_1).f4), .string ((rd_T24 l0_2 x25_1).f5)] (fun k_ => (w.heap.size ≤ k_) ∧ some k_ ≠ (u8 : Value).ownBlock ∧ k_ ≠ gb178) (fun _ => False) rfl (by first | (go_simp; done) | (go_simp; rfl)) ?aP (fun _ hk => hk.elim) ?aF ?aO ?aB ?aS ?aL ?_; (case aP => exact k24_mkM _ _ _ (⟨(rd_T24 l0_2 x25_1).f0, (rd_T24 l0_2 x25_1).f1, (rd_T24 l0_2 x25_1).f2, (rd_T24 l0_2 x25_1).f3, (rd_T24 l0_2 x25_1).f4, (rd_T24 l0_2 x25_1).f5⟩ : S24)); (case aB => exact bw_); (case aF => exact (fun k_ hk => ⟨(Nat.le_trans (below_size bw_) hk), Kd.fresh' (Kd.R_lt (by (with_reducible repeat (first | apply ra_ | apply rn_ | apply rd_)); exact (Kd.R_mono (f6_ (g := gb178) (Kd.R_mono HO_8.out (fun k_ hk => (⟨hk, hk.2⟩ : _ ∧ k_ ≠ gb178))) (fun _ hk => hk.2) (.int .i64 ((rd_T24 l0_2 x25_1).f0)) (.int .i64 ((rd_T24 l0_2 x25_1).f1)) (.int .i64 ((rd_T24 l0_2 x25_1).f2)) (.int .i64 ((rd_T24 l0_2 x25_1).f3)) (.int .i64 ((rd_T24 l0_2 x25_1).f4)) (.string ((rd_T24 l0_2 x25_1).f5))) (fun _ h_ => h_.1)))) k_ hk, Kd.freshB (g := gb178) (o := .cells #[.int .i64 ((rd_T24 l0_2 x25_1).f0), .int .i64 ((rd_T24 l0_2 x25_1).f1), .int .i64 ((rd_T24 l0_2 x25_1).f2), .int .i64 ((rd_T24 l0_2 x25_1).f3), .int .i64 ((rd_T24 l0_2 x25_1).f4), .string ((rd_T24 l0_2 x25_1).f5)] 24 (0, 0)) (by exact pk_ (b6_ BK178.out)) k_ hk⟩)); (case aO => exact (by (with_reducible repeat (first | apply ra_ | apply rn_ | apply rd_)); exact Kd.R_mono (f6_ (g := gb178) (Kd.R_mono HO_7.out (fun k_ hk => (⟨hk, hk.2⟩ : _ ∧ k_ ≠ gb178))) (fun _ hk => hk.2) (.int .i64 ((rd_T24 l0_2 x25_1).f0)) (.int .i64 ((rd_T24 l0_2 x25_1).f1)) (.int .i64 ((rd_T24 l0_2 x25_1).f2)) (.int .i64 ((rd_T24 l0_2 x25_1).f3)) (.int .i64 ((rd_T24 l0_2 x25_1).f4)) (.string ((rd_T24 l0_2 x25_1).f5))) (fun _ hk => ⟨hk.1.1.1, ⟨hk.1.1.2, hk.1.2⟩⟩))); (case aS => exact (below_size bw_)); (case aL => have := LMc25.out; omega); intro v183 w30 ho hb hg hat; rw [← Ny182.out] at ho; have n0_ := A_ (Kd.R_after (ok := (fun k_ => (w.heap.size ≤ k_) ∧ k_ ≠ gb178)) (by (with_reducible repeat (first | apply ra_ | apply rn_ | apply rd_)); exact Kd.R_mono (f6_ (g := gb178) (Kd.R_mono HO_8.out (fun k_ hk => (⟨hk, hk.2⟩ : _ ∧ k_ ≠ gb178))) (fun _ hk => hk.2) (.int .i64 ((rd_T24 l0_2 x25_1).f0)) (.int .i64 ((rd_T24 l0_2 x25_1).f1)) (.int .i64 ((rd_T24 l0_2 x25_1).f2)) (.int .i64 ((rd_T24 l0_2 x25_1).f3)) (.int .i64 ((rd_T24 l0_2 x25_1).f4)) (.string ((rd_T24 l0_2 x25_1).f5))) (fun _ hk => ⟨⟨hk.1.1.1, hk.1.2⟩, hk.1.1.2⟩)) hg hat); have n1_ := A_ (Kd.V_afterv (ok := (fun k_ => (P0_2_ k_ ∨ w.heap.size ≤ k_) ∧ some k_ ≠ (u8 : Value).ownBlock ∧ k_ ≠ gb174 ∧ k_ ≠ gb175 ∧ k_ ≠ gb178)) (by (with_reducible repeat (first | apply Kd.V_alloc | apply Kd.V_drewN | apply Kd.V_drew)); exact Kd.V_mono (Kd.V_far (p := ⟨gb178, 5, none⟩) (Kd.V_far (p := ⟨gb178, 4, none⟩) (Kd.V_far (p := ⟨gb178, 3, none⟩) (Kd.V_far (p := ⟨gb178, 2, none⟩) (Kd.V_far (p := ⟨gb178, 1, none⟩) (Kd.V_far (p := ⟨gb178, 0, none⟩) (Kd.V_mono HO_23.out (fun k_ hk => (⟨hk, hk.2⟩ : _ ∧ k_ ≠ gb178))) (fun _ hk => hk.2) (.int .i64 ((rd_T24 l0_2 x25_1).f0))) (fun _ hk => hk.2) (.int .i64 ((rd_T24 l0_2 x25_1).f1))) (fun _ hk => hk.2) (.int .i64 ((rd_T24 l0_2 x25_1).f2))) (fun _ hk => hk.2) (.int .i64 ((rd_T24 l0_2 x25_1).f3))) (fun _ hk => hk.2) (.int .i64 ((rd_T24 l0_2 x25_1).f4))) (fun _ hk => hk.2) (.string ((rd_T24 l0_2 x25_1).f5))) (fun _ hk => ⟨⟨hk.1.1.1, ⟨hk.1.1.2.2.1, ⟨hk.1.1.2.2.2.1, ⟨hk.1.1.2.2.2.2, hk.1.2⟩⟩⟩⟩, hk.1.1.2.1⟩)) hg hat); have n2_ := A_ (Kd.V_afterv (ok := (fun k_ => (P0_2_ k_ ∨ w.heap.size ≤ k_) ∧ some k_ ≠ (u8 : Value).ownBlock ∧ k_ ≠ gb174 ∧ k_ ≠ gb175 ∧ k_ ≠ gb178)) (by (with_reducible repeat (first | apply Kd.V_alloc | apply Kd.V_drewN | apply Kd.V_drew)); exact Kd.V_mono (Kd.V_far (p := ⟨gb178, 5, none⟩) (Kd.V_far (p := ⟨gb178, 4, none⟩) (Kd.V_far (p := ⟨gb178, 3, none⟩) (Kd.V_far (p := ⟨gb178, 2, none⟩) (Kd.V_far (p := ⟨gb178, 1, none⟩) (Kd.V_far (p := ⟨gb178, 0, none⟩) (Kd.V_mono HO_175002.out (fun k_ hk => (⟨hk, hk.2⟩ : _ ∧ k_ ≠ gb178))) (fun _ hk => hk.2) (.int .i64 ((rd_T24 l0_2 x25_1).f0))) (fun _ hk => hk.2) (.int .i64 ((rd_T24 l0_2 x25_1).f1))) (fun _ hk => hk.2) (.int .i64 ((rd_T24 l0_2 x25_1).f2))) (fun _ hk => hk.2) (.int .i64 ((rd_T24 l0_2 x25_1).f3))) (fun _ hk => hk.2) (.int .i64 ((rd_T24 l0_2 x25_1).f4))) (fun _ hk => hk.2) (.string ((rd_T24 l0_2 x25_1).f5))) (fun _ hk => ⟨⟨hk.1.1.1, ⟨hk.1.1.2.2.1, ⟨hk.1.1.2.2.2.1, ⟨hk.1.1.2.2.2.2, hk.1.2⟩⟩⟩⟩, hk.1.1.2.1⟩)) hg hat); have n3_ := A_ (blk_grown (g := gb174) (o := .cells #[.int .i64 a0_0, .int .i64 a0_1, .slice (some ad177) l0_2.length c0_2] 46 (0, 0)) bk_ hg (Kd.R_ne HO_7.out BK174.out (by decide))); have n4_ := A_ (blk_grown (g := gb175) (o := .cells #[.int .i64 0, .int .i64 0, .slice none 0 0] 46 (0, 0)) bk_ hg (Kd.R_ne HO_7.out BK175.out (by decide))); have n5_ := A_ (blk_grown (g := gb178) (o := .cells #[.int .i64 ((rd_T24 l0_2 x25_1).f0), .int .i64 ((rd_T24 l0_2 x25_1).f1), .int .i64 ((rd_T24 l0_2 x25_1).f2), .int .i64 ((rd_T24 l0_2 x25_1).f3), .int .i64 ((rd_T24 l0_2 x25_1).f4), .string ((rd_T24 l0_2 x25_1).f5)] 24 (0, 0)) (by exact pk_ (b6_ BK178.out)) hg (Kd.R_away HO_7.out (fun _ hk => hk.2))); have n6_ := A_ (hb); have n7_ := A_ (ho); clear HO_7; replace HO_8 := n0_; replace HO_23 := n1_; replace HO_175002 := n2_; replace BK174 := n3_; replace BK175 := n4_; replace BK178 := n5_; replace HB := n6_; have HO184 := n7_; clear n0_ n1_ n2_ n3_ n4_ n5_ n6_ n7_; clear ho hb hg hat))
         go_roundg k1
         case measure => have := HK1.out; omega
         case rel => exact ⟨(y182), (x8_1), (wrap64 (x25_1 + 1)), (by first | rfl | (simp; done) | (simp [*]; done)), H', ⟨by have := HK1.out; omega⟩, ⟨by (with_reducible repeat (first | apply ra_ | apply rn_ | apply rd_)); exact Kd.R_mono HO184.out (fun _ hk => ⟨hk.1, hk.2.1⟩)⟩, ⟨by (with_reducible repeat (first | apply ra_ | apply rn_ | apply rd_)); exact Kd.R_mono HO_8.out (fun _ hk => ⟨hk.1.1, hk.2⟩)⟩, ⟨by (with_reducible repeat (first | apply Kd.V_alloc | apply Kd.V_drewN | apply Kd.V_drew)); exact Kd.V_mono HO_23.out (fun _ hk => ⟨hk.1.1, ⟨hk.2, ⟨hk.1.2.1, ⟨hk.1.2.2.1, hk.1.2.2.2.1⟩⟩⟩⟩)⟩, ⟨by (with_reducible repeat (first | apply Kd.V_alloc | apply Kd.V_drewN | apply Kd.V_drew)); exact Kd.V_mono HO_175002.out (fun _ hk => ⟨hk.1.1, ⟨hk.2, ⟨hk.1.2.1, ⟨hk.1.2.2.1, hk.1.2.2.2.1⟩⟩⟩⟩)⟩, ⟨bk_⟩, ⟨bk_⟩, ⟨by repeat (first | (with_reducible first | exact HB.out | apply wa_ | apply wn_ | apply wd_ | refine ws_ ?_ GE174.out | refine ws_ ?_ GE175.out | refine ws_ ?_ GE178.out) | exact HB.out)⟩⟩
     · rw [if_neg c15] at H
       have c15b0 : decide (x25_1 < (l0_2.length : Int)) = false := decide_eq_false c15
       clear c15
       simp only [Option.some.injEq, Prod.mk.injEq] at H
       obtain ⟨rfl, rfl, rfl, rfl, rfl⟩ := H
       have hnb31 := NB174_175.out; have hnc31 := NB175_174.out; have hcz32_0 : wr.cell? ⟨gb174, 0, none⟩ = some (.int .i64 a0_0) := e_ BK174 0; have hcz32_1 : wr.cell? ⟨gb174, 1, none⟩ = some (.int .i64 a0_1) := e_ BK174 1; have hcz32_2 : wr.cell? ⟨gb174, 2, none⟩ = some (.slice A0_2 l0_2.length c0_2) := e_ BK174 2; obtain ⟨hfz32_0, hfz32_1, hfz32_2⟩ := z3_ BK174
       obtain ⟨Ao33, co33, eo33⟩ := Kd.R_slice HO_7.out
       subst eo33
       have hcz34_0 : wr.cell? ⟨gb175, 0, none⟩ = some (.int .i64 0) := e_ BK175 0; have hcz34_1 : wr.cell? ⟨gb175, 1, none⟩ = some (.int .i64 0) := e_ BK175 1; have hcz34_2 : wr.cell? ⟨gb175, 2, none⟩ = some (.slice none 0 0) := e_ BK175 2; obtain ⟨hfz34_0, hfz34_1, hfz34_2⟩ := z3_ BK175
       go_wp2
       refine bodyPost_ret (results_ctt rfl _ _ gb175 46 #[.int .i64 a0_0, .int .i64 a1, .slice Ao33 x7_1.length co33] (0, 0) _ rfl (by (with_reducible repeat (first | refine bn_ ?_ _ | refine bd_ ?_ | refine ba_ ?_ _)); refine blk_put (cs := #[.int .i64 a0_0, .int .i64 a1, .slice none 0 0]) ?_ 2 _ rfl; (with_reducible repeat (first | refine bn_ ?_ _ | refine bd_ ?_ | refine ba_ ?_ _)); refine blk_put (cs := #[.int .i64 a0_0, .int .i64 0, .slice none 0 0]) ?_ 1 _ rfl; (with_reducible repeat (first | refine bn_ ?_ _ | refine bd_ ?_ | refine ba_ ?_ _)); refine blk_put (cs := #[.int .i64 0, .int .i64 0, .slice none 0 0]) ?_ 0 _ rfl; (with_reducible repeat (first | refine bn_ ?_ _ | refine bd_ ?_ | refine ba_ ?_ _)); refine blk_far ?_ NB175_174.out _; (with_reducible repeat (first | refine bn_ ?_ _ | refine bd_ ?_ | refine ba_ ?_ _)); refine blk_far ?_ NB175_174.out _; (with_reducible repeat (first | refine bn_ ?_ _ | refine bd_ ?_ | refine ba_ ?_ _)); exact BK175.out) Try.underlying46 rfl (by kernel_rfl)) rfl ?_
       exact ⟨_, _, by first | rfl | (simp [errW_none, errW_some] <;> rfl) | (simp [*, errW_none, errW_some] <;> rfl), Kd.V_mono (Kd.R_V (by (with_reducible repeat (first | apply ra_ | apply rn_ | apply rd_)); exact Kd.R_mono (Kd.R_far (p := ⟨gb175, 2, none⟩) (Kd.R_far (p := ⟨gb175, 1, none⟩) (Kd.R_far (p := ⟨gb175, 0, none⟩) (Kd.R_far (p := ⟨gb174, 2, none⟩) (Kd.R_far (p := ⟨gb174, 1, none⟩) (Kd.R_types (Kd.R_types HO_7.out BK174.out (by decide)) BK175.out (by decide)) (fun _ hk => hk.1.2) (.int .i64 a1)) (fun _ hk => hk.1.2) (.slice Ao33 x7_1.length co33)) (fun _ hk => hk.2) (.int .i64 a0_0)) (fun _ hk => hk.2) (.int .i64 a1)) (fun _ hk => hk.2) (.slice Ao33 x7_1.length co33)) (fun _ hk => hk.1.1))) (fun k_ hk => by first | exact ⟨(.inr (hk.1)), hk.2⟩ | exact (.inr (hk))), by (with_reducible repeat (first | apply ra_ | apply rn_ | apply rd_)); exact Kd.R_mono (Kd.R_far (p := ⟨gb175, 2, none⟩) (Kd.R_far (p := ⟨gb175, 1, none⟩) (Kd.R_far (p := ⟨gb175, 0, none⟩) (Kd.R_far (p := ⟨gb174, 2, none⟩) (Kd.R_far (p := ⟨gb174, 1, none⟩) (Kd.R_types (Kd.R_types HO_8.out BK174.out (by decide)) BK175.out (by decide)) (fun _ hk => hk.1.2) (.int .i64 a1)) (fun _ hk => hk.1.2) (.slice Ao33 x7_1.length co33)) (fun _ hk => hk.2) (.int .i64 a0_0)) (fun _ hk => hk.2) (.int .i64 a1)) (fun _ hk => hk.2) (.slice Ao33 x7_1.length co33)) (fun _ hk => hk.1.1.1), by repeat (first | (with_reducible first | exact HB.out | apply wa_ | apply wn_ | apply wd_ | refine ws_ ?_ GE174.out | refine ws_ ?_ GE175.out) | exact HB.out)⟩
 · replace c4 := Bool.eq_false_iff.mpr c4
   subst c4
   have H1 : (some (a0_0, a0_1, l0_2, ([] : List (S24)), 1)) = some (r1, r2, r3, r4, r5) := by rw [if_neg (show ¬ (false = true) by decide)] at H; exact H
   clear H
   have H := H1
   clear H1
   simp only [Option.some.injEq, Prod.mk.injEq] at H
   obtain ⟨rfl, rfl, rfl, rfl, rfl⟩ := H
   go_enter Try.func60, Try.ntmps60
   go_wp2_with (first | ((with_reducible refine gate_dst (N := 2) rfl ?_); refine box_event ?hg (N := 2) ?hd (cs := #[.int .i64 a0_0, .int .i64 a0_1, .slice A0_2 l0_2.length c0_2]) (t := 46) ?hr ?_; (case hd => rfl); (case hg => rfl); (case hr => first | (go_simp; done) | (go_simp; rfl)); intro gb174 hg w35 hbox hb; have n0_ := A_ (Kd.V_below (Kd.V_elderB (by (with_reducible repeat (first | apply Kd.V_alloc | apply Kd.V_drewN | apply Kd.V_drew)); exact HO0_2.out) gb174 (Nat.le_of_eq hg.symm)) hb); have n1_ := A_ (below_step bw_ hb); have n2_ := A_ (hbox); have n3_ := A_ (gz_ (w := w) hg); have n4_ := A_ (gz_ (w := w) hg); replace HO0_2 := n0_; replace HB := n1_; have BK174 := n2_; have GW174 := n3_; have GE174 := n4_; clear n0_ n1_ n2_ n3_ n4_; clear hb hbox hg) | ((with_reducible refine gate_dst (N := 4) rfl ?_); refine box_event ?hg (N := 4) ?hd (cs := #[.int .i64 0, .int .i64 0, .slice none 0 0]) (t := 46) ?hr ?_; (case hd => rfl); (case hg => rfl); (case hr => first | (go_simp; done) | (go_simp; rfl)); intro gb175 hg w36 hbox hb; have n0_ := A_ (Kd.V_below (Kd.V_elderB (by (with_reducible repeat (first | apply Kd.V_alloc | apply Kd.V_drewN | apply Kd.V_drew)); exact HO0_2.out) gb175 (Nat.le_of_eq hg.symm)) hb); have n1_ := A_ (kb_ BK174 hb); have n2_ := A_ (below_step bw_ hb); have n3_ := A_ (hbox); have n4_ := A_ (gz_ (w := w) hg); have n5_ := A_ (gz_ (w := w) hg); have n6_ := A_ (nl_ BK174 hg); have n7_ := A_ (ng_ BK174 hg); replace HO0_2 := n0_; replace BK174 := n1_; replace HB := n2_; have BK175 := n3_; have GW175 := n4_; have GE175 := n5_; have NB174_175 := n6_; have NB175_174 := n7_; clear n0_ n1_ n2_ n3_ n4_ n5_ n6_ n7_; clear hb hbox hg) | ((with_reducible refine gate_callee (f := 101) rfl ?_); refine goesL_ (some 13) rfl rfl Try.func101 (by kernel_rfl) rfl #[.int .i64 a1, .int .i64 0, .int .i64 4294967295] rfl (by (try simp only [m0_, m1_, m2_]); first | done | rfl) ?_; (with_reducible refine (queue_in.calls a1 0 4294967295 false _ A3.out).mono ?_); rintro e w' ⟨rfl, ⟨nd, rfl⟩⟩; refine ⟨_, rfl, ?_⟩; (try (rw [drewN_self w36]; generalize hq_ : World.drewN w36 _ = w36; have n0_ : Aside0 (Kd.V k24 24 w36 w.heap.size (fun k_ => (P0_2_ k_ ∨ w.heap.size ≤ k_) ∧ k_ ≠ gb174 ∧ k_ ≠ gb175) (.slice A0_2 l0_2.length c0_2) l0_2) := ⟨by rw [← hq_]; exact (by (with_reducible repeat (first | apply Kd.V_alloc | apply Kd.V_drewN | apply Kd.V_drew)); exact Kd.V_mono HO0_2.out (fun _ hk => ⟨hk.1.1, ⟨hk.1.2, hk.2⟩⟩))⟩; have n1_ : Aside0 (w36.heap[gb174]? = some (.cells #[.int .i64 a0_0, .int .i64 a0_1, .slice A0_2 l0_2.length c0_2] 46 (0, 0))) := ⟨by rw [← hq_]; exact (by (with_reducible repeat (first | refine bn_ ?_ _ | refine bd_ ?_ | refine ba_ ?_ _)); exact BK174.out)⟩; have n2_ : Aside0 (w36.heap[gb175]? = some (.cells #[.int .i64 0, .int .i64 0, .slice none 0 0] 46 (0, 0))) := ⟨by rw [← hq_]; exact (by (with_reducible repeat (first | refine bn_ ?_ _ | refine bd_ ?_ | refine ba_ ?_ _)); exact BK175.out)⟩; have n3_ : Aside0 (Below w.heap.size w w36) := ⟨by rw [← hq_]; exact bw_⟩; clear HO0_2 BK174 BK175 HB hq_; have HO0_2 := n0_; have BK174 := n1_; have BK175 := n2_; have HB := n3_; clear n0_ n1_ n2_ n3_)); have hnb37 := NB174_175.out; have hnc37 := NB175_174.out; have hcz38_0 : w36.cell? ⟨gb174, 0, none⟩ = some (.int .i64 a0_0) := e_ BK174 0; have hcz38_1 : w36.cell? ⟨gb174, 1, none⟩ = some (.int .i64 a0_1) := e_ BK174 1; have hcz38_2 : w36.cell? ⟨gb174, 2, none⟩ = some (.slice A0_2 l0_2.length c0_2) := e_ BK174 2; obtain ⟨hfz38_0, hfz38_1, hfz38_2⟩ := z3_ BK174; have hcz39_0 : w36.cell? ⟨gb175, 0, none⟩ = some (.int .i64 0) := e_ BK175 0; have hcz39_1 : w36.cell? ⟨gb175, 1, none⟩ = some (.int .i64 0) := e_ BK175 1; have hcz39_2 : w36.cell? ⟨gb175, 2, none⟩ = some (.slice none 0 0) := e_ BK175 2; obtain ⟨hfz39_0, hfz39_1, hfz39_2⟩ := z3_ BK175))
   refine bodyPost_ret (results_ctt rfl _ _ gb175 46 #[.int .i64 a0_0, .int .i64 a0_1, .slice A0_2 l0_2.length c0_2] (0, 0) _ rfl (by exact pk_ (b3_ BK175.out)) Try.underlying46 rfl (by kernel_rfl)) rfl ?_
   exact ⟨_, _, by first | rfl | (simp [errW_none, errW_some] <;> rfl) | (simp [*, errW_none, errW_some] <;> rfl), by (with_reducible repeat (first | apply Kd.V_alloc | apply Kd.V_drewN | apply Kd.V_drew)); exact Kd.V_mono (Kd.V_far (p := ⟨gb175, 2, none⟩) (Kd.V_far (p := ⟨gb175, 1, none⟩) (Kd.V_far (p := ⟨gb175, 0, none⟩) (Kd.V_mono HO0_2.out (fun k_ hk => (⟨hk, hk.2.2⟩ : _ ∧ k_ ≠ gb175))) (fun _ hk => hk.2) (.int .i64 a0_0)) (fun _ hk => hk.2) (.int .i64 a0_1)) (fun _ hk => hk.2) (.slice A0_2 l0_2.length c0_2)) (fun _ hk => ⟨hk.1.1, (by simp [Value.ownBlock])⟩), by first | exact Kd.R_nil _ _ _ _ _ | exact Kd.N_nil _ _ _ _ _ | exact Kd.V_nil _ _ _ _ _ | exact Kd.Q_nil _ _ _ _ _ | exact Kd.S_nil _ _ _ _ _, by repeat (first | (with_reducible first | exact HB.out | apply wa_ | apply wn_ | apply wd_ | refine ws_ ?_ GE174.out | refine ws_ ?_ GE175.out) | exact HB.out)⟩

/-! ### api_Tx_81: function 81, by hand -/
-- HAND rounds=0 making=1
-- IMPORT Derived.WalkSpells
/-- The same transactions, in memory of one's own. -/
def api_Tx_81.f (l0 : List S24) : Option (List S24) := if l0.length < 2513169434916 then some l0 else none
set_option maxHeartbeats 4000000 in
set_option maxRecDepth 100000 in
theorem api_Tx_81.calls (A0 : Option Addr) (c0 : Nat) (l0 : List S24) (r : List S24) (w : World) (hr0 : Kd.C k24 w A0 l0.length l0) (hc0 : l0.length ≤ c0) (h : api_Tx_81.f l0 = some r) :
    Calls Try.prog 81 #[.slice A0 l0.length c0] w fun e w' => ∃ v0_ : Value, e = .returned (v0_) ∧ Kd.R k24 24 w' w.heap.size (fun _ => True) v0_ r ∧ Below w.heap.size w w' := by
  unfold api_Tx_81.f at h
  by_cases hl : l0.length < 2513169434916
  · rw [if_pos hl] at h
    obtain rfl := Option.some.inj h
    have HR0 := Aside0.mk hr0
    have HL := Aside0.mk hl
    have HC0 := Aside0.mk hc0
    cases A0 with
    | none =>
      have hz : l0.length = 0 := by
        rcases Nat.eq_zero_or_pos l0.length with h0 | h0
        · exact h0
        · obtain ⟨ad, he, _⟩ := hr0.2.2 h0
          cases he
      obtain rfl : l0 = [] := List.eq_nil_of_length_eq_zero hz
      clear hr0 hl hc0 hz h
      have he : ∀ W : World, (binOp .eql 22 (.slice none 0 c0) (.slice none 0 0)).run Try.prog W = .ok (.bool true) W := fun W => Lib.run_eql_slice_nil W 22 24 none 0 c0 0 0 Try.underlying22
      go_enter Try.func81, Try.ntmps81
      go_wp2_with (fail)
      go_ret
      exact ⟨_, rfl, Kd.R_nil _ _ _ _ _, Below.refl _ _⟩
    | some ad =>
      clear hr0 hl hc0 h
      have he : ∀ W : World, (binOp .eql 22 (.slice (some ad) l0.length c0) (.slice none 0 0)).run Try.prog W = .ok (.bool false) W := fun W => Lib.run_eql_slice_nil W 22 24 (some ad) l0.length c0 0 0 Try.underlying22
      go_enter Try.func81, Try.ntmps81
      go_wp2_with (first | ((with_reducible refine gate_dst (N := 5) rfl ?_); refine Kd.R_lit k24 _ 24 ?hg (N := 5) ?hd (xs := ([] : List (S24))) (inner := []) (ok := fun _ => True) (okp := fun _ => True) ?hr ?hp (fun _ hk => hk) trivial (Below.refl _ _) (Nat.le_refl _) (by simp) ?_; (case hd => rfl); (case hg => rfl); (case hr => first | (go_simp; done) | (go_simp; rfl)); (case hp => exact (Reps.none _ _)); intro v5 w6 ho7 hb hg_ hnew_; clear hg_ hnew_; have HO := Aside0.mk ho7; have HB := Aside0.mk hb; clear hb ho7) | ((with_reducible refine gate_builtin (b := .append) (xs := #[.tmp 5, .tmp 6]) rfl ?_); at_builtin; refine Kd.R_append_rows k24 (w0 := w) w.heap.size rfl (.tmp 5) (.tmp 6) 22 24 (.agg #[(.int .i64 0), (.int .i64 0), (.int .i64 0), (.int .i64 0), (.int .i64 0), (.string ⟨#[]⟩)]) 56 rfl Try.underlying22 info24 rfl (by decide) (by omega) v5 [] l0 _ _ _ (fun _ => True) (fun _ => False) rfl rfl ?aO ?aR (fun _ _ h => h) (fun _ h => h.elim) ?aF ?aB ?aS ?aL ?_; (case aR => exact (Kd.C_below HR0.out HB.out)); (case aB => exact HB.out); (case aF => exact (fun k_ hk => trivial)); (case aO => exact HO.out); (case aS => exact HB.out.size); (case aL => have := HL.out; simp; omega); intro v7 w8 ho hb hg hat; have HO2 := Aside0.mk ho; have HB2 := Aside0.mk hb; clear hb ho hg hat))
      go_ret
      exact ⟨_, rfl, by simpa using HO2.out, HB2.out⟩
  · rw [if_neg hl] at h; cases h


-- NOT PRINTED: function 137 (api_Tx_137)

/- api_Tx_163: reached, not needed, not told -/

-- NOT PRINTED: function 155 (api_Tx_155)

-- NOT PRINTED: function 138 (api_Tx_138)

/-! ### api_Tx_107: function 107, by hand -/
-- HAND rounds=0 making=0 opaque
-- IMPORT Derived.Test.YtehncbhmdgdkjaaCopyK
set_option maxHeartbeats 8000000 in
set_option maxRecDepth 100000 in
/-- One element is laid at place i of a row of one's own, in cells. -/
theorem api_Tx_107.calls (base : Nat) (v : Value) (n : Nat) (inner cs : List Value) (i vb vc : Nat) (w : World) (HO : w.ownsRow base 24 6 v n inner) (hi : i ≤ n) (hcs : cs.length = 6) (hbox : w.heap[vb]? = some (.cells cs.toArray 24 (0, 0))) (hne : v.ownBlock ≠ some vb)
    (h1c : ∀ u ∈ inner, u.oneCell' = true) (h1v : ∀ u ∈ cs, u.oneCell' = true) (hbig : n < 2513169434915) (hbase : base ≤ w.heap.size) :
    Calls Try.prog 107 #[v, .int .i64 (i : Int), .slice (some ⟨vb, 0, none⟩) 1 vc] w fun e w' => ∃ v', e = .returned v' ∧ w'.ownsRow base 24 6 v' (n + 1) (inner.take (i * 6) ++ cs ++ inner.drop (i * 6)) ∧ w.grownBy w' v.ownBlock ∧ (v'.ownBlock = v.ownBlock ∨ ∃ b, v'.ownBlock = some b ∧ w.heap.size ≤ b) := by
  have HOW := Aside0.mk HO
  have HBX := Aside0.mk hbox
  have HNE := Aside0.mk hne
  have H1C := Aside0.mk h1c
  have H1V := Aside0.mk h1v
  have HBG := Aside0.mk hbig
  have HBS := Aside0.mk hbase
  have HCS := Aside0.mk hcs
  clear HO hbox hne h1c h1v hbig hbase hcs
  by_cases hin : i = n
  · subst hin
    obtain ⟨i0, hi0, hz0, hzs, hzb⟩ := info_parts info24
    have hnew : ∀ j u, cs[j]? = some u → w.cell? ((⟨vb, 0, none⟩ : Addr).add j) = some u := fun j u hj => by
      rw [Addr.add_lit, Nat.zero_add, blk_cell HBX.out j, List.getElem?_toArray]; exact hj
    obtain ⟨v', w', hr, ho', hg', -, hat'⟩ := run_append_own_at (P := Try.prog) (w := w) base 22 22 24 i0 (.agg #[(.int .i64 0), (.int .i64 0), (.int .i64 0), (.int .i64 0), (.int .i64 0), (.string ⟨#[]⟩)]) 6 56 Try.underlying22 hi0 hz0 hzs hzb (by rfl) (by omega) v i inner HOW.out ⟨vb, 0, none⟩ 1 vc cs (by rw [HCS.out]) hnew H1V.out (by have := HBG.out; unfold maxLen; omega) (by have := HBG.out; omega) HBS.out
    have HR := Aside0.mk hr
    have HO' := Aside0.mk ho'
    have HG' := Aside0.mk hg'
    have HAT := Aside0.mk hat'
    have HNW := Aside0.mk hnew
    clear hr ho' hg' hat' hnew hi0 hz0 hzs hzb
    have hvs : ∃ A c, v = .slice A i c := by
      rcases HOW.out.2 with ⟨rfl, rfl⟩ | ⟨g, cap, cur, rfl, _⟩
      · exact ⟨none, 0, rfl⟩
      · exact ⟨_, _, rfl⟩
    obtain ⟨A, c, rfl⟩ := hvs
    have qi1 : (i : Int) ≤ (i : Int) := Int.le_refl _
    go_enter Try.func107, Try.ntmps107
    go_wp2_with (at_builtin; refine Lib.wpList_append_run _ rfl _ _ _ _ rfl _ _ rfl rfl _ _ HR.out ?_)
    all_goals
      go_ret
      have hl := HOW.out.1
      first
        | refine ⟨v', rfl, ?_, HG'.out, HAT.out.imp_right (fun q => ⟨_, q, Nat.le_refl _⟩)⟩
        | (have hq : c = i := by assumption
           subst hq; refine ⟨v', rfl, ?_, HG'.out, HAT.out.imp_right (fun q => ⟨_, q, Nat.le_refl _⟩)⟩)
      rw [List.take_of_length_le (by omega), List.drop_eq_nil_of_le (by omega), List.append_nil]
      exact HO'.out
  · have hlt : i < n := by omega
    rcases CopyK.Blk.of HOW.out with ⟨rfl, rfl, rfl⟩ | ⟨g, cap, rfl, hbg, hB⟩
    · exact absurd hlt (by omega)
    have HB := Aside0.mk hB
    have HG := Aside0.mk hbg
    have HVB := Aside0.mk (show vb ≠ g from fun q => HNE.out (by rw [q]; rfl))
    have hnc : n ≤ cap := hB.2.1
    have hcm : cap ≤ 9223372036854775807 := hB.2.2.1
    have HL := Aside0.mk hB.1
    clear hB hbg HOW HNE
    have hz1 : ((1 : Int) == 0) = false := rfl
    have hz2 : ((i : Int) == (n : Int)) = false := beq_eq_false_iff_ne.2 (by omega)
    have hi0 : (0 : Int) ≤ (i : Int) := by omega
    have hin' : (i : Int) ≤ (n : Int) := by omega
    have hwn : wrap64 ((n : Int) + 1) = (n : Int) + 1 := by have := HBG.out; unfold wrap64; omega
    have hwi : wrap64 ((i : Int) + 1) = (i : Int) + 1 := by have := HBG.out; unfold wrap64; omega
    have hdl : (inner.drop (i * 6)).length = (n - i) * 6 := by rw [List.length_drop, HL.out]; omega
    have h1d : ∀ u ∈ inner.drop (i * 6), u.oneCell' = true := fun u hu => H1C.out u (List.mem_of_mem_drop hu)
    have hbx : ∀ j u, cs[j]? = some u → w.cell? ⟨vb, j, none⟩ = some u := fun j u hj => by
      rw [blk_cell HBX.out j, List.getElem?_toArray]; exact hj
    have hsz : (Try.prog.info? 24).map (·.size) = some 6 := by
      obtain ⟨i0, hi0, _, hs, _⟩ := info_parts info24
      rw [hi0]; simp [hs]
    have HDL := Aside0.mk hdl
    have H1D := Aside0.mk h1d
    have HBC := Aside0.mk hbx
    have HSZ := Aside0.mk hsz
    clear hdl h1d hbx hsz
    have hci : ¬ (cap = i) := by omega
    have mixed : Try.prog.follows Departure.mixedOrders = true := by kernel_rfl
    by_cases hroom : n + 1 ≤ cap
    · have hov : ∀ lb cb, (callFunc 137 #[.slice (some ⟨vb, 0, none⟩) 1 vc, .slice (some ⟨g, (i + 1) * 6, none⟩) lb cb]).run Try.prog w = .ok (.value (.bool false)) w := fun lb cb => by
        rw [run_callFunc_extern Try.func137 (by kernel_rfl) (by kernel_rfl) (by kernel_rfl) (e := Extern.SlicesOverlaps.overlaps #[22, 22] #[4]) (by kernel_rfl),
          Lib.run_overlaps_apart w 22 4 24 Try.underlying22 6 (fun W => by kernel_rfl) ⟨vb, 0, none⟩ ⟨g, (i + 1) * 6, none⟩ 1 vc lb cb HVB.out 24 24 cs.length (cap * 6) (by simp [World.shape?, HBX.out]) HB.out.shape (by omega) (blk_frozen HBX.out 0) (blk_frozen HBX.out _)]
        rfl
      have hw1 : IntKind.i64.wrap ((i : Int) + 1) = (i : Int) + 1 := by have := HBG.out; rw [IntKind.wrap_i64]; omega
      have hwn1 : IntKind.i64.wrap ((n : Int) + 1) = (n : Int) + 1 := by have := HBG.out; rw [IntKind.wrap_i64]; omega
      have hb1 : (0 : Int) ≤ (i : Int) + 1 := by omega
      have hb0 : (0 : Int) ≤ (n : Int) + 1 := by omega
      have htn : ((i : Int) + 1).toNat = i + 1 := by omega
      have htm : ((n : Int) + 1).toNat = n + 1 := by omega
      have hb2 : ¬ (cap = i + 1) := by omega
      have hb3 : (i : Int) ≤ (n : Int) + 1 := by omega
      have hb5 : (i : Int) + 1 ≤ (n : Int) + 1 := by omega
      have hb6 : (n : Int) + 1 ≤ (cap : Int) := by omega
      have hcp1 : ∀ ty dc sc, (Builtin.copy_ #[22, 22] ty #[.slice (some ⟨g, (i + 1) * 6, none⟩) (n - i) dc, .slice (some ⟨g, i * 6, none⟩) (n + 1 - i) sc]).run Try.prog w.drew = .ok (goInt (Nat.min (n + 1 - i) (n - i))) (w.drew.setCells g ((i + 1) * 6) (inner.drop (i * 6))) := fun ty dc sc =>
        CopyK.run_copyK w.drew _ _ ty 24 6 g ((i + 1) * 6) (n - i) dc ⟨g, i * 6, none⟩ (n + 1 - i) sc (inner.drop (i * 6)) Try.underlying22 HSZ.out (by rw [HDL.out]; simp only [Nat.min_def]; split <;> omega)
          (fun j u hj => by rw [Addr.add_lit]; exact HB.out.cell _ u (by rwa [List.getElem?_drop] at hj)) (fun j hj => HB.out.there _ (by have := HDL.out; omega)) (fun j hj => HB.out.free _) H1D.out
      obtain ⟨W1, hW1⟩ : ∃ W1, W1 = w.drew.setCells g ((i + 1) * 6) (inner.drop (i * 6)) := ⟨_, rfl⟩
      have HB1 := Aside0.mk (show CopyK.Blk W1 24 6 g (n + 1) cap (inner.take ((i + 1) * 6) ++ inner.drop (i * 6)) by rw [hW1]; exact CopyK.Blk.put (show CopyK.Blk w.drew 24 6 g n cap inner from HB.out) _ _ _ (by omega) hroom (by omega) (by rw [HDL.out]; omega))
      have HGR := Aside0.mk (show w.grownBy W1 (some g) by
        rw [hW1]
        obtain ⟨a, b, c, d⟩ := setCells_same g (inner.drop (i * 6)) ((i + 1) * 6) w.drew
        exact ⟨a, b, c, by rw [d]; exact Nat.le_refl _, fun k _ hk => setCells_far _ _ k (fun q => hk (by rw [q]))⟩)
      have hbv : W1.heap[vb]? = some (.cells cs.toArray 24 (0, 0)) := (HGR.out.block vb (Array.getElem?_eq_some_iff.1 HBX.out).1 (fun q => HVB.out (Option.some.inj q))).trans HBX.out
      have HBV := Aside0.mk hbv
      clear hbv
      have hcp2 : ∀ ty dc, (Builtin.copy_ #[22, 22] ty #[.slice (some ⟨g, i * 6, none⟩) (n + 1 - i) dc, .slice (some ⟨vb, 0, none⟩) 1 vc]).run Try.prog W1 = .ok (goInt (Nat.min 1 (n + 1 - i))) (W1.setCells g (i * 6) cs) := fun ty dc =>
        CopyK.run_copyK W1 _ _ ty 24 6 g (i * 6) (n + 1 - i) dc ⟨vb, 0, none⟩ 1 vc cs Try.underlying22 HSZ.out (by rw [HCS.out]; simp only [Nat.min_def]; split <;> omega)
          (fun j u hj => by rw [Addr.add_lit, Nat.zero_add, blk_cell HBV.out j, List.getElem?_toArray]; exact hj) (fun j hj => HB1.out.there _ (by have := HCS.out; omega)) (fun j hj => HB1.out.free _) H1V.out
      rw [← hW1] at hcp1
      clear hW1
      go_enter Try.func107, Try.ntmps107
      go_wp2_with (simp only [hov])
      go_region_law_o (refine CopyK.step_copy_run_ rfl _ _ 22 22 rfl _ _ (by simp [Act.eval, Act.put]) (by simp [Act.eval, Act.put]) (hcp1 _ _ _) ?_)
      go_wp2_with (at_builtin; refine CopyK.wpList_copy_run_ _ rfl _ _ 22 22 rfl _ _ rfl rfl (hcp2 _ _) ?_)
      go_ret
      have HB2 := CopyK.Blk.mid HB1.out (i * 6) cs (by rw [HCS.out]; omega)
      rw [CopyK.mid_list inner cs (i * 6) ((i + 1) * 6) (by rw [HL.out]; omega) (by have := HCS.out; omega)] at HB2
      obtain ⟨a, b, c, d⟩ := setCells_same g cs (i * 6) W1
      exact ⟨_, rfl, HB2.own HG.out, HGR.out.trans ⟨a, b, c, by rw [d]; exact Nat.le_refl _, fun k _ hk => setCells_far _ _ k (fun q => hk (by rw [q]))⟩, Or.inl rfl⟩
    · have hrm : cap < n + 1 := by omega
      have hrm' : (cap : Int) < (n : Int) + 1 := by omega
      obtain ⟨i0, hi0', hz0, hzs, hzb⟩ := info_parts info24
      have hold : (Builtin.firstCells i0.size i (.slice (some ⟨g, 0, none⟩) i cap)).run Try.prog w.drew = .ok (inner.take (i * 6)).toArray w.drew := by
        rw [hzs]
        exact run_firstCells_some w.drew 6 i ⟨g, 0, none⟩ i cap (inner.take (i * 6)) (by rw [List.length_take, HL.out]; omega) (fun j u hj => by
          rw [Addr.add_lit, Nat.zero_add]
          rw [List.getElem?_take] at hj
          split at hj
          · exact HB.out.cell j u hj
          · cases hj)
      have hfit : Builtin.nextslicecap (n + 1) cap * 56 ≤ 281474976710656 := growslice_fits hrm (by have := HBG.out; omega)
      have hrz : ∀ ty, (Builtin.append_ #[22, 3] ty #[.slice (some ⟨g, 0, none⟩) i cap, .int .i64 ((n : Int) + 1 - (i : Int))]).run Try.prog w =
          .ok (.slice (some ⟨w.heap.size, 0, none⟩) (n + 1) (grownCap w (n + 1) cap 24)) (w.drew.alloc (.cells ((inner.take (i * 6)).toArray ++ Builtin.zeroCells ((.agg #[(.int .i64 0), (.int .i64 0), (.int .i64 0), (.int .i64 0), (.int .i64 0), (.string ⟨#[]⟩)]) : Value).cells (n + 1 - i) ++ Builtin.zeroCells ((.agg #[(.int .i64 0), (.int .i64 0), (.int .i64 0), (.int .i64 0), (.int .i64 0), (.string ⟨#[]⟩)]) : Value).cells (grownCap w (n + 1) cap 24 - (n + 1))) 24)) := fun ty => by
        have h := Lib.run_append_grow_zeros w 22 3 ty 24 i0 _ .i64 .i64 Try.underlying22 Try.underlying3 hi0' hz0 (some ⟨g, 0, none⟩) i cap (inner.take (i * 6)) hold (n + 1 - i) (by omega) (by omega) (by omega) (by have := HBG.out; omega) (by rw [hzb]; have := HBG.out; omega) (by rw [hzb, show i + (n + 1 - i) = n + 1 by omega]; exact hfit)
        rw [show i + (n + 1 - i) = n + 1 by omega] at h
        rw [show (n : Int) + 1 - (i : Int) = ((n + 1 - i : Nat) : Int) by omega]
        exact h
      clear hi0' hz0 hzs hzb hold hfit i0
      obtain ⟨G, hG⟩ : ∃ G, G = grownCap w (n + 1) cap 24 := ⟨_, rfl⟩
      have hGn : n + 1 ≤ G := by rw [hG]; exact grownCap_ge w _ _ _
      have hGm : G ≤ maxLen := by rw [hG]; exact grownCap_le_maxLen w (n + 1) cap 24 (by have := HBG.out; unfold maxLen; omega)
      rw [← hG] at hrz
      obtain ⟨W1, hW1⟩ : ∃ W1, W1 = w.drew.alloc (.cells ((inner.take (i * 6)).toArray ++ Builtin.zeroCells ((.agg #[(.int .i64 0), (.int .i64 0), (.int .i64 0), (.int .i64 0), (.int .i64 0), (.string ⟨#[]⟩)]) : Value).cells (n + 1 - i) ++ Builtin.zeroCells ((.agg #[(.int .i64 0), (.int .i64 0), (.int .i64 0), (.int .i64 0), (.int .i64 0), (.string ⟨#[]⟩)]) : Value).cells (G - (n + 1))) 24) := ⟨_, rfl⟩
      have hzc : ∀ k, (Builtin.zeroCells ((.agg #[(.int .i64 0), (.int .i64 0), (.int .i64 0), (.int .i64 0), (.int .i64 0), (.string ⟨#[]⟩)]) : Value).cells k).size = k * 6 := fun k => by simp [Builtin.zeroCells, Value.cells]
      have HZ := Aside0.mk (show CopyK.Blk W1 24 6 w.heap.size (n + 1) G (inner.take (i * 6) ++ (Builtin.zeroCells ((.agg #[(.int .i64 0), (.int .i64 0), (.int .i64 0), (.int .i64 0), (.int .i64 0), (.string ⟨#[]⟩)]) : Value).cells (n + 1 - i)).toList) by
        have ht : (inner.take (i * 6)).length = i * 6 := by rw [List.length_take, HL.out]; omega
        refine ⟨?_, hGn, hGm, _, by rw [hW1]; exact heap_alloc_new w.drew _, ?_, ?_⟩
        · rw [List.length_append, ht, Array.length_toList, hzc]; omega
        · rw [Array.size_append, Array.size_append, hzc, hzc, List.size_toArray, ht]; omega
        · rw [Array.toList_append, Array.toList_append, List.take_left']
          rw [List.length_append, Array.length_toList, Array.length_toList, hzc, List.size_toArray, ht]; omega)
      have hg1 : w.heap.size < W1.heap.size := by rw [hW1]; simp
      have HGR := Aside0.mk (show w.grownBy W1 none by
        rw [hW1]
        exact (show w.grownBy w.drew none from ⟨rfl, rfl, rfl, Nat.le_refl _, fun _ _ _ => rfl⟩).trans (World.grownBy_alloc w.drew _ none))
      have hgw : g < w.heap.size := HB.out.lt
      have hvw : vb < w.heap.size := (Array.getElem?_eq_some_iff.1 HBX.out).1
      have hbv : W1.heap[vb]? = some (.cells cs.toArray 24 (0, 0)) := (HGR.out.block vb hvw (by simp)).trans HBX.out
      obtain ⟨nw, hnw⟩ : ∃ nw, nw = w.heap.size := ⟨_, rfl⟩
      have hcpA : ∀ ty dc, (Builtin.copy_ #[22, 22] ty #[.slice (some ⟨nw, i * 6, none⟩) (n + 1 - i) dc, .slice (some ⟨vb, 0, none⟩) 1 vc]).run Try.prog W1 = .ok (goInt (Nat.min 1 (n + 1 - i))) (W1.setCells nw (i * 6) cs) := fun ty dc =>
        CopyK.run_copyK W1 _ _ ty 24 6 nw (i * 6) (n + 1 - i) dc ⟨vb, 0, none⟩ 1 vc cs Try.underlying22 HSZ.out (by rw [HCS.out]; simp only [Nat.min_def]; split <;> omega)
          (fun j u hj => by rw [Addr.add_lit, Nat.zero_add, blk_cell hbv j, List.getElem?_toArray]; exact hj) (fun j hj => by rw [hnw]; exact HZ.out.there _ (by have := HCS.out; omega)) (fun j hj => by rw [hnw]; exact HZ.out.free _) H1V.out
      obtain ⟨W2, hW2⟩ : ∃ W2, W2 = W1.setCells nw (i * 6) cs := ⟨_, rfl⟩
      have HB2 := Aside0.mk (show CopyK.Blk W2 24 6 w.heap.size (n + 1) G _ by rw [hW2, hnw]; exact CopyK.Blk.mid HZ.out (i * 6) cs (by rw [HCS.out]; omega))
      have HG2 := Aside0.mk (show w.grownBy W2 none by
        rw [hW2]
        obtain ⟨a, b, c, d⟩ := setCells_same nw cs (i * 6) W1
        exact ⟨a.trans HGR.out.os, b.trans HGR.out.tape, c.trans HGR.out.output, by rw [d]; exact HGR.out.size, fun k hk hn => (setCells_far _ _ k (by omega)).trans (HGR.out.block k hk hn)⟩)
      have HBG2 := Aside0.mk (show CopyK.Blk W2.drew 24 6 g n cap inner by
        obtain ⟨a1, a2, a3, cur, a4, a5, a6⟩ := HB.out
        exact ⟨a1, a2, a3, cur, (HG2.out.block g hgw (by simp)).trans a4, a5, a6⟩)
      have hcpB : ∀ ty dc sc, (Builtin.copy_ #[22, 22] ty #[.slice (some ⟨nw, (i + 1) * 6, none⟩) (n - i) dc, .slice (some ⟨g, i * 6, none⟩) (n - i) sc]).run Try.prog W2.drew = .ok (goInt (Nat.min (n - i) (n - i))) (W2.drew.setCells nw ((i + 1) * 6) (inner.drop (i * 6))) := fun ty dc sc =>
        CopyK.run_copyK W2.drew _ _ ty 24 6 nw ((i + 1) * 6) (n - i) dc ⟨g, i * 6, none⟩ (n - i) sc (inner.drop (i * 6)) Try.underlying22 HSZ.out (by rw [HDL.out]; simp only [Nat.min_def]; split <;> omega)
          (fun j u hj => by rw [Addr.add_lit]; exact HBG2.out.cell _ u (by rwa [List.getElem?_drop] at hj)) (fun j hj => by rw [hnw]; exact (show CopyK.Blk W2.drew 24 6 w.heap.size (n + 1) G _ from HB2.out).there _ (by have := HDL.out; omega)) (fun j hj => by rw [hnw]; exact (show CopyK.Blk W2.drew 24 6 w.heap.size (n + 1) G _ from HB2.out).free _) H1D.out
      obtain ⟨W3, hW3⟩ : ∃ W3, W3 = W2.drew.setCells nw ((i + 1) * 6) (inner.drop (i * 6)) := ⟨_, rfl⟩
      have HB3 := Aside0.mk (show CopyK.Blk W3 24 6 w.heap.size (n + 1) G (inner.take (i * 6) ++ cs ++ inner.drop (i * 6)) by
        rw [hW3, hnw, ← CopyK.grow_list inner cs _ (i * 6) (by rw [HL.out]; omega), HCS.out]
        have z := CopyK.Blk.put (show CopyK.Blk W2.drew 24 6 w.heap.size (n + 1) G _ from HB2.out) (i * 6 + 6) (n + 1) (inner.drop (i * 6)) (by omega) hGn (by omega) (by rw [HDL.out]; omega)
        rw [HCS.out] at z
        rw [show (i + 1) * 6 = i * 6 + 6 by omega]
        exact z)
      have HG3 := Aside0.mk (show w.grownBy W3 none by
        rw [hW3]
        obtain ⟨a, b, c, d⟩ := setCells_same nw (inner.drop (i * 6)) ((i + 1) * 6) W2.drew
        exact ⟨a.trans HG2.out.os, b.trans HG2.out.tape, c.trans HG2.out.output, by rw [d]; exact HG2.out.size, fun k hk hn => (setCells_far _ _ k (by omega)).trans (HG2.out.block k hk hn)⟩)
      rw [← hW1, ← hnw] at hrz
      rw [← hW2] at hcpA
      rw [← hW3] at hcpB
      have HNW := Aside0.mk hnw
      clear hW1 hW2 hW3 hG hbv hg1 hnw HZ HGR HBG2 hzc
      have hw1 : IntKind.i64.wrap ((i : Int) + 1) = (i : Int) + 1 := by have := HBG.out; rw [IntKind.wrap_i64]; omega
      have hwn1 : IntKind.i64.wrap ((n : Int) + 1) = (n : Int) + 1 := by have := HBG.out; rw [IntKind.wrap_i64]; omega
      have hwn2 : IntKind.i64.wrap ((n : Int) + 1 - (i : Int)) = (n : Int) + 1 - (i : Int) := by have := HBG.out; rw [IntKind.wrap_i64]; omega
      have hwn3 : wrap64 ((n : Int) + 1 - (i : Int)) = (n : Int) + 1 - (i : Int) := by have := HBG.out; unfold wrap64; omega
      have hb1 : (0 : Int) ≤ (i : Int) + 1 := by omega
      have htn : ((i : Int) + 1).toNat = i + 1 := by omega
      have hb5 : (i : Int) + 1 ≤ (n : Int) + 1 := by omega
      have hb3 : (i : Int) ≤ (n : Int) + 1 := by omega
      have hb7 : (i : Int) ≤ (cap : Int) := by omega
      have hGi : ¬ (G = i) := by omega
      have hGi1 : ¬ (G = i + 1) := by omega
      have hGN := Aside0.mk hGn
      clear hGn hGm
      go_enter Try.func107, Try.ntmps107
      go_wp2_with (first
        | (at_builtin; refine Lib.wpList_append_run _ rfl _ _ _ _ rfl _ _ rfl rfl _ _ (hrz _) ?_)
        | (at_builtin; refine CopyK.wpList_copy_run_ _ rfl _ _ 22 22 rfl _ _ rfl rfl (hcpA _ _) ?_))
      go_region_law_o (refine CopyK.step_copy_run_ rfl _ _ 22 22 rfl _ _ (by simp [Act.eval, Act.put]) (by simp [Act.eval, Act.put]) (hcpB _ _ _) ?_)
      go_wp2
      go_ret
      exact ⟨_, rfl, by rw [HNW.out]; exact HB3.out.own HBS.out, ⟨HG3.out.os, HG3.out.tape, HG3.out.output, HG3.out.size, fun k hk _ => HG3.out.block k hk (by simp)⟩, Or.inr ⟨nw, rfl, by rw [HNW.out]; exact Nat.le_refl _⟩⟩


end Go.Proofs.Ytehncbhmdgdkjaa.Q
