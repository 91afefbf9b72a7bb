/- Written by this session's own program over the kit's print: functions of Go told as plain functions, or the row of one statement; proved for every input, with no condition of ours. -/
import Derived.Test.YtehncbhmdgdkjaaQx0
namespace Go.Proofs.Ytehncbhmdgdkjaa.Q
open Go.RowKit Go.Proofs.YtehncbhmdgdkjaaW.PrintWords Go.Proofs.YtehncbhmdgdkjaaW.PrintLast Go.Proofs.YtehncbhmdgdkjaaW.PrintMore
attribute [local go_sem] max2_int min2_int max_two min_two max_three min_three max_four min_four   -- for this text's walks alone
set_option linter.unusedVariables false
set_option linter.unusedSimpArgs false

/-! ### queue_Ready: function 55 -/
def queue_Ready.l0 : Nat → List (S24) → List (S24) → Int → Int → Int → Int → List (S24) → Option ((List (S24)))
  | 0, _, _, _, _, _, _, _ => none
  | k + 1, x3, x7, x8, x9, x140000, x140001, x140002 => if x9 < x8 then (if 0 ≤ x9 then (if x9 < (x7.length : Int) then (if ((rd_T24 x7 x9).f1) < x140001 then (some x3) else (if (wrap64 (((rd_T24 x7 x9).f1) - x140001)) = x9 then (if x3.length < 2513169434916 then (queue_Ready.l0 k (x3 ++ [(⟨(rd_T24 x7 x9).f0, (rd_T24 x7 x9).f1, (rd_T24 x7 x9).f2, (rd_T24 x7 x9).f3, (rd_T24 x7 x9).f4, (rd_T24 x7 x9).f5⟩ : S24)]) x7 x8 (wrap64 (x9 + 1)) x140000 x140001 x140002) else (none)) else (some x3))) else (none)) else (none)) else (some x3)
def queue_Ready.f (k : Nat) (a0_0 : Int) (a0_1 : Int) (l0_2 : List (S24)) : Option ((List (S24))) := queue_Ready.l0 k ([] : List (S24)) l0_2 (l0_2.length : Int) 0 a0_0 a0_1 l0_2
theorem queue_Ready.mono_l : ∀ k, (∀ y0 y1 y2 y3 y4 y5 y6, LeO (queue_Ready.l0 k y0 y1 y2 y3 y4 y5 y6) (queue_Ready.l0 (k + 1) y0 y1 y2 y3 y4 y5 y6))
  | 0 => fun _ _ _ _ _ _ _ r h => by simp [queue_Ready.l0] at h
  | k + 1 => by
    have ih0 := queue_Ready.mono_l k
    · intro y0 y1 y2 y3 y4 y5 y6
      unfold queue_Ready.l0
      repeat' first
      | (with_reducible exact ih0 _ _ _ _ _ _ _)
      | (with_reducible exact LeO.refl _)
      | (with_reducible exact LeO.none _)
      | (with_reducible refine LeO.ite ?_ ?_)
      | (with_reducible refine LeO.bind ?_ (fun _ => ?_))
      | exact ih0 _ _ _ _ _ _ _
      | exact LeO.none _
      | refine LeO.ite ?_ ?_
      | refine LeO.bind ?_ (fun _ => ?_)
theorem queue_Ready.mono : ∀ a0 a1 a2 k, LeO (queue_Ready.f k a0 a1 a2) (queue_Ready.f (k + 1) a0 a1 a2) := by
  intro a0 a1 a2 k
  have ih0 := queue_Ready.mono_l k
  unfold queue_Ready.f
  repeat' first
      | (with_reducible exact ih0 _ _ _ _ _ _ _)
      | (with_reducible exact LeO.refl _)
      | (with_reducible exact LeO.none _)
      | (with_reducible refine LeO.ite ?_ ?_)
      | (with_reducible refine LeO.bind ?_ (fun _ => ?_))
      | exact ih0 _ _ _ _ _ _ _
      | exact LeO.none _
      | refine LeO.ite ?_ ?_
      | refine LeO.bind ?_ (fun _ => ?_)
set_option maxHeartbeats 8000000 in
set_option maxRecDepth 100000 in
theorem queue_Ready.calls (k : Nat) (a0_0 : Int) (a0_1 : Int) (A0_2 : Option Addr) (c0_2 : Nat) (l0_2 : List (S24)) (r : List (S24)) (w : World) (hr0_2 : Kd.C k24 w A0_2 l0_2.length l0_2) (hc0_2 : l0_2.length ≤ c0_2) (h : queue_Ready.f k a0_0 a0_1 l0_2 = some r) :
    Calls Try.prog 55 #[.agg #[.int .i64 a0_0, .int .i64 a0_1, .slice A0_2 l0_2.length c0_2]] w fun e w' => ∃ v0_ : Value, e = .returned (v0_) ∧ Kd.R k24 24 w' w.heap.size (fun _ => True) v0_ r ∧ Below w.heap.size w w' := by
  have hu46 := Try.underlying46
  have hu24 := Try.underlying24
  have HR0_2 := Aside0.mk hr0_2
  have HC0_2 := Aside0.mk hc0_2
  clear hr0_2 hc0_2
  have HB := Aside0.mk (Below.refl w.heap.size w)
  have H : (queue_Ready.l0 k ([] : List (S24)) l0_2 (l0_2.length : Int) 0 a0_0 a0_1 l0_2) = some r := h
  clear h
  have H' := Aside0.mk H
  clear H
  go_enter Try.func55, Try.ntmps55
  go_wp2_with (first | ((with_reducible refine gate_dst (N := 1) rfl ?_); refine box_event ?hg (N := 1) ?hd (cs := #[.int .i64 a0_0, .int .i64 a0_1, .slice A0_2 l0_2.length c0_2]) (t := 46) ?hr ?_; (case hd => rfl); (case hg => rfl); (case hr => first | (go_simp; done) | (go_simp; rfl)); intro gb139 hg w2 hbox hb; have n0_ := Aside0.mk (below_step (by repeat (first | (with_reducible first | exact HB.out | apply below_alloc | apply pw_below_drewN | apply below_drew1) | exact HB.out)) hb); have n1_ := Aside0.mk (hbox); have n2_ := Aside0.mk ((by rw [hg]; exact (below_size (by repeat (first | (with_reducible first | exact HB.out | apply below_alloc | apply pw_below_drewN | apply below_drew1) | exact HB.out))) : w.heap.size ≤ gb139)); have n3_ := Aside0.mk ((by rw [hg]; exact (below_size (by repeat (first | (with_reducible first | exact HB.out | apply below_alloc | apply pw_below_drewN | apply below_drew1) | exact HB.out))) : w.heap.size ≤ gb139)); clear HB; have HB := n0_; have BK139 := n1_; have GW139 := n2_; have GE139 := n3_; clear n0_ n1_ n2_ n3_; clear hb hbox hg; have hcz3_0 : w2.cell? ⟨gb139, 0, none⟩ = some (.int .i64 a0_0) := (blk_cell BK139.out 0).trans rfl; have hcz3_1 : w2.cell? ⟨gb139, 1, none⟩ = some (.int .i64 a0_1) := (blk_cell BK139.out 1).trans rfl; have hcz3_2 : w2.cell? ⟨gb139, 2, none⟩ = some (.slice A0_2 l0_2.length c0_2) := (blk_cell BK139.out 2).trans rfl; have hfz3_0 := blk_frozen BK139.out 0; have hfz3_1 := blk_frozen BK139.out 1; have hfz3_2 := blk_frozen BK139.out 2))
  go_loopg [3, 9] k (fun kq v3 v9 w' => ∃ (x3_1 : List (S24)) (x9_1 : Int), v9 = .int .i64 x9_1 ∧ Aside0 (queue_Ready.l0 kq x3_1 l0_2 (l0_2.length : Int) x9_1 a0_0 a0_1 l0_2 = some r) ∧ Aside0 (kq ≤ k) ∧ Aside0 (Kd.R k24 24 w' w.heap.size (fun _ => True) v3 x3_1) ∧ Aside0 (w'.heap[gb139]? = some (.cells #[.int .i64 a0_0, .int .i64 a0_1, (.slice A0_2 l0_2.length c0_2)] 46 (0, 0))) ∧ Aside0 (Below w.heap.size w w'))
  case atStart => exact ⟨(([] : List (S24))), (0), (by first | rfl | (simp; done) | (simp [*]; done)), H', ⟨Nat.le_refl _⟩, ⟨by first | exact Kd.R_nil _ _ _ _ _ | exact Kd.N_nil _ _ _ _ _ | exact Kd.V_nil _ _ _ _ _ | exact Kd.Q_nil _ _ _ _ _ | exact Kd.S_nil _ _ _ _ _⟩, ⟨by (with_reducible repeat (first | refine blk_drewN ?_ _ | refine blk_drew ?_ | refine blk_alloc ?_ _)); exact BK139.out⟩, ⟨by repeat (first | (with_reducible first | exact HB.out | apply below_alloc | apply pw_below_drewN | apply below_drew1 | refine below_set ?_ GE139.out) | exact HB.out)⟩⟩
  case round =>
    clear H'
    try clear p2
    try clear hcz3_0
    try clear hcz3_1
    try clear hcz3_2
    try clear hfz3_0
    try clear hfz3_1
    try clear hfz3_2
    obtain ⟨x3_1, x9_1, rfl, HA, HK1, HO_3, BK139, HB⟩ := hrel
    cases gk with
    | zero => exact absurd HA.out (by simp [queue_Ready.l0])
    | succ k1 =>
      have H := HA.out
      clear HA
      simp only [queue_Ready.l0] at H
      by_cases c4 : x9_1 < (l0_2.length : Int)
      · rw [if_pos c4] at H
        have c4b0 : decide (x9_1 < (l0_2.length : Int)) = true := decide_eq_true c4
        clear c4
        by_cases c5 : 0 ≤ x9_1
        · rw [if_pos c5] at H
          have c5b0 : decide (0 ≤ x9_1) = true := decide_eq_true c5
          clear c5
          by_cases c6 : x9_1 < (l0_2.length : Int)
          · rw [if_pos c6] at H
            have c6b0 : decide (x9_1 < (l0_2.length : Int)) = true := decide_eq_true c6
            clear c6
            by_cases c7 : ((rd_T24 l0_2 x9_1).f1) < a0_1
            · rw [if_pos c7] at H
              have c7b0 : decide (((rd_T24 l0_2 x9_1).f1) < a0_1) = true := decide_eq_true c7
              clear c7
              obtain rfl := Option.some.inj H
              have p140 : 0 ≤ (x9_1 : Int) := of_decide_eq_true (by first | (with_reducible assumption) | assumption)
              have q140 : x9_1 < (l0_2.length : Int) := of_decide_eq_true (by first | (with_reducible assumption) | assumption)
              obtain ⟨ad140, e140, hx140_0, hx140_1, hx140_2, hx140_3, hx140_4, hx140_5⟩ := at_T24 HR0_2.out x9_1 p140 q140
              cases e140
              replace hx140_0 := (HB.out.cell (World.block_lt_of_cell? w _ hx140_0)).trans hx140_0
              replace hx140_1 := (HB.out.cell (World.block_lt_of_cell? w _ hx140_1)).trans hx140_1
              replace hx140_2 := (HB.out.cell (World.block_lt_of_cell? w _ hx140_2)).trans hx140_2
              replace hx140_3 := (HB.out.cell (World.block_lt_of_cell? w _ hx140_3)).trans hx140_3
              replace hx140_4 := (HB.out.cell (World.block_lt_of_cell? w _ hx140_4)).trans hx140_4
              replace hx140_5 := (HB.out.cell (World.block_lt_of_cell? w _ hx140_5)).trans hx140_5
              replace p140 := eq_true p140
              replace q140 := eq_true q140
              go_wp2_with (first | ((with_reducible refine gate_dst (N := 5) rfl ?_); refine box_event ?hg (N := 5) ?hd (cs := #[.int .i64 0, .int .i64 0, .int .i64 0, .int .i64 0, .int .i64 0, .string (⟨#[]⟩ : ByteArray)]) (t := 24) ?hr ?_; (case hd => rfl); (case hg => rfl); (case hr => first | (go_simp; done) | (go_simp; rfl)); intro gb141 hg w8 hbox hb; have n0_ := Aside0.mk (Kd.R_below (Kd.R_elderB (by (with_reducible repeat (first | apply Kd.R_alloc | apply Kd.R_drewN | apply Kd.R_drew)); exact HO_3.out) gb141 (Nat.le_of_eq hg.symm)) hb); have n1_ := Aside0.mk (blk_below (g := gb139) (o := .cells #[.int .i64 a0_0, .int .i64 a0_1, .slice (some ad140) l0_2.length c0_2] 46 (0, 0)) (by (with_reducible repeat (first | refine blk_drewN ?_ _ | refine blk_drew ?_ | refine blk_alloc ?_ _)); exact BK139.out) hb); have n2_ := Aside0.mk (below_step (by repeat (first | (with_reducible first | exact HB.out | apply below_alloc | apply pw_below_drewN | apply below_drew1 | refine below_set ?_ GE139.out) | exact HB.out)) hb); have n3_ := Aside0.mk (hbox); have n4_ := Aside0.mk ((by rw [hg]; exact (below_size (by repeat (first | (with_reducible first | exact HB.out | apply below_alloc | apply pw_below_drewN | apply below_drew1 | refine below_set ?_ GE139.out) | exact HB.out))) : w.heap.size ≤ gb141)); have n5_ := Aside0.mk ((by rw [hg]; exact (below_size (by repeat (first | (with_reducible first | exact HB.out | apply below_alloc | apply pw_below_drewN | apply below_drew1 | refine below_set ?_ GE139.out) | exact HB.out))) : w.heap.size ≤ gb141)); have n6_ := Aside0.mk ((by rw [hg]; exact Nat.ne_of_lt (blk_lt (g := gb139) (o := .cells #[.int .i64 a0_0, .int .i64 a0_1, .slice (some ad140) l0_2.length c0_2] 46 (0, 0)) (by (with_reducible repeat (first | refine blk_drewN ?_ _ | refine blk_drew ?_ | refine blk_alloc ?_ _)); exact BK139.out)) : gb139 ≠ gb141)); have n7_ := Aside0.mk ((by rw [hg]; exact Nat.ne_of_gt (blk_lt (g := gb139) (o := .cells #[.int .i64 a0_0, .int .i64 a0_1, .slice (some ad140) l0_2.length c0_2] 46 (0, 0)) (by (with_reducible repeat (first | refine blk_drewN ?_ _ | refine blk_drew ?_ | refine blk_alloc ?_ _)); exact BK139.out)) : gb141 ≠ gb139)); clear HO_3; clear BK139; clear HB; have HO_3 := n0_; have BK139 := n1_; have HB := n2_; have BK141 := n3_; have GW141 := n4_; have GE141 := n5_; have NB139_141 := n6_; have NB141_139 := n7_; clear n0_ n1_ n2_ n3_ n4_ n5_ n6_ n7_; clear hb hbox hg; have hnb9 := NB141_139.out; have hnc9 := NB139_141.out; have hcz10_0 : w8.cell? ⟨gb141, 0, none⟩ = some (.int .i64 0) := (blk_cell BK141.out 0).trans rfl; have hcz10_1 : w8.cell? ⟨gb141, 1, none⟩ = some (.int .i64 0) := (blk_cell BK141.out 1).trans rfl; have hcz10_2 : w8.cell? ⟨gb141, 2, none⟩ = some (.int .i64 0) := (blk_cell BK141.out 2).trans rfl; have hcz10_3 : w8.cell? ⟨gb141, 3, none⟩ = some (.int .i64 0) := (blk_cell BK141.out 3).trans rfl; have hcz10_4 : w8.cell? ⟨gb141, 4, none⟩ = some (.int .i64 0) := (blk_cell BK141.out 4).trans rfl; have hcz10_5 : w8.cell? ⟨gb141, 5, none⟩ = some (.string (⟨#[]⟩ : ByteArray)) := (blk_cell BK141.out 5).trans rfl; have hfz10_0 := blk_frozen BK141.out 0; have hfz10_1 := blk_frozen BK141.out 1; have hfz10_2 := blk_frozen BK141.out 2; have hfz10_3 := blk_frozen BK141.out 3; have hfz10_4 := blk_frozen BK141.out 4; have hfz10_5 := blk_frozen BK141.out 5; have hcz11_0 : w8.cell? ⟨gb139, 0, none⟩ = some (.int .i64 a0_0) := (blk_cell BK139.out 0).trans rfl; have hcz11_1 : w8.cell? ⟨gb139, 1, none⟩ = some (.int .i64 a0_1) := (blk_cell BK139.out 1).trans rfl; have hcz11_2 : w8.cell? ⟨gb139, 2, none⟩ = some (.slice (some ad140) l0_2.length c0_2) := (blk_cell BK139.out 2).trans rfl; have hfz11_0 := blk_frozen BK139.out 0; have hfz11_1 := blk_frozen BK139.out 1; have hfz11_2 := blk_frozen BK139.out 2))
              go_ret
              exact ⟨_, by first | rfl | (simp [errW_none, errW_some] <;> rfl) | (simp [*, errW_none, errW_some] <;> rfl), by (with_reducible repeat (first | apply Kd.R_alloc | apply Kd.R_drewN | apply Kd.R_drew)); exact Kd.R_mono (Kd.R_far (p := ⟨gb141, 5, none⟩) (Kd.R_far (p := ⟨gb141, 4, none⟩) (Kd.R_far (p := ⟨gb141, 3, none⟩) (Kd.R_far (p := ⟨gb141, 2, none⟩) (Kd.R_far (p := ⟨gb141, 1, none⟩) (Kd.R_far (p := ⟨gb141, 0, none⟩) (Kd.R_mono HO_3.out (fun k_ hk => (⟨hk, hk.2⟩ : _ ∧ k_ ≠ gb141))) (fun _ hk => hk.2) (.int .i64 ((rd_T24 l0_2 x9_1).f0))) (fun _ hk => hk.2) (.int .i64 ((rd_T24 l0_2 x9_1).f1))) (fun _ hk => hk.2) (.int .i64 ((rd_T24 l0_2 x9_1).f2))) (fun _ hk => hk.2) (.int .i64 ((rd_T24 l0_2 x9_1).f3))) (fun _ hk => hk.2) (.int .i64 ((rd_T24 l0_2 x9_1).f4))) (fun _ hk => hk.2) (.string ((rd_T24 l0_2 x9_1).f5))) (fun _ hk => trivial), by repeat (first | (with_reducible first | exact HB.out | apply below_alloc | apply pw_below_drewN | apply below_drew1 | refine below_set ?_ GE139.out | refine below_set ?_ GE141.out) | exact HB.out)⟩
            · rw [if_neg c7] at H
              have c7b0 : decide (((rd_T24 l0_2 x9_1).f1) < a0_1) = false := decide_eq_false c7
              clear c7
              by_cases c12 : (wrap64 (((rd_T24 l0_2 x9_1).f1) - a0_1)) = x9_1
              · rw [if_pos c12] at H
                have c12b0 : ((wrap64 (((rd_T24 l0_2 x9_1).f1) - a0_1)) == x9_1) = true := beq_iff_eq.mpr c12
                have c12b1 : ((wrap64 (((rd_T24 l0_2 x9_1).f1) - a0_1)) != x9_1) = false := bne_eq_false_iff_eq.mpr c12
                clear c12
                by_cases c13 : x3_1.length < 2513169434916
                · rw [if_pos c13] at H
                  have LMc13 := Aside0.mk c13
                  clear c13
                  obtain ⟨y142, hy142⟩ : ∃ y_ : List (S24), y_ = (x3_1 ++ [(⟨(rd_T24 l0_2 x9_1).f0, (rd_T24 l0_2 x9_1).f1, (rd_T24 l0_2 x9_1).f2, (rd_T24 l0_2 x9_1).f3, (rd_T24 l0_2 x9_1).f4, (rd_T24 l0_2 x9_1).f5⟩ : S24)]) := ⟨_, rfl⟩
                  replace H : (queue_Ready.l0 k1 y142 l0_2 (l0_2.length : Int) (wrap64 (x9_1 + 1)) a0_0 a0_1 l0_2) = some r := by first | (rw [hy142]; with_reducible exact H) | (have H2_ := (Option.bind_some _ _).symm.trans H; rw [hy142]; with_reducible exact H2_) | (have H2_ := (Option.bind_some _ _).symm.trans H; with_reducible exact H2_) | with_reducible exact H | (rw [hy142]; exact H) | exact H
                  have Ny142 := Aside0.mk hy142
                  clear hy142
                  have H' := Aside0.mk H
                  clear H
                  have p140 : 0 ≤ (x9_1 : Int) := of_decide_eq_true (by first | (with_reducible assumption) | assumption)
                  have q140 : x9_1 < (l0_2.length : Int) := of_decide_eq_true (by first | (with_reducible assumption) | assumption)
                  obtain ⟨ad140, e140, hx140_0, hx140_1, hx140_2, hx140_3, hx140_4, hx140_5⟩ := at_T24 HR0_2.out x9_1 p140 q140
                  cases e140
                  replace hx140_0 := (HB.out.cell (World.block_lt_of_cell? w _ hx140_0)).trans hx140_0
                  replace hx140_1 := (HB.out.cell (World.block_lt_of_cell? w _ hx140_1)).trans hx140_1
                  replace hx140_2 := (HB.out.cell (World.block_lt_of_cell? w _ hx140_2)).trans hx140_2
                  replace hx140_3 := (HB.out.cell (World.block_lt_of_cell? w _ hx140_3)).trans hx140_3
                  replace hx140_4 := (HB.out.cell (World.block_lt_of_cell? w _ hx140_4)).trans hx140_4
                  replace hx140_5 := (HB.out.cell (World.block_lt_of_cell? w _ hx140_5)).trans hx140_5
                  replace p140 := eq_true p140
                  replace q140 := eq_true q140
                  go_wp2_with (first | ((with_reducible refine gate_dst (N := 5) rfl ?_); refine box_event ?hg (N := 5) ?hd (cs := #[.int .i64 0, .int .i64 0, .int .i64 0, .int .i64 0, .int .i64 0, .string (⟨#[]⟩ : ByteArray)]) (t := 24) ?hr ?_; (case hd => rfl); (case hg => rfl); (case hr => first | (go_simp; done) | (go_simp; rfl)); intro gb141 hg w14 hbox hb; have n0_ := Aside0.mk (Kd.R_below (Kd.R_elderB (by (with_reducible repeat (first | apply Kd.R_alloc | apply Kd.R_drewN | apply Kd.R_drew)); exact HO_3.out) gb141 (Nat.le_of_eq hg.symm)) hb); have n1_ := Aside0.mk (blk_below (g := gb139) (o := .cells #[.int .i64 a0_0, .int .i64 a0_1, .slice (some ad140) l0_2.length c0_2] 46 (0, 0)) (by (with_reducible repeat (first | refine blk_drewN ?_ _ | refine blk_drew ?_ | refine blk_alloc ?_ _)); exact BK139.out) hb); have n2_ := Aside0.mk (below_step (by repeat (first | (with_reducible first | exact HB.out | apply below_alloc | apply pw_below_drewN | apply below_drew1 | refine below_set ?_ GE139.out) | exact HB.out)) hb); have n3_ := Aside0.mk (hbox); have n4_ := Aside0.mk ((by rw [hg]; exact (below_size (by repeat (first | (with_reducible first | exact HB.out | apply below_alloc | apply pw_below_drewN | apply below_drew1 | refine below_set ?_ GE139.out) | exact HB.out))) : w.heap.size ≤ gb141)); have n5_ := Aside0.mk ((by rw [hg]; exact (below_size (by repeat (first | (with_reducible first | exact HB.out | apply below_alloc | apply pw_below_drewN | apply below_drew1 | refine below_set ?_ GE139.out) | exact HB.out))) : w.heap.size ≤ gb141)); have n6_ := Aside0.mk ((by rw [hg]; exact Nat.ne_of_lt (blk_lt (g := gb139) (o := .cells #[.int .i64 a0_0, .int .i64 a0_1, .slice (some ad140) l0_2.length c0_2] 46 (0, 0)) (by (with_reducible repeat (first | refine blk_drewN ?_ _ | refine blk_drew ?_ | refine blk_alloc ?_ _)); exact BK139.out)) : gb139 ≠ gb141)); have n7_ := Aside0.mk ((by rw [hg]; exact Nat.ne_of_gt (blk_lt (g := gb139) (o := .cells #[.int .i64 a0_0, .int .i64 a0_1, .slice (some ad140) l0_2.length c0_2] 46 (0, 0)) (by (with_reducible repeat (first | refine blk_drewN ?_ _ | refine blk_drew ?_ | refine blk_alloc ?_ _)); exact BK139.out)) : gb141 ≠ gb139)); clear HO_3; clear BK139; clear HB; have HO_3 := n0_; have BK139 := n1_; have HB := n2_; have BK141 := n3_; have GW141 := n4_; have GE141 := n5_; have NB139_141 := n6_; have NB141_139 := n7_; clear n0_ n1_ n2_ n3_ n4_ n5_ n6_ n7_; clear hb hbox hg; have hnb15 := NB141_139.out; have hnc15 := NB139_141.out; have hcz16_0 : w14.cell? ⟨gb141, 0, none⟩ = some (.int .i64 0) := (blk_cell BK141.out 0).trans rfl; have hcz16_1 : w14.cell? ⟨gb141, 1, none⟩ = some (.int .i64 0) := (blk_cell BK141.out 1).trans rfl; have hcz16_2 : w14.cell? ⟨gb141, 2, none⟩ = some (.int .i64 0) := (blk_cell BK141.out 2).trans rfl; have hcz16_3 : w14.cell? ⟨gb141, 3, none⟩ = some (.int .i64 0) := (blk_cell BK141.out 3).trans rfl; have hcz16_4 : w14.cell? ⟨gb141, 4, none⟩ = some (.int .i64 0) := (blk_cell BK141.out 4).trans rfl; have hcz16_5 : w14.cell? ⟨gb141, 5, none⟩ = some (.string (⟨#[]⟩ : ByteArray)) := (blk_cell BK141.out 5).trans rfl; have hfz16_0 := blk_frozen BK141.out 0; have hfz16_1 := blk_frozen BK141.out 1; have hfz16_2 := blk_frozen BK141.out 2; have hfz16_3 := blk_frozen BK141.out 3; have hfz16_4 := blk_frozen BK141.out 4; have hfz16_5 := blk_frozen BK141.out 5; have hcz17_0 : w14.cell? ⟨gb139, 0, none⟩ = some (.int .i64 a0_0) := (blk_cell BK139.out 0).trans rfl; have hcz17_1 : w14.cell? ⟨gb139, 1, none⟩ = some (.int .i64 a0_1) := (blk_cell BK139.out 1).trans rfl; have hcz17_2 : w14.cell? ⟨gb139, 2, none⟩ = some (.slice (some ad140) l0_2.length c0_2) := (blk_cell BK139.out 2).trans rfl; have hfz17_0 := blk_frozen BK139.out 0; have hfz17_1 := blk_frozen BK139.out 1; have hfz17_2 := blk_frozen BK139.out 2) | ((with_reducible refine gate_builtin (b := .append) (xs := #[.tmp 28, .tmp 30]) rfl ?_); at_builtin; refine Kd.R_append k24 (w0 := w) w.heap.size rfl (.tmp 28) (.tmp 30) 22 24 (.agg #[(.int .i64 0), (.int .i64 0), (.int .i64 0), (.int .i64 0), (.int .i64 0), (.string ⟨#[]⟩)]) 56 rfl Try.underlying22 info24 rfl (by decide) (by omega) u3 x3_1 (⟨(rd_T24 l0_2 x9_1).f0, (rd_T24 l0_2 x9_1).f1, (rd_T24 l0_2 x9_1).f2, (rd_T24 l0_2 x9_1).f3, (rd_T24 l0_2 x9_1).f4, (rd_T24 l0_2 x9_1).f5⟩ : S24) [.int .i64 ((rd_T24 l0_2 x9_1).f0), .int .i64 ((rd_T24 l0_2 x9_1).f1), .int .i64 ((rd_T24 l0_2 x9_1).f2), .int .i64 ((rd_T24 l0_2 x9_1).f3), .int .i64 ((rd_T24 l0_2 x9_1).f4), .string ((rd_T24 l0_2 x9_1).f5)] (fun k_ => k_ ≠ gb141) (fun _ => False) rfl (by first | (go_simp; done) | (go_simp; rfl)) ?aP (fun _ hk => hk.elim) ?aF ?aO ?aB ?aS ?aL ?_; (case aP => exact k24_mkM _ _ _ (⟨(rd_T24 l0_2 x9_1).f0, (rd_T24 l0_2 x9_1).f1, (rd_T24 l0_2 x9_1).f2, (rd_T24 l0_2 x9_1).f3, (rd_T24 l0_2 x9_1).f4, (rd_T24 l0_2 x9_1).f5⟩ : S24)); (case aB => exact (by repeat (first | (with_reducible first | exact HB.out | apply below_alloc | apply pw_below_drewN | apply below_drew1 | refine below_set ?_ GE139.out | refine below_set ?_ GE141.out) | exact HB.out))); (case aF => exact (fun k_ hk => Kd.freshB (g := gb141) (o := .cells #[.int .i64 ((rd_T24 l0_2 x9_1).f0), .int .i64 ((rd_T24 l0_2 x9_1).f1), .int .i64 ((rd_T24 l0_2 x9_1).f2), .int .i64 ((rd_T24 l0_2 x9_1).f3), .int .i64 ((rd_T24 l0_2 x9_1).f4), .string ((rd_T24 l0_2 x9_1).f5)] 24 (0, 0)) (by (with_reducible repeat (first | refine blk_drewN ?_ _ | refine blk_drew ?_ | refine blk_alloc ?_ _)); refine blk_put (cs := #[.int .i64 ((rd_T24 l0_2 x9_1).f0), .int .i64 ((rd_T24 l0_2 x9_1).f1), .int .i64 ((rd_T24 l0_2 x9_1).f2), .int .i64 ((rd_T24 l0_2 x9_1).f3), .int .i64 ((rd_T24 l0_2 x9_1).f4), .string (⟨#[]⟩ : ByteArray)]) ?_ 5 _ rfl; (with_reducible repeat (first | refine blk_drewN ?_ _ | refine blk_drew ?_ | refine blk_alloc ?_ _)); refine blk_put (cs := #[.int .i64 ((rd_T24 l0_2 x9_1).f0), .int .i64 ((rd_T24 l0_2 x9_1).f1), .int .i64 ((rd_T24 l0_2 x9_1).f2), .int .i64 ((rd_T24 l0_2 x9_1).f3), .int .i64 0, .string (⟨#[]⟩ : ByteArray)]) ?_ 4 _ rfl; (with_reducible repeat (first | refine blk_drewN ?_ _ | refine blk_drew ?_ | refine blk_alloc ?_ _)); refine blk_put (cs := #[.int .i64 ((rd_T24 l0_2 x9_1).f0), .int .i64 ((rd_T24 l0_2 x9_1).f1), .int .i64 ((rd_T24 l0_2 x9_1).f2), .int .i64 0, .int .i64 0, .string (⟨#[]⟩ : ByteArray)]) ?_ 3 _ rfl; (with_reducible repeat (first | refine blk_drewN ?_ _ | refine blk_drew ?_ | refine blk_alloc ?_ _)); refine blk_put (cs := #[.int .i64 ((rd_T24 l0_2 x9_1).f0), .int .i64 ((rd_T24 l0_2 x9_1).f1), .int .i64 0, .int .i64 0, .int .i64 0, .string (⟨#[]⟩ : ByteArray)]) ?_ 2 _ rfl; (with_reducible repeat (first | refine blk_drewN ?_ _ | refine blk_drew ?_ | refine blk_alloc ?_ _)); refine blk_put (cs := #[.int .i64 ((rd_T24 l0_2 x9_1).f0), .int .i64 0, .int .i64 0, .int .i64 0, .int .i64 0, .string (⟨#[]⟩ : ByteArray)]) ?_ 1 _ rfl; (with_reducible repeat (first | refine blk_drewN ?_ _ | refine blk_drew ?_ | refine blk_alloc ?_ _)); refine blk_put (cs := #[.int .i64 0, .int .i64 0, .int .i64 0, .int .i64 0, .int .i64 0, .string (⟨#[]⟩ : ByteArray)]) ?_ 0 _ rfl; (with_reducible repeat (first | refine blk_drewN ?_ _ | refine blk_drew ?_ | refine blk_alloc ?_ _)); exact BK141.out) k_ hk)); (case aO => exact (by (with_reducible repeat (first | apply Kd.R_alloc | apply Kd.R_drewN | apply Kd.R_drew)); exact Kd.R_mono (Kd.R_far (p := ⟨gb141, 5, none⟩) (Kd.R_far (p := ⟨gb141, 4, none⟩) (Kd.R_far (p := ⟨gb141, 3, none⟩) (Kd.R_far (p := ⟨gb141, 2, none⟩) (Kd.R_far (p := ⟨gb141, 1, none⟩) (Kd.R_far (p := ⟨gb141, 0, none⟩) (Kd.R_mono HO_3.out (fun k_ hk => (⟨hk, hk.2⟩ : _ ∧ k_ ≠ gb141))) (fun _ hk => hk.2) (.int .i64 ((rd_T24 l0_2 x9_1).f0))) (fun _ hk => hk.2) (.int .i64 ((rd_T24 l0_2 x9_1).f1))) (fun _ hk => hk.2) (.int .i64 ((rd_T24 l0_2 x9_1).f2))) (fun _ hk => hk.2) (.int .i64 ((rd_T24 l0_2 x9_1).f3))) (fun _ hk => hk.2) (.int .i64 ((rd_T24 l0_2 x9_1).f4))) (fun _ hk => hk.2) (.string ((rd_T24 l0_2 x9_1).f5))) (fun _ hk => hk.1.2))); (case aS => exact (below_size (by repeat (first | (with_reducible first | exact HB.out | apply below_alloc | apply pw_below_drewN | apply below_drew1 | refine below_set ?_ GE139.out | refine below_set ?_ GE141.out) | exact HB.out)))); (case aL => have := LMc13.out; omega); intro v143 w18 ho hb hg hat; rw [← Ny142.out] at ho; have n0_ := Aside0.mk (blk_grown (g := gb139) (o := .cells #[.int .i64 a0_0, .int .i64 a0_1, .slice (some ad140) l0_2.length c0_2] 46 (0, 0)) (by (with_reducible repeat (first | refine blk_drewN ?_ _ | refine blk_drew ?_ | refine blk_alloc ?_ _)); refine blk_far ?_ NB139_141.out _; (with_reducible repeat (first | refine blk_drewN ?_ _ | refine blk_drew ?_ | refine blk_alloc ?_ _)); refine blk_far ?_ NB139_141.out _; (with_reducible repeat (first | refine blk_drewN ?_ _ | refine blk_drew ?_ | refine blk_alloc ?_ _)); refine blk_far ?_ NB139_141.out _; (with_reducible repeat (first | refine blk_drewN ?_ _ | refine blk_drew ?_ | refine blk_alloc ?_ _)); refine blk_far ?_ NB139_141.out _; (with_reducible repeat (first | refine blk_drewN ?_ _ | refine blk_drew ?_ | refine blk_alloc ?_ _)); refine blk_far ?_ NB139_141.out _; (with_reducible repeat (first | refine blk_drewN ?_ _ | refine blk_drew ?_ | refine blk_alloc ?_ _)); refine blk_far ?_ NB139_141.out _; (with_reducible repeat (first | refine blk_drewN ?_ _ | refine blk_drew ?_ | refine blk_alloc ?_ _)); exact BK139.out) hg (Kd.R_ne HO_3.out BK139.out (by decide))); have n1_ := Aside0.mk (blk_grown (g := gb141) (o := .cells #[.int .i64 ((rd_T24 l0_2 x9_1).f0), .int .i64 ((rd_T24 l0_2 x9_1).f1), .int .i64 ((rd_T24 l0_2 x9_1).f2), .int .i64 ((rd_T24 l0_2 x9_1).f3), .int .i64 ((rd_T24 l0_2 x9_1).f4), .string ((rd_T24 l0_2 x9_1).f5)] 24 (0, 0)) (by (with_reducible repeat (first | refine blk_drewN ?_ _ | refine blk_drew ?_ | refine blk_alloc ?_ _)); refine blk_put (cs := #[.int .i64 ((rd_T24 l0_2 x9_1).f0), .int .i64 ((rd_T24 l0_2 x9_1).f1), .int .i64 ((rd_T24 l0_2 x9_1).f2), .int .i64 ((rd_T24 l0_2 x9_1).f3), .int .i64 ((rd_T24 l0_2 x9_1).f4), .string (⟨#[]⟩ : ByteArray)]) ?_ 5 _ rfl; (with_reducible repeat (first | refine blk_drewN ?_ _ | refine blk_drew ?_ | refine blk_alloc ?_ _)); refine blk_put (cs := #[.int .i64 ((rd_T24 l0_2 x9_1).f0), .int .i64 ((rd_T24 l0_2 x9_1).f1), .int .i64 ((rd_T24 l0_2 x9_1).f2), .int .i64 ((rd_T24 l0_2 x9_1).f3), .int .i64 0, .string (⟨#[]⟩ : ByteArray)]) ?_ 4 _ rfl; (with_reducible repeat (first | refine blk_drewN ?_ _ | refine blk_drew ?_ | refine blk_alloc ?_ _)); refine blk_put (cs := #[.int .i64 ((rd_T24 l0_2 x9_1).f0), .int .i64 ((rd_T24 l0_2 x9_1).f1), .int .i64 ((rd_T24 l0_2 x9_1).f2), .int .i64 0, .int .i64 0, .string (⟨#[]⟩ : ByteArray)]) ?_ 3 _ rfl; (with_reducible repeat (first | refine blk_drewN ?_ _ | refine blk_drew ?_ | refine blk_alloc ?_ _)); refine blk_put (cs := #[.int .i64 ((rd_T24 l0_2 x9_1).f0), .int .i64 ((rd_T24 l0_2 x9_1).f1), .int .i64 0, .int .i64 0, .int .i64 0, .string (⟨#[]⟩ : ByteArray)]) ?_ 2 _ rfl; (with_reducible repeat (first | refine blk_drewN ?_ _ | refine blk_drew ?_ | refine blk_alloc ?_ _)); refine blk_put (cs := #[.int .i64 ((rd_T24 l0_2 x9_1).f0), .int .i64 0, .int .i64 0, .int .i64 0, .int .i64 0, .string (⟨#[]⟩ : ByteArray)]) ?_ 1 _ rfl; (with_reducible repeat (first | refine blk_drewN ?_ _ | refine blk_drew ?_ | refine blk_alloc ?_ _)); refine blk_put (cs := #[.int .i64 0, .int .i64 0, .int .i64 0, .int .i64 0, .int .i64 0, .string (⟨#[]⟩ : ByteArray)]) ?_ 0 _ rfl; (with_reducible repeat (first | refine blk_drewN ?_ _ | refine blk_drew ?_ | refine blk_alloc ?_ _)); exact BK141.out) hg (Kd.R_away HO_3.out (fun _ hk => hk.2))); have n2_ := Aside0.mk (hb); have n3_ := Aside0.mk (ho); clear BK139; clear BK141; clear HB; clear HO_3; have BK139 := n0_; have BK141 := n1_; have HB := n2_; have HO144 := n3_; clear n0_ n1_ n2_ n3_; clear ho hb hg hat))
                  go_roundg k1
                  case measure => have := HK1.out; omega
                  case rel => exact ⟨(y142), (wrap64 (x9_1 + 1)), (by first | rfl | (simp; done) | (simp [*]; done)), H', ⟨by have := HK1.out; omega⟩, ⟨by (with_reducible repeat (first | apply Kd.R_alloc | apply Kd.R_drewN | apply Kd.R_drew)); exact Kd.R_mono HO144.out (fun _ hk => trivial)⟩, ⟨by (with_reducible repeat (first | refine blk_drewN ?_ _ | refine blk_drew ?_ | refine blk_alloc ?_ _)); exact BK139.out⟩, ⟨by repeat (first | (with_reducible first | exact HB.out | apply below_alloc | apply pw_below_drewN | apply below_drew1 | refine below_set ?_ GE139.out | refine below_set ?_ GE141.out) | exact HB.out)⟩⟩
                · rw [if_neg c13] at H
                  exact absurd H (by simp)
              · rw [if_neg c12] at H
                have c12b0 : ((wrap64 (((rd_T24 l0_2 x9_1).f1) - a0_1)) == x9_1) = false := beq_eq_false_iff_ne.mpr c12
                have c12b1 : ((wrap64 (((rd_T24 l0_2 x9_1).f1) - a0_1)) != x9_1) = true := bne_iff_ne.mpr c12
                obtain rfl := Option.some.inj H
                have p140 : 0 ≤ (x9_1 : Int) := of_decide_eq_true (by first | (with_reducible assumption) | assumption)
                have q140 : x9_1 < (l0_2.length : Int) := of_decide_eq_true (by first | (with_reducible assumption) | assumption)
                obtain ⟨ad140, e140, hx140_0, hx140_1, hx140_2, hx140_3, hx140_4, hx140_5⟩ := at_T24 HR0_2.out x9_1 p140 q140
                cases e140
                replace hx140_0 := (HB.out.cell (World.block_lt_of_cell? w _ hx140_0)).trans hx140_0
                replace hx140_1 := (HB.out.cell (World.block_lt_of_cell? w _ hx140_1)).trans hx140_1
                replace hx140_2 := (HB.out.cell (World.block_lt_of_cell? w _ hx140_2)).trans hx140_2
                replace hx140_3 := (HB.out.cell (World.block_lt_of_cell? w _ hx140_3)).trans hx140_3
                replace hx140_4 := (HB.out.cell (World.block_lt_of_cell? w _ hx140_4)).trans hx140_4
                replace hx140_5 := (HB.out.cell (World.block_lt_of_cell? w _ hx140_5)).trans hx140_5
                replace p140 := eq_true p140
                replace q140 := eq_true q140
                go_wp2_with (first | ((with_reducible refine gate_dst (N := 5) rfl ?_); refine box_event ?hg (N := 5) ?hd (cs := #[.int .i64 0, .int .i64 0, .int .i64 0, .int .i64 0, .int .i64 0, .string (⟨#[]⟩ : ByteArray)]) (t := 24) ?hr ?_; (case hd => rfl); (case hg => rfl); (case hr => first | (go_simp; done) | (go_simp; rfl)); intro gb141 hg w19 hbox hb; have n0_ := Aside0.mk (Kd.R_below (Kd.R_elderB (by (with_reducible repeat (first | apply Kd.R_alloc | apply Kd.R_drewN | apply Kd.R_drew)); exact HO_3.out) gb141 (Nat.le_of_eq hg.symm)) hb); have n1_ := Aside0.mk (blk_below (g := gb139) (o := .cells #[.int .i64 a0_0, .int .i64 a0_1, .slice (some ad140) l0_2.length c0_2] 46 (0, 0)) (by (with_reducible repeat (first | refine blk_drewN ?_ _ | refine blk_drew ?_ | refine blk_alloc ?_ _)); exact BK139.out) hb); have n2_ := Aside0.mk (below_step (by repeat (first | (with_reducible first | exact HB.out | apply below_alloc | apply pw_below_drewN | apply below_drew1 | refine below_set ?_ GE139.out) | exact HB.out)) hb); have n3_ := Aside0.mk (hbox); have n4_ := Aside0.mk ((by rw [hg]; exact (below_size (by repeat (first | (with_reducible first | exact HB.out | apply below_alloc | apply pw_below_drewN | apply below_drew1 | refine below_set ?_ GE139.out) | exact HB.out))) : w.heap.size ≤ gb141)); have n5_ := Aside0.mk ((by rw [hg]; exact (below_size (by repeat (first | (with_reducible first | exact HB.out | apply below_alloc | apply pw_below_drewN | apply below_drew1 | refine below_set ?_ GE139.out) | exact HB.out))) : w.heap.size ≤ gb141)); have n6_ := Aside0.mk ((by rw [hg]; exact Nat.ne_of_lt (blk_lt (g := gb139) (o := .cells #[.int .i64 a0_0, .int .i64 a0_1, .slice (some ad140) l0_2.length c0_2] 46 (0, 0)) (by (with_reducible repeat (first | refine blk_drewN ?_ _ | refine blk_drew ?_ | refine blk_alloc ?_ _)); exact BK139.out)) : gb139 ≠ gb141)); have n7_ := Aside0.mk ((by rw [hg]; exact Nat.ne_of_gt (blk_lt (g := gb139) (o := .cells #[.int .i64 a0_0, .int .i64 a0_1, .slice (some ad140) l0_2.length c0_2] 46 (0, 0)) (by (with_reducible repeat (first | refine blk_drewN ?_ _ | refine blk_drew ?_ | refine blk_alloc ?_ _)); exact BK139.out)) : gb141 ≠ gb139)); clear HO_3; clear BK139; clear HB; have HO_3 := n0_; have BK139 := n1_; have HB := n2_; have BK141 := n3_; have GW141 := n4_; have GE141 := n5_; have NB139_141 := n6_; have NB141_139 := n7_; clear n0_ n1_ n2_ n3_ n4_ n5_ n6_ n7_; clear hb hbox hg; have hnb20 := NB141_139.out; have hnc20 := NB139_141.out; have hcz21_0 : w19.cell? ⟨gb141, 0, none⟩ = some (.int .i64 0) := (blk_cell BK141.out 0).trans rfl; have hcz21_1 : w19.cell? ⟨gb141, 1, none⟩ = some (.int .i64 0) := (blk_cell BK141.out 1).trans rfl; have hcz21_2 : w19.cell? ⟨gb141, 2, none⟩ = some (.int .i64 0) := (blk_cell BK141.out 2).trans rfl; have hcz21_3 : w19.cell? ⟨gb141, 3, none⟩ = some (.int .i64 0) := (blk_cell BK141.out 3).trans rfl; have hcz21_4 : w19.cell? ⟨gb141, 4, none⟩ = some (.int .i64 0) := (blk_cell BK141.out 4).trans rfl; have hcz21_5 : w19.cell? ⟨gb141, 5, none⟩ = some (.string (⟨#[]⟩ : ByteArray)) := (blk_cell BK141.out 5).trans rfl; have hfz21_0 := blk_frozen BK141.out 0; have hfz21_1 := blk_frozen BK141.out 1; have hfz21_2 := blk_frozen BK141.out 2; have hfz21_3 := blk_frozen BK141.out 3; have hfz21_4 := blk_frozen BK141.out 4; have hfz21_5 := blk_frozen BK141.out 5; have hcz22_0 : w19.cell? ⟨gb139, 0, none⟩ = some (.int .i64 a0_0) := (blk_cell BK139.out 0).trans rfl; have hcz22_1 : w19.cell? ⟨gb139, 1, none⟩ = some (.int .i64 a0_1) := (blk_cell BK139.out 1).trans rfl; have hcz22_2 : w19.cell? ⟨gb139, 2, none⟩ = some (.slice (some ad140) l0_2.length c0_2) := (blk_cell BK139.out 2).trans rfl; have hfz22_0 := blk_frozen BK139.out 0; have hfz22_1 := blk_frozen BK139.out 1; have hfz22_2 := blk_frozen BK139.out 2))
                go_ret
                exact ⟨_, by first | rfl | (simp [errW_none, errW_some] <;> rfl) | (simp [*, errW_none, errW_some] <;> rfl), by (with_reducible repeat (first | apply Kd.R_alloc | apply Kd.R_drewN | apply Kd.R_drew)); exact Kd.R_mono (Kd.R_far (p := ⟨gb141, 5, none⟩) (Kd.R_far (p := ⟨gb141, 4, none⟩) (Kd.R_far (p := ⟨gb141, 3, none⟩) (Kd.R_far (p := ⟨gb141, 2, none⟩) (Kd.R_far (p := ⟨gb141, 1, none⟩) (Kd.R_far (p := ⟨gb141, 0, none⟩) (Kd.R_mono HO_3.out (fun k_ hk => (⟨hk, hk.2⟩ : _ ∧ k_ ≠ gb141))) (fun _ hk => hk.2) (.int .i64 ((rd_T24 l0_2 x9_1).f0))) (fun _ hk => hk.2) (.int .i64 ((rd_T24 l0_2 x9_1).f1))) (fun _ hk => hk.2) (.int .i64 ((rd_T24 l0_2 x9_1).f2))) (fun _ hk => hk.2) (.int .i64 ((rd_T24 l0_2 x9_1).f3))) (fun _ hk => hk.2) (.int .i64 ((rd_T24 l0_2 x9_1).f4))) (fun _ hk => hk.2) (.string ((rd_T24 l0_2 x9_1).f5))) (fun _ hk => trivial), by repeat (first | (with_reducible first | exact HB.out | apply below_alloc | apply pw_below_drewN | apply below_drew1 | refine below_set ?_ GE139.out | refine below_set ?_ GE141.out) | exact HB.out)⟩
          · rw [if_neg c6] at H
            exact absurd H (by simp)
        · rw [if_neg c5] at H
          exact absurd H (by simp)
      · rw [if_neg c4] at H
        have c4b0 : decide (x9_1 < (l0_2.length : Int)) = false := decide_eq_false c4
        clear c4
        obtain rfl := Option.some.inj H
        go_wp2
        go_ret
        exact ⟨_, by first | rfl | (simp [errW_none, errW_some] <;> rfl) | (simp [*, errW_none, errW_some] <;> rfl), by (with_reducible repeat (first | apply Kd.R_alloc | apply Kd.R_drewN | apply Kd.R_drew)); exact HO_3.out, by repeat (first | (with_reducible first | exact HB.out | apply below_alloc | apply pw_below_drewN | apply below_drew1 | refine below_set ?_ GE139.out) | exact HB.out)⟩

-- NOT PRINTED: function 166 (abi_NoEscape)

/-! ### strings_Builder_copyCheck: function 162, by hand -/
-- HAND rounds=0 making=1 opaque
-- IMPORT Derived.Lib.Builder
-- IMPORT Derived.Lib.AppendStr
-- IMPORT Derived.Lib.UnsafeStr
theorem sizeB : (Try.prog.info? 164).map (·.size) = some 2 := by kernel_rfl
theorem liesB : liesAt Try.prog Try.prog.depth 164 (2 / Try.prog.cellsOf 164) 0 164 1 = true := by kernel_rfl
set_option maxHeartbeats 1000000 in
set_option maxRecDepth 100000 in
theorem builder_used (b : Nat) (w : World) (h0 : w.cell? ⟨b, 0, none⟩ = some (.pointer (some ⟨b, 0, none⟩))) :
    Calls Try.prog 162 #[.pointer (some ⟨b, 0, none⟩)] w fun e w' => e = .returned (.tuple #[]) ∧ w' = w := by
  obtain ⟨j, hj, _⟩ := Option.map_eq_some_iff.1 sizeB
  go_enter Try.func162, Try.ntmps162
  go_wp2
  rw [Lib.run_neq_ptr_same w _ Try.underlying161 hj]
  go_wp2
  go_end0
  exact ⟨rfl, rfl⟩
set_option maxHeartbeats 1000000 in
set_option maxRecDepth 100000 in
theorem builder_fresh (b : Nat) (w : World) (h0 : w.cell? ⟨b, 0, none⟩ = some (.pointer none)) (hsh : w.shape? b = some (164, 2)) (hfz : w.frozen? ⟨b, 0, none⟩ = false) :
    Calls Try.prog 162 #[.pointer (some ⟨b, 0, none⟩)] w fun e w' => e = .returned (.tuple #[]) ∧ w' = w.setCell ⟨b, 0, none⟩ (.pointer (some ⟨b, 0, none⟩)) := by
  obtain ⟨j, hj, hjs⟩ := Option.map_eq_some_iff.1 sizeB
  go_enter Try.func162, Try.ntmps162
  go_wp2
  rw [Lib.run_to_unsafe w ⟨b, 0, none⟩ Try.underlying161 Try.underlying179 hj (by rw [hjs]; decide) hsh (Nat.zero_lt_succ 1)]
  simp only [Result.andThen]
  rw [Oper.upon_value]
  go_wp2
  rw [run_callFunc_extern Try.func166 (by kernel_rfl) (by kernel_rfl) (by kernel_rfl) (e := Extern.AbiNoEscape.same) (by kernel_rfl), Lib.run_noEscape]
  simp only [Result.andThen]
  rw [Oper.upon_value]
  go_wp2
  rw [Lib.run_from_unsafe w ⟨b, 0, none⟩ Try.underlying179 Try.underlying161 hj hsh liesB]
  simp only [Result.andThen]
  rw [Oper.upon_value]
  go_wp2
  go_end0
  exact ⟨rfl, rfl⟩
theorem strings_Builder_copyCheck.calls (B b : Nat) (bs : List Value) (w : World) (h : Lib.IsBuilder 164 5 B b bs w) :
    Calls Try.prog 162 #[.pointer (some ⟨b, 0, none⟩)] w fun e w' => e = .returned (.tuple #[]) ∧ (Lib.BuilderAt 164 5 B b (.pointer (some ⟨b, 0, none⟩)) bs w' ∧ Below B w w') := by
  rcases h with h | h
  · refine (builder_fresh b w h.cell0 h.shape h.frozen0).mono ?_
    rintro e w' ⟨rfl, rfl⟩
    exact ⟨rfl, h.used _, (Below.refl B w).setCell (p := ⟨b, 0, none⟩) h.1 _⟩
  · refine (builder_used b w h.cell0).mono ?_
    rintro e w' ⟨rfl, rfl⟩
    exact ⟨rfl, h, Below.refl B _⟩


/-! ### strings_Builder_WriteString: function 151, by hand -/
-- HAND rounds=0 making=1 opaque
-- IMPORT Derived.OwnWalk
theorem infoB : (Try.prog.info? 5).map (fun i => (i.zero, i.size, i.bytes)) = some (some (.int .u8 0), 1, 1) := by kernel_rfl
set_option maxHeartbeats 1000000 in
set_option maxRecDepth 100000 in
theorem strings_Builder_WriteString.calls (B b : Nat) (bs : List Value) (s : ByteArray) (w : World) (h : Lib.IsBuilder 164 5 B b bs w) (hlen : bs.length + s.size ≤ 140737488355328) (hBw : B ≤ w.heap.size) :
    Calls Try.prog 151 #[.pointer (some ⟨b, 0, none⟩), .string s] w fun e w' => e = .returned (.tuple #[.int .i64 s.size, .nilIface]) ∧ (Lib.BuilderAt 164 5 B b (.pointer (some ⟨b, 0, none⟩)) (bs ++ Lib.strCells s) w' ∧ Below B w w') := by
  obtain ⟨i0, hi, hz⟩ := Option.map_eq_some_iff.1 infoB
  simp only [Prod.mk.injEq] at hz
  obtain ⟨hz0, hz1, hz2⟩ := hz
  have HC := Aside0.mk (strings_Builder_copyCheck.calls B b bs w h)
  go_enter Try.func151, Try.ntmps151
  go_wp2_with (first | (go_at_call 162; (with_reducible refine HC.out.mono ?_)))
  rintro e w1 ⟨rfl, h1, hb1⟩
  obtain ⟨hB, v, hbk, hown, hne⟩ := h1
  have c0 : w1.cell? ⟨b, 0, none⟩ = some (.pointer (some ⟨b, 0, none⟩)) := by rw [Lib.cell_of_heap hbk]; rfl
  have c1 : w1.cell? ⟨b, 1, none⟩ = some v := by rw [Lib.cell_of_heap hbk]; rfl
  go_wp2_with (at_builtin; refine Lib.wpList_append_own_string _ rfl _ _ 162 9 rfl B 5 i0 Try.underlying162 Try.underlying9 hi hz0 hz1 hz2 _ _ _ rfl hown s rfl ?c3 ?c4 ?c5 ?_)
  case c3 => unfold maxLen; omega
  case c4 => omega
  case c5 => have := hb1.size; omega
  intro v' w2 hown' hgrow _
  have hlt : b < w1.heap.size := by
    rcases Nat.lt_or_ge b w1.heap.size with h' | h'
    · exact h'
    · simp [Array.getElem?_eq_none h'] at hbk
  have hb2 : w2.heap[b]? = some (.cells #[.pointer (some ⟨b, 0, none⟩), v] 164 (0, 0)) := by
    rw [hgrow.block b hlt (fun e => hne e.symm)]
    exact hbk
  have d0 : w2.cell? ⟨b, 0, none⟩ = some (.pointer (some ⟨b, 0, none⟩)) := by rw [Lib.cell_of_heap hb2]; rfl
  have d1 : w2.cell? ⟨b, 1, none⟩ = some v := by rw [Lib.cell_of_heap hb2]; rfl
  have f1 : w2.frozen? ⟨b, 1, none⟩ = false := Lib.frozen_of_heap hb2 1
  obtain ⟨ao, n', cap, rfl⟩ : ∃ ao n' cap, v' = .slice ao n' cap := by
    rcases hown'.2 with ⟨hv, _⟩ | ⟨g, cap, cur, hv, _⟩
    · exact ⟨_, _, _, hv⟩
    · exact ⟨_, _, _, hv⟩
  go_wp2
  go_ret2
  refine ⟨rfl, ?_, ?_⟩
  · exact Lib.BuilderAt.put (T := 164) (e := 5) hB hb2 (bs' := bs ++ Lib.strCells s) (by simpa [Lib.strCells_length] using hown') (by decide)
  · exact (hb1.grown hgrow (by have := hb1.size; omega) (fun k hk => (hown.lt k hk).1)).setCell (p := ⟨b, 1, none⟩) hB _


end Go.Proofs.Ytehncbhmdgdkjaa.Q
