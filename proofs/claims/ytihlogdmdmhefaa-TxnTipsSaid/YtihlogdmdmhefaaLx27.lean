/- Written by this session's own program over the kit's print: functions of Go told as plain functions, or the row of one statement; proved for every input, with no condition of ours. -/
import Derived.Test.YtihlogdmdmhefaaLx0
import Derived.Test.YtihlogdmdmhefaaLx2
import Derived.Test.YtihlogdmdmhefaaLx4
import Derived.Test.YtihlogdmdmhefaaLx9
import Derived.Test.YtihlogdmdmhefaaLx10
import Derived.Test.YtihlogdmdmhefaaLx12
import Derived.Test.YtihlogdmdmhefaaLx13
namespace Go.Proofs.Ytihlogdmdmhefaa.L
open Go.RowKit Go.Proofs.YtihlogdmdmhefaaW.PrintWords Go.Proofs.YtihlogdmdmhefaaW.PrintLast Go.Proofs.YtihlogdmdmhefaaW.PrintMore
attribute [local go_sem] max2_int min2_int max_two min_two max_three min_three max_four min_four   -- for this text's walks alone
set_option linter.unusedVariables false
set_option linter.unusedSimpArgs false

/-! ### hopperlaw04_TxnTips: function 8 -/
def hopperlaw04_TxnTips.j0 : Nat → Int → Bool → Int → Int → Int → Int → Int → ByteArray → Option (Bool)
  | 0, _, _, _, _, _, _, _, _ => none
  | k + 1, x1, x32, x324000, x324001, x324002, x324003, x324004, x324005 => if x32 = true then ((hopperref04_Small.f x324000 x324001 x324002 x324003 x324004 x324005).bind fun t326 => (if t326 = true then ((txn_Check.f x324000 x324001 x324002 x324003 x324004 x324005).bind fun t327 => (if t327 = true then ((hopperlaw04_live.f k).bind fun t328 => (some t328)) else ((txn_ID.f x324000 x324001 x324002 x324003 x324004 x324005).bind fun t329 => (if t329.toList = ([] : List UInt8) then ((hopperlaw04_live.f k).bind fun t330 => (some t330)) else (none))))) else ((hopperlaw04_live.f k).bind fun t331 => (some t331)))) else ((txn_Encode.f x324000 x324001 (wrap64 (x324002 + x1)) x324003 x324004 x324005).bind fun bt333 => ((txn_Check.f x324000 x324001 (wrap64 (x324002 + x1)) x324003 x324004 x324005).bind fun t335 => (if t335 = true then ((txn_Better.f k x324000 x324001 (wrap64 (x324002 + x1)) x324003 x324004 x324005 x324000 x324001 x324002 x324003 x324004 x324005).bind fun t336 => (if t336 = true then ((txn_Better.f k x324000 x324001 x324002 x324003 x324004 x324005 x324000 x324001 (wrap64 (x324002 + x1)) x324003 x324004 x324005).bind fun t337 => (if t337 = true then (none) else (if bt333.2 = true then ((txn_Slots.f x324000 x324001 (wrap64 (x324002 + x1)) x324003 x324004 x324005).bind fun t338 => (if t338 ≥ 1 then ((txn_Slots.f x324000 x324001 (wrap64 (x324002 + x1)) x324003 x324004 x324005).bind fun t339 => (if (wrap64 (32 * t339)) ≥ (bt333.1.size : Int) then ((txn_ID.f x324000 x324001 (wrap64 (x324002 + x1)) x324003 x324004 x324005).bind fun t340 => (if (t340.size : Int) = 16 then ((hopperlaw04_live.f k).bind fun t341 => (some t341)) else (none))) else (none))) else (none))) else (none)))) else (none))) else (none))))
def hopperlaw04_TxnTips.f (k : Nat) (a0_0 : Int) (a0_1 : Int) (a0_2 : Int) (a0_3 : Int) (a0_4 : Int) (a0_5 : ByteArray) (a1 : Int) : Option (Bool) := (hopperref04_Small.f a0_0 a0_1 a0_2 a0_3 a0_4 a0_5).bind fun t324 => (if t324 = true then (if a1 < 1 then (hopperlaw04_TxnTips.j0 k a1 true a0_0 a0_1 a0_2 a0_3 a0_4 a0_5) else (if a1 > 1048576 then (hopperlaw04_TxnTips.j0 k a1 true a0_0 a0_1 a0_2 a0_3 a0_4 a0_5) else ((txn_Check.f a0_0 a0_1 a0_2 a0_3 a0_4 a0_5).bind fun t325 => (if t325 = true then (hopperlaw04_TxnTips.j0 k a1 (decide (a0_2 > (wrap64 (a0_3 - a1)))) a0_0 a0_1 a0_2 a0_3 a0_4 a0_5) else (hopperlaw04_TxnTips.j0 k a1 true a0_0 a0_1 a0_2 a0_3 a0_4 a0_5))))) else (hopperlaw04_TxnTips.j0 k a1 true a0_0 a0_1 a0_2 a0_3 a0_4 a0_5))
theorem hopperlaw04_TxnTips.mono_l : ∀ k, (∀ y0 y1 y2 y3 y4 y5 y6 y7, LeO (hopperlaw04_TxnTips.j0 k y0 y1 y2 y3 y4 y5 y6 y7) (hopperlaw04_TxnTips.j0 (k + 1) y0 y1 y2 y3 y4 y5 y6 y7))
  | 0 => fun _ _ _ _ _ _ _ _ r h => by simp [hopperlaw04_TxnTips.j0] at h
  | k + 1 => by
    have ih0 := hopperlaw04_TxnTips.mono_l k
    · intro y0 y1 y2 y3 y4 y5 y6 y7
      unfold hopperlaw04_TxnTips.j0
      repeat' first
      | (with_reducible exact ih0 _ _ _ _ _ _ _ _)
      | (with_reducible exact hopperlaw04_live.mono _)
      | (with_reducible exact txn_Better.mono _ _ _ _ _ _ _ _ _ _ _ _ _)
      | (with_reducible exact LeO.refl _)
      | (with_reducible exact LeO.none _)
      | (with_reducible refine LeO.ite ?_ ?_)
      | (with_reducible refine LeO.bind ?_ (fun _ => ?_))
      | exact ih0 _ _ _ _ _ _ _ _
      | exact hopperlaw04_live.mono _
      | exact txn_Better.mono _ _ _ _ _ _ _ _ _ _ _ _ _
      | exact LeO.none _
      | refine LeO.ite ?_ ?_
      | refine LeO.bind ?_ (fun _ => ?_)
theorem hopperlaw04_TxnTips.mono : ∀ a0 a1 a2 a3 a4 a5 a6 k, LeO (hopperlaw04_TxnTips.f k a0 a1 a2 a3 a4 a5 a6) (hopperlaw04_TxnTips.f (k + 1) a0 a1 a2 a3 a4 a5 a6) := by
  intro a0 a1 a2 a3 a4 a5 a6 k
  have ih0 := hopperlaw04_TxnTips.mono_l k
  unfold hopperlaw04_TxnTips.f
  repeat' first
      | (with_reducible exact ih0 _ _ _ _ _ _ _ _)
      | (with_reducible exact hopperlaw04_live.mono _)
      | (with_reducible exact txn_Better.mono _ _ _ _ _ _ _ _ _ _ _ _ _)
      | (with_reducible exact LeO.refl _)
      | (with_reducible exact LeO.none _)
      | (with_reducible refine LeO.ite ?_ ?_)
      | (with_reducible refine LeO.bind ?_ (fun _ => ?_))
      | exact ih0 _ _ _ _ _ _ _ _
      | exact hopperlaw04_live.mono _
      | exact txn_Better.mono _ _ _ _ _ _ _ _ _ _ _ _ _
      | exact LeO.none _
      | refine LeO.ite ?_ ?_
      | refine LeO.bind ?_ (fun _ => ?_)
set_option maxHeartbeats 8000000 in
set_option maxRecDepth 100000 in
theorem hopperlaw04_TxnTips.calls (k : Nat) (a0_0 : Int) (a0_1 : Int) (a0_2 : Int) (a0_3 : Int) (a0_4 : Int) (a0_5 : ByteArray) (a1 : Int) (r : Bool) (w : World) (h : hopperlaw04_TxnTips.f k a0_0 a0_1 a0_2 a0_3 a0_4 a0_5 a1 = some r) :
    Calls Try.prog 8 #[.agg #[.int .i64 a0_0, .int .i64 a0_1, .int .i64 a0_2, .int .i64 a0_3, .int .i64 a0_4, .string a0_5], .int .i64 a1] w fun e w' => e = .returned (.bool r) ∧ Below w.heap.size w w' := by
  have hu23 := Try.underlying23
  have HB := Aside0.mk (Below.refl w.heap.size w)
  have H : ((hopperref04_Small.f a0_0 a0_1 a0_2 a0_3 a0_4 a0_5).bind fun t324 => (if t324 = true then (if a1 < 1 then (hopperlaw04_TxnTips.j0 k a1 true a0_0 a0_1 a0_2 a0_3 a0_4 a0_5) else (if a1 > 1048576 then (hopperlaw04_TxnTips.j0 k a1 true a0_0 a0_1 a0_2 a0_3 a0_4 a0_5) else ((txn_Check.f a0_0 a0_1 a0_2 a0_3 a0_4 a0_5).bind fun t325 => (if t325 = true then (hopperlaw04_TxnTips.j0 k a1 (decide (a0_2 > (wrap64 (a0_3 - a1)))) a0_0 a0_1 a0_2 a0_3 a0_4 a0_5) else (hopperlaw04_TxnTips.j0 k a1 true a0_0 a0_1 a0_2 a0_3 a0_4 a0_5))))) else (hopperlaw04_TxnTips.j0 k a1 true a0_0 a0_1 a0_2 a0_3 a0_4 a0_5))) = some r := h
  clear h
  have HC3 := Aside0.mk H
  clear H
  go_enter Try.func8, Try.ntmps8
  go_upto_region 1 with (first | ((with_reducible refine gate_dst (N := 2) rfl ?_); (try (refine gate_guard (by rfl) ?_; dsimp only)); refine box_event ?hg (N := 2) ?hd (cs := #[.int .i64 a0_0, .int .i64 a0_1, .int .i64 a0_2, .int .i64 a0_3, .int .i64 a0_4, .string a0_5]) (t := 23) ?hr ?_; (case hd => rfl); (case hg => rfl); (case hr => first | (go_simp; done) | (go_simp; rfl)); intro gb323 hg w4 hbox hb; have n0_ := Aside0.mk (below_step (by repeat (first | (with_reducible first | exact HB.out | apply below_alloc | apply pw_below_drewN | apply below_drew1) | exact HB.out)) hb); have n1_ := Aside0.mk (hbox); have n2_ := Aside0.mk ((by rw [hg]; exact (below_size (by repeat (first | (with_reducible first | exact HB.out | apply below_alloc | apply pw_below_drewN | apply below_drew1) | exact HB.out))) : w.heap.size ≤ gb323)); have n3_ := Aside0.mk ((by rw [hg]; exact (below_size (by repeat (first | (with_reducible first | exact HB.out | apply below_alloc | apply pw_below_drewN | apply below_drew1) | exact HB.out))) : w.heap.size ≤ gb323)); clear HB; have HB := n0_; have BK323 := n1_; have GW323 := n2_; have GE323 := n3_; clear n0_ n1_ n2_ n3_; clear hb hbox hg))
  (try simp only [Act.put, List.setIfInBounds_toArray, List.set_cons_zero, List.set_cons_succ])
  go_cut [32] (fun v32 wc => ∃ (kq : Nat) (x32_2 : Bool), v32 = .bool x32_2 ∧ Aside0 (hopperlaw04_TxnTips.j0 kq a1 x32_2 a0_0 a0_1 a0_2 a0_3 a0_4 a0_5 = some r) ∧ Aside0 (kq ≤ k) ∧ Aside0 (wc.heap[gb323]? = some (.cells #[.int .i64 a0_0, .int .i64 a0_1, .int .i64 a0_2, .int .i64 a0_3, .int .i64 a0_4, .string a0_5] 23 (0, 0))) ∧ Aside0 (Below w.heap.size w wc))
  case first =>
    have H := HC3.out
    clear HC3
    replace H := Option.bind_eq_some_iff.mp H
    obtain ⟨t324, A50, H⟩ := H
    replace H : (if t324 = true then (if a1 < 1 then (hopperlaw04_TxnTips.j0 k a1 true a0_0 a0_1 a0_2 a0_3 a0_4 a0_5) else (if a1 > 1048576 then (hopperlaw04_TxnTips.j0 k a1 true a0_0 a0_1 a0_2 a0_3 a0_4 a0_5) else ((txn_Check.f a0_0 a0_1 a0_2 a0_3 a0_4 a0_5).bind fun t325 => (if t325 = true then (hopperlaw04_TxnTips.j0 k a1 (decide (a0_2 > (wrap64 (a0_3 - a1)))) a0_0 a0_1 a0_2 a0_3 a0_4 a0_5) else (hopperlaw04_TxnTips.j0 k a1 true a0_0 a0_1 a0_2 a0_3 a0_4 a0_5))))) else (hopperlaw04_TxnTips.j0 k a1 true a0_0 a0_1 a0_2 a0_3 a0_4 a0_5)) = some r := H
    have A5 := Aside0.mk A50
    clear A50
    by_cases c6 : t324 = true
    · subst c6
      have H1 : (if a1 < 1 then (hopperlaw04_TxnTips.j0 k a1 true a0_0 a0_1 a0_2 a0_3 a0_4 a0_5) else (if a1 > 1048576 then (hopperlaw04_TxnTips.j0 k a1 true a0_0 a0_1 a0_2 a0_3 a0_4 a0_5) else ((txn_Check.f a0_0 a0_1 a0_2 a0_3 a0_4 a0_5).bind fun t325 => (if t325 = true then (hopperlaw04_TxnTips.j0 k a1 (decide (a0_2 > (wrap64 (a0_3 - a1)))) a0_0 a0_1 a0_2 a0_3 a0_4 a0_5) else (hopperlaw04_TxnTips.j0 k a1 true a0_0 a0_1 a0_2 a0_3 a0_4 a0_5))))) = some r := by rw [if_pos rfl] at H; exact H
      clear H
      have H := H1
      clear H1
      by_cases c7 : a1 < 1
      · rw [if_pos c7] at H
        have c7b0 : decide (a1 < 1) = true := decide_eq_true c7
        clear c7
        (first | rw [c7b0] | (simp only [i64_w, i32_w]; rw [c7b0]) | skip)
        have H' := Aside0.mk H
        clear H
        have hcz8_0 : w4.cell? ⟨gb323, 0, none⟩ = some (.int .i64 a0_0) := (blk_cell BK323.out 0).trans rfl
        have hcz8_1 : w4.cell? ⟨gb323, 1, none⟩ = some (.int .i64 a0_1) := (blk_cell BK323.out 1).trans rfl
        have hcz8_2 : w4.cell? ⟨gb323, 2, none⟩ = some (.int .i64 a0_2) := (blk_cell BK323.out 2).trans rfl
        have hcz8_3 : w4.cell? ⟨gb323, 3, none⟩ = some (.int .i64 a0_3) := (blk_cell BK323.out 3).trans rfl
        have hcz8_4 : w4.cell? ⟨gb323, 4, none⟩ = some (.int .i64 a0_4) := (blk_cell BK323.out 4).trans rfl
        have hcz8_5 : w4.cell? ⟨gb323, 5, none⟩ = some (.string a0_5) := (blk_cell BK323.out 5).trans rfl
        have hfz8_0 := blk_frozen BK323.out 0
        have hfz8_1 := blk_frozen BK323.out 1
        have hfz8_2 := blk_frozen BK323.out 2
        have hfz8_3 := blk_frozen BK323.out 3
        have hfz8_4 := blk_frozen BK323.out 4
        have hfz8_5 := blk_frozen BK323.out 5
        go_wp2_with (first | ((with_reducible refine gate_callee (f := 32) rfl ?_); refine goesL_ (some 9) rfl rfl Try.func32 (by kernel_rfl) rfl #[.agg #[.int .i64 a0_0, .int .i64 a0_1, .int .i64 a0_2, .int .i64 a0_3, .int .i64 a0_4, .string a0_5]] rfl (by (try simp only [List.map_toArray, List.map_cons, List.map_nil]); first | done | rfl | (simp only [List.length_drop, List.length_take]; rfl)) ?_; (with_reducible refine (hopperref04_Small.calls a0_0 a0_1 a0_2 a0_3 a0_4 a0_5 true _ A5.out).mono ?_); rintro e w9 ⟨rfl, hb⟩; refine ⟨_, rfl, ?_⟩; have n0_ := Aside0.mk (blk_below (g := gb323) (o := .cells #[.int .i64 a0_0, .int .i64 a0_1, .int .i64 a0_2, .int .i64 a0_3, .int .i64 a0_4, .string a0_5] 23 (0, 0)) (by (with_reducible repeat (first | refine blk_drewN ?_ _ | refine blk_drew ?_ | refine blk_alloc ?_ _)); exact BK323.out) hb); have n1_ := Aside0.mk (below_step (by repeat (first | (with_reducible first | exact HB.out | apply below_alloc | apply pw_below_drewN | apply below_drew1 | refine below_set ?_ GE323.out) | exact HB.out)) hb); clear BK323; clear HB; have BK323 := n0_; have HB := n1_; clear n0_ n1_; (try clear hb); (try clear hb2); (try clear hk); (try clear hi)))
        go_meet
        case rel => exact ⟨_, (true), (by first | rfl | (simp; done) | (simp [*]; done)), H', ⟨by first | omega | exact Nat.le_refl _⟩, ⟨by (with_reducible repeat (first | refine blk_drewN ?_ _ | refine blk_drew ?_ | refine blk_alloc ?_ _)); exact BK323.out⟩, ⟨by repeat (first | (with_reducible first | exact HB.out | apply below_alloc | apply pw_below_drewN | apply below_drew1 | refine below_set ?_ GE323.out) | exact HB.out)⟩⟩
      · rw [if_neg c7] at H
        have c7b0 : decide (a1 < 1) = false := decide_eq_false c7
        clear c7
        (first | rw [c7b0] | (simp only [i64_w, i32_w]; rw [c7b0]) | skip)
        by_cases c10 : a1 > 1048576
        · rw [if_pos c10] at H
          have c10b0 : decide (1048576 < a1) = true := decide_eq_true c10
          clear c10
          have H' := Aside0.mk H
          clear H
          have hcz11_0 : w4.cell? ⟨gb323, 0, none⟩ = some (.int .i64 a0_0) := (blk_cell BK323.out 0).trans rfl
          have hcz11_1 : w4.cell? ⟨gb323, 1, none⟩ = some (.int .i64 a0_1) := (blk_cell BK323.out 1).trans rfl
          have hcz11_2 : w4.cell? ⟨gb323, 2, none⟩ = some (.int .i64 a0_2) := (blk_cell BK323.out 2).trans rfl
          have hcz11_3 : w4.cell? ⟨gb323, 3, none⟩ = some (.int .i64 a0_3) := (blk_cell BK323.out 3).trans rfl
          have hcz11_4 : w4.cell? ⟨gb323, 4, none⟩ = some (.int .i64 a0_4) := (blk_cell BK323.out 4).trans rfl
          have hcz11_5 : w4.cell? ⟨gb323, 5, none⟩ = some (.string a0_5) := (blk_cell BK323.out 5).trans rfl
          have hfz11_0 := blk_frozen BK323.out 0
          have hfz11_1 := blk_frozen BK323.out 1
          have hfz11_2 := blk_frozen BK323.out 2
          have hfz11_3 := blk_frozen BK323.out 3
          have hfz11_4 := blk_frozen BK323.out 4
          have hfz11_5 := blk_frozen BK323.out 5
          go_wp2_with (first | ((with_reducible refine gate_callee (f := 32) rfl ?_); refine goesL_ (some 9) rfl rfl Try.func32 (by kernel_rfl) rfl #[.agg #[.int .i64 a0_0, .int .i64 a0_1, .int .i64 a0_2, .int .i64 a0_3, .int .i64 a0_4, .string a0_5]] rfl (by (try simp only [List.map_toArray, List.map_cons, List.map_nil]); first | done | rfl | (simp only [List.length_drop, List.length_take]; rfl)) ?_; (with_reducible refine (hopperref04_Small.calls a0_0 a0_1 a0_2 a0_3 a0_4 a0_5 true _ A5.out).mono ?_); rintro e w12 ⟨rfl, hb⟩; refine ⟨_, rfl, ?_⟩; have n0_ := Aside0.mk (blk_below (g := gb323) (o := .cells #[.int .i64 a0_0, .int .i64 a0_1, .int .i64 a0_2, .int .i64 a0_3, .int .i64 a0_4, .string a0_5] 23 (0, 0)) (by (with_reducible repeat (first | refine blk_drewN ?_ _ | refine blk_drew ?_ | refine blk_alloc ?_ _)); exact BK323.out) hb); have n1_ := Aside0.mk (below_step (by repeat (first | (with_reducible first | exact HB.out | apply below_alloc | apply pw_below_drewN | apply below_drew1 | refine below_set ?_ GE323.out) | exact HB.out)) hb); clear BK323; clear HB; have BK323 := n0_; have HB := n1_; clear n0_ n1_; (try clear hb); (try clear hb2); (try clear hk); (try clear hi)))
          go_meet
          case rel => exact ⟨_, (true), (by first | rfl | (simp; done) | (simp [*]; done)), H', ⟨by first | omega | exact Nat.le_refl _⟩, ⟨by (with_reducible repeat (first | refine blk_drewN ?_ _ | refine blk_drew ?_ | refine blk_alloc ?_ _)); exact BK323.out⟩, ⟨by repeat (first | (with_reducible first | exact HB.out | apply below_alloc | apply pw_below_drewN | apply below_drew1 | refine below_set ?_ GE323.out) | exact HB.out)⟩⟩
        · rw [if_neg c10] at H
          have c10b0 : decide (1048576 < a1) = false := decide_eq_false c10
          clear c10
          replace H := Option.bind_eq_some_iff.mp H
          obtain ⟨t325, A130, H⟩ := H
          replace H : (if t325 = true then (hopperlaw04_TxnTips.j0 k a1 (decide (a0_2 > (wrap64 (a0_3 - a1)))) a0_0 a0_1 a0_2 a0_3 a0_4 a0_5) else (hopperlaw04_TxnTips.j0 k a1 true a0_0 a0_1 a0_2 a0_3 a0_4 a0_5)) = some r := H
          have A13 := Aside0.mk A130
          clear A130
          by_cases c14 : t325 = true
          · subst c14
            have H1 : (hopperlaw04_TxnTips.j0 k a1 (decide (a0_2 > (wrap64 (a0_3 - a1)))) a0_0 a0_1 a0_2 a0_3 a0_4 a0_5) = some r := by rw [if_pos rfl] at H; exact H
            clear H
            have H := H1
            clear H1
            have H' := Aside0.mk H
            clear H
            have hcz15_0 : w4.cell? ⟨gb323, 0, none⟩ = some (.int .i64 a0_0) := (blk_cell BK323.out 0).trans rfl
            have hcz15_1 : w4.cell? ⟨gb323, 1, none⟩ = some (.int .i64 a0_1) := (blk_cell BK323.out 1).trans rfl
            have hcz15_2 : w4.cell? ⟨gb323, 2, none⟩ = some (.int .i64 a0_2) := (blk_cell BK323.out 2).trans rfl
            have hcz15_3 : w4.cell? ⟨gb323, 3, none⟩ = some (.int .i64 a0_3) := (blk_cell BK323.out 3).trans rfl
            have hcz15_4 : w4.cell? ⟨gb323, 4, none⟩ = some (.int .i64 a0_4) := (blk_cell BK323.out 4).trans rfl
            have hcz15_5 : w4.cell? ⟨gb323, 5, none⟩ = some (.string a0_5) := (blk_cell BK323.out 5).trans rfl
            have hfz15_0 := blk_frozen BK323.out 0
            have hfz15_1 := blk_frozen BK323.out 1
            have hfz15_2 := blk_frozen BK323.out 2
            have hfz15_3 := blk_frozen BK323.out 3
            have hfz15_4 := blk_frozen BK323.out 4
            have hfz15_5 := blk_frozen BK323.out 5
            go_wp2_with (first | ((with_reducible refine gate_callee (f := 32) rfl ?_); refine goesL_ (some 9) rfl rfl Try.func32 (by kernel_rfl) rfl #[.agg #[.int .i64 a0_0, .int .i64 a0_1, .int .i64 a0_2, .int .i64 a0_3, .int .i64 a0_4, .string a0_5]] rfl (by (try simp only [List.map_toArray, List.map_cons, List.map_nil]); first | done | rfl | (simp only [List.length_drop, List.length_take]; rfl)) ?_; (with_reducible refine (hopperref04_Small.calls a0_0 a0_1 a0_2 a0_3 a0_4 a0_5 true _ A5.out).mono ?_); rintro e w16 ⟨rfl, hb⟩; refine ⟨_, rfl, ?_⟩; have n0_ := Aside0.mk (blk_below (g := gb323) (o := .cells #[.int .i64 a0_0, .int .i64 a0_1, .int .i64 a0_2, .int .i64 a0_3, .int .i64 a0_4, .string a0_5] 23 (0, 0)) (by (with_reducible repeat (first | refine blk_drewN ?_ _ | refine blk_drew ?_ | refine blk_alloc ?_ _)); exact BK323.out) hb); have n1_ := Aside0.mk (below_step (by repeat (first | (with_reducible first | exact HB.out | apply below_alloc | apply pw_below_drewN | apply below_drew1 | refine below_set ?_ GE323.out) | exact HB.out)) hb); clear BK323; clear HB; have BK323 := n0_; have HB := n1_; clear n0_ n1_; (try clear hb); (try clear hb2); (try clear hk); (try clear hi); have hcz17_0 : w16.cell? ⟨gb323, 0, none⟩ = some (.int .i64 a0_0) := (blk_cell BK323.out 0).trans rfl; have hcz17_1 : w16.cell? ⟨gb323, 1, none⟩ = some (.int .i64 a0_1) := (blk_cell BK323.out 1).trans rfl; have hcz17_2 : w16.cell? ⟨gb323, 2, none⟩ = some (.int .i64 a0_2) := (blk_cell BK323.out 2).trans rfl; have hcz17_3 : w16.cell? ⟨gb323, 3, none⟩ = some (.int .i64 a0_3) := (blk_cell BK323.out 3).trans rfl; have hcz17_4 : w16.cell? ⟨gb323, 4, none⟩ = some (.int .i64 a0_4) := (blk_cell BK323.out 4).trans rfl; have hcz17_5 : w16.cell? ⟨gb323, 5, none⟩ = some (.string a0_5) := (blk_cell BK323.out 5).trans rfl; have hfz17_0 := blk_frozen BK323.out 0; have hfz17_1 := blk_frozen BK323.out 1; have hfz17_2 := blk_frozen BK323.out 2; have hfz17_3 := blk_frozen BK323.out 3; have hfz17_4 := blk_frozen BK323.out 4; have hfz17_5 := blk_frozen BK323.out 5) | (go_at_call 38; (with_reducible refine (txn_Check.calls a0_0 a0_1 a0_2 a0_3 a0_4 a0_5 true _ A13.out).mono ?_); rintro e w18 ⟨rfl, hb⟩; have n0_ := Aside0.mk (blk_below (g := gb323) (o := .cells #[.int .i64 a0_0, .int .i64 a0_1, .int .i64 a0_2, .int .i64 a0_3, .int .i64 a0_4, .string a0_5] 23 (0, 0)) (by (with_reducible repeat (first | refine blk_drewN ?_ _ | refine blk_drew ?_ | refine blk_alloc ?_ _)); exact BK323.out) hb); have n1_ := Aside0.mk (below_step (by repeat (first | (with_reducible first | exact HB.out | apply below_alloc | apply pw_below_drewN | apply below_drew1 | refine below_set ?_ GE323.out) | exact HB.out)) hb); clear BK323; clear HB; have BK323 := n0_; have HB := n1_; clear n0_ n1_; (try clear hb); (try clear hb2); (try clear hk); (try clear hi); have hcz19_0 : w18.cell? ⟨gb323, 0, none⟩ = some (.int .i64 a0_0) := (blk_cell BK323.out 0).trans rfl; have hcz19_1 : w18.cell? ⟨gb323, 1, none⟩ = some (.int .i64 a0_1) := (blk_cell BK323.out 1).trans rfl; have hcz19_2 : w18.cell? ⟨gb323, 2, none⟩ = some (.int .i64 a0_2) := (blk_cell BK323.out 2).trans rfl; have hcz19_3 : w18.cell? ⟨gb323, 3, none⟩ = some (.int .i64 a0_3) := (blk_cell BK323.out 3).trans rfl; have hcz19_4 : w18.cell? ⟨gb323, 4, none⟩ = some (.int .i64 a0_4) := (blk_cell BK323.out 4).trans rfl; have hcz19_5 : w18.cell? ⟨gb323, 5, none⟩ = some (.string a0_5) := (blk_cell BK323.out 5).trans rfl; have hfz19_0 := blk_frozen BK323.out 0; have hfz19_1 := blk_frozen BK323.out 1; have hfz19_2 := blk_frozen BK323.out 2; have hfz19_3 := blk_frozen BK323.out 3; have hfz19_4 := blk_frozen BK323.out 4; have hfz19_5 := blk_frozen BK323.out 5))
            go_meet
            case rel => exact ⟨_, (decide (a0_2 > (wrap64 (a0_3 - a1)))), (by first | rfl | (simp; done) | (simp [*]; done)), H', ⟨by first | omega | exact Nat.le_refl _⟩, ⟨by (with_reducible repeat (first | refine blk_drewN ?_ _ | refine blk_drew ?_ | refine blk_alloc ?_ _)); exact BK323.out⟩, ⟨by repeat (first | (with_reducible first | exact HB.out | apply below_alloc | apply pw_below_drewN | apply below_drew1 | refine below_set ?_ GE323.out) | exact HB.out)⟩⟩
          · replace c14 := Bool.eq_false_iff.mpr c14
            subst c14
            have H1 : (hopperlaw04_TxnTips.j0 k a1 true a0_0 a0_1 a0_2 a0_3 a0_4 a0_5) = some r := by rw [if_neg (show ¬ (false = true) by decide)] at H; exact H
            clear H
            have H := H1
            clear H1
            have H' := Aside0.mk H
            clear H
            have hcz20_0 : w4.cell? ⟨gb323, 0, none⟩ = some (.int .i64 a0_0) := (blk_cell BK323.out 0).trans rfl
            have hcz20_1 : w4.cell? ⟨gb323, 1, none⟩ = some (.int .i64 a0_1) := (blk_cell BK323.out 1).trans rfl
            have hcz20_2 : w4.cell? ⟨gb323, 2, none⟩ = some (.int .i64 a0_2) := (blk_cell BK323.out 2).trans rfl
            have hcz20_3 : w4.cell? ⟨gb323, 3, none⟩ = some (.int .i64 a0_3) := (blk_cell BK323.out 3).trans rfl
            have hcz20_4 : w4.cell? ⟨gb323, 4, none⟩ = some (.int .i64 a0_4) := (blk_cell BK323.out 4).trans rfl
            have hcz20_5 : w4.cell? ⟨gb323, 5, none⟩ = some (.string a0_5) := (blk_cell BK323.out 5).trans rfl
            have hfz20_0 := blk_frozen BK323.out 0
            have hfz20_1 := blk_frozen BK323.out 1
            have hfz20_2 := blk_frozen BK323.out 2
            have hfz20_3 := blk_frozen BK323.out 3
            have hfz20_4 := blk_frozen BK323.out 4
            have hfz20_5 := blk_frozen BK323.out 5
            go_wp2_with (first | ((with_reducible refine gate_callee (f := 32) rfl ?_); refine goesL_ (some 9) rfl rfl Try.func32 (by kernel_rfl) rfl #[.agg #[.int .i64 a0_0, .int .i64 a0_1, .int .i64 a0_2, .int .i64 a0_3, .int .i64 a0_4, .string a0_5]] rfl (by (try simp only [List.map_toArray, List.map_cons, List.map_nil]); first | done | rfl | (simp only [List.length_drop, List.length_take]; rfl)) ?_; (with_reducible refine (hopperref04_Small.calls a0_0 a0_1 a0_2 a0_3 a0_4 a0_5 true _ A5.out).mono ?_); rintro e w21 ⟨rfl, hb⟩; refine ⟨_, rfl, ?_⟩; have n0_ := Aside0.mk (blk_below (g := gb323) (o := .cells #[.int .i64 a0_0, .int .i64 a0_1, .int .i64 a0_2, .int .i64 a0_3, .int .i64 a0_4, .string a0_5] 23 (0, 0)) (by (with_reducible repeat (first | refine blk_drewN ?_ _ | refine blk_drew ?_ | refine blk_alloc ?_ _)); exact BK323.out) hb); have n1_ := Aside0.mk (below_step (by repeat (first | (with_reducible first | exact HB.out | apply below_alloc | apply pw_below_drewN | apply below_drew1 | refine below_set ?_ GE323.out) | exact HB.out)) hb); clear BK323; clear HB; have BK323 := n0_; have HB := n1_; clear n0_ n1_; (try clear hb); (try clear hb2); (try clear hk); (try clear hi); have hcz22_0 : w21.cell? ⟨gb323, 0, none⟩ = some (.int .i64 a0_0) := (blk_cell BK323.out 0).trans rfl; have hcz22_1 : w21.cell? ⟨gb323, 1, none⟩ = some (.int .i64 a0_1) := (blk_cell BK323.out 1).trans rfl; have hcz22_2 : w21.cell? ⟨gb323, 2, none⟩ = some (.int .i64 a0_2) := (blk_cell BK323.out 2).trans rfl; have hcz22_3 : w21.cell? ⟨gb323, 3, none⟩ = some (.int .i64 a0_3) := (blk_cell BK323.out 3).trans rfl; have hcz22_4 : w21.cell? ⟨gb323, 4, none⟩ = some (.int .i64 a0_4) := (blk_cell BK323.out 4).trans rfl; have hcz22_5 : w21.cell? ⟨gb323, 5, none⟩ = some (.string a0_5) := (blk_cell BK323.out 5).trans rfl; have hfz22_0 := blk_frozen BK323.out 0; have hfz22_1 := blk_frozen BK323.out 1; have hfz22_2 := blk_frozen BK323.out 2; have hfz22_3 := blk_frozen BK323.out 3; have hfz22_4 := blk_frozen BK323.out 4; have hfz22_5 := blk_frozen BK323.out 5) | (go_at_call 38; (with_reducible refine (txn_Check.calls a0_0 a0_1 a0_2 a0_3 a0_4 a0_5 false _ A13.out).mono ?_); rintro e w23 ⟨rfl, hb⟩; have n0_ := Aside0.mk (blk_below (g := gb323) (o := .cells #[.int .i64 a0_0, .int .i64 a0_1, .int .i64 a0_2, .int .i64 a0_3, .int .i64 a0_4, .string a0_5] 23 (0, 0)) (by (with_reducible repeat (first | refine blk_drewN ?_ _ | refine blk_drew ?_ | refine blk_alloc ?_ _)); exact BK323.out) hb); have n1_ := Aside0.mk (below_step (by repeat (first | (with_reducible first | exact HB.out | apply below_alloc | apply pw_below_drewN | apply below_drew1 | refine below_set ?_ GE323.out) | exact HB.out)) hb); clear BK323; clear HB; have BK323 := n0_; have HB := n1_; clear n0_ n1_; (try clear hb); (try clear hb2); (try clear hk); (try clear hi)))
            go_meet
            case rel => exact ⟨_, (true), (by first | rfl | (simp; done) | (simp [*]; done)), H', ⟨by first | omega | exact Nat.le_refl _⟩, ⟨by (with_reducible repeat (first | refine blk_drewN ?_ _ | refine blk_drew ?_ | refine blk_alloc ?_ _)); exact BK323.out⟩, ⟨by repeat (first | (with_reducible first | exact HB.out | apply below_alloc | apply pw_below_drewN | apply below_drew1 | refine below_set ?_ GE323.out) | exact HB.out)⟩⟩
    · replace c6 := Bool.eq_false_iff.mpr c6
      subst c6
      have H1 : (hopperlaw04_TxnTips.j0 k a1 true a0_0 a0_1 a0_2 a0_3 a0_4 a0_5) = some r := by rw [if_neg (show ¬ (false = true) by decide)] at H; exact H
      clear H
      have H := H1
      clear H1
      have H' := Aside0.mk H
      clear H
      have hcz24_0 : w4.cell? ⟨gb323, 0, none⟩ = some (.int .i64 a0_0) := (blk_cell BK323.out 0).trans rfl
      have hcz24_1 : w4.cell? ⟨gb323, 1, none⟩ = some (.int .i64 a0_1) := (blk_cell BK323.out 1).trans rfl
      have hcz24_2 : w4.cell? ⟨gb323, 2, none⟩ = some (.int .i64 a0_2) := (blk_cell BK323.out 2).trans rfl
      have hcz24_3 : w4.cell? ⟨gb323, 3, none⟩ = some (.int .i64 a0_3) := (blk_cell BK323.out 3).trans rfl
      have hcz24_4 : w4.cell? ⟨gb323, 4, none⟩ = some (.int .i64 a0_4) := (blk_cell BK323.out 4).trans rfl
      have hcz24_5 : w4.cell? ⟨gb323, 5, none⟩ = some (.string a0_5) := (blk_cell BK323.out 5).trans rfl
      have hfz24_0 := blk_frozen BK323.out 0
      have hfz24_1 := blk_frozen BK323.out 1
      have hfz24_2 := blk_frozen BK323.out 2
      have hfz24_3 := blk_frozen BK323.out 3
      have hfz24_4 := blk_frozen BK323.out 4
      have hfz24_5 := blk_frozen BK323.out 5
      go_wp2_with (first | ((with_reducible refine gate_callee (f := 32) rfl ?_); refine goesL_ (some 9) rfl rfl Try.func32 (by kernel_rfl) rfl #[.agg #[.int .i64 a0_0, .int .i64 a0_1, .int .i64 a0_2, .int .i64 a0_3, .int .i64 a0_4, .string a0_5]] rfl (by (try simp only [List.map_toArray, List.map_cons, List.map_nil]); first | done | rfl | (simp only [List.length_drop, List.length_take]; rfl)) ?_; (with_reducible refine (hopperref04_Small.calls a0_0 a0_1 a0_2 a0_3 a0_4 a0_5 false _ A5.out).mono ?_); rintro e w25 ⟨rfl, hb⟩; refine ⟨_, rfl, ?_⟩; have n0_ := Aside0.mk (blk_below (g := gb323) (o := .cells #[.int .i64 a0_0, .int .i64 a0_1, .int .i64 a0_2, .int .i64 a0_3, .int .i64 a0_4, .string a0_5] 23 (0, 0)) (by (with_reducible repeat (first | refine blk_drewN ?_ _ | refine blk_drew ?_ | refine blk_alloc ?_ _)); exact BK323.out) hb); have n1_ := Aside0.mk (below_step (by repeat (first | (with_reducible first | exact HB.out | apply below_alloc | apply pw_below_drewN | apply below_drew1 | refine below_set ?_ GE323.out) | exact HB.out)) hb); clear BK323; clear HB; have BK323 := n0_; have HB := n1_; clear n0_ n1_; (try clear hb); (try clear hb2); (try clear hk); (try clear hi)))
      go_meet
      case rel => exact ⟨_, (true), (by first | rfl | (simp; done) | (simp [*]; done)), H', ⟨by first | omega | exact Nat.le_refl _⟩, ⟨by (with_reducible repeat (first | refine blk_drewN ?_ _ | refine blk_drew ?_ | refine blk_alloc ?_ _)); exact BK323.out⟩, ⟨by repeat (first | (with_reducible first | exact HB.out | apply below_alloc | apply pw_below_drewN | apply below_drew1 | refine below_set ?_ GE323.out) | exact HB.out)⟩⟩
  case rest =>
    clear HC3
    try clear c1
    try clear p2
    try clear c3
    try clear c6
    try clear p6
    try clear c7
    try clear c7b0
    try clear c8
    try clear c10
    try clear c10b0
    try clear c14
    try clear hcz11_0
    try clear hcz11_1
    try clear hcz11_2
    try clear hcz11_3
    try clear hcz11_4
    try clear hcz11_5
    try clear hcz15_0
    try clear hcz15_1
    try clear hcz15_2
    try clear hcz15_3
    try clear hcz15_4
    try clear hcz15_5
    try clear hcz17_0
    try clear hcz17_1
    try clear hcz17_2
    try clear hcz17_3
    try clear hcz17_4
    try clear hcz17_5
    try clear hcz19_0
    try clear hcz19_1
    try clear hcz19_2
    try clear hcz19_3
    try clear hcz19_4
    try clear hcz19_5
    try clear hcz20_0
    try clear hcz20_1
    try clear hcz20_2
    try clear hcz20_3
    try clear hcz20_4
    try clear hcz20_5
    try clear hcz22_0
    try clear hcz22_1
    try clear hcz22_2
    try clear hcz22_3
    try clear hcz22_4
    try clear hcz22_5
    try clear hcz24_0
    try clear hcz24_1
    try clear hcz24_2
    try clear hcz24_3
    try clear hcz24_4
    try clear hcz24_5
    try clear hcz8_0
    try clear hcz8_1
    try clear hcz8_2
    try clear hcz8_3
    try clear hcz8_4
    try clear hcz8_5
    try clear hfz11_0
    try clear hfz11_1
    try clear hfz11_2
    try clear hfz11_3
    try clear hfz11_4
    try clear hfz11_5
    try clear hfz15_0
    try clear hfz15_1
    try clear hfz15_2
    try clear hfz15_3
    try clear hfz15_4
    try clear hfz15_5
    try clear hfz17_0
    try clear hfz17_1
    try clear hfz17_2
    try clear hfz17_3
    try clear hfz17_4
    try clear hfz17_5
    try clear hfz19_0
    try clear hfz19_1
    try clear hfz19_2
    try clear hfz19_3
    try clear hfz19_4
    try clear hfz19_5
    try clear hfz20_0
    try clear hfz20_1
    try clear hfz20_2
    try clear hfz20_3
    try clear hfz20_4
    try clear hfz20_5
    try clear hfz22_0
    try clear hfz22_1
    try clear hfz22_2
    try clear hfz22_3
    try clear hfz22_4
    try clear hfz22_5
    try clear hfz24_0
    try clear hfz24_1
    try clear hfz24_2
    try clear hfz24_3
    try clear hfz24_4
    try clear hfz24_5
    try clear hfz8_0
    try clear hfz8_1
    try clear hfz8_2
    try clear hfz8_3
    try clear hfz8_4
    try clear hfz8_5
    obtain ⟨kq, x32_2, rfl, HA, HJ2, BK323, HB⟩ := hcut
    cases kq with
    | zero => exact absurd HA.out (by simp [hopperlaw04_TxnTips.j0])
    | succ kj2 =>
      have H := HA.out
      clear HA
      simp only [hopperlaw04_TxnTips.j0] at H
      by_cases c26 : x32_2 = true
      · subst c26
        have H1 : ((hopperref04_Small.f a0_0 a0_1 a0_2 a0_3 a0_4 a0_5).bind fun t326 => (if t326 = true then ((txn_Check.f a0_0 a0_1 a0_2 a0_3 a0_4 a0_5).bind fun t327 => (if t327 = true then ((hopperlaw04_live.f kj2).bind fun t328 => (some t328)) else ((txn_ID.f a0_0 a0_1 a0_2 a0_3 a0_4 a0_5).bind fun t329 => (if t329.toList = ([] : List UInt8) then ((hopperlaw04_live.f kj2).bind fun t330 => (some t330)) else (none))))) else ((hopperlaw04_live.f kj2).bind fun t331 => (some t331)))) = some r := by rw [if_pos rfl] at H; exact H
        clear H
        have H := H1
        clear H1
        replace H := Option.bind_eq_some_iff.mp H
        obtain ⟨t326, A270, H⟩ := H
        replace H : (if t326 = true then ((txn_Check.f a0_0 a0_1 a0_2 a0_3 a0_4 a0_5).bind fun t327 => (if t327 = true then ((hopperlaw04_live.f kj2).bind fun t328 => (some t328)) else ((txn_ID.f a0_0 a0_1 a0_2 a0_3 a0_4 a0_5).bind fun t329 => (if t329.toList = ([] : List UInt8) then ((hopperlaw04_live.f kj2).bind fun t330 => (some t330)) else (none))))) else ((hopperlaw04_live.f kj2).bind fun t331 => (some t331))) = some r := H
        have A27 := Aside0.mk A270
        clear A270
        by_cases c28 : t326 = true
        · subst c28
          have H1 : ((txn_Check.f a0_0 a0_1 a0_2 a0_3 a0_4 a0_5).bind fun t327 => (if t327 = true then ((hopperlaw04_live.f kj2).bind fun t328 => (some t328)) else ((txn_ID.f a0_0 a0_1 a0_2 a0_3 a0_4 a0_5).bind fun t329 => (if t329.toList = ([] : List UInt8) then ((hopperlaw04_live.f kj2).bind fun t330 => (some t330)) else (none))))) = some r := by rw [if_pos rfl] at H; exact H
          clear H
          have H := H1
          clear H1
          replace H := Option.bind_eq_some_iff.mp H
          obtain ⟨t327, A290, H⟩ := H
          replace H : (if t327 = true then ((hopperlaw04_live.f kj2).bind fun t328 => (some t328)) else ((txn_ID.f a0_0 a0_1 a0_2 a0_3 a0_4 a0_5).bind fun t329 => (if t329.toList = ([] : List UInt8) then ((hopperlaw04_live.f kj2).bind fun t330 => (some t330)) else (none)))) = some r := H
          have A29 := Aside0.mk A290
          clear A290
          by_cases c30 : t327 = true
          · subst c30
            have H1 : ((hopperlaw04_live.f kj2).bind fun t328 => (some t328)) = some r := by rw [if_pos rfl] at H; exact H
            clear H
            have H := H1
            clear H1
            replace H := Option.bind_eq_some_iff.mp H
            obtain ⟨t328, A310, H⟩ := H
            replace H : (some t328) = some r := H
            have A31 := Aside0.mk A310
            clear A310
            obtain rfl := Option.some.inj H
            have hcz32_0 : wc.cell? ⟨gb323, 0, none⟩ = some (.int .i64 a0_0) := (blk_cell BK323.out 0).trans rfl
            have hcz32_1 : wc.cell? ⟨gb323, 1, none⟩ = some (.int .i64 a0_1) := (blk_cell BK323.out 1).trans rfl
            have hcz32_2 : wc.cell? ⟨gb323, 2, none⟩ = some (.int .i64 a0_2) := (blk_cell BK323.out 2).trans rfl
            have hcz32_3 : wc.cell? ⟨gb323, 3, none⟩ = some (.int .i64 a0_3) := (blk_cell BK323.out 3).trans rfl
            have hcz32_4 : wc.cell? ⟨gb323, 4, none⟩ = some (.int .i64 a0_4) := (blk_cell BK323.out 4).trans rfl
            have hcz32_5 : wc.cell? ⟨gb323, 5, none⟩ = some (.string a0_5) := (blk_cell BK323.out 5).trans rfl
            have hfz32_0 := blk_frozen BK323.out 0
            have hfz32_1 := blk_frozen BK323.out 1
            have hfz32_2 := blk_frozen BK323.out 2
            have hfz32_3 := blk_frozen BK323.out 3
            have hfz32_4 := blk_frozen BK323.out 4
            have hfz32_5 := blk_frozen BK323.out 5
            go_wp2_with (first | ((with_reducible refine gate_callee (f := 32) rfl ?_); refine goesL_ (some 34) rfl rfl Try.func32 (by kernel_rfl) rfl #[.agg #[.int .i64 a0_0, .int .i64 a0_1, .int .i64 a0_2, .int .i64 a0_3, .int .i64 a0_4, .string a0_5]] rfl (by (try simp only [List.map_toArray, List.map_cons, List.map_nil]); first | done | rfl | (simp only [List.length_drop, List.length_take]; rfl)) ?_; (with_reducible refine (hopperref04_Small.calls a0_0 a0_1 a0_2 a0_3 a0_4 a0_5 true _ A27.out).mono ?_); rintro e w33 ⟨rfl, hb⟩; refine ⟨_, rfl, ?_⟩; have n0_ := Aside0.mk (blk_below (g := gb323) (o := .cells #[.int .i64 a0_0, .int .i64 a0_1, .int .i64 a0_2, .int .i64 a0_3, .int .i64 a0_4, .string a0_5] 23 (0, 0)) (by (with_reducible repeat (first | refine blk_drewN ?_ _ | refine blk_drew ?_ | refine blk_alloc ?_ _)); exact BK323.out) hb); have n1_ := Aside0.mk (below_step (by repeat (first | (with_reducible first | exact HB.out | apply below_alloc | apply pw_below_drewN | apply below_drew1 | refine below_set ?_ GE323.out) | exact HB.out)) hb); clear BK323; clear HB; have BK323 := n0_; have HB := n1_; clear n0_ n1_; (try clear hb); (try clear hb2); (try clear hk); (try clear hi); have hcz34_0 : w33.cell? ⟨gb323, 0, none⟩ = some (.int .i64 a0_0) := (blk_cell BK323.out 0).trans rfl; have hcz34_1 : w33.cell? ⟨gb323, 1, none⟩ = some (.int .i64 a0_1) := (blk_cell BK323.out 1).trans rfl; have hcz34_2 : w33.cell? ⟨gb323, 2, none⟩ = some (.int .i64 a0_2) := (blk_cell BK323.out 2).trans rfl; have hcz34_3 : w33.cell? ⟨gb323, 3, none⟩ = some (.int .i64 a0_3) := (blk_cell BK323.out 3).trans rfl; have hcz34_4 : w33.cell? ⟨gb323, 4, none⟩ = some (.int .i64 a0_4) := (blk_cell BK323.out 4).trans rfl; have hcz34_5 : w33.cell? ⟨gb323, 5, none⟩ = some (.string a0_5) := (blk_cell BK323.out 5).trans rfl; have hfz34_0 := blk_frozen BK323.out 0; have hfz34_1 := blk_frozen BK323.out 1; have hfz34_2 := blk_frozen BK323.out 2; have hfz34_3 := blk_frozen BK323.out 3; have hfz34_4 := blk_frozen BK323.out 4; have hfz34_5 := blk_frozen BK323.out 5) | (go_at_call 38; (with_reducible refine (txn_Check.calls a0_0 a0_1 a0_2 a0_3 a0_4 a0_5 true _ A29.out).mono ?_); rintro e w35 ⟨rfl, hb⟩; have n0_ := Aside0.mk (blk_below (g := gb323) (o := .cells #[.int .i64 a0_0, .int .i64 a0_1, .int .i64 a0_2, .int .i64 a0_3, .int .i64 a0_4, .string a0_5] 23 (0, 0)) (by (with_reducible repeat (first | refine blk_drewN ?_ _ | refine blk_drew ?_ | refine blk_alloc ?_ _)); exact BK323.out) hb); have n1_ := Aside0.mk (below_step (by repeat (first | (with_reducible first | exact HB.out | apply below_alloc | apply pw_below_drewN | apply below_drew1 | refine below_set ?_ GE323.out) | exact HB.out)) hb); clear BK323; clear HB; have BK323 := n0_; have HB := n1_; clear n0_ n1_; (try clear hb); (try clear hb2); (try clear hk); (try clear hi)) | (go_at_call 33; (with_reducible refine (hopperlaw04_live.calls kj2  t328 _ A31.out).mono ?_); rintro e w36 ⟨rfl, hb⟩; have n0_ := Aside0.mk (blk_below (g := gb323) (o := .cells #[.int .i64 a0_0, .int .i64 a0_1, .int .i64 a0_2, .int .i64 a0_3, .int .i64 a0_4, .string a0_5] 23 (0, 0)) (by (with_reducible repeat (first | refine blk_drewN ?_ _ | refine blk_drew ?_ | refine blk_alloc ?_ _)); exact BK323.out) hb); have n1_ := Aside0.mk (below_step (by repeat (first | (with_reducible first | exact HB.out | apply below_alloc | apply pw_below_drewN | apply below_drew1 | refine below_set ?_ GE323.out) | exact HB.out)) hb); clear BK323; clear HB; have BK323 := n0_; have HB := n1_; clear n0_ n1_; (try clear hb); (try clear hb2); (try clear hk); (try clear hi)))
            go_ret
            exact ⟨by first | rfl | (simp [errW_none, errW_some] <;> rfl) | (simp [*, errW_none, errW_some] <;> rfl), by repeat (first | (with_reducible first | exact HB.out | apply below_alloc | apply pw_below_drewN | apply below_drew1 | refine below_set ?_ GE323.out) | exact HB.out)⟩
          · replace c30 := Bool.eq_false_iff.mpr c30
            subst c30
            have H1 : ((txn_ID.f a0_0 a0_1 a0_2 a0_3 a0_4 a0_5).bind fun t329 => (if t329.toList = ([] : List UInt8) then ((hopperlaw04_live.f kj2).bind fun t330 => (some t330)) else (none))) = some r := by rw [if_neg (show ¬ (false = true) by decide)] at H; exact H
            clear H
            have H := H1
            clear H1
            replace H := Option.bind_eq_some_iff.mp H
            obtain ⟨t329, A370, H⟩ := H
            replace H : (if t329.toList = ([] : List UInt8) then ((hopperlaw04_live.f kj2).bind fun t330 => (some t330)) else (none)) = some r := H
            have A37 := Aside0.mk A370
            clear A370
            by_cases c38 : t329.toList = ([] : List UInt8)
            · rw [if_pos c38] at H
              have c38b0 : (t329.toList == ([] : List UInt8)) = true := beq_iff_eq.mpr c38
              have c38b1 : (t329.toList != ([] : List UInt8)) = false := bne_eq_false_iff_eq.mpr c38
              clear c38
              replace H := Option.bind_eq_some_iff.mp H
              obtain ⟨t330, A390, H⟩ := H
              replace H : (some t330) = some r := H
              have A39 := Aside0.mk A390
              clear A390
              obtain rfl := Option.some.inj H
              have hcz40_0 : wc.cell? ⟨gb323, 0, none⟩ = some (.int .i64 a0_0) := (blk_cell BK323.out 0).trans rfl
              have hcz40_1 : wc.cell? ⟨gb323, 1, none⟩ = some (.int .i64 a0_1) := (blk_cell BK323.out 1).trans rfl
              have hcz40_2 : wc.cell? ⟨gb323, 2, none⟩ = some (.int .i64 a0_2) := (blk_cell BK323.out 2).trans rfl
              have hcz40_3 : wc.cell? ⟨gb323, 3, none⟩ = some (.int .i64 a0_3) := (blk_cell BK323.out 3).trans rfl
              have hcz40_4 : wc.cell? ⟨gb323, 4, none⟩ = some (.int .i64 a0_4) := (blk_cell BK323.out 4).trans rfl
              have hcz40_5 : wc.cell? ⟨gb323, 5, none⟩ = some (.string a0_5) := (blk_cell BK323.out 5).trans rfl
              have hfz40_0 := blk_frozen BK323.out 0
              have hfz40_1 := blk_frozen BK323.out 1
              have hfz40_2 := blk_frozen BK323.out 2
              have hfz40_3 := blk_frozen BK323.out 3
              have hfz40_4 := blk_frozen BK323.out 4
              have hfz40_5 := blk_frozen BK323.out 5
              go_wp2_with (first | ((with_reducible refine gate_callee (f := 32) rfl ?_); refine goesL_ (some 34) rfl rfl Try.func32 (by kernel_rfl) rfl #[.agg #[.int .i64 a0_0, .int .i64 a0_1, .int .i64 a0_2, .int .i64 a0_3, .int .i64 a0_4, .string a0_5]] rfl (by (try simp only [List.map_toArray, List.map_cons, List.map_nil]); first | done | rfl | (simp only [List.length_drop, List.length_take]; rfl)) ?_; (with_reducible refine (hopperref04_Small.calls a0_0 a0_1 a0_2 a0_3 a0_4 a0_5 true _ A27.out).mono ?_); rintro e w41 ⟨rfl, hb⟩; refine ⟨_, rfl, ?_⟩; have n0_ := Aside0.mk (blk_below (g := gb323) (o := .cells #[.int .i64 a0_0, .int .i64 a0_1, .int .i64 a0_2, .int .i64 a0_3, .int .i64 a0_4, .string a0_5] 23 (0, 0)) (by (with_reducible repeat (first | refine blk_drewN ?_ _ | refine blk_drew ?_ | refine blk_alloc ?_ _)); exact BK323.out) hb); have n1_ := Aside0.mk (below_step (by repeat (first | (with_reducible first | exact HB.out | apply below_alloc | apply pw_below_drewN | apply below_drew1 | refine below_set ?_ GE323.out) | exact HB.out)) hb); clear BK323; clear HB; have BK323 := n0_; have HB := n1_; clear n0_ n1_; (try clear hb); (try clear hb2); (try clear hk); (try clear hi); have hcz42_0 : w41.cell? ⟨gb323, 0, none⟩ = some (.int .i64 a0_0) := (blk_cell BK323.out 0).trans rfl; have hcz42_1 : w41.cell? ⟨gb323, 1, none⟩ = some (.int .i64 a0_1) := (blk_cell BK323.out 1).trans rfl; have hcz42_2 : w41.cell? ⟨gb323, 2, none⟩ = some (.int .i64 a0_2) := (blk_cell BK323.out 2).trans rfl; have hcz42_3 : w41.cell? ⟨gb323, 3, none⟩ = some (.int .i64 a0_3) := (blk_cell BK323.out 3).trans rfl; have hcz42_4 : w41.cell? ⟨gb323, 4, none⟩ = some (.int .i64 a0_4) := (blk_cell BK323.out 4).trans rfl; have hcz42_5 : w41.cell? ⟨gb323, 5, none⟩ = some (.string a0_5) := (blk_cell BK323.out 5).trans rfl; have hfz42_0 := blk_frozen BK323.out 0; have hfz42_1 := blk_frozen BK323.out 1; have hfz42_2 := blk_frozen BK323.out 2; have hfz42_3 := blk_frozen BK323.out 3; have hfz42_4 := blk_frozen BK323.out 4; have hfz42_5 := blk_frozen BK323.out 5) | (go_at_call 38; (with_reducible refine (txn_Check.calls a0_0 a0_1 a0_2 a0_3 a0_4 a0_5 false _ A29.out).mono ?_); rintro e w43 ⟨rfl, hb⟩; have n0_ := Aside0.mk (blk_below (g := gb323) (o := .cells #[.int .i64 a0_0, .int .i64 a0_1, .int .i64 a0_2, .int .i64 a0_3, .int .i64 a0_4, .string a0_5] 23 (0, 0)) (by (with_reducible repeat (first | refine blk_drewN ?_ _ | refine blk_drew ?_ | refine blk_alloc ?_ _)); exact BK323.out) hb); have n1_ := Aside0.mk (below_step (by repeat (first | (with_reducible first | exact HB.out | apply below_alloc | apply pw_below_drewN | apply below_drew1 | refine below_set ?_ GE323.out) | exact HB.out)) hb); clear BK323; clear HB; have BK323 := n0_; have HB := n1_; clear n0_ n1_; (try clear hb); (try clear hb2); (try clear hk); (try clear hi); have hcz44_0 : w43.cell? ⟨gb323, 0, none⟩ = some (.int .i64 a0_0) := (blk_cell BK323.out 0).trans rfl; have hcz44_1 : w43.cell? ⟨gb323, 1, none⟩ = some (.int .i64 a0_1) := (blk_cell BK323.out 1).trans rfl; have hcz44_2 : w43.cell? ⟨gb323, 2, none⟩ = some (.int .i64 a0_2) := (blk_cell BK323.out 2).trans rfl; have hcz44_3 : w43.cell? ⟨gb323, 3, none⟩ = some (.int .i64 a0_3) := (blk_cell BK323.out 3).trans rfl; have hcz44_4 : w43.cell? ⟨gb323, 4, none⟩ = some (.int .i64 a0_4) := (blk_cell BK323.out 4).trans rfl; have hcz44_5 : w43.cell? ⟨gb323, 5, none⟩ = some (.string a0_5) := (blk_cell BK323.out 5).trans rfl; have hfz44_0 := blk_frozen BK323.out 0; have hfz44_1 := blk_frozen BK323.out 1; have hfz44_2 := blk_frozen BK323.out 2; have hfz44_3 := blk_frozen BK323.out 3; have hfz44_4 := blk_frozen BK323.out 4; have hfz44_5 := blk_frozen BK323.out 5) | (go_at_call 42; (with_reducible refine (txn_ID.calls a0_0 a0_1 a0_2 a0_3 a0_4 a0_5 t329 _ A37.out).mono ?_); rintro e w45 ⟨rfl, hb⟩; have n0_ := Aside0.mk (blk_below (g := gb323) (o := .cells #[.int .i64 a0_0, .int .i64 a0_1, .int .i64 a0_2, .int .i64 a0_3, .int .i64 a0_4, .string a0_5] 23 (0, 0)) (by (with_reducible repeat (first | refine blk_drewN ?_ _ | refine blk_drew ?_ | refine blk_alloc ?_ _)); exact BK323.out) hb); have n1_ := Aside0.mk (below_step (by repeat (first | (with_reducible first | exact HB.out | apply below_alloc | apply pw_below_drewN | apply below_drew1 | refine below_set ?_ GE323.out) | exact HB.out)) hb); clear BK323; clear HB; have BK323 := n0_; have HB := n1_; clear n0_ n1_; (try clear hb); (try clear hb2); (try clear hk); (try clear hi)) | (go_at_call 33; (with_reducible refine (hopperlaw04_live.calls kj2  t330 _ A39.out).mono ?_); rintro e w46 ⟨rfl, hb⟩; have n0_ := Aside0.mk (blk_below (g := gb323) (o := .cells #[.int .i64 a0_0, .int .i64 a0_1, .int .i64 a0_2, .int .i64 a0_3, .int .i64 a0_4, .string a0_5] 23 (0, 0)) (by (with_reducible repeat (first | refine blk_drewN ?_ _ | refine blk_drew ?_ | refine blk_alloc ?_ _)); exact BK323.out) hb); have n1_ := Aside0.mk (below_step (by repeat (first | (with_reducible first | exact HB.out | apply below_alloc | apply pw_below_drewN | apply below_drew1 | refine below_set ?_ GE323.out) | exact HB.out)) hb); clear BK323; clear HB; have BK323 := n0_; have HB := n1_; clear n0_ n1_; (try clear hb); (try clear hb2); (try clear hk); (try clear hi)))
              go_ret
              exact ⟨by first | rfl | (simp [errW_none, errW_some] <;> rfl) | (simp [*, errW_none, errW_some] <;> rfl), by repeat (first | (with_reducible first | exact HB.out | apply below_alloc | apply pw_below_drewN | apply below_drew1 | refine below_set ?_ GE323.out) | exact HB.out)⟩
            · rw [if_neg c38] at H
              exact absurd H (by simp)
        · replace c28 := Bool.eq_false_iff.mpr c28
          subst c28
          have H1 : ((hopperlaw04_live.f kj2).bind fun t331 => (some t331)) = some r := by rw [if_neg (show ¬ (false = true) by decide)] at H; exact H
          clear H
          have H := H1
          clear H1
          replace H := Option.bind_eq_some_iff.mp H
          obtain ⟨t331, A470, H⟩ := H
          replace H : (some t331) = some r := H
          have A47 := Aside0.mk A470
          clear A470
          obtain rfl := Option.some.inj H
          have hcz48_0 : wc.cell? ⟨gb323, 0, none⟩ = some (.int .i64 a0_0) := (blk_cell BK323.out 0).trans rfl
          have hcz48_1 : wc.cell? ⟨gb323, 1, none⟩ = some (.int .i64 a0_1) := (blk_cell BK323.out 1).trans rfl
          have hcz48_2 : wc.cell? ⟨gb323, 2, none⟩ = some (.int .i64 a0_2) := (blk_cell BK323.out 2).trans rfl
          have hcz48_3 : wc.cell? ⟨gb323, 3, none⟩ = some (.int .i64 a0_3) := (blk_cell BK323.out 3).trans rfl
          have hcz48_4 : wc.cell? ⟨gb323, 4, none⟩ = some (.int .i64 a0_4) := (blk_cell BK323.out 4).trans rfl
          have hcz48_5 : wc.cell? ⟨gb323, 5, none⟩ = some (.string a0_5) := (blk_cell BK323.out 5).trans rfl
          have hfz48_0 := blk_frozen BK323.out 0
          have hfz48_1 := blk_frozen BK323.out 1
          have hfz48_2 := blk_frozen BK323.out 2
          have hfz48_3 := blk_frozen BK323.out 3
          have hfz48_4 := blk_frozen BK323.out 4
          have hfz48_5 := blk_frozen BK323.out 5
          go_wp2_with (first | ((with_reducible refine gate_callee (f := 32) rfl ?_); refine goesL_ (some 34) rfl rfl Try.func32 (by kernel_rfl) rfl #[.agg #[.int .i64 a0_0, .int .i64 a0_1, .int .i64 a0_2, .int .i64 a0_3, .int .i64 a0_4, .string a0_5]] rfl (by (try simp only [List.map_toArray, List.map_cons, List.map_nil]); first | done | rfl | (simp only [List.length_drop, List.length_take]; rfl)) ?_; (with_reducible refine (hopperref04_Small.calls a0_0 a0_1 a0_2 a0_3 a0_4 a0_5 false _ A27.out).mono ?_); rintro e w49 ⟨rfl, hb⟩; refine ⟨_, rfl, ?_⟩; have n0_ := Aside0.mk (blk_below (g := gb323) (o := .cells #[.int .i64 a0_0, .int .i64 a0_1, .int .i64 a0_2, .int .i64 a0_3, .int .i64 a0_4, .string a0_5] 23 (0, 0)) (by (with_reducible repeat (first | refine blk_drewN ?_ _ | refine blk_drew ?_ | refine blk_alloc ?_ _)); exact BK323.out) hb); have n1_ := Aside0.mk (below_step (by repeat (first | (with_reducible first | exact HB.out | apply below_alloc | apply pw_below_drewN | apply below_drew1 | refine below_set ?_ GE323.out) | exact HB.out)) hb); clear BK323; clear HB; have BK323 := n0_; have HB := n1_; clear n0_ n1_; (try clear hb); (try clear hb2); (try clear hk); (try clear hi)) | (go_at_call 33; (with_reducible refine (hopperlaw04_live.calls kj2  t331 _ A47.out).mono ?_); rintro e w50 ⟨rfl, hb⟩; have n0_ := Aside0.mk (blk_below (g := gb323) (o := .cells #[.int .i64 a0_0, .int .i64 a0_1, .int .i64 a0_2, .int .i64 a0_3, .int .i64 a0_4, .string a0_5] 23 (0, 0)) (by (with_reducible repeat (first | refine blk_drewN ?_ _ | refine blk_drew ?_ | refine blk_alloc ?_ _)); exact BK323.out) hb); have n1_ := Aside0.mk (below_step (by repeat (first | (with_reducible first | exact HB.out | apply below_alloc | apply pw_below_drewN | apply below_drew1 | refine below_set ?_ GE323.out) | exact HB.out)) hb); clear BK323; clear HB; have BK323 := n0_; have HB := n1_; clear n0_ n1_; (try clear hb); (try clear hb2); (try clear hk); (try clear hi)))
          go_ret
          exact ⟨by first | rfl | (simp [errW_none, errW_some] <;> rfl) | (simp [*, errW_none, errW_some] <;> rfl), by repeat (first | (with_reducible first | exact HB.out | apply below_alloc | apply pw_below_drewN | apply below_drew1 | refine below_set ?_ GE323.out) | exact HB.out)⟩
      · replace c26 := Bool.eq_false_iff.mpr c26
        subst c26
        have H1 : ((txn_Encode.f a0_0 a0_1 (wrap64 (a0_2 + a1)) a0_3 a0_4 a0_5).bind fun bt333 => ((txn_Check.f a0_0 a0_1 (wrap64 (a0_2 + a1)) a0_3 a0_4 a0_5).bind fun t335 => (if t335 = true then ((txn_Better.f kj2 a0_0 a0_1 (wrap64 (a0_2 + a1)) a0_3 a0_4 a0_5 a0_0 a0_1 a0_2 a0_3 a0_4 a0_5).bind fun t336 => (if t336 = true then ((txn_Better.f kj2 a0_0 a0_1 a0_2 a0_3 a0_4 a0_5 a0_0 a0_1 (wrap64 (a0_2 + a1)) a0_3 a0_4 a0_5).bind fun t337 => (if t337 = true then (none) else (if bt333.2 = true then ((txn_Slots.f a0_0 a0_1 (wrap64 (a0_2 + a1)) a0_3 a0_4 a0_5).bind fun t338 => (if t338 ≥ 1 then ((txn_Slots.f a0_0 a0_1 (wrap64 (a0_2 + a1)) a0_3 a0_4 a0_5).bind fun t339 => (if (wrap64 (32 * t339)) ≥ (bt333.1.size : Int) then ((txn_ID.f a0_0 a0_1 (wrap64 (a0_2 + a1)) a0_3 a0_4 a0_5).bind fun t340 => (if (t340.size : Int) = 16 then ((hopperlaw04_live.f kj2).bind fun t341 => (some t341)) else (none))) else (none))) else (none))) else (none)))) else (none))) else (none)))) = some r := by rw [if_neg (show ¬ (false = true) by decide)] at H; exact H
        clear H
        have H := H1
        clear H1
        replace H := Option.bind_eq_some_iff.mp H
        obtain ⟨⟨t333, t334⟩, A510, H⟩ := H
        replace H : ((txn_Check.f a0_0 a0_1 (wrap64 (a0_2 + a1)) a0_3 a0_4 a0_5).bind fun t335 => (if t335 = true then ((txn_Better.f kj2 a0_0 a0_1 (wrap64 (a0_2 + a1)) a0_3 a0_4 a0_5 a0_0 a0_1 a0_2 a0_3 a0_4 a0_5).bind fun t336 => (if t336 = true then ((txn_Better.f kj2 a0_0 a0_1 a0_2 a0_3 a0_4 a0_5 a0_0 a0_1 (wrap64 (a0_2 + a1)) a0_3 a0_4 a0_5).bind fun t337 => (if t337 = true then (none) else (if t334 = true then ((txn_Slots.f a0_0 a0_1 (wrap64 (a0_2 + a1)) a0_3 a0_4 a0_5).bind fun t338 => (if t338 ≥ 1 then ((txn_Slots.f a0_0 a0_1 (wrap64 (a0_2 + a1)) a0_3 a0_4 a0_5).bind fun t339 => (if (wrap64 (32 * t339)) ≥ (t333.size : Int) then ((txn_ID.f a0_0 a0_1 (wrap64 (a0_2 + a1)) a0_3 a0_4 a0_5).bind fun t340 => (if (t340.size : Int) = 16 then ((hopperlaw04_live.f kj2).bind fun t341 => (some t341)) else (none))) else (none))) else (none))) else (none)))) else (none))) else (none))) = some r := H
        have A51 := Aside0.mk A510
        clear A510
        replace H := Option.bind_eq_some_iff.mp H
        obtain ⟨t335, A520, H⟩ := H
        replace H : (if t335 = true then ((txn_Better.f kj2 a0_0 a0_1 (wrap64 (a0_2 + a1)) a0_3 a0_4 a0_5 a0_0 a0_1 a0_2 a0_3 a0_4 a0_5).bind fun t336 => (if t336 = true then ((txn_Better.f kj2 a0_0 a0_1 a0_2 a0_3 a0_4 a0_5 a0_0 a0_1 (wrap64 (a0_2 + a1)) a0_3 a0_4 a0_5).bind fun t337 => (if t337 = true then (none) else (if t334 = true then ((txn_Slots.f a0_0 a0_1 (wrap64 (a0_2 + a1)) a0_3 a0_4 a0_5).bind fun t338 => (if t338 ≥ 1 then ((txn_Slots.f a0_0 a0_1 (wrap64 (a0_2 + a1)) a0_3 a0_4 a0_5).bind fun t339 => (if (wrap64 (32 * t339)) ≥ (t333.size : Int) then ((txn_ID.f a0_0 a0_1 (wrap64 (a0_2 + a1)) a0_3 a0_4 a0_5).bind fun t340 => (if (t340.size : Int) = 16 then ((hopperlaw04_live.f kj2).bind fun t341 => (some t341)) else (none))) else (none))) else (none))) else (none)))) else (none))) else (none)) = some r := H
        have A52 := Aside0.mk A520
        clear A520
        by_cases c53 : t335 = true
        · subst c53
          have H1 : ((txn_Better.f kj2 a0_0 a0_1 (wrap64 (a0_2 + a1)) a0_3 a0_4 a0_5 a0_0 a0_1 a0_2 a0_3 a0_4 a0_5).bind fun t336 => (if t336 = true then ((txn_Better.f kj2 a0_0 a0_1 a0_2 a0_3 a0_4 a0_5 a0_0 a0_1 (wrap64 (a0_2 + a1)) a0_3 a0_4 a0_5).bind fun t337 => (if t337 = true then (none) else (if t334 = true then ((txn_Slots.f a0_0 a0_1 (wrap64 (a0_2 + a1)) a0_3 a0_4 a0_5).bind fun t338 => (if t338 ≥ 1 then ((txn_Slots.f a0_0 a0_1 (wrap64 (a0_2 + a1)) a0_3 a0_4 a0_5).bind fun t339 => (if (wrap64 (32 * t339)) ≥ (t333.size : Int) then ((txn_ID.f a0_0 a0_1 (wrap64 (a0_2 + a1)) a0_3 a0_4 a0_5).bind fun t340 => (if (t340.size : Int) = 16 then ((hopperlaw04_live.f kj2).bind fun t341 => (some t341)) else (none))) else (none))) else (none))) else (none)))) else (none))) = some r := by rw [if_pos rfl] at H; exact H
          clear H
          have H := H1
          clear H1
          replace H := Option.bind_eq_some_iff.mp H
          obtain ⟨t336, A540, H⟩ := H
          replace H : (if t336 = true then ((txn_Better.f kj2 a0_0 a0_1 a0_2 a0_3 a0_4 a0_5 a0_0 a0_1 (wrap64 (a0_2 + a1)) a0_3 a0_4 a0_5).bind fun t337 => (if t337 = true then (none) else (if t334 = true then ((txn_Slots.f a0_0 a0_1 (wrap64 (a0_2 + a1)) a0_3 a0_4 a0_5).bind fun t338 => (if t338 ≥ 1 then ((txn_Slots.f a0_0 a0_1 (wrap64 (a0_2 + a1)) a0_3 a0_4 a0_5).bind fun t339 => (if (wrap64 (32 * t339)) ≥ (t333.size : Int) then ((txn_ID.f a0_0 a0_1 (wrap64 (a0_2 + a1)) a0_3 a0_4 a0_5).bind fun t340 => (if (t340.size : Int) = 16 then ((hopperlaw04_live.f kj2).bind fun t341 => (some t341)) else (none))) else (none))) else (none))) else (none)))) else (none)) = some r := H
          have A54 := Aside0.mk A540
          clear A540
          by_cases c55 : t336 = true
          · subst c55
            have H1 : ((txn_Better.f kj2 a0_0 a0_1 a0_2 a0_3 a0_4 a0_5 a0_0 a0_1 (wrap64 (a0_2 + a1)) a0_3 a0_4 a0_5).bind fun t337 => (if t337 = true then (none) else (if t334 = true then ((txn_Slots.f a0_0 a0_1 (wrap64 (a0_2 + a1)) a0_3 a0_4 a0_5).bind fun t338 => (if t338 ≥ 1 then ((txn_Slots.f a0_0 a0_1 (wrap64 (a0_2 + a1)) a0_3 a0_4 a0_5).bind fun t339 => (if (wrap64 (32 * t339)) ≥ (t333.size : Int) then ((txn_ID.f a0_0 a0_1 (wrap64 (a0_2 + a1)) a0_3 a0_4 a0_5).bind fun t340 => (if (t340.size : Int) = 16 then ((hopperlaw04_live.f kj2).bind fun t341 => (some t341)) else (none))) else (none))) else (none))) else (none)))) = some r := by rw [if_pos rfl] at H; exact H
            clear H
            have H := H1
            clear H1
            replace H := Option.bind_eq_some_iff.mp H
            obtain ⟨t337, A560, H⟩ := H
            replace H : (if t337 = true then (none) else (if t334 = true then ((txn_Slots.f a0_0 a0_1 (wrap64 (a0_2 + a1)) a0_3 a0_4 a0_5).bind fun t338 => (if t338 ≥ 1 then ((txn_Slots.f a0_0 a0_1 (wrap64 (a0_2 + a1)) a0_3 a0_4 a0_5).bind fun t339 => (if (wrap64 (32 * t339)) ≥ (t333.size : Int) then ((txn_ID.f a0_0 a0_1 (wrap64 (a0_2 + a1)) a0_3 a0_4 a0_5).bind fun t340 => (if (t340.size : Int) = 16 then ((hopperlaw04_live.f kj2).bind fun t341 => (some t341)) else (none))) else (none))) else (none))) else (none))) = some r := H
            have A56 := Aside0.mk A560
            clear A560
            by_cases c57 : t337 = true
            · subst c57
              have H1 : (none) = some r := by rw [if_pos rfl] at H; exact H
              clear H
              have H := H1
              clear H1
              exact absurd H (by simp)
            · replace c57 := Bool.eq_false_iff.mpr c57
              subst c57
              have H1 : (if t334 = true then ((txn_Slots.f a0_0 a0_1 (wrap64 (a0_2 + a1)) a0_3 a0_4 a0_5).bind fun t338 => (if t338 ≥ 1 then ((txn_Slots.f a0_0 a0_1 (wrap64 (a0_2 + a1)) a0_3 a0_4 a0_5).bind fun t339 => (if (wrap64 (32 * t339)) ≥ (t333.size : Int) then ((txn_ID.f a0_0 a0_1 (wrap64 (a0_2 + a1)) a0_3 a0_4 a0_5).bind fun t340 => (if (t340.size : Int) = 16 then ((hopperlaw04_live.f kj2).bind fun t341 => (some t341)) else (none))) else (none))) else (none))) else (none)) = some r := by rw [if_neg (show ¬ (false = true) by decide)] at H; exact H
              clear H
              have H := H1
              clear H1
              by_cases c58 : t334 = true
              · subst c58
                have H1 : ((txn_Slots.f a0_0 a0_1 (wrap64 (a0_2 + a1)) a0_3 a0_4 a0_5).bind fun t338 => (if t338 ≥ 1 then ((txn_Slots.f a0_0 a0_1 (wrap64 (a0_2 + a1)) a0_3 a0_4 a0_5).bind fun t339 => (if (wrap64 (32 * t339)) ≥ (t333.size : Int) then ((txn_ID.f a0_0 a0_1 (wrap64 (a0_2 + a1)) a0_3 a0_4 a0_5).bind fun t340 => (if (t340.size : Int) = 16 then ((hopperlaw04_live.f kj2).bind fun t341 => (some t341)) else (none))) else (none))) else (none))) = some r := by rw [if_pos rfl] at H; exact H
                clear H
                have H := H1
                clear H1
                replace H := Option.bind_eq_some_iff.mp H
                obtain ⟨t338, A590, H⟩ := H
                replace H : (if t338 ≥ 1 then ((txn_Slots.f a0_0 a0_1 (wrap64 (a0_2 + a1)) a0_3 a0_4 a0_5).bind fun t339 => (if (wrap64 (32 * t339)) ≥ (t333.size : Int) then ((txn_ID.f a0_0 a0_1 (wrap64 (a0_2 + a1)) a0_3 a0_4 a0_5).bind fun t340 => (if (t340.size : Int) = 16 then ((hopperlaw04_live.f kj2).bind fun t341 => (some t341)) else (none))) else (none))) else (none)) = some r := H
                have A59 := Aside0.mk A590
                clear A590
                by_cases c60 : t338 ≥ 1
                · rw [if_pos c60] at H
                  have c60b0 : decide (1 ≤ t338) = true := decide_eq_true c60
                  clear c60
                  replace H := Option.bind_eq_some_iff.mp H
                  obtain ⟨t339, A610, H⟩ := H
                  have E_ := Aside0.mk (show t339 = t338 from Option.some.inj (A610.symm.trans A59.out))
                  replace H : (if (wrap64 (32 * t339)) ≥ (t333.size : Int) then ((txn_ID.f a0_0 a0_1 (wrap64 (a0_2 + a1)) a0_3 a0_4 a0_5).bind fun t340 => (if (t340.size : Int) = 16 then ((hopperlaw04_live.f kj2).bind fun t341 => (some t341)) else (none))) else (none)) = some r := H
                  have A61 := Aside0.mk A610
                  clear A610
                  by_cases c62 : (wrap64 (32 * t339)) ≥ (t333.size : Int)
                  · rw [if_pos c62] at H
                    have c62b0 : decide ((t333.size : Int) ≤ (wrap64 (32 * t339))) = true := decide_eq_true c62
                    have c62e0 := E_.out ▸ c62b0
                    clear c62
                    replace H := Option.bind_eq_some_iff.mp H
                    obtain ⟨t340, A630, H⟩ := H
                    replace H : (if (t340.size : Int) = 16 then ((hopperlaw04_live.f kj2).bind fun t341 => (some t341)) else (none)) = some r := H
                    have A63 := Aside0.mk A630
                    clear A630
                    by_cases c64 : (t340.size : Int) = 16
                    · rw [if_pos c64] at H
                      have c64b0 : ((t340.size : Int) == 16) = true := beq_iff_eq.mpr c64
                      have c64b1 : ((t340.size : Int) != 16) = false := bne_eq_false_iff_eq.mpr c64
                      clear c64
                      replace H := Option.bind_eq_some_iff.mp H
                      obtain ⟨t341, A650, H⟩ := H
                      replace H : (some t341) = some r := H
                      have A65 := Aside0.mk A650
                      clear A650
                      obtain rfl := Option.some.inj H
                      have hcz66_0 : wc.cell? ⟨gb323, 0, none⟩ = some (.int .i64 a0_0) := (blk_cell BK323.out 0).trans rfl
                      have hcz66_1 : wc.cell? ⟨gb323, 1, none⟩ = some (.int .i64 a0_1) := (blk_cell BK323.out 1).trans rfl
                      have hcz66_2 : wc.cell? ⟨gb323, 2, none⟩ = some (.int .i64 a0_2) := (blk_cell BK323.out 2).trans rfl
                      have hcz66_3 : wc.cell? ⟨gb323, 3, none⟩ = some (.int .i64 a0_3) := (blk_cell BK323.out 3).trans rfl
                      have hcz66_4 : wc.cell? ⟨gb323, 4, none⟩ = some (.int .i64 a0_4) := (blk_cell BK323.out 4).trans rfl
                      have hcz66_5 : wc.cell? ⟨gb323, 5, none⟩ = some (.string a0_5) := (blk_cell BK323.out 5).trans rfl
                      have hfz66_0 := blk_frozen BK323.out 0
                      have hfz66_1 := blk_frozen BK323.out 1
                      have hfz66_2 := blk_frozen BK323.out 2
                      have hfz66_3 := blk_frozen BK323.out 3
                      have hfz66_4 := blk_frozen BK323.out 4
                      have hfz66_5 := blk_frozen BK323.out 5
                      go_upto_region 5 with (first | ((with_reducible refine gate_dst (N := 5) rfl ?_); (try (refine gate_guard (by rfl) ?_; dsimp only)); refine box_event ?hg (N := 5) ?hd (cs := #[.int .i64 0, .int .i64 0, .int .i64 0, .int .i64 0, .int .i64 0, .string (⟨#[]⟩ : ByteArray)]) (t := 23) ?hr ?_; (case hd => rfl); (case hg => rfl); (case hr => first | (go_simp; done) | (go_simp; rfl)); intro gb332 hg w67 hbox hb; have n0_ := Aside0.mk (blk_below (g := gb323) (o := .cells #[.int .i64 a0_0, .int .i64 a0_1, .int .i64 a0_2, .int .i64 a0_3, .int .i64 a0_4, .string a0_5] 23 (0, 0)) (by (with_reducible repeat (first | refine blk_drewN ?_ _ | refine blk_drew ?_ | refine blk_alloc ?_ _)); exact BK323.out) hb); have n1_ := Aside0.mk (below_step (by repeat (first | (with_reducible first | exact HB.out | apply below_alloc | apply pw_below_drewN | apply below_drew1 | refine below_set ?_ GE323.out) | exact HB.out)) hb); have n2_ := Aside0.mk (hbox); have n3_ := Aside0.mk ((by rw [hg]; exact (below_size (by repeat (first | (with_reducible first | exact HB.out | apply below_alloc | apply pw_below_drewN | apply below_drew1 | refine below_set ?_ GE323.out) | exact HB.out))) : w.heap.size ≤ gb332)); have n4_ := Aside0.mk ((by rw [hg]; exact (below_size (by repeat (first | (with_reducible first | exact HB.out | apply below_alloc | apply pw_below_drewN | apply below_drew1 | refine below_set ?_ GE323.out) | exact HB.out))) : w.heap.size ≤ gb332)); have n5_ := Aside0.mk ((by rw [hg]; exact Nat.ne_of_lt (blk_lt (g := gb323) (o := .cells #[.int .i64 a0_0, .int .i64 a0_1, .int .i64 a0_2, .int .i64 a0_3, .int .i64 a0_4, .string a0_5] 23 (0, 0)) (by (with_reducible repeat (first | refine blk_drewN ?_ _ | refine blk_drew ?_ | refine blk_alloc ?_ _)); exact BK323.out)) : gb323 ≠ gb332)); have n6_ := Aside0.mk ((by rw [hg]; exact Nat.ne_of_gt (blk_lt (g := gb323) (o := .cells #[.int .i64 a0_0, .int .i64 a0_1, .int .i64 a0_2, .int .i64 a0_3, .int .i64 a0_4, .string a0_5] 23 (0, 0)) (by (with_reducible repeat (first | refine blk_drewN ?_ _ | refine blk_drew ?_ | refine blk_alloc ?_ _)); exact BK323.out)) : gb332 ≠ gb323)); clear BK323; clear HB; have BK323 := n0_; have HB := n1_; have BK332 := n2_; have GW332 := n3_; have GE332 := n4_; have NB323_332 := n5_; have NB332_323 := n6_; clear n0_ n1_ n2_ n3_ n4_ n5_ n6_; clear hb hbox hg; have hnb68 := NB332_323.out; have hnc68 := NB323_332.out; have hcz69_0 : w67.cell? ⟨gb332, 0, none⟩ = some (.int .i64 0) := (blk_cell BK332.out 0).trans rfl; have hcz69_1 : w67.cell? ⟨gb332, 1, none⟩ = some (.int .i64 0) := (blk_cell BK332.out 1).trans rfl; have hcz69_2 : w67.cell? ⟨gb332, 2, none⟩ = some (.int .i64 0) := (blk_cell BK332.out 2).trans rfl; have hcz69_3 : w67.cell? ⟨gb332, 3, none⟩ = some (.int .i64 0) := (blk_cell BK332.out 3).trans rfl; have hcz69_4 : w67.cell? ⟨gb332, 4, none⟩ = some (.int .i64 0) := (blk_cell BK332.out 4).trans rfl; have hcz69_5 : w67.cell? ⟨gb332, 5, none⟩ = some (.string (⟨#[]⟩ : ByteArray)) := (blk_cell BK332.out 5).trans rfl; have hfz69_0 := blk_frozen BK332.out 0; have hfz69_1 := blk_frozen BK332.out 1; have hfz69_2 := blk_frozen BK332.out 2; have hfz69_3 := blk_frozen BK332.out 3; have hfz69_4 := blk_frozen BK332.out 4; have hfz69_5 := blk_frozen BK332.out 5; have hcz70_0 : w67.cell? ⟨gb323, 0, none⟩ = some (.int .i64 a0_0) := (blk_cell BK323.out 0).trans rfl; have hcz70_1 : w67.cell? ⟨gb323, 1, none⟩ = some (.int .i64 a0_1) := (blk_cell BK323.out 1).trans rfl; have hcz70_2 : w67.cell? ⟨gb323, 2, none⟩ = some (.int .i64 a0_2) := (blk_cell BK323.out 2).trans rfl; have hcz70_3 : w67.cell? ⟨gb323, 3, none⟩ = some (.int .i64 a0_3) := (blk_cell BK323.out 3).trans rfl; have hcz70_4 : w67.cell? ⟨gb323, 4, none⟩ = some (.int .i64 a0_4) := (blk_cell BK323.out 4).trans rfl; have hcz70_5 : w67.cell? ⟨gb323, 5, none⟩ = some (.string a0_5) := (blk_cell BK323.out 5).trans rfl; have hfz70_0 := blk_frozen BK323.out 0; have hfz70_1 := blk_frozen BK323.out 1; have hfz70_2 := blk_frozen BK323.out 2; have hfz70_3 := blk_frozen BK323.out 3; have hfz70_4 := blk_frozen BK323.out 4; have hfz70_5 := blk_frozen BK323.out 5))
                      generalize hW_ : World.setCell _ _ _ = wz_
                      have m1_ := Aside0.mk (show wz_.heap[gb323]? = some (.cells #[.int .i64 a0_0, .int .i64 a0_1, .int .i64 a0_2, .int .i64 a0_3, .int .i64 a0_4, .string a0_5] 23 (0, 0)) from hW_ ▸ (by (with_reducible repeat (first | refine blk_drewN ?_ _ | refine blk_drew ?_ | refine blk_alloc ?_ _)); refine blk_far ?_ NB323_332.out _; (with_reducible repeat (first | refine blk_drewN ?_ _ | refine blk_drew ?_ | refine blk_alloc ?_ _)); refine blk_far ?_ NB323_332.out _; (with_reducible repeat (first | refine blk_drewN ?_ _ | refine blk_drew ?_ | refine blk_alloc ?_ _)); refine blk_far ?_ NB323_332.out _; (with_reducible repeat (first | refine blk_drewN ?_ _ | refine blk_drew ?_ | refine blk_alloc ?_ _)); refine blk_far ?_ NB323_332.out _; (with_reducible repeat (first | refine blk_drewN ?_ _ | refine blk_drew ?_ | refine blk_alloc ?_ _)); refine blk_far ?_ NB323_332.out _; (with_reducible repeat (first | refine blk_drewN ?_ _ | refine blk_drew ?_ | refine blk_alloc ?_ _)); refine blk_far ?_ NB323_332.out _; (with_reducible repeat (first | refine blk_drewN ?_ _ | refine blk_drew ?_ | refine blk_alloc ?_ _)); refine blk_far ?_ NB323_332.out _; (with_reducible repeat (first | refine blk_drewN ?_ _ | refine blk_drew ?_ | refine blk_alloc ?_ _)); exact BK323.out))
                      have m0_ := Aside0.mk (show wz_.heap[gb332]? = some (.cells #[.int .i64 a0_0, .int .i64 a0_1, .int .i64 (wrap64 (a0_2 + a1)), .int .i64 a0_3, .int .i64 a0_4, .string a0_5] 23 (0, 0)) from hW_ ▸ (by (with_reducible repeat (first | refine blk_drewN ?_ _ | refine blk_drew ?_ | refine blk_alloc ?_ _)); refine blk_put (cs := #[.int .i64 a0_0, .int .i64 a0_1, .int .i64 a0_2, .int .i64 a0_3, .int .i64 a0_4, .string a0_5]) ?_ 2 _ rfl; (with_reducible repeat (first | refine blk_drewN ?_ _ | refine blk_drew ?_ | refine blk_alloc ?_ _)); refine blk_put (cs := #[.int .i64 a0_0, .int .i64 a0_1, .int .i64 a0_2, .int .i64 a0_3, .int .i64 a0_4, .string (⟨#[]⟩ : ByteArray)]) ?_ 5 _ rfl; (with_reducible repeat (first | refine blk_drewN ?_ _ | refine blk_drew ?_ | refine blk_alloc ?_ _)); refine blk_put (cs := #[.int .i64 a0_0, .int .i64 a0_1, .int .i64 a0_2, .int .i64 a0_3, .int .i64 0, .string (⟨#[]⟩ : ByteArray)]) ?_ 4 _ rfl; (with_reducible repeat (first | refine blk_drewN ?_ _ | refine blk_drew ?_ | refine blk_alloc ?_ _)); refine blk_put (cs := #[.int .i64 a0_0, .int .i64 a0_1, .int .i64 a0_2, .int .i64 0, .int .i64 0, .string (⟨#[]⟩ : ByteArray)]) ?_ 3 _ rfl; (with_reducible repeat (first | refine blk_drewN ?_ _ | refine blk_drew ?_ | refine blk_alloc ?_ _)); refine blk_put (cs := #[.int .i64 a0_0, .int .i64 a0_1, .int .i64 0, .int .i64 0, .int .i64 0, .string (⟨#[]⟩ : ByteArray)]) ?_ 2 _ rfl; (with_reducible repeat (first | refine blk_drewN ?_ _ | refine blk_drew ?_ | refine blk_alloc ?_ _)); refine blk_put (cs := #[.int .i64 a0_0, .int .i64 0, .int .i64 0, .int .i64 0, .int .i64 0, .string (⟨#[]⟩ : ByteArray)]) ?_ 1 _ rfl; (with_reducible repeat (first | refine blk_drewN ?_ _ | refine blk_drew ?_ | refine blk_alloc ?_ _)); refine blk_put (cs := #[.int .i64 0, .int .i64 0, .int .i64 0, .int .i64 0, .int .i64 0, .string (⟨#[]⟩ : ByteArray)]) ?_ 0 _ rfl; (with_reducible repeat (first | refine blk_drewN ?_ _ | refine blk_drew ?_ | refine blk_alloc ?_ _)); exact BK332.out))
                      have m2_ := Aside0.mk (show Below w.heap.size w wz_ from hW_ ▸ (by repeat (first | (with_reducible first | exact HB.out | apply below_alloc | apply pw_below_drewN | apply below_drew1 | refine below_set ?_ GE323.out | refine below_set ?_ GE332.out) | exact HB.out)))
                      clear hW_ BK323 BK332 HB
                      have BK323 := m1_
                      have BK332 := m0_
                      have HB := m2_
                      clear m0_ m1_ m2_
                      have hmgb323_0 : wz_.cell? ⟨gb323, 0, none⟩ = some (.int .i64 a0_0) := (blk_cell BK323.out 0).trans rfl
                      have hngb323_0 := blk_frozen BK323.out 0
                      have hmgb323_1 : wz_.cell? ⟨gb323, 1, none⟩ = some (.int .i64 a0_1) := (blk_cell BK323.out 1).trans rfl
                      have hngb323_1 := blk_frozen BK323.out 1
                      have hmgb323_2 : wz_.cell? ⟨gb323, 2, none⟩ = some (.int .i64 a0_2) := (blk_cell BK323.out 2).trans rfl
                      have hngb323_2 := blk_frozen BK323.out 2
                      have hmgb323_3 : wz_.cell? ⟨gb323, 3, none⟩ = some (.int .i64 a0_3) := (blk_cell BK323.out 3).trans rfl
                      have hngb323_3 := blk_frozen BK323.out 3
                      have hmgb323_4 : wz_.cell? ⟨gb323, 4, none⟩ = some (.int .i64 a0_4) := (blk_cell BK323.out 4).trans rfl
                      have hngb323_4 := blk_frozen BK323.out 4
                      have hmgb323_5 : wz_.cell? ⟨gb323, 5, none⟩ = some (.string a0_5) := (blk_cell BK323.out 5).trans rfl
                      have hngb323_5 := blk_frozen BK323.out 5
                      have hmgb332_0 : wz_.cell? ⟨gb332, 0, none⟩ = some (.int .i64 a0_0) := (blk_cell BK332.out 0).trans rfl
                      have hngb332_0 := blk_frozen BK332.out 0
                      have hmgb332_1 : wz_.cell? ⟨gb332, 1, none⟩ = some (.int .i64 a0_1) := (blk_cell BK332.out 1).trans rfl
                      have hngb332_1 := blk_frozen BK332.out 1
                      have hmgb332_2 : wz_.cell? ⟨gb332, 2, none⟩ = some (.int .i64 (wrap64 (a0_2 + a1))) := (blk_cell BK332.out 2).trans rfl
                      have hngb332_2 := blk_frozen BK332.out 2
                      have hmgb332_3 : wz_.cell? ⟨gb332, 3, none⟩ = some (.int .i64 a0_3) := (blk_cell BK332.out 3).trans rfl
                      have hngb332_3 := blk_frozen BK332.out 3
                      have hmgb332_4 : wz_.cell? ⟨gb332, 4, none⟩ = some (.int .i64 a0_4) := (blk_cell BK332.out 4).trans rfl
                      have hngb332_4 := blk_frozen BK332.out 4
                      have hmgb332_5 : wz_.cell? ⟨gb332, 5, none⟩ = some (.string a0_5) := (blk_cell BK332.out 5).trans rfl
                      have hngb332_5 := blk_frozen BK332.out 5
                      go_wp2_with (first | (go_at_call 34; (with_reducible refine (txn_Encode.calls a0_0 a0_1 (wrap64 (a0_2 + a1)) a0_3 a0_4 a0_5 t333 true _ A51.out).mono ?_); rintro e w71 ⟨rfl, hb⟩; have n0_ := Aside0.mk (blk_below (g := gb323) (o := .cells #[.int .i64 a0_0, .int .i64 a0_1, .int .i64 a0_2, .int .i64 a0_3, .int .i64 a0_4, .string a0_5] 23 (0, 0)) (by (with_reducible repeat (first | refine blk_drewN ?_ _ | refine blk_drew ?_ | refine blk_alloc ?_ _)); exact BK323.out) hb); have n1_ := Aside0.mk (blk_below (g := gb332) (o := .cells #[.int .i64 a0_0, .int .i64 a0_1, .int .i64 (wrap64 (a0_2 + a1)), .int .i64 a0_3, .int .i64 a0_4, .string a0_5] 23 (0, 0)) (by (with_reducible repeat (first | refine blk_drewN ?_ _ | refine blk_drew ?_ | refine blk_alloc ?_ _)); exact BK332.out) hb); have n2_ := Aside0.mk (below_step (by repeat (first | (with_reducible first | exact HB.out | apply below_alloc | apply pw_below_drewN | apply below_drew1 | refine below_set ?_ GE323.out | refine below_set ?_ GE332.out) | exact HB.out)) hb); clear BK323; clear BK332; clear HB; have BK323 := n0_; have BK332 := n1_; have HB := n2_; clear n0_ n1_ n2_; (try clear hb); (try clear hb2); (try clear hk); (try clear hi); have hcz72_0 : w71.cell? ⟨gb332, 0, none⟩ = some (.int .i64 a0_0) := (blk_cell BK332.out 0).trans rfl; have hcz72_1 : w71.cell? ⟨gb332, 1, none⟩ = some (.int .i64 a0_1) := (blk_cell BK332.out 1).trans rfl; have hcz72_2 : w71.cell? ⟨gb332, 2, none⟩ = some (.int .i64 (wrap64 (a0_2 + a1))) := (blk_cell BK332.out 2).trans rfl; have hcz72_3 : w71.cell? ⟨gb332, 3, none⟩ = some (.int .i64 a0_3) := (blk_cell BK332.out 3).trans rfl; have hcz72_4 : w71.cell? ⟨gb332, 4, none⟩ = some (.int .i64 a0_4) := (blk_cell BK332.out 4).trans rfl; have hcz72_5 : w71.cell? ⟨gb332, 5, none⟩ = some (.string a0_5) := (blk_cell BK332.out 5).trans rfl; have hfz72_0 := blk_frozen BK332.out 0; have hfz72_1 := blk_frozen BK332.out 1; have hfz72_2 := blk_frozen BK332.out 2; have hfz72_3 := blk_frozen BK332.out 3; have hfz72_4 := blk_frozen BK332.out 4; have hfz72_5 := blk_frozen BK332.out 5) | (go_at_call 38; (with_reducible refine (txn_Check.calls a0_0 a0_1 (wrap64 (a0_2 + a1)) a0_3 a0_4 a0_5 true _ A52.out).mono ?_); rintro e w73 ⟨rfl, hb⟩; have n0_ := Aside0.mk (blk_below (g := gb323) (o := .cells #[.int .i64 a0_0, .int .i64 a0_1, .int .i64 a0_2, .int .i64 a0_3, .int .i64 a0_4, .string a0_5] 23 (0, 0)) (by (with_reducible repeat (first | refine blk_drewN ?_ _ | refine blk_drew ?_ | refine blk_alloc ?_ _)); exact BK323.out) hb); have n1_ := Aside0.mk (blk_below (g := gb332) (o := .cells #[.int .i64 a0_0, .int .i64 a0_1, .int .i64 (wrap64 (a0_2 + a1)), .int .i64 a0_3, .int .i64 a0_4, .string a0_5] 23 (0, 0)) (by (with_reducible repeat (first | refine blk_drewN ?_ _ | refine blk_drew ?_ | refine blk_alloc ?_ _)); exact BK332.out) hb); have n2_ := Aside0.mk (below_step (by repeat (first | (with_reducible first | exact HB.out | apply below_alloc | apply pw_below_drewN | apply below_drew1 | refine below_set ?_ GE323.out | refine below_set ?_ GE332.out) | exact HB.out)) hb); clear BK323; clear BK332; clear HB; have BK323 := n0_; have BK332 := n1_; have HB := n2_; clear n0_ n1_ n2_; (try clear hb); (try clear hb2); (try clear hk); (try clear hi); have hcz74_0 : w73.cell? ⟨gb332, 0, none⟩ = some (.int .i64 a0_0) := (blk_cell BK332.out 0).trans rfl; have hcz74_1 : w73.cell? ⟨gb332, 1, none⟩ = some (.int .i64 a0_1) := (blk_cell BK332.out 1).trans rfl; have hcz74_2 : w73.cell? ⟨gb332, 2, none⟩ = some (.int .i64 (wrap64 (a0_2 + a1))) := (blk_cell BK332.out 2).trans rfl; have hcz74_3 : w73.cell? ⟨gb332, 3, none⟩ = some (.int .i64 a0_3) := (blk_cell BK332.out 3).trans rfl; have hcz74_4 : w73.cell? ⟨gb332, 4, none⟩ = some (.int .i64 a0_4) := (blk_cell BK332.out 4).trans rfl; have hcz74_5 : w73.cell? ⟨gb332, 5, none⟩ = some (.string a0_5) := (blk_cell BK332.out 5).trans rfl; have hfz74_0 := blk_frozen BK332.out 0; have hfz74_1 := blk_frozen BK332.out 1; have hfz74_2 := blk_frozen BK332.out 2; have hfz74_3 := blk_frozen BK332.out 3; have hfz74_4 := blk_frozen BK332.out 4; have hfz74_5 := blk_frozen BK332.out 5; have hcz75_0 : w73.cell? ⟨gb323, 0, none⟩ = some (.int .i64 a0_0) := (blk_cell BK323.out 0).trans rfl; have hcz75_1 : w73.cell? ⟨gb323, 1, none⟩ = some (.int .i64 a0_1) := (blk_cell BK323.out 1).trans rfl; have hcz75_2 : w73.cell? ⟨gb323, 2, none⟩ = some (.int .i64 a0_2) := (blk_cell BK323.out 2).trans rfl; have hcz75_3 : w73.cell? ⟨gb323, 3, none⟩ = some (.int .i64 a0_3) := (blk_cell BK323.out 3).trans rfl; have hcz75_4 : w73.cell? ⟨gb323, 4, none⟩ = some (.int .i64 a0_4) := (blk_cell BK323.out 4).trans rfl; have hcz75_5 : w73.cell? ⟨gb323, 5, none⟩ = some (.string a0_5) := (blk_cell BK323.out 5).trans rfl; have hfz75_0 := blk_frozen BK323.out 0; have hfz75_1 := blk_frozen BK323.out 1; have hfz75_2 := blk_frozen BK323.out 2; have hfz75_3 := blk_frozen BK323.out 3; have hfz75_4 := blk_frozen BK323.out 4; have hfz75_5 := blk_frozen BK323.out 5) | (go_at_call 44; (with_reducible refine (txn_Better.calls kj2 a0_0 a0_1 (wrap64 (a0_2 + a1)) a0_3 a0_4 a0_5 a0_0 a0_1 a0_2 a0_3 a0_4 a0_5 true _ A54.out).mono ?_); rintro e w76 ⟨rfl, hb⟩; have n0_ := Aside0.mk (blk_below (g := gb323) (o := .cells #[.int .i64 a0_0, .int .i64 a0_1, .int .i64 a0_2, .int .i64 a0_3, .int .i64 a0_4, .string a0_5] 23 (0, 0)) (by (with_reducible repeat (first | refine blk_drewN ?_ _ | refine blk_drew ?_ | refine blk_alloc ?_ _)); exact BK323.out) hb); have n1_ := Aside0.mk (blk_below (g := gb332) (o := .cells #[.int .i64 a0_0, .int .i64 a0_1, .int .i64 (wrap64 (a0_2 + a1)), .int .i64 a0_3, .int .i64 a0_4, .string a0_5] 23 (0, 0)) (by (with_reducible repeat (first | refine blk_drewN ?_ _ | refine blk_drew ?_ | refine blk_alloc ?_ _)); exact BK332.out) hb); have n2_ := Aside0.mk (below_step (by repeat (first | (with_reducible first | exact HB.out | apply below_alloc | apply pw_below_drewN | apply below_drew1 | refine below_set ?_ GE323.out | refine below_set ?_ GE332.out) | exact HB.out)) hb); clear BK323; clear BK332; clear HB; have BK323 := n0_; have BK332 := n1_; have HB := n2_; clear n0_ n1_ n2_; (try clear hb); (try clear hb2); (try clear hk); (try clear hi); have hcz77_0 : w76.cell? ⟨gb323, 0, none⟩ = some (.int .i64 a0_0) := (blk_cell BK323.out 0).trans rfl; have hcz77_1 : w76.cell? ⟨gb323, 1, none⟩ = some (.int .i64 a0_1) := (blk_cell BK323.out 1).trans rfl; have hcz77_2 : w76.cell? ⟨gb323, 2, none⟩ = some (.int .i64 a0_2) := (blk_cell BK323.out 2).trans rfl; have hcz77_3 : w76.cell? ⟨gb323, 3, none⟩ = some (.int .i64 a0_3) := (blk_cell BK323.out 3).trans rfl; have hcz77_4 : w76.cell? ⟨gb323, 4, none⟩ = some (.int .i64 a0_4) := (blk_cell BK323.out 4).trans rfl; have hcz77_5 : w76.cell? ⟨gb323, 5, none⟩ = some (.string a0_5) := (blk_cell BK323.out 5).trans rfl; have hfz77_0 := blk_frozen BK323.out 0; have hfz77_1 := blk_frozen BK323.out 1; have hfz77_2 := blk_frozen BK323.out 2; have hfz77_3 := blk_frozen BK323.out 3; have hfz77_4 := blk_frozen BK323.out 4; have hfz77_5 := blk_frozen BK323.out 5; have hcz78_0 : w76.cell? ⟨gb332, 0, none⟩ = some (.int .i64 a0_0) := (blk_cell BK332.out 0).trans rfl; have hcz78_1 : w76.cell? ⟨gb332, 1, none⟩ = some (.int .i64 a0_1) := (blk_cell BK332.out 1).trans rfl; have hcz78_2 : w76.cell? ⟨gb332, 2, none⟩ = some (.int .i64 (wrap64 (a0_2 + a1))) := (blk_cell BK332.out 2).trans rfl; have hcz78_3 : w76.cell? ⟨gb332, 3, none⟩ = some (.int .i64 a0_3) := (blk_cell BK332.out 3).trans rfl; have hcz78_4 : w76.cell? ⟨gb332, 4, none⟩ = some (.int .i64 a0_4) := (blk_cell BK332.out 4).trans rfl; have hcz78_5 : w76.cell? ⟨gb332, 5, none⟩ = some (.string a0_5) := (blk_cell BK332.out 5).trans rfl; have hfz78_0 := blk_frozen BK332.out 0; have hfz78_1 := blk_frozen BK332.out 1; have hfz78_2 := blk_frozen BK332.out 2; have hfz78_3 := blk_frozen BK332.out 3; have hfz78_4 := blk_frozen BK332.out 4; have hfz78_5 := blk_frozen BK332.out 5) | (go_at_call 44; (with_reducible refine (txn_Better.calls kj2 a0_0 a0_1 a0_2 a0_3 a0_4 a0_5 a0_0 a0_1 (wrap64 (a0_2 + a1)) a0_3 a0_4 a0_5 false _ A56.out).mono ?_); rintro e w79 ⟨rfl, hb⟩; have n0_ := Aside0.mk (blk_below (g := gb323) (o := .cells #[.int .i64 a0_0, .int .i64 a0_1, .int .i64 a0_2, .int .i64 a0_3, .int .i64 a0_4, .string a0_5] 23 (0, 0)) (by (with_reducible repeat (first | refine blk_drewN ?_ _ | refine blk_drew ?_ | refine blk_alloc ?_ _)); exact BK323.out) hb); have n1_ := Aside0.mk (blk_below (g := gb332) (o := .cells #[.int .i64 a0_0, .int .i64 a0_1, .int .i64 (wrap64 (a0_2 + a1)), .int .i64 a0_3, .int .i64 a0_4, .string a0_5] 23 (0, 0)) (by (with_reducible repeat (first | refine blk_drewN ?_ _ | refine blk_drew ?_ | refine blk_alloc ?_ _)); exact BK332.out) hb); have n2_ := Aside0.mk (below_step (by repeat (first | (with_reducible first | exact HB.out | apply below_alloc | apply pw_below_drewN | apply below_drew1 | refine below_set ?_ GE323.out | refine below_set ?_ GE332.out) | exact HB.out)) hb); clear BK323; clear BK332; clear HB; have BK323 := n0_; have BK332 := n1_; have HB := n2_; clear n0_ n1_ n2_; (try clear hb); (try clear hb2); (try clear hk); (try clear hi); have hcz80_0 : w79.cell? ⟨gb332, 0, none⟩ = some (.int .i64 a0_0) := (blk_cell BK332.out 0).trans rfl; have hcz80_1 : w79.cell? ⟨gb332, 1, none⟩ = some (.int .i64 a0_1) := (blk_cell BK332.out 1).trans rfl; have hcz80_2 : w79.cell? ⟨gb332, 2, none⟩ = some (.int .i64 (wrap64 (a0_2 + a1))) := (blk_cell BK332.out 2).trans rfl; have hcz80_3 : w79.cell? ⟨gb332, 3, none⟩ = some (.int .i64 a0_3) := (blk_cell BK332.out 3).trans rfl; have hcz80_4 : w79.cell? ⟨gb332, 4, none⟩ = some (.int .i64 a0_4) := (blk_cell BK332.out 4).trans rfl; have hcz80_5 : w79.cell? ⟨gb332, 5, none⟩ = some (.string a0_5) := (blk_cell BK332.out 5).trans rfl; have hfz80_0 := blk_frozen BK332.out 0; have hfz80_1 := blk_frozen BK332.out 1; have hfz80_2 := blk_frozen BK332.out 2; have hfz80_3 := blk_frozen BK332.out 3; have hfz80_4 := blk_frozen BK332.out 4; have hfz80_5 := blk_frozen BK332.out 5) | (go_at_call 40; (with_reducible refine (txn_Slots.calls a0_0 a0_1 (wrap64 (a0_2 + a1)) a0_3 a0_4 a0_5 t338 _ A59.out).mono ?_); rintro e w81 ⟨rfl, hb⟩; have n0_ := Aside0.mk (blk_below (g := gb323) (o := .cells #[.int .i64 a0_0, .int .i64 a0_1, .int .i64 a0_2, .int .i64 a0_3, .int .i64 a0_4, .string a0_5] 23 (0, 0)) (by (with_reducible repeat (first | refine blk_drewN ?_ _ | refine blk_drew ?_ | refine blk_alloc ?_ _)); exact BK323.out) hb); have n1_ := Aside0.mk (blk_below (g := gb332) (o := .cells #[.int .i64 a0_0, .int .i64 a0_1, .int .i64 (wrap64 (a0_2 + a1)), .int .i64 a0_3, .int .i64 a0_4, .string a0_5] 23 (0, 0)) (by (with_reducible repeat (first | refine blk_drewN ?_ _ | refine blk_drew ?_ | refine blk_alloc ?_ _)); exact BK332.out) hb); have n2_ := Aside0.mk (below_step (by repeat (first | (with_reducible first | exact HB.out | apply below_alloc | apply pw_below_drewN | apply below_drew1 | refine below_set ?_ GE323.out | refine below_set ?_ GE332.out) | exact HB.out)) hb); clear BK323; clear BK332; clear HB; have BK323 := n0_; have BK332 := n1_; have HB := n2_; clear n0_ n1_ n2_; (try clear hb); (try clear hb2); (try clear hk); (try clear hi); have hcz82_0 : w81.cell? ⟨gb332, 0, none⟩ = some (.int .i64 a0_0) := (blk_cell BK332.out 0).trans rfl; have hcz82_1 : w81.cell? ⟨gb332, 1, none⟩ = some (.int .i64 a0_1) := (blk_cell BK332.out 1).trans rfl; have hcz82_2 : w81.cell? ⟨gb332, 2, none⟩ = some (.int .i64 (wrap64 (a0_2 + a1))) := (blk_cell BK332.out 2).trans rfl; have hcz82_3 : w81.cell? ⟨gb332, 3, none⟩ = some (.int .i64 a0_3) := (blk_cell BK332.out 3).trans rfl; have hcz82_4 : w81.cell? ⟨gb332, 4, none⟩ = some (.int .i64 a0_4) := (blk_cell BK332.out 4).trans rfl; have hcz82_5 : w81.cell? ⟨gb332, 5, none⟩ = some (.string a0_5) := (blk_cell BK332.out 5).trans rfl; have hfz82_0 := blk_frozen BK332.out 0; have hfz82_1 := blk_frozen BK332.out 1; have hfz82_2 := blk_frozen BK332.out 2; have hfz82_3 := blk_frozen BK332.out 3; have hfz82_4 := blk_frozen BK332.out 4; have hfz82_5 := blk_frozen BK332.out 5) | (go_at_call 40; (with_reducible refine (txn_Slots.calls a0_0 a0_1 (wrap64 (a0_2 + a1)) a0_3 a0_4 a0_5 t339 _ A61.out).mono ?_); rintro e w83 ⟨rfl, hb⟩; have n0_ := Aside0.mk (blk_below (g := gb323) (o := .cells #[.int .i64 a0_0, .int .i64 a0_1, .int .i64 a0_2, .int .i64 a0_3, .int .i64 a0_4, .string a0_5] 23 (0, 0)) (by (with_reducible repeat (first | refine blk_drewN ?_ _ | refine blk_drew ?_ | refine blk_alloc ?_ _)); exact BK323.out) hb); have n1_ := Aside0.mk (blk_below (g := gb332) (o := .cells #[.int .i64 a0_0, .int .i64 a0_1, .int .i64 (wrap64 (a0_2 + a1)), .int .i64 a0_3, .int .i64 a0_4, .string a0_5] 23 (0, 0)) (by (with_reducible repeat (first | refine blk_drewN ?_ _ | refine blk_drew ?_ | refine blk_alloc ?_ _)); exact BK332.out) hb); have n2_ := Aside0.mk (below_step (by repeat (first | (with_reducible first | exact HB.out | apply below_alloc | apply pw_below_drewN | apply below_drew1 | refine below_set ?_ GE323.out | refine below_set ?_ GE332.out) | exact HB.out)) hb); clear BK323; clear BK332; clear HB; have BK323 := n0_; have BK332 := n1_; have HB := n2_; clear n0_ n1_ n2_; (try clear hb); (try clear hb2); (try clear hk); (try clear hi); have hcz84_0 : w83.cell? ⟨gb332, 0, none⟩ = some (.int .i64 a0_0) := (blk_cell BK332.out 0).trans rfl; have hcz84_1 : w83.cell? ⟨gb332, 1, none⟩ = some (.int .i64 a0_1) := (blk_cell BK332.out 1).trans rfl; have hcz84_2 : w83.cell? ⟨gb332, 2, none⟩ = some (.int .i64 (wrap64 (a0_2 + a1))) := (blk_cell BK332.out 2).trans rfl; have hcz84_3 : w83.cell? ⟨gb332, 3, none⟩ = some (.int .i64 a0_3) := (blk_cell BK332.out 3).trans rfl; have hcz84_4 : w83.cell? ⟨gb332, 4, none⟩ = some (.int .i64 a0_4) := (blk_cell BK332.out 4).trans rfl; have hcz84_5 : w83.cell? ⟨gb332, 5, none⟩ = some (.string a0_5) := (blk_cell BK332.out 5).trans rfl; have hfz84_0 := blk_frozen BK332.out 0; have hfz84_1 := blk_frozen BK332.out 1; have hfz84_2 := blk_frozen BK332.out 2; have hfz84_3 := blk_frozen BK332.out 3; have hfz84_4 := blk_frozen BK332.out 4; have hfz84_5 := blk_frozen BK332.out 5) | (go_at_call 42; (with_reducible refine (txn_ID.calls a0_0 a0_1 (wrap64 (a0_2 + a1)) a0_3 a0_4 a0_5 t340 _ A63.out).mono ?_); rintro e w85 ⟨rfl, hb⟩; have n0_ := Aside0.mk (blk_below (g := gb323) (o := .cells #[.int .i64 a0_0, .int .i64 a0_1, .int .i64 a0_2, .int .i64 a0_3, .int .i64 a0_4, .string a0_5] 23 (0, 0)) (by (with_reducible repeat (first | refine blk_drewN ?_ _ | refine blk_drew ?_ | refine blk_alloc ?_ _)); exact BK323.out) hb); have n1_ := Aside0.mk (blk_below (g := gb332) (o := .cells #[.int .i64 a0_0, .int .i64 a0_1, .int .i64 (wrap64 (a0_2 + a1)), .int .i64 a0_3, .int .i64 a0_4, .string a0_5] 23 (0, 0)) (by (with_reducible repeat (first | refine blk_drewN ?_ _ | refine blk_drew ?_ | refine blk_alloc ?_ _)); exact BK332.out) hb); have n2_ := Aside0.mk (below_step (by repeat (first | (with_reducible first | exact HB.out | apply below_alloc | apply pw_below_drewN | apply below_drew1 | refine below_set ?_ GE323.out | refine below_set ?_ GE332.out) | exact HB.out)) hb); clear BK323; clear BK332; clear HB; have BK323 := n0_; have BK332 := n1_; have HB := n2_; clear n0_ n1_ n2_; (try clear hb); (try clear hb2); (try clear hk); (try clear hi)) | (go_at_call 33; (with_reducible refine (hopperlaw04_live.calls kj2  t341 _ A65.out).mono ?_); rintro e w86 ⟨rfl, hb⟩; have n0_ := Aside0.mk (blk_below (g := gb323) (o := .cells #[.int .i64 a0_0, .int .i64 a0_1, .int .i64 a0_2, .int .i64 a0_3, .int .i64 a0_4, .string a0_5] 23 (0, 0)) (by (with_reducible repeat (first | refine blk_drewN ?_ _ | refine blk_drew ?_ | refine blk_alloc ?_ _)); exact BK323.out) hb); have n1_ := Aside0.mk (blk_below (g := gb332) (o := .cells #[.int .i64 a0_0, .int .i64 a0_1, .int .i64 (wrap64 (a0_2 + a1)), .int .i64 a0_3, .int .i64 a0_4, .string a0_5] 23 (0, 0)) (by (with_reducible repeat (first | refine blk_drewN ?_ _ | refine blk_drew ?_ | refine blk_alloc ?_ _)); exact BK332.out) hb); have n2_ := Aside0.mk (below_step (by repeat (first | (with_reducible first | exact HB.out | apply below_alloc | apply pw_below_drewN | apply below_drew1 | refine below_set ?_ GE323.out | refine below_set ?_ GE332.out) | exact HB.out)) hb); clear BK323; clear BK332; clear HB; have BK323 := n0_; have BK332 := n1_; have HB := n2_; clear n0_ n1_ n2_; (try clear hb); (try clear hb2); (try clear hk); (try clear hi)))
                      go_ret
                      exact ⟨by first | rfl | (simp [errW_none, errW_some] <;> rfl) | (simp [*, errW_none, errW_some] <;> rfl), by repeat (first | (with_reducible first | exact HB.out | apply below_alloc | apply pw_below_drewN | apply below_drew1 | refine below_set ?_ GE323.out | refine below_set ?_ GE332.out) | exact HB.out)⟩
                    · rw [if_neg c64] at H
                      exact absurd H (by simp)
                  · rw [if_neg c62] at H
                    exact absurd H (by simp)
                · rw [if_neg c60] at H
                  exact absurd H (by simp)
              · replace c58 := Bool.eq_false_iff.mpr c58
                subst c58
                have H1 : (none) = some r := by rw [if_neg (show ¬ (false = true) by decide)] at H; exact H
                clear H
                have H := H1
                clear H1
                exact absurd H (by simp)
          · replace c55 := Bool.eq_false_iff.mpr c55
            subst c55
            have H1 : (none) = some r := by rw [if_neg (show ¬ (false = true) by decide)] at H; exact H
            clear H
            have H := H1
            clear H1
            exact absurd H (by simp)
        · replace c53 := Bool.eq_false_iff.mpr c53
          subst c53
          have H1 : (none) = some r := by rw [if_neg (show ¬ (false = true) by decide)] at H; exact H
          clear H
          have H := H1
          clear H1
          exact absurd H (by simp)

open Go.Proofs.Ytihlogdmdmhefaa.Row (okI okB okS okL) in
/-- THE ONE PURE STATEMENT of hopperlaw04_TxnTips. -/
def hopperlaw04_TxnTips.Pure : Prop := ∀ (a0_0 : Int) (a0_1 : Int) (a0_2 : Int) (a0_3 : Int) (a0_4 : Int) (a0_5 : ByteArray) (a1 : Int), ok23 (⟨a0_0, a0_1, a0_2, a0_3, a0_4, a0_5⟩ : S23) → (okI .i64) a1 → ∃ k, hopperlaw04_TxnTips.f k a0_0 a0_1 a0_2 a0_3 a0_4 a0_5 a1 = some true

end Go.Proofs.Ytihlogdmdmhefaa.L
