/- Written by this session's own program over the kit's print: functions of Go told as plain functions, or the row of one statement; proved for every input, with no condition of ours. -/
import Derived.Test.YtihlogdmdmhefaaLx0
import Derived.Test.YtihlogdmdmhefaaLx2
import Derived.Test.YtihlogdmdmhefaaLx4
import Derived.Test.YtihlogdmdmhefaaLx9
import Derived.Test.YtihlogdmdmhefaaLx13
namespace Go.Proofs.Ytihlogdmdmhefaa.L
open Go.RowKit Go.Proofs.YtihlogdmdmhefaaW.PrintWords Go.Proofs.YtihlogdmdmhefaaW.PrintLast Go.Proofs.YtihlogdmdmhefaaW.PrintMore
attribute [local go_sem] max2_int min2_int max_two min_two max_three min_three max_four min_four   -- for this text's walks alone
set_option linter.unusedVariables false
set_option linter.unusedSimpArgs false

/-! ### hopperlaw04_TxnSlots: function 9 -/
mutual
def hopperlaw04_TxnSlots.j0 : Nat → ByteArray → Bool → Int → Int → Int → Int → Int → ByteArray → Option (Bool)
  | 0, _, _, _, _, _, _, _, _ => none
  | k + 1, x1, x22, x343000, x343001, x343002, x343003, x343004, x343005 => if x22 = true then ((hopperlaw04_live.f k).bind fun t345 => (some t345)) else (if x343005.size + x1.size ≤ 9223372036854775807 then ((txn_Encode.f x343000 x343001 x343002 x343003 x343004 x343005).bind fun bt347 => (if (bt347.1.size : Int) > (wrap64 (29 + (x343005.size : Int))) then (hopperlaw04_TxnSlots.j1 k x1 bt347.1 true x343000 x343001 x343002 x343003 x343004 x343005 x343000 x343001 x343002 x343003 x343004 (x343005 ++ x1)) else ((txn_Check.f x343000 x343001 x343002 x343003 x343004 (x343005 ++ x1)).bind fun t349 => (hopperlaw04_TxnSlots.j1 k x1 bt347.1 (!t349) x343000 x343001 x343002 x343003 x343004 x343005 x343000 x343001 x343002 x343003 x343004 (x343005 ++ x1))))) else (none))
def hopperlaw04_TxnSlots.j1 : Nat → ByteArray → ByteArray → Bool → Int → Int → Int → Int → Int → ByteArray → Int → Int → Int → Int → Int → ByteArray → Option (Bool)
  | 0, _, _, _, _, _, _, _, _, _, _, _, _, _, _, _ => none
  | k + 1, x1, x6, x46, x343000, x343001, x343002, x343003, x343004, x343005, x347000, x347001, x347002, x347003, x347004, x347005 => if x46 = true then (if (x6.size : Int) ≤ (wrap64 (29 + (x343005.size : Int))) then ((hopperlaw04_live.f k).bind fun t350 => (some t350)) else (none)) else ((txn_Slots.f x343000 x343001 x343002 x343003 x343004 x343005).bind fun t351 => ((txn_Slots.f x347000 x347001 x347002 x347003 x347004 x347005).bind fun t352 => (if t352 ≥ t351 then (if (wrap64 (32 * (wrap64 (t352 - t351)))) < (wrap64 ((x1.size : Int) + 32)) then ((hopperlaw04_live.f k).bind fun t353 => (some t353)) else (none)) else (none))))
end
def hopperlaw04_TxnSlots.f (k : Nat) (a0_0 : Int) (a0_1 : Int) (a0_2 : Int) (a0_3 : Int) (a0_4 : Int) (a0_5 : ByteArray) (a1 : ByteArray) : Option (Bool) := (hopperref04_Small.f a0_0 a0_1 a0_2 a0_3 a0_4 a0_5).bind fun t343 => (if t343 = true then (if (a1.size : Int) > 256 then (hopperlaw04_TxnSlots.j0 k a1 true a0_0 a0_1 a0_2 a0_3 a0_4 a0_5) else ((txn_Check.f a0_0 a0_1 a0_2 a0_3 a0_4 a0_5).bind fun t344 => (hopperlaw04_TxnSlots.j0 k a1 (!t344) a0_0 a0_1 a0_2 a0_3 a0_4 a0_5))) else (hopperlaw04_TxnSlots.j0 k a1 true a0_0 a0_1 a0_2 a0_3 a0_4 a0_5))
theorem hopperlaw04_TxnSlots.mono_l : ∀ k, (∀ y0 y1 y2 y3 y4 y5 y6 y7, LeO (hopperlaw04_TxnSlots.j0 k y0 y1 y2 y3 y4 y5 y6 y7) (hopperlaw04_TxnSlots.j0 (k + 1) y0 y1 y2 y3 y4 y5 y6 y7)) ∧ (∀ y0 y1 y2 y3 y4 y5 y6 y7 y8 y9 y10 y11 y12 y13 y14, LeO (hopperlaw04_TxnSlots.j1 k y0 y1 y2 y3 y4 y5 y6 y7 y8 y9 y10 y11 y12 y13 y14) (hopperlaw04_TxnSlots.j1 (k + 1) y0 y1 y2 y3 y4 y5 y6 y7 y8 y9 y10 y11 y12 y13 y14))
  | 0 => ⟨fun _ _ _ _ _ _ _ _ r h => by simp [hopperlaw04_TxnSlots.j0] at h, fun _ _ _ _ _ _ _ _ _ _ _ _ _ _ _ r h => by simp [hopperlaw04_TxnSlots.j1] at h⟩
  | k + 1 => by
    obtain ⟨ih0, ih1⟩ := hopperlaw04_TxnSlots.mono_l k
    refine ⟨?_, ?_⟩
    · intro y0 y1 y2 y3 y4 y5 y6 y7
      unfold hopperlaw04_TxnSlots.j0
      repeat' first
      | (with_reducible exact ih0 _ _ _ _ _ _ _ _)
      | (with_reducible exact ih1 _ _ _ _ _ _ _ _ _ _ _ _ _ _ _)
      | (with_reducible exact hopperlaw04_live.mono _)
      | (with_reducible exact LeO.refl _)
      | (with_reducible exact LeO.none _)
      | (with_reducible refine LeO.ite ?_ ?_)
      | (with_reducible refine LeO.bind ?_ (fun _ => ?_))
      | exact ih0 _ _ _ _ _ _ _ _
      | exact ih1 _ _ _ _ _ _ _ _ _ _ _ _ _ _ _
      | exact hopperlaw04_live.mono _
      | exact LeO.none _
      | refine LeO.ite ?_ ?_
      | refine LeO.bind ?_ (fun _ => ?_)
    · intro y0 y1 y2 y3 y4 y5 y6 y7 y8 y9 y10 y11 y12 y13 y14
      unfold hopperlaw04_TxnSlots.j1
      repeat' first
      | (with_reducible exact ih0 _ _ _ _ _ _ _ _)
      | (with_reducible exact ih1 _ _ _ _ _ _ _ _ _ _ _ _ _ _ _)
      | (with_reducible exact hopperlaw04_live.mono _)
      | (with_reducible exact LeO.refl _)
      | (with_reducible exact LeO.none _)
      | (with_reducible refine LeO.ite ?_ ?_)
      | (with_reducible refine LeO.bind ?_ (fun _ => ?_))
      | exact ih0 _ _ _ _ _ _ _ _
      | exact ih1 _ _ _ _ _ _ _ _ _ _ _ _ _ _ _
      | exact hopperlaw04_live.mono _
      | exact LeO.none _
      | refine LeO.ite ?_ ?_
      | refine LeO.bind ?_ (fun _ => ?_)
theorem hopperlaw04_TxnSlots.mono : ∀ a0 a1 a2 a3 a4 a5 a6 k, LeO (hopperlaw04_TxnSlots.f k a0 a1 a2 a3 a4 a5 a6) (hopperlaw04_TxnSlots.f (k + 1) a0 a1 a2 a3 a4 a5 a6) := by
  intro a0 a1 a2 a3 a4 a5 a6 k
  obtain ⟨ih0, ih1⟩ := hopperlaw04_TxnSlots.mono_l k
  unfold hopperlaw04_TxnSlots.f
  repeat' first
      | (with_reducible exact ih0 _ _ _ _ _ _ _ _)
      | (with_reducible exact ih1 _ _ _ _ _ _ _ _ _ _ _ _ _ _ _)
      | (with_reducible exact hopperlaw04_live.mono _)
      | (with_reducible exact LeO.refl _)
      | (with_reducible exact LeO.none _)
      | (with_reducible refine LeO.ite ?_ ?_)
      | (with_reducible refine LeO.bind ?_ (fun _ => ?_))
      | exact ih0 _ _ _ _ _ _ _ _
      | exact ih1 _ _ _ _ _ _ _ _ _ _ _ _ _ _ _
      | exact hopperlaw04_live.mono _
      | exact LeO.none _
      | refine LeO.ite ?_ ?_
      | refine LeO.bind ?_ (fun _ => ?_)
set_option maxHeartbeats 8000000 in
set_option maxRecDepth 100000 in
theorem hopperlaw04_TxnSlots.calls (k : Nat) (a0_0 : Int) (a0_1 : Int) (a0_2 : Int) (a0_3 : Int) (a0_4 : Int) (a0_5 : ByteArray) (a1 : ByteArray) (r : Bool) (w : World) (h : hopperlaw04_TxnSlots.f k a0_0 a0_1 a0_2 a0_3 a0_4 a0_5 a1 = some r) :
    Calls Try.prog 9 #[.agg #[.int .i64 a0_0, .int .i64 a0_1, .int .i64 a0_2, .int .i64 a0_3, .int .i64 a0_4, .string a0_5], .string a1] w fun e w' => e = .returned (.bool r) ∧ Below w.heap.size w w' := by
  have hu23 := Try.underlying23
  have HB := Aside0.mk (Below.refl w.heap.size w)
  have H : ((hopperref04_Small.f a0_0 a0_1 a0_2 a0_3 a0_4 a0_5).bind fun t343 => (if t343 = true then (if (a1.size : Int) > 256 then (hopperlaw04_TxnSlots.j0 k a1 true a0_0 a0_1 a0_2 a0_3 a0_4 a0_5) else ((txn_Check.f a0_0 a0_1 a0_2 a0_3 a0_4 a0_5).bind fun t344 => (hopperlaw04_TxnSlots.j0 k a1 (!t344) a0_0 a0_1 a0_2 a0_3 a0_4 a0_5))) else (hopperlaw04_TxnSlots.j0 k a1 true a0_0 a0_1 a0_2 a0_3 a0_4 a0_5))) = some r := h
  clear h
  have HC3 := Aside0.mk H
  clear H
  go_enter Try.func9, Try.ntmps9
  go_upto_region 1 with (first | ((with_reducible refine gate_dst (N := 2) rfl ?_); (try (refine gate_guard (by rfl) ?_; dsimp only)); refine box_event ?hg (N := 2) ?hd (cs := #[.int .i64 a0_0, .int .i64 a0_1, .int .i64 a0_2, .int .i64 a0_3, .int .i64 a0_4, .string a0_5]) (t := 23) ?hr ?_; (case hd => rfl); (case hg => rfl); (case hr => first | (go_simp; done) | (go_simp; rfl)); intro gb342 hg w4 hbox hb; have n0_ := Aside0.mk (below_step (by repeat (first | (with_reducible first | exact HB.out | apply below_alloc | apply pw_below_drewN | apply below_drew1) | exact HB.out)) hb); have n1_ := Aside0.mk (hbox); have n2_ := Aside0.mk ((by rw [hg]; exact (below_size (by repeat (first | (with_reducible first | exact HB.out | apply below_alloc | apply pw_below_drewN | apply below_drew1) | exact HB.out))) : w.heap.size ≤ gb342)); have n3_ := Aside0.mk ((by rw [hg]; exact (below_size (by repeat (first | (with_reducible first | exact HB.out | apply below_alloc | apply pw_below_drewN | apply below_drew1) | exact HB.out))) : w.heap.size ≤ gb342)); clear HB; have HB := n0_; have BK342 := n1_; have GW342 := n2_; have GE342 := n3_; clear n0_ n1_ n2_ n3_; clear hb hbox hg))
  (try simp only [Act.put, List.setIfInBounds_toArray, List.set_cons_zero, List.set_cons_succ])
  go_cut [22] (fun v22 wc => ∃ (kq : Nat) (x22_2 : Bool), v22 = .bool x22_2 ∧ Aside0 (hopperlaw04_TxnSlots.j0 kq a1 x22_2 a0_0 a0_1 a0_2 a0_3 a0_4 a0_5 = some r) ∧ Aside0 (kq ≤ k) ∧ Aside0 (wc.heap[gb342]? = some (.cells #[.int .i64 a0_0, .int .i64 a0_1, .int .i64 a0_2, .int .i64 a0_3, .int .i64 a0_4, .string a0_5] 23 (0, 0))) ∧ Aside0 (Below w.heap.size w wc))
  case first =>
    have H := HC3.out
    clear HC3
    replace H := Option.bind_eq_some_iff.mp H
    obtain ⟨t343, A50, H⟩ := H
    replace H : (if t343 = true then (if (a1.size : Int) > 256 then (hopperlaw04_TxnSlots.j0 k a1 true a0_0 a0_1 a0_2 a0_3 a0_4 a0_5) else ((txn_Check.f a0_0 a0_1 a0_2 a0_3 a0_4 a0_5).bind fun t344 => (hopperlaw04_TxnSlots.j0 k a1 (!t344) a0_0 a0_1 a0_2 a0_3 a0_4 a0_5))) else (hopperlaw04_TxnSlots.j0 k a1 true a0_0 a0_1 a0_2 a0_3 a0_4 a0_5)) = some r := H
    have A5 := Aside0.mk A50
    clear A50
    by_cases c6 : t343 = true
    · subst c6
      have H1 : (if (a1.size : Int) > 256 then (hopperlaw04_TxnSlots.j0 k a1 true a0_0 a0_1 a0_2 a0_3 a0_4 a0_5) else ((txn_Check.f a0_0 a0_1 a0_2 a0_3 a0_4 a0_5).bind fun t344 => (hopperlaw04_TxnSlots.j0 k a1 (!t344) a0_0 a0_1 a0_2 a0_3 a0_4 a0_5))) = some r := by rw [if_pos rfl] at H; exact H
      clear H
      have H := H1
      clear H1
      by_cases c7 : (a1.size : Int) > 256
      · rw [if_pos c7] at H
        have c7b0 : decide (256 < (a1.size : Int)) = true := decide_eq_true c7
        have c7b1 : decide (256 < a1.size) = true := decide_eq_true (by omega)
        clear c7
        (first | rw [c7b0] | (simp only [i64_w, i32_w]; rw [c7b0]) | skip)
        have H' := Aside0.mk H
        clear H
        have hcz8_0 : w4.cell? ⟨gb342, 0, none⟩ = some (.int .i64 a0_0) := (blk_cell BK342.out 0).trans rfl
        have hcz8_1 : w4.cell? ⟨gb342, 1, none⟩ = some (.int .i64 a0_1) := (blk_cell BK342.out 1).trans rfl
        have hcz8_2 : w4.cell? ⟨gb342, 2, none⟩ = some (.int .i64 a0_2) := (blk_cell BK342.out 2).trans rfl
        have hcz8_3 : w4.cell? ⟨gb342, 3, none⟩ = some (.int .i64 a0_3) := (blk_cell BK342.out 3).trans rfl
        have hcz8_4 : w4.cell? ⟨gb342, 4, none⟩ = some (.int .i64 a0_4) := (blk_cell BK342.out 4).trans rfl
        have hcz8_5 : w4.cell? ⟨gb342, 5, none⟩ = some (.string a0_5) := (blk_cell BK342.out 5).trans rfl
        have hfz8_0 := blk_frozen BK342.out 0
        have hfz8_1 := blk_frozen BK342.out 1
        have hfz8_2 := blk_frozen BK342.out 2
        have hfz8_3 := blk_frozen BK342.out 3
        have hfz8_4 := blk_frozen BK342.out 4
        have hfz8_5 := blk_frozen BK342.out 5
        go_wp2_with (first | ((with_reducible refine gate_callee (f := 32) rfl ?_); refine goesL_ (some 11) rfl rfl Try.func32 (by kernel_rfl) rfl #[.agg #[.int .i64 a0_0, .int .i64 a0_1, .int .i64 a0_2, .int .i64 a0_3, .int .i64 a0_4, .string a0_5]] rfl (by (try simp only [List.map_toArray, List.map_cons, List.map_nil]); first | done | rfl | (simp only [List.length_drop, List.length_take]; rfl)) ?_; (with_reducible refine (hopperref04_Small.calls a0_0 a0_1 a0_2 a0_3 a0_4 a0_5 true _ A5.out).mono ?_); rintro e w9 ⟨rfl, hb⟩; refine ⟨_, rfl, ?_⟩; have n0_ := Aside0.mk (blk_below (g := gb342) (o := .cells #[.int .i64 a0_0, .int .i64 a0_1, .int .i64 a0_2, .int .i64 a0_3, .int .i64 a0_4, .string a0_5] 23 (0, 0)) (by (with_reducible repeat (first | refine blk_drewN ?_ _ | refine blk_drew ?_ | refine blk_alloc ?_ _)); exact BK342.out) hb); have n1_ := Aside0.mk (below_step (by repeat (first | (with_reducible first | exact HB.out | apply below_alloc | apply pw_below_drewN | apply below_drew1 | refine below_set ?_ GE342.out) | exact HB.out)) hb); clear BK342; clear HB; have BK342 := n0_; have HB := n1_; clear n0_ n1_; (try clear hb); (try clear hb2); (try clear hk); (try clear hi)))
        go_meet
        case rel => exact ⟨_, (true), (by first | rfl | (simp; done) | (simp [*]; done)), H', ⟨by first | omega | exact Nat.le_refl _⟩, ⟨by (with_reducible repeat (first | refine blk_drewN ?_ _ | refine blk_drew ?_ | refine blk_alloc ?_ _)); exact BK342.out⟩, ⟨by repeat (first | (with_reducible first | exact HB.out | apply below_alloc | apply pw_below_drewN | apply below_drew1 | refine below_set ?_ GE342.out) | exact HB.out)⟩⟩
      · rw [if_neg c7] at H
        have c7b0 : decide (256 < (a1.size : Int)) = false := decide_eq_false c7
        have c7b1 : decide (256 < a1.size) = false := decide_eq_false (by omega)
        clear c7
        (first | rw [c7b0] | (simp only [i64_w, i32_w]; rw [c7b0]) | skip)
        replace H := Option.bind_eq_some_iff.mp H
        obtain ⟨t344, A100, H⟩ := H
        replace H : (hopperlaw04_TxnSlots.j0 k a1 (!t344) a0_0 a0_1 a0_2 a0_3 a0_4 a0_5) = some r := H
        have A10 := Aside0.mk A100
        clear A100
        have H' := Aside0.mk H
        clear H
        have hcz11_0 : w4.cell? ⟨gb342, 0, none⟩ = some (.int .i64 a0_0) := (blk_cell BK342.out 0).trans rfl
        have hcz11_1 : w4.cell? ⟨gb342, 1, none⟩ = some (.int .i64 a0_1) := (blk_cell BK342.out 1).trans rfl
        have hcz11_2 : w4.cell? ⟨gb342, 2, none⟩ = some (.int .i64 a0_2) := (blk_cell BK342.out 2).trans rfl
        have hcz11_3 : w4.cell? ⟨gb342, 3, none⟩ = some (.int .i64 a0_3) := (blk_cell BK342.out 3).trans rfl
        have hcz11_4 : w4.cell? ⟨gb342, 4, none⟩ = some (.int .i64 a0_4) := (blk_cell BK342.out 4).trans rfl
        have hcz11_5 : w4.cell? ⟨gb342, 5, none⟩ = some (.string a0_5) := (blk_cell BK342.out 5).trans rfl
        have hfz11_0 := blk_frozen BK342.out 0
        have hfz11_1 := blk_frozen BK342.out 1
        have hfz11_2 := blk_frozen BK342.out 2
        have hfz11_3 := blk_frozen BK342.out 3
        have hfz11_4 := blk_frozen BK342.out 4
        have hfz11_5 := blk_frozen BK342.out 5
        go_wp2_with (first | ((with_reducible refine gate_callee (f := 32) rfl ?_); refine goesL_ (some 11) rfl rfl Try.func32 (by kernel_rfl) rfl #[.agg #[.int .i64 a0_0, .int .i64 a0_1, .int .i64 a0_2, .int .i64 a0_3, .int .i64 a0_4, .string a0_5]] rfl (by (try simp only [List.map_toArray, List.map_cons, List.map_nil]); first | done | rfl | (simp only [List.length_drop, List.length_take]; rfl)) ?_; (with_reducible refine (hopperref04_Small.calls a0_0 a0_1 a0_2 a0_3 a0_4 a0_5 true _ A5.out).mono ?_); rintro e w12 ⟨rfl, hb⟩; refine ⟨_, rfl, ?_⟩; have n0_ := Aside0.mk (blk_below (g := gb342) (o := .cells #[.int .i64 a0_0, .int .i64 a0_1, .int .i64 a0_2, .int .i64 a0_3, .int .i64 a0_4, .string a0_5] 23 (0, 0)) (by (with_reducible repeat (first | refine blk_drewN ?_ _ | refine blk_drew ?_ | refine blk_alloc ?_ _)); exact BK342.out) hb); have n1_ := Aside0.mk (below_step (by repeat (first | (with_reducible first | exact HB.out | apply below_alloc | apply pw_below_drewN | apply below_drew1 | refine below_set ?_ GE342.out) | exact HB.out)) hb); clear BK342; clear HB; have BK342 := n0_; have HB := n1_; clear n0_ n1_; (try clear hb); (try clear hb2); (try clear hk); (try clear hi); have hcz13_0 : w12.cell? ⟨gb342, 0, none⟩ = some (.int .i64 a0_0) := (blk_cell BK342.out 0).trans rfl; have hcz13_1 : w12.cell? ⟨gb342, 1, none⟩ = some (.int .i64 a0_1) := (blk_cell BK342.out 1).trans rfl; have hcz13_2 : w12.cell? ⟨gb342, 2, none⟩ = some (.int .i64 a0_2) := (blk_cell BK342.out 2).trans rfl; have hcz13_3 : w12.cell? ⟨gb342, 3, none⟩ = some (.int .i64 a0_3) := (blk_cell BK342.out 3).trans rfl; have hcz13_4 : w12.cell? ⟨gb342, 4, none⟩ = some (.int .i64 a0_4) := (blk_cell BK342.out 4).trans rfl; have hcz13_5 : w12.cell? ⟨gb342, 5, none⟩ = some (.string a0_5) := (blk_cell BK342.out 5).trans rfl; have hfz13_0 := blk_frozen BK342.out 0; have hfz13_1 := blk_frozen BK342.out 1; have hfz13_2 := blk_frozen BK342.out 2; have hfz13_3 := blk_frozen BK342.out 3; have hfz13_4 := blk_frozen BK342.out 4; have hfz13_5 := blk_frozen BK342.out 5) | (go_at_call 38; (with_reducible refine (txn_Check.calls a0_0 a0_1 a0_2 a0_3 a0_4 a0_5 t344 _ A10.out).mono ?_); rintro e w14 ⟨rfl, hb⟩; have n0_ := Aside0.mk (blk_below (g := gb342) (o := .cells #[.int .i64 a0_0, .int .i64 a0_1, .int .i64 a0_2, .int .i64 a0_3, .int .i64 a0_4, .string a0_5] 23 (0, 0)) (by (with_reducible repeat (first | refine blk_drewN ?_ _ | refine blk_drew ?_ | refine blk_alloc ?_ _)); exact BK342.out) hb); have n1_ := Aside0.mk (below_step (by repeat (first | (with_reducible first | exact HB.out | apply below_alloc | apply pw_below_drewN | apply below_drew1 | refine below_set ?_ GE342.out) | exact HB.out)) hb); clear BK342; clear HB; have BK342 := n0_; have HB := n1_; clear n0_ n1_; (try clear hb); (try clear hb2); (try clear hk); (try clear hi)))
        go_meet
        case rel => exact ⟨_, (!t344), (by first | rfl | (simp; done) | (simp [*]; done)), H', ⟨by first | omega | exact Nat.le_refl _⟩, ⟨by (with_reducible repeat (first | refine blk_drewN ?_ _ | refine blk_drew ?_ | refine blk_alloc ?_ _)); exact BK342.out⟩, ⟨by repeat (first | (with_reducible first | exact HB.out | apply below_alloc | apply pw_below_drewN | apply below_drew1 | refine below_set ?_ GE342.out) | exact HB.out)⟩⟩
    · replace c6 := Bool.eq_false_iff.mpr c6
      subst c6
      have H1 : (hopperlaw04_TxnSlots.j0 k a1 true a0_0 a0_1 a0_2 a0_3 a0_4 a0_5) = some r := by rw [if_neg (show ¬ (false = true) by decide)] at H; exact H
      clear H
      have H := H1
      clear H1
      have H' := Aside0.mk H
      clear H
      have hcz15_0 : w4.cell? ⟨gb342, 0, none⟩ = some (.int .i64 a0_0) := (blk_cell BK342.out 0).trans rfl
      have hcz15_1 : w4.cell? ⟨gb342, 1, none⟩ = some (.int .i64 a0_1) := (blk_cell BK342.out 1).trans rfl
      have hcz15_2 : w4.cell? ⟨gb342, 2, none⟩ = some (.int .i64 a0_2) := (blk_cell BK342.out 2).trans rfl
      have hcz15_3 : w4.cell? ⟨gb342, 3, none⟩ = some (.int .i64 a0_3) := (blk_cell BK342.out 3).trans rfl
      have hcz15_4 : w4.cell? ⟨gb342, 4, none⟩ = some (.int .i64 a0_4) := (blk_cell BK342.out 4).trans rfl
      have hcz15_5 : w4.cell? ⟨gb342, 5, none⟩ = some (.string a0_5) := (blk_cell BK342.out 5).trans rfl
      have hfz15_0 := blk_frozen BK342.out 0
      have hfz15_1 := blk_frozen BK342.out 1
      have hfz15_2 := blk_frozen BK342.out 2
      have hfz15_3 := blk_frozen BK342.out 3
      have hfz15_4 := blk_frozen BK342.out 4
      have hfz15_5 := blk_frozen BK342.out 5
      go_wp2_with (first | ((with_reducible refine gate_callee (f := 32) rfl ?_); refine goesL_ (some 11) rfl rfl Try.func32 (by kernel_rfl) rfl #[.agg #[.int .i64 a0_0, .int .i64 a0_1, .int .i64 a0_2, .int .i64 a0_3, .int .i64 a0_4, .string a0_5]] rfl (by (try simp only [List.map_toArray, List.map_cons, List.map_nil]); first | done | rfl | (simp only [List.length_drop, List.length_take]; rfl)) ?_; (with_reducible refine (hopperref04_Small.calls a0_0 a0_1 a0_2 a0_3 a0_4 a0_5 false _ A5.out).mono ?_); rintro e w16 ⟨rfl, hb⟩; refine ⟨_, rfl, ?_⟩; have n0_ := Aside0.mk (blk_below (g := gb342) (o := .cells #[.int .i64 a0_0, .int .i64 a0_1, .int .i64 a0_2, .int .i64 a0_3, .int .i64 a0_4, .string a0_5] 23 (0, 0)) (by (with_reducible repeat (first | refine blk_drewN ?_ _ | refine blk_drew ?_ | refine blk_alloc ?_ _)); exact BK342.out) hb); have n1_ := Aside0.mk (below_step (by repeat (first | (with_reducible first | exact HB.out | apply below_alloc | apply pw_below_drewN | apply below_drew1 | refine below_set ?_ GE342.out) | exact HB.out)) hb); clear BK342; clear HB; have BK342 := n0_; have HB := n1_; clear n0_ n1_; (try clear hb); (try clear hb2); (try clear hk); (try clear hi)))
      go_meet
      case rel => exact ⟨_, (true), (by first | rfl | (simp; done) | (simp [*]; done)), H', ⟨by first | omega | exact Nat.le_refl _⟩, ⟨by (with_reducible repeat (first | refine blk_drewN ?_ _ | refine blk_drew ?_ | refine blk_alloc ?_ _)); exact BK342.out⟩, ⟨by repeat (first | (with_reducible first | exact HB.out | apply below_alloc | apply pw_below_drewN | apply below_drew1 | refine below_set ?_ GE342.out) | exact HB.out)⟩⟩
  case rest =>
    clear HC3
    try clear p2
    try clear c3
    try clear c6
    try clear c7
    try clear c7b0
    try clear c7b1
    try clear c9
    try clear hcz11_0
    try clear hcz11_1
    try clear hcz11_2
    try clear hcz11_3
    try clear hcz11_4
    try clear hcz11_5
    try clear hcz13_0
    try clear hcz13_1
    try clear hcz13_2
    try clear hcz13_3
    try clear hcz13_4
    try clear hcz13_5
    try clear hcz15_0
    try clear hcz15_1
    try clear hcz15_2
    try clear hcz15_3
    try clear hcz15_4
    try clear hcz15_5
    try clear hcz8_0
    try clear hcz8_1
    try clear hcz8_2
    try clear hcz8_3
    try clear hcz8_4
    try clear hcz8_5
    try clear hfz11_0
    try clear hfz11_1
    try clear hfz11_2
    try clear hfz11_3
    try clear hfz11_4
    try clear hfz11_5
    try clear hfz13_0
    try clear hfz13_1
    try clear hfz13_2
    try clear hfz13_3
    try clear hfz13_4
    try clear hfz13_5
    try clear hfz15_0
    try clear hfz15_1
    try clear hfz15_2
    try clear hfz15_3
    try clear hfz15_4
    try clear hfz15_5
    try clear hfz8_0
    try clear hfz8_1
    try clear hfz8_2
    try clear hfz8_3
    try clear hfz8_4
    try clear hfz8_5
    obtain ⟨kq, x22_2, rfl, HA, HJ2, BK342, HB⟩ := hcut
    cases kq with
    | zero => exact absurd HA.out (by simp [hopperlaw04_TxnSlots.j0])
    | succ kj2 =>
      have H := HA.out
      clear HA
      simp only [hopperlaw04_TxnSlots.j0] at H
      by_cases c17 : x22_2 = true
      · subst c17
        have H1 : ((hopperlaw04_live.f kj2).bind fun t345 => (some t345)) = some r := by rw [if_pos rfl] at H; exact H
        clear H
        have H := H1
        clear H1
        replace H := Option.bind_eq_some_iff.mp H
        obtain ⟨t345, A180, H⟩ := H
        replace H : (some t345) = some r := H
        have A18 := Aside0.mk A180
        clear A180
        obtain rfl := Option.some.inj H
        go_wp2_with (first | ((with_reducible refine gate_callee (f := 33) rfl ?_); refine goesL_ (some 23) rfl rfl Try.func33 (by kernel_rfl) rfl #[] rfl (by (try simp only [List.map_toArray, List.map_cons, List.map_nil]); first | done | rfl | (simp only [List.length_drop, List.length_take]; rfl)) ?_; (with_reducible refine (hopperlaw04_live.calls kj2  t345 _ A18.out).mono ?_); rintro e w19 ⟨rfl, hb⟩; refine ⟨_, rfl, ?_⟩; have n0_ := Aside0.mk (blk_below (g := gb342) (o := .cells #[.int .i64 a0_0, .int .i64 a0_1, .int .i64 a0_2, .int .i64 a0_3, .int .i64 a0_4, .string a0_5] 23 (0, 0)) (by (with_reducible repeat (first | refine blk_drewN ?_ _ | refine blk_drew ?_ | refine blk_alloc ?_ _)); exact BK342.out) hb); have n1_ := Aside0.mk (below_step (by repeat (first | (with_reducible first | exact HB.out | apply below_alloc | apply pw_below_drewN | apply below_drew1 | refine below_set ?_ GE342.out) | exact HB.out)) hb); clear BK342; clear HB; have BK342 := n0_; have HB := n1_; clear n0_ n1_; (try clear hb); (try clear hb2); (try clear hk); (try clear hi)))
        go_ret
        exact ⟨by first | rfl | (simp [errW_none, errW_some] <;> rfl) | (simp [*, errW_none, errW_some] <;> rfl), by repeat (first | (with_reducible first | exact HB.out | apply below_alloc | apply pw_below_drewN | apply below_drew1 | refine below_set ?_ GE342.out) | exact HB.out)⟩
      · replace c17 := Bool.eq_false_iff.mpr c17
        subst c17
        have H1 : (if a0_5.size + a1.size ≤ 9223372036854775807 then ((txn_Encode.f a0_0 a0_1 a0_2 a0_3 a0_4 a0_5).bind fun bt347 => (if (bt347.1.size : Int) > (wrap64 (29 + (a0_5.size : Int))) then (hopperlaw04_TxnSlots.j1 kj2 a1 bt347.1 true a0_0 a0_1 a0_2 a0_3 a0_4 a0_5 a0_0 a0_1 a0_2 a0_3 a0_4 (a0_5 ++ a1)) else ((txn_Check.f a0_0 a0_1 a0_2 a0_3 a0_4 (a0_5 ++ a1)).bind fun t349 => (hopperlaw04_TxnSlots.j1 kj2 a1 bt347.1 (!t349) a0_0 a0_1 a0_2 a0_3 a0_4 a0_5 a0_0 a0_1 a0_2 a0_3 a0_4 (a0_5 ++ a1))))) else (none)) = some r := by rw [if_neg (show ¬ (false = true) by decide)] at H; exact H
        clear H
        have H := H1
        clear H1
        by_cases c20 : a0_5.size + a1.size ≤ 9223372036854775807
        · rw [if_pos c20] at H
          have c20b0 := eq_true c20
          have c20b1 : decide (a0_5.size + a1.size ≤ 9223372036854775807) = true := decide_eq_true c20
          try have c20b2 : (9223372036854775807 < a0_5.size + a1.size) = False := eq_false (Nat.not_lt.2 c20)
          replace H := Option.bind_eq_some_iff.mp H
          obtain ⟨⟨t347, t348⟩, A210, H⟩ := H
          replace H : (if (t347.size : Int) > (wrap64 (29 + (a0_5.size : Int))) then (hopperlaw04_TxnSlots.j1 kj2 a1 t347 true a0_0 a0_1 a0_2 a0_3 a0_4 a0_5 a0_0 a0_1 a0_2 a0_3 a0_4 (a0_5 ++ a1)) else ((txn_Check.f a0_0 a0_1 a0_2 a0_3 a0_4 (a0_5 ++ a1)).bind fun t349 => (hopperlaw04_TxnSlots.j1 kj2 a1 t347 (!t349) a0_0 a0_1 a0_2 a0_3 a0_4 a0_5 a0_0 a0_1 a0_2 a0_3 a0_4 (a0_5 ++ a1)))) = some r := H
          have A21 := Aside0.mk A210
          clear A210
          have HC22 := Aside0.mk H
          clear H
          have hcz23_0 : wc.cell? ⟨gb342, 0, none⟩ = some (.int .i64 a0_0) := (blk_cell BK342.out 0).trans rfl
          have hcz23_1 : wc.cell? ⟨gb342, 1, none⟩ = some (.int .i64 a0_1) := (blk_cell BK342.out 1).trans rfl
          have hcz23_2 : wc.cell? ⟨gb342, 2, none⟩ = some (.int .i64 a0_2) := (blk_cell BK342.out 2).trans rfl
          have hcz23_3 : wc.cell? ⟨gb342, 3, none⟩ = some (.int .i64 a0_3) := (blk_cell BK342.out 3).trans rfl
          have hcz23_4 : wc.cell? ⟨gb342, 4, none⟩ = some (.int .i64 a0_4) := (blk_cell BK342.out 4).trans rfl
          have hcz23_5 : wc.cell? ⟨gb342, 5, none⟩ = some (.string a0_5) := (blk_cell BK342.out 5).trans rfl
          have hfz23_0 := blk_frozen BK342.out 0
          have hfz23_1 := blk_frozen BK342.out 1
          have hfz23_2 := blk_frozen BK342.out 2
          have hfz23_3 := blk_frozen BK342.out 3
          have hfz23_4 := blk_frozen BK342.out 4
          have hfz23_5 := blk_frozen BK342.out 5
          go_upto_region 6 with (first | ((with_reducible refine gate_dst (N := 5) rfl ?_); (try (refine gate_guard (by rfl) ?_; dsimp only)); refine box_event ?hg (N := 5) ?hd (cs := #[.int .i64 0, .int .i64 0, .int .i64 0, .int .i64 0, .int .i64 0, .string (⟨#[]⟩ : ByteArray)]) (t := 23) ?hr ?_; (case hd => rfl); (case hg => rfl); (case hr => first | (go_simp; done) | (go_simp; rfl)); intro gb346 hg w24 hbox hb; have n0_ := Aside0.mk (blk_below (g := gb342) (o := .cells #[.int .i64 a0_0, .int .i64 a0_1, .int .i64 a0_2, .int .i64 a0_3, .int .i64 a0_4, .string a0_5] 23 (0, 0)) (by (with_reducible repeat (first | refine blk_drewN ?_ _ | refine blk_drew ?_ | refine blk_alloc ?_ _)); exact BK342.out) hb); have n1_ := Aside0.mk (below_step (by repeat (first | (with_reducible first | exact HB.out | apply below_alloc | apply pw_below_drewN | apply below_drew1 | refine below_set ?_ GE342.out) | exact HB.out)) hb); have n2_ := Aside0.mk (hbox); have n3_ := Aside0.mk ((by rw [hg]; exact (below_size (by repeat (first | (with_reducible first | exact HB.out | apply below_alloc | apply pw_below_drewN | apply below_drew1 | refine below_set ?_ GE342.out) | exact HB.out))) : w.heap.size ≤ gb346)); have n4_ := Aside0.mk ((by rw [hg]; exact (below_size (by repeat (first | (with_reducible first | exact HB.out | apply below_alloc | apply pw_below_drewN | apply below_drew1 | refine below_set ?_ GE342.out) | exact HB.out))) : w.heap.size ≤ gb346)); have n5_ := Aside0.mk ((by rw [hg]; exact Nat.ne_of_lt (blk_lt (g := gb342) (o := .cells #[.int .i64 a0_0, .int .i64 a0_1, .int .i64 a0_2, .int .i64 a0_3, .int .i64 a0_4, .string a0_5] 23 (0, 0)) (by (with_reducible repeat (first | refine blk_drewN ?_ _ | refine blk_drew ?_ | refine blk_alloc ?_ _)); exact BK342.out)) : gb342 ≠ gb346)); have n6_ := Aside0.mk ((by rw [hg]; exact Nat.ne_of_gt (blk_lt (g := gb342) (o := .cells #[.int .i64 a0_0, .int .i64 a0_1, .int .i64 a0_2, .int .i64 a0_3, .int .i64 a0_4, .string a0_5] 23 (0, 0)) (by (with_reducible repeat (first | refine blk_drewN ?_ _ | refine blk_drew ?_ | refine blk_alloc ?_ _)); exact BK342.out)) : gb346 ≠ gb342)); clear BK342; clear HB; have BK342 := n0_; have HB := n1_; have BK346 := n2_; have GW346 := n3_; have GE346 := n4_; have NB342_346 := n5_; have NB346_342 := n6_; clear n0_ n1_ n2_ n3_ n4_ n5_ n6_; clear hb hbox hg; have hnb25 := NB346_342.out; have hnc25 := NB342_346.out; have hcz26_0 : w24.cell? ⟨gb346, 0, none⟩ = some (.int .i64 0) := (blk_cell BK346.out 0).trans rfl; have hcz26_1 : w24.cell? ⟨gb346, 1, none⟩ = some (.int .i64 0) := (blk_cell BK346.out 1).trans rfl; have hcz26_2 : w24.cell? ⟨gb346, 2, none⟩ = some (.int .i64 0) := (blk_cell BK346.out 2).trans rfl; have hcz26_3 : w24.cell? ⟨gb346, 3, none⟩ = some (.int .i64 0) := (blk_cell BK346.out 3).trans rfl; have hcz26_4 : w24.cell? ⟨gb346, 4, none⟩ = some (.int .i64 0) := (blk_cell BK346.out 4).trans rfl; have hcz26_5 : w24.cell? ⟨gb346, 5, none⟩ = some (.string (⟨#[]⟩ : ByteArray)) := (blk_cell BK346.out 5).trans rfl; have hfz26_0 := blk_frozen BK346.out 0; have hfz26_1 := blk_frozen BK346.out 1; have hfz26_2 := blk_frozen BK346.out 2; have hfz26_3 := blk_frozen BK346.out 3; have hfz26_4 := blk_frozen BK346.out 4; have hfz26_5 := blk_frozen BK346.out 5; have hcz27_0 : w24.cell? ⟨gb342, 0, none⟩ = some (.int .i64 a0_0) := (blk_cell BK342.out 0).trans rfl; have hcz27_1 : w24.cell? ⟨gb342, 1, none⟩ = some (.int .i64 a0_1) := (blk_cell BK342.out 1).trans rfl; have hcz27_2 : w24.cell? ⟨gb342, 2, none⟩ = some (.int .i64 a0_2) := (blk_cell BK342.out 2).trans rfl; have hcz27_3 : w24.cell? ⟨gb342, 3, none⟩ = some (.int .i64 a0_3) := (blk_cell BK342.out 3).trans rfl; have hcz27_4 : w24.cell? ⟨gb342, 4, none⟩ = some (.int .i64 a0_4) := (blk_cell BK342.out 4).trans rfl; have hcz27_5 : w24.cell? ⟨gb342, 5, none⟩ = some (.string a0_5) := (blk_cell BK342.out 5).trans rfl; have hfz27_0 := blk_frozen BK342.out 0; have hfz27_1 := blk_frozen BK342.out 1; have hfz27_2 := blk_frozen BK342.out 2; have hfz27_3 := blk_frozen BK342.out 3; have hfz27_4 := blk_frozen BK342.out 4; have hfz27_5 := blk_frozen BK342.out 5) | ((with_reducible refine gate_callee (f := 34) rfl ?_); refine goesL_ (some 32) rfl rfl Try.func34 (by kernel_rfl) rfl #[.agg #[.int .i64 a0_0, .int .i64 a0_1, .int .i64 a0_2, .int .i64 a0_3, .int .i64 a0_4, .string a0_5]] rfl (by (try simp only [List.map_toArray, List.map_cons, List.map_nil]); first | done | rfl | (simp only [List.length_drop, List.length_take]; rfl)) ?_; (with_reducible refine (txn_Encode.calls a0_0 a0_1 a0_2 a0_3 a0_4 a0_5 t347 t348 _ A21.out).mono ?_); rintro e w28 ⟨rfl, hb⟩; refine ⟨_, rfl, ?_⟩; have n0_ := Aside0.mk (blk_below (g := gb342) (o := .cells #[.int .i64 a0_0, .int .i64 a0_1, .int .i64 a0_2, .int .i64 a0_3, .int .i64 a0_4, .string a0_5] 23 (0, 0)) (by (with_reducible repeat (first | refine blk_drewN ?_ _ | refine blk_drew ?_ | refine blk_alloc ?_ _)); refine blk_far ?_ NB342_346.out _; (with_reducible repeat (first | refine blk_drewN ?_ _ | refine blk_drew ?_ | refine blk_alloc ?_ _)); refine blk_far ?_ NB342_346.out _; (with_reducible repeat (first | refine blk_drewN ?_ _ | refine blk_drew ?_ | refine blk_alloc ?_ _)); refine blk_far ?_ NB342_346.out _; (with_reducible repeat (first | refine blk_drewN ?_ _ | refine blk_drew ?_ | refine blk_alloc ?_ _)); refine blk_far ?_ NB342_346.out _; (with_reducible repeat (first | refine blk_drewN ?_ _ | refine blk_drew ?_ | refine blk_alloc ?_ _)); refine blk_far ?_ NB342_346.out _; (with_reducible repeat (first | refine blk_drewN ?_ _ | refine blk_drew ?_ | refine blk_alloc ?_ _)); refine blk_far ?_ NB342_346.out _; (with_reducible repeat (first | refine blk_drewN ?_ _ | refine blk_drew ?_ | refine blk_alloc ?_ _)); refine blk_far ?_ NB342_346.out _; (with_reducible repeat (first | refine blk_drewN ?_ _ | refine blk_drew ?_ | refine blk_alloc ?_ _)); exact BK342.out) hb); have n1_ := Aside0.mk (blk_below (g := gb346) (o := .cells #[.int .i64 a0_0, .int .i64 a0_1, .int .i64 a0_2, .int .i64 a0_3, .int .i64 a0_4, .string (a0_5 ++ a1)] 23 (0, 0)) (by (with_reducible repeat (first | refine blk_drewN ?_ _ | refine blk_drew ?_ | refine blk_alloc ?_ _)); refine blk_put (cs := #[.int .i64 a0_0, .int .i64 a0_1, .int .i64 a0_2, .int .i64 a0_3, .int .i64 a0_4, .string a0_5]) ?_ 5 _ rfl; (with_reducible repeat (first | refine blk_drewN ?_ _ | refine blk_drew ?_ | refine blk_alloc ?_ _)); refine blk_put (cs := #[.int .i64 a0_0, .int .i64 a0_1, .int .i64 a0_2, .int .i64 a0_3, .int .i64 a0_4, .string (⟨#[]⟩ : ByteArray)]) ?_ 5 _ rfl; (with_reducible repeat (first | refine blk_drewN ?_ _ | refine blk_drew ?_ | refine blk_alloc ?_ _)); refine blk_put (cs := #[.int .i64 a0_0, .int .i64 a0_1, .int .i64 a0_2, .int .i64 a0_3, .int .i64 0, .string (⟨#[]⟩ : ByteArray)]) ?_ 4 _ rfl; (with_reducible repeat (first | refine blk_drewN ?_ _ | refine blk_drew ?_ | refine blk_alloc ?_ _)); refine blk_put (cs := #[.int .i64 a0_0, .int .i64 a0_1, .int .i64 a0_2, .int .i64 0, .int .i64 0, .string (⟨#[]⟩ : ByteArray)]) ?_ 3 _ rfl; (with_reducible repeat (first | refine blk_drewN ?_ _ | refine blk_drew ?_ | refine blk_alloc ?_ _)); refine blk_put (cs := #[.int .i64 a0_0, .int .i64 a0_1, .int .i64 0, .int .i64 0, .int .i64 0, .string (⟨#[]⟩ : ByteArray)]) ?_ 2 _ rfl; (with_reducible repeat (first | refine blk_drewN ?_ _ | refine blk_drew ?_ | refine blk_alloc ?_ _)); refine blk_put (cs := #[.int .i64 a0_0, .int .i64 0, .int .i64 0, .int .i64 0, .int .i64 0, .string (⟨#[]⟩ : ByteArray)]) ?_ 1 _ rfl; (with_reducible repeat (first | refine blk_drewN ?_ _ | refine blk_drew ?_ | refine blk_alloc ?_ _)); refine blk_put (cs := #[.int .i64 0, .int .i64 0, .int .i64 0, .int .i64 0, .int .i64 0, .string (⟨#[]⟩ : ByteArray)]) ?_ 0 _ rfl; (with_reducible repeat (first | refine blk_drewN ?_ _ | refine blk_drew ?_ | refine blk_alloc ?_ _)); exact BK346.out) hb); have n2_ := Aside0.mk (below_step (by repeat (first | (with_reducible first | exact HB.out | apply below_alloc | apply pw_below_drewN | apply below_drew1 | refine below_set ?_ GE342.out | refine below_set ?_ GE346.out) | exact HB.out)) hb); clear BK342; clear BK346; clear HB; have BK342 := n0_; have BK346 := n1_; have HB := n2_; clear n0_ n1_ n2_; (try clear hb); (try clear hb2); (try clear hk); (try clear hi)))
          (try simp only [Act.put, List.setIfInBounds_toArray, List.set_cons_zero, List.set_cons_succ])
          go_cut [46] (fun v46 wc => ∃ (kq : Nat) (x46_21 : Bool), v46 = .bool x46_21 ∧ Aside0 (hopperlaw04_TxnSlots.j1 kq a1 t347 x46_21 a0_0 a0_1 a0_2 a0_3 a0_4 a0_5 a0_0 a0_1 a0_2 a0_3 a0_4 (a0_5 ++ a1) = some r) ∧ Aside0 (kq ≤ kj2) ∧ Aside0 (wc.heap[gb342]? = some (.cells #[.int .i64 a0_0, .int .i64 a0_1, .int .i64 a0_2, .int .i64 a0_3, .int .i64 a0_4, .string a0_5] 23 (0, 0))) ∧ Aside0 (wc.heap[gb346]? = some (.cells #[.int .i64 a0_0, .int .i64 a0_1, .int .i64 a0_2, .int .i64 a0_3, .int .i64 a0_4, .string (a0_5 ++ a1)] 23 (0, 0))) ∧ Aside0 (Below w.heap.size w wc))
          case first =>
            have H := HC22.out
            clear HC22
            by_cases c29 : (t347.size : Int) > (wrap64 (29 + (a0_5.size : Int)))
            · rw [if_pos c29] at H
              have c29b0 : decide ((wrap64 (29 + (a0_5.size : Int))) < (t347.size : Int)) = true := decide_eq_true c29
              clear c29
              (first | rw [c29b0] | (simp only [i64_w, i32_w]; rw [c29b0]) | skip)
              have H' := Aside0.mk H
              clear H
              have hnb30 := NB342_346.out
              have hnc30 := NB346_342.out
              have hcz31_0 : w28.cell? ⟨gb342, 0, none⟩ = some (.int .i64 a0_0) := (blk_cell BK342.out 0).trans rfl
              have hcz31_1 : w28.cell? ⟨gb342, 1, none⟩ = some (.int .i64 a0_1) := (blk_cell BK342.out 1).trans rfl
              have hcz31_2 : w28.cell? ⟨gb342, 2, none⟩ = some (.int .i64 a0_2) := (blk_cell BK342.out 2).trans rfl
              have hcz31_3 : w28.cell? ⟨gb342, 3, none⟩ = some (.int .i64 a0_3) := (blk_cell BK342.out 3).trans rfl
              have hcz31_4 : w28.cell? ⟨gb342, 4, none⟩ = some (.int .i64 a0_4) := (blk_cell BK342.out 4).trans rfl
              have hcz31_5 : w28.cell? ⟨gb342, 5, none⟩ = some (.string a0_5) := (blk_cell BK342.out 5).trans rfl
              have hfz31_0 := blk_frozen BK342.out 0
              have hfz31_1 := blk_frozen BK342.out 1
              have hfz31_2 := blk_frozen BK342.out 2
              have hfz31_3 := blk_frozen BK342.out 3
              have hfz31_4 := blk_frozen BK342.out 4
              have hfz31_5 := blk_frozen BK342.out 5
              go_wp2
              go_meet
              case rel => exact ⟨_, (true), (by first | rfl | (simp; done) | (simp [*]; done)), H', ⟨by have := HJ2.out; first | omega | exact Nat.le_refl _⟩, ⟨by (with_reducible repeat (first | refine blk_drewN ?_ _ | refine blk_drew ?_ | refine blk_alloc ?_ _)); exact BK342.out⟩, ⟨by (with_reducible repeat (first | refine blk_drewN ?_ _ | refine blk_drew ?_ | refine blk_alloc ?_ _)); exact BK346.out⟩, ⟨by repeat (first | (with_reducible first | exact HB.out | apply below_alloc | apply pw_below_drewN | apply below_drew1 | refine below_set ?_ GE342.out | refine below_set ?_ GE346.out) | exact HB.out)⟩⟩
            · rw [if_neg c29] at H
              have c29b0 : decide ((wrap64 (29 + (a0_5.size : Int))) < (t347.size : Int)) = false := decide_eq_false c29
              clear c29
              (first | rw [c29b0] | (simp only [i64_w, i32_w]; rw [c29b0]) | skip)
              replace H := Option.bind_eq_some_iff.mp H
              obtain ⟨t349, A320, H⟩ := H
              replace H : (hopperlaw04_TxnSlots.j1 kj2 a1 t347 (!t349) a0_0 a0_1 a0_2 a0_3 a0_4 a0_5 a0_0 a0_1 a0_2 a0_3 a0_4 (a0_5 ++ a1)) = some r := H
              have A32 := Aside0.mk A320
              clear A320
              have H' := Aside0.mk H
              clear H
              have hnb33 := NB342_346.out
              have hnc33 := NB346_342.out
              have hcz34_0 : w28.cell? ⟨gb342, 0, none⟩ = some (.int .i64 a0_0) := (blk_cell BK342.out 0).trans rfl
              have hcz34_1 : w28.cell? ⟨gb342, 1, none⟩ = some (.int .i64 a0_1) := (blk_cell BK342.out 1).trans rfl
              have hcz34_2 : w28.cell? ⟨gb342, 2, none⟩ = some (.int .i64 a0_2) := (blk_cell BK342.out 2).trans rfl
              have hcz34_3 : w28.cell? ⟨gb342, 3, none⟩ = some (.int .i64 a0_3) := (blk_cell BK342.out 3).trans rfl
              have hcz34_4 : w28.cell? ⟨gb342, 4, none⟩ = some (.int .i64 a0_4) := (blk_cell BK342.out 4).trans rfl
              have hcz34_5 : w28.cell? ⟨gb342, 5, none⟩ = some (.string a0_5) := (blk_cell BK342.out 5).trans rfl
              have hfz34_0 := blk_frozen BK342.out 0
              have hfz34_1 := blk_frozen BK342.out 1
              have hfz34_2 := blk_frozen BK342.out 2
              have hfz34_3 := blk_frozen BK342.out 3
              have hfz34_4 := blk_frozen BK342.out 4
              have hfz34_5 := blk_frozen BK342.out 5
              have hcz35_0 : w28.cell? ⟨gb346, 0, none⟩ = some (.int .i64 a0_0) := (blk_cell BK346.out 0).trans rfl
              have hcz35_1 : w28.cell? ⟨gb346, 1, none⟩ = some (.int .i64 a0_1) := (blk_cell BK346.out 1).trans rfl
              have hcz35_2 : w28.cell? ⟨gb346, 2, none⟩ = some (.int .i64 a0_2) := (blk_cell BK346.out 2).trans rfl
              have hcz35_3 : w28.cell? ⟨gb346, 3, none⟩ = some (.int .i64 a0_3) := (blk_cell BK346.out 3).trans rfl
              have hcz35_4 : w28.cell? ⟨gb346, 4, none⟩ = some (.int .i64 a0_4) := (blk_cell BK346.out 4).trans rfl
              have hcz35_5 : w28.cell? ⟨gb346, 5, none⟩ = some (.string (a0_5 ++ a1)) := (blk_cell BK346.out 5).trans rfl
              have hfz35_0 := blk_frozen BK346.out 0
              have hfz35_1 := blk_frozen BK346.out 1
              have hfz35_2 := blk_frozen BK346.out 2
              have hfz35_3 := blk_frozen BK346.out 3
              have hfz35_4 := blk_frozen BK346.out 4
              have hfz35_5 := blk_frozen BK346.out 5
              go_wp2_with (first | (go_at_call 38; (with_reducible refine (txn_Check.calls a0_0 a0_1 a0_2 a0_3 a0_4 (a0_5 ++ a1) t349 _ A32.out).mono ?_); rintro e w36 ⟨rfl, hb⟩; have n0_ := Aside0.mk (blk_below (g := gb342) (o := .cells #[.int .i64 a0_0, .int .i64 a0_1, .int .i64 a0_2, .int .i64 a0_3, .int .i64 a0_4, .string a0_5] 23 (0, 0)) (by (with_reducible repeat (first | refine blk_drewN ?_ _ | refine blk_drew ?_ | refine blk_alloc ?_ _)); exact BK342.out) hb); have n1_ := Aside0.mk (blk_below (g := gb346) (o := .cells #[.int .i64 a0_0, .int .i64 a0_1, .int .i64 a0_2, .int .i64 a0_3, .int .i64 a0_4, .string (a0_5 ++ a1)] 23 (0, 0)) (by (with_reducible repeat (first | refine blk_drewN ?_ _ | refine blk_drew ?_ | refine blk_alloc ?_ _)); exact BK346.out) hb); have n2_ := Aside0.mk (below_step (by repeat (first | (with_reducible first | exact HB.out | apply below_alloc | apply pw_below_drewN | apply below_drew1 | refine below_set ?_ GE342.out | refine below_set ?_ GE346.out) | exact HB.out)) hb); clear BK342; clear BK346; clear HB; have BK342 := n0_; have BK346 := n1_; have HB := n2_; clear n0_ n1_ n2_; (try clear hb); (try clear hb2); (try clear hk); (try clear hi)))
              go_meet
              case rel => exact ⟨_, (!t349), (by first | rfl | (simp; done) | (simp [*]; done)), H', ⟨by have := HJ2.out; first | omega | exact Nat.le_refl _⟩, ⟨by (with_reducible repeat (first | refine blk_drewN ?_ _ | refine blk_drew ?_ | refine blk_alloc ?_ _)); exact BK342.out⟩, ⟨by (with_reducible repeat (first | refine blk_drewN ?_ _ | refine blk_drew ?_ | refine blk_alloc ?_ _)); exact BK346.out⟩, ⟨by repeat (first | (with_reducible first | exact HB.out | apply below_alloc | apply pw_below_drewN | apply below_drew1 | refine below_set ?_ GE342.out | refine below_set ?_ GE346.out) | exact HB.out)⟩⟩
          case rest =>
            clear HC22
            try clear c1
            try clear c2
            try clear p2
            try clear c3
            try clear c6
            try clear p6
            try clear c7
            try clear c7b0
            try clear c7b1
            try clear c9
            try clear c17
            try clear c20
            try clear c20b0
            try clear c20b1
            try clear c20b2
            try clear c25
            try clear c29
            try clear c29b0
            try clear c30
            try clear c32
            try clear c33
            try clear c34
            try clear hcz11_0
            try clear hcz11_1
            try clear hcz11_2
            try clear hcz11_3
            try clear hcz11_4
            try clear hcz11_5
            try clear hcz13_0
            try clear hcz13_1
            try clear hcz13_2
            try clear hcz13_3
            try clear hcz13_4
            try clear hcz13_5
            try clear hcz15_0
            try clear hcz15_1
            try clear hcz15_2
            try clear hcz15_3
            try clear hcz15_4
            try clear hcz15_5
            try clear hcz23_0
            try clear hcz23_1
            try clear hcz23_2
            try clear hcz23_3
            try clear hcz23_4
            try clear hcz23_5
            try clear hcz26_0
            try clear hcz26_1
            try clear hcz26_2
            try clear hcz26_3
            try clear hcz26_4
            try clear hcz26_5
            try clear hcz27_0
            try clear hcz27_1
            try clear hcz27_2
            try clear hcz27_3
            try clear hcz27_4
            try clear hcz27_5
            try clear hcz31_0
            try clear hcz31_1
            try clear hcz31_2
            try clear hcz31_3
            try clear hcz31_4
            try clear hcz31_5
            try clear hcz34_0
            try clear hcz34_1
            try clear hcz34_2
            try clear hcz34_3
            try clear hcz34_4
            try clear hcz34_5
            try clear hcz35_0
            try clear hcz35_1
            try clear hcz35_2
            try clear hcz35_3
            try clear hcz35_4
            try clear hcz35_5
            try clear hcz8_0
            try clear hcz8_1
            try clear hcz8_2
            try clear hcz8_3
            try clear hcz8_4
            try clear hcz8_5
            try clear hfz11_0
            try clear hfz11_1
            try clear hfz11_2
            try clear hfz11_3
            try clear hfz11_4
            try clear hfz11_5
            try clear hfz13_0
            try clear hfz13_1
            try clear hfz13_2
            try clear hfz13_3
            try clear hfz13_4
            try clear hfz13_5
            try clear hfz15_0
            try clear hfz15_1
            try clear hfz15_2
            try clear hfz15_3
            try clear hfz15_4
            try clear hfz15_5
            try clear hfz23_0
            try clear hfz23_1
            try clear hfz23_2
            try clear hfz23_3
            try clear hfz23_4
            try clear hfz23_5
            try clear hfz26_0
            try clear hfz26_1
            try clear hfz26_2
            try clear hfz26_3
            try clear hfz26_4
            try clear hfz26_5
            try clear hfz27_0
            try clear hfz27_1
            try clear hfz27_2
            try clear hfz27_3
            try clear hfz27_4
            try clear hfz27_5
            try clear hfz31_0
            try clear hfz31_1
            try clear hfz31_2
            try clear hfz31_3
            try clear hfz31_4
            try clear hfz31_5
            try clear hfz34_0
            try clear hfz34_1
            try clear hfz34_2
            try clear hfz34_3
            try clear hfz34_4
            try clear hfz34_5
            try clear hfz35_0
            try clear hfz35_1
            try clear hfz35_2
            try clear hfz35_3
            try clear hfz35_4
            try clear hfz35_5
            try clear hfz8_0
            try clear hfz8_1
            try clear hfz8_2
            try clear hfz8_3
            try clear hfz8_4
            try clear hfz8_5
            try clear p2
            obtain ⟨kq, x46_21, rfl, HA, HJ21, BK342, BK346, HB⟩ := hcut
            cases kq with
            | zero => exact absurd HA.out (by simp [hopperlaw04_TxnSlots.j1])
            | succ kj21 =>
              have H := HA.out
              clear HA
              simp only [hopperlaw04_TxnSlots.j1] at H
              by_cases c37 : x46_21 = true
              · subst c37
                have H1 : (if (t347.size : Int) ≤ (wrap64 (29 + (a0_5.size : Int))) then ((hopperlaw04_live.f kj21).bind fun t350 => (some t350)) else (none)) = some r := by rw [if_pos rfl] at H; exact H
                clear H
                have H := H1
                clear H1
                by_cases c38 : (t347.size : Int) ≤ (wrap64 (29 + (a0_5.size : Int)))
                · rw [if_pos c38] at H
                  have c38b0 : decide ((t347.size : Int) ≤ (wrap64 (29 + (a0_5.size : Int)))) = true := decide_eq_true c38
                  clear c38
                  replace H := Option.bind_eq_some_iff.mp H
                  obtain ⟨t350, A390, H⟩ := H
                  replace H : (some t350) = some r := H
                  have A39 := Aside0.mk A390
                  clear A390
                  obtain rfl := Option.some.inj H
                  have hnb40 := NB342_346.out
                  have hnc40 := NB346_342.out
                  have hcz41_0 : wc.cell? ⟨gb342, 0, none⟩ = some (.int .i64 a0_0) := (blk_cell BK342.out 0).trans rfl
                  have hcz41_1 : wc.cell? ⟨gb342, 1, none⟩ = some (.int .i64 a0_1) := (blk_cell BK342.out 1).trans rfl
                  have hcz41_2 : wc.cell? ⟨gb342, 2, none⟩ = some (.int .i64 a0_2) := (blk_cell BK342.out 2).trans rfl
                  have hcz41_3 : wc.cell? ⟨gb342, 3, none⟩ = some (.int .i64 a0_3) := (blk_cell BK342.out 3).trans rfl
                  have hcz41_4 : wc.cell? ⟨gb342, 4, none⟩ = some (.int .i64 a0_4) := (blk_cell BK342.out 4).trans rfl
                  have hcz41_5 : wc.cell? ⟨gb342, 5, none⟩ = some (.string a0_5) := (blk_cell BK342.out 5).trans rfl
                  have hfz41_0 := blk_frozen BK342.out 0
                  have hfz41_1 := blk_frozen BK342.out 1
                  have hfz41_2 := blk_frozen BK342.out 2
                  have hfz41_3 := blk_frozen BK342.out 3
                  have hfz41_4 := blk_frozen BK342.out 4
                  have hfz41_5 := blk_frozen BK342.out 5
                  go_wp2_with (first | (go_at_call 33; (with_reducible refine (hopperlaw04_live.calls kj21  t350 _ A39.out).mono ?_); rintro e w42 ⟨rfl, hb⟩; have n0_ := Aside0.mk (blk_below (g := gb342) (o := .cells #[.int .i64 a0_0, .int .i64 a0_1, .int .i64 a0_2, .int .i64 a0_3, .int .i64 a0_4, .string a0_5] 23 (0, 0)) (by (with_reducible repeat (first | refine blk_drewN ?_ _ | refine blk_drew ?_ | refine blk_alloc ?_ _)); exact BK342.out) hb); have n1_ := Aside0.mk (blk_below (g := gb346) (o := .cells #[.int .i64 a0_0, .int .i64 a0_1, .int .i64 a0_2, .int .i64 a0_3, .int .i64 a0_4, .string (a0_5 ++ a1)] 23 (0, 0)) (by (with_reducible repeat (first | refine blk_drewN ?_ _ | refine blk_drew ?_ | refine blk_alloc ?_ _)); exact BK346.out) hb); have n2_ := Aside0.mk (below_step (by repeat (first | (with_reducible first | exact HB.out | apply below_alloc | apply pw_below_drewN | apply below_drew1 | refine below_set ?_ GE342.out | refine below_set ?_ GE346.out) | exact HB.out)) hb); clear BK342; clear BK346; clear HB; have BK342 := n0_; have BK346 := n1_; have HB := n2_; clear n0_ n1_ n2_; (try clear hb); (try clear hb2); (try clear hk); (try clear hi)))
                  go_ret
                  exact ⟨by first | rfl | (simp [errW_none, errW_some] <;> rfl) | (simp [*, errW_none, errW_some] <;> rfl), by repeat (first | (with_reducible first | exact HB.out | apply below_alloc | apply pw_below_drewN | apply below_drew1 | refine below_set ?_ GE342.out | refine below_set ?_ GE346.out) | exact HB.out)⟩
                · rw [if_neg c38] at H
                  exact absurd H (by simp)
              · replace c37 := Bool.eq_false_iff.mpr c37
                subst c37
                have H1 : ((txn_Slots.f a0_0 a0_1 a0_2 a0_3 a0_4 a0_5).bind fun t351 => ((txn_Slots.f a0_0 a0_1 a0_2 a0_3 a0_4 (a0_5 ++ a1)).bind fun t352 => (if t352 ≥ t351 then (if (wrap64 (32 * (wrap64 (t352 - t351)))) < (wrap64 ((a1.size : Int) + 32)) then ((hopperlaw04_live.f kj21).bind fun t353 => (some t353)) else (none)) else (none)))) = some r := by rw [if_neg (show ¬ (false = true) by decide)] at H; exact H
                clear H
                have H := H1
                clear H1
                replace H := Option.bind_eq_some_iff.mp H
                obtain ⟨t351, A430, H⟩ := H
                replace H : ((txn_Slots.f a0_0 a0_1 a0_2 a0_3 a0_4 (a0_5 ++ a1)).bind fun t352 => (if t352 ≥ t351 then (if (wrap64 (32 * (wrap64 (t352 - t351)))) < (wrap64 ((a1.size : Int) + 32)) then ((hopperlaw04_live.f kj21).bind fun t353 => (some t353)) else (none)) else (none))) = some r := H
                have A43 := Aside0.mk A430
                clear A430
                replace H := Option.bind_eq_some_iff.mp H
                obtain ⟨t352, A440, H⟩ := H
                replace H : (if t352 ≥ t351 then (if (wrap64 (32 * (wrap64 (t352 - t351)))) < (wrap64 ((a1.size : Int) + 32)) then ((hopperlaw04_live.f kj21).bind fun t353 => (some t353)) else (none)) else (none)) = some r := H
                have A44 := Aside0.mk A440
                clear A440
                by_cases c45 : t352 ≥ t351
                · rw [if_pos c45] at H
                  have c45b0 : decide (t351 ≤ t352) = true := decide_eq_true c45
                  clear c45
                  by_cases c46 : (wrap64 (32 * (wrap64 (t352 - t351)))) < (wrap64 ((a1.size : Int) + 32))
                  · rw [if_pos c46] at H
                    have c46b0 : decide ((wrap64 (32 * (wrap64 (t352 - t351)))) < (wrap64 ((a1.size : Int) + 32))) = true := decide_eq_true c46
                    clear c46
                    replace H := Option.bind_eq_some_iff.mp H
                    obtain ⟨t353, A470, H⟩ := H
                    replace H : (some t353) = some r := H
                    have A47 := Aside0.mk A470
                    clear A470
                    obtain rfl := Option.some.inj H
                    have hnb48 := NB342_346.out
                    have hnc48 := NB346_342.out
                    have hcz49_0 : wc.cell? ⟨gb342, 0, none⟩ = some (.int .i64 a0_0) := (blk_cell BK342.out 0).trans rfl
                    have hcz49_1 : wc.cell? ⟨gb342, 1, none⟩ = some (.int .i64 a0_1) := (blk_cell BK342.out 1).trans rfl
                    have hcz49_2 : wc.cell? ⟨gb342, 2, none⟩ = some (.int .i64 a0_2) := (blk_cell BK342.out 2).trans rfl
                    have hcz49_3 : wc.cell? ⟨gb342, 3, none⟩ = some (.int .i64 a0_3) := (blk_cell BK342.out 3).trans rfl
                    have hcz49_4 : wc.cell? ⟨gb342, 4, none⟩ = some (.int .i64 a0_4) := (blk_cell BK342.out 4).trans rfl
                    have hcz49_5 : wc.cell? ⟨gb342, 5, none⟩ = some (.string a0_5) := (blk_cell BK342.out 5).trans rfl
                    have hfz49_0 := blk_frozen BK342.out 0
                    have hfz49_1 := blk_frozen BK342.out 1
                    have hfz49_2 := blk_frozen BK342.out 2
                    have hfz49_3 := blk_frozen BK342.out 3
                    have hfz49_4 := blk_frozen BK342.out 4
                    have hfz49_5 := blk_frozen BK342.out 5
                    go_wp2_with (first | ((with_reducible refine gate_callee (f := 40) rfl ?_); refine goesL_ (some 58) rfl rfl Try.func40 (by kernel_rfl) rfl #[.agg #[.int .i64 a0_0, .int .i64 a0_1, .int .i64 a0_2, .int .i64 a0_3, .int .i64 a0_4, .string a0_5]] rfl (by (try simp only [List.map_toArray, List.map_cons, List.map_nil]); first | done | rfl | (simp only [List.length_drop, List.length_take]; rfl)) ?_; (with_reducible refine (txn_Slots.calls a0_0 a0_1 a0_2 a0_3 a0_4 a0_5 t351 _ A43.out).mono ?_); rintro e w50 ⟨rfl, hb⟩; refine ⟨_, rfl, ?_⟩; have n0_ := Aside0.mk (blk_below (g := gb342) (o := .cells #[.int .i64 a0_0, .int .i64 a0_1, .int .i64 a0_2, .int .i64 a0_3, .int .i64 a0_4, .string a0_5] 23 (0, 0)) (by (with_reducible repeat (first | refine blk_drewN ?_ _ | refine blk_drew ?_ | refine blk_alloc ?_ _)); exact BK342.out) hb); have n1_ := Aside0.mk (blk_below (g := gb346) (o := .cells #[.int .i64 a0_0, .int .i64 a0_1, .int .i64 a0_2, .int .i64 a0_3, .int .i64 a0_4, .string (a0_5 ++ a1)] 23 (0, 0)) (by (with_reducible repeat (first | refine blk_drewN ?_ _ | refine blk_drew ?_ | refine blk_alloc ?_ _)); exact BK346.out) hb); have n2_ := Aside0.mk (below_step (by repeat (first | (with_reducible first | exact HB.out | apply below_alloc | apply pw_below_drewN | apply below_drew1 | refine below_set ?_ GE342.out | refine below_set ?_ GE346.out) | exact HB.out)) hb); clear BK342; clear BK346; clear HB; have BK342 := n0_; have BK346 := n1_; have HB := n2_; clear n0_ n1_ n2_; (try clear hb); (try clear hb2); (try clear hk); (try clear hi); have hcz51_0 : w50.cell? ⟨gb346, 0, none⟩ = some (.int .i64 a0_0) := (blk_cell BK346.out 0).trans rfl; have hcz51_1 : w50.cell? ⟨gb346, 1, none⟩ = some (.int .i64 a0_1) := (blk_cell BK346.out 1).trans rfl; have hcz51_2 : w50.cell? ⟨gb346, 2, none⟩ = some (.int .i64 a0_2) := (blk_cell BK346.out 2).trans rfl; have hcz51_3 : w50.cell? ⟨gb346, 3, none⟩ = some (.int .i64 a0_3) := (blk_cell BK346.out 3).trans rfl; have hcz51_4 : w50.cell? ⟨gb346, 4, none⟩ = some (.int .i64 a0_4) := (blk_cell BK346.out 4).trans rfl; have hcz51_5 : w50.cell? ⟨gb346, 5, none⟩ = some (.string (a0_5 ++ a1)) := (blk_cell BK346.out 5).trans rfl; have hfz51_0 := blk_frozen BK346.out 0; have hfz51_1 := blk_frozen BK346.out 1; have hfz51_2 := blk_frozen BK346.out 2; have hfz51_3 := blk_frozen BK346.out 3; have hfz51_4 := blk_frozen BK346.out 4; have hfz51_5 := blk_frozen BK346.out 5) | ((with_reducible refine gate_callee (f := 40) rfl ?_); refine goesL_ (some 60) rfl rfl Try.func40 (by kernel_rfl) rfl #[.agg #[.int .i64 a0_0, .int .i64 a0_1, .int .i64 a0_2, .int .i64 a0_3, .int .i64 a0_4, .string (a0_5 ++ a1)]] rfl (by (try simp only [List.map_toArray, List.map_cons, List.map_nil]); first | done | rfl | (simp only [List.length_drop, List.length_take]; rfl)) ?_; (with_reducible refine (txn_Slots.calls a0_0 a0_1 a0_2 a0_3 a0_4 (a0_5 ++ a1) t352 _ A44.out).mono ?_); rintro e w52 ⟨rfl, hb⟩; refine ⟨_, rfl, ?_⟩; have n0_ := Aside0.mk (blk_below (g := gb342) (o := .cells #[.int .i64 a0_0, .int .i64 a0_1, .int .i64 a0_2, .int .i64 a0_3, .int .i64 a0_4, .string a0_5] 23 (0, 0)) (by (with_reducible repeat (first | refine blk_drewN ?_ _ | refine blk_drew ?_ | refine blk_alloc ?_ _)); exact BK342.out) hb); have n1_ := Aside0.mk (blk_below (g := gb346) (o := .cells #[.int .i64 a0_0, .int .i64 a0_1, .int .i64 a0_2, .int .i64 a0_3, .int .i64 a0_4, .string (a0_5 ++ a1)] 23 (0, 0)) (by (with_reducible repeat (first | refine blk_drewN ?_ _ | refine blk_drew ?_ | refine blk_alloc ?_ _)); exact BK346.out) hb); have n2_ := Aside0.mk (below_step (by repeat (first | (with_reducible first | exact HB.out | apply below_alloc | apply pw_below_drewN | apply below_drew1 | refine below_set ?_ GE342.out | refine below_set ?_ GE346.out) | exact HB.out)) hb); clear BK342; clear BK346; clear HB; have BK342 := n0_; have BK346 := n1_; have HB := n2_; clear n0_ n1_ n2_; (try clear hb); (try clear hb2); (try clear hk); (try clear hi)) | (go_at_call 33; (with_reducible refine (hopperlaw04_live.calls kj21  t353 _ A47.out).mono ?_); rintro e w53 ⟨rfl, hb⟩; have n0_ := Aside0.mk (blk_below (g := gb342) (o := .cells #[.int .i64 a0_0, .int .i64 a0_1, .int .i64 a0_2, .int .i64 a0_3, .int .i64 a0_4, .string a0_5] 23 (0, 0)) (by (with_reducible repeat (first | refine blk_drewN ?_ _ | refine blk_drew ?_ | refine blk_alloc ?_ _)); exact BK342.out) hb); have n1_ := Aside0.mk (blk_below (g := gb346) (o := .cells #[.int .i64 a0_0, .int .i64 a0_1, .int .i64 a0_2, .int .i64 a0_3, .int .i64 a0_4, .string (a0_5 ++ a1)] 23 (0, 0)) (by (with_reducible repeat (first | refine blk_drewN ?_ _ | refine blk_drew ?_ | refine blk_alloc ?_ _)); exact BK346.out) hb); have n2_ := Aside0.mk (below_step (by repeat (first | (with_reducible first | exact HB.out | apply below_alloc | apply pw_below_drewN | apply below_drew1 | refine below_set ?_ GE342.out | refine below_set ?_ GE346.out) | exact HB.out)) hb); clear BK342; clear BK346; clear HB; have BK342 := n0_; have BK346 := n1_; have HB := n2_; clear n0_ n1_ n2_; (try clear hb); (try clear hb2); (try clear hk); (try clear hi)))
                    go_ret
                    exact ⟨by first | rfl | (simp [errW_none, errW_some] <;> rfl) | (simp [*, errW_none, errW_some] <;> rfl), by repeat (first | (with_reducible first | exact HB.out | apply below_alloc | apply pw_below_drewN | apply below_drew1 | refine below_set ?_ GE342.out | refine below_set ?_ GE346.out) | exact HB.out)⟩
                  · rw [if_neg c46] at H
                    exact absurd H (by simp)
                · rw [if_neg c45] at H
                  exact absurd H (by simp)
        · rw [if_neg c20] at H
          exact absurd H (by simp)

open Go.Proofs.Ytihlogdmdmhefaa.Row (okI okB okS okL) in
/-- THE ONE PURE STATEMENT of hopperlaw04_TxnSlots. -/
def hopperlaw04_TxnSlots.Pure : Prop := ∀ (a0_0 : Int) (a0_1 : Int) (a0_2 : Int) (a0_3 : Int) (a0_4 : Int) (a0_5 : ByteArray) (a1 : ByteArray), ok23 (⟨a0_0, a0_1, a0_2, a0_3, a0_4, a0_5⟩ : S23) → okS a1 → ∃ k, hopperlaw04_TxnSlots.f k a0_0 a0_1 a0_2 a0_3 a0_4 a0_5 a1 = some true

end Go.Proofs.Ytihlogdmdmhefaa.L
