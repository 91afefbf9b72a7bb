/- Written by this session's own program over the kit's print: functions of Go told as plain functions, or the row of one statement; proved for every input, with no condition of ours. -/
import Derived.Test.YtfpomamhcjkoeaaSx0
import Derived.Test.YtfpomamhcjkoeaaSx2
import Derived.Test.YtfpomamhcjkoeaaSx3
namespace Go.Proofs.Ytfpomamhcjkoeaa.S
open Go.RowKit Go.Proofs.YtfpomamhcjkoeaaW.PrintWords Go.Proofs.YtfpomamhcjkoeaaW.PrintLast Go.Proofs.YtfpomamhcjkoeaaW.PrintMore
attribute [local go_sem] max2_int min2_int max_two min_two max_three min_three max_four min_four   -- for this text's walks alone
set_option linter.unusedVariables false
set_option linter.unusedSimpArgs false

/-! ### hopperlaw01_SatRaises: function 6 -/
mutual
def hopperlaw01_SatRaises.j0 : Nat → Int → Int → Int → Bool → Int → Int → Option (Bool)
  | 0, _, _, _, _, _, _ => none
  | k + 1, x0, x1, x7, x55, x188000, x188001 => if x55 = true then (none) else (if x188000 < 0 then (hopperlaw01_SatRaises.j1 k x0 x1 x7 true x188000 x188001) else (if x188000 > x0 then (hopperlaw01_SatRaises.j1 k x0 x1 x7 true x188000 x188001) else (if x188001 < 0 then (hopperlaw01_SatRaises.j1 k x0 x1 x7 true x188000 x188001) else (hopperlaw01_SatRaises.j1 k x0 x1 x7 (decide (x188001 > x1)) x188000 x188001))))
def hopperlaw01_SatRaises.j1 : Nat → Int → Int → Int → Bool → Int → Int → Option (Bool)
  | 0, _, _, _, _, _, _ => none
  | k + 1, x0, x1, x7, x75, x188000, x188001 => if x75 = true then ((hopperlaw01_live.f k).bind fun t191 => (some t191)) else ((sat_Raise.f k (wrap64 (x0 - x188000)) (wrap64 (x1 - x188001))).bind fun bt192 => (if bt192.2 = true then (if bt192.1 ≤ x7 then ((hopperlaw01_live.f k).bind fun t194 => (some t194)) else (none)) else (none)))
end
def hopperlaw01_SatRaises.f (k : Nat) (a0 : Int) (a1 : Int) (a2_0 : Int) (a2_1 : Int) : Option (Bool) := (sat_Raise.f k a0 a1).bind fun bt188 => (if bt188.2 = true then (if bt188.1 ≤ a0 then (hopperlaw01_SatRaises.j0 k a0 a1 bt188.1 true a2_0 a2_1) else (if bt188.1 > 1099511627776 then (hopperlaw01_SatRaises.j0 k a0 a1 bt188.1 true a2_0 a2_1) else (if (wrap64 (100 * bt188.1)) < (wrap64 (a0 * (wrap64 (100 + a1)))) then (hopperlaw01_SatRaises.j0 k a0 a1 bt188.1 true a2_0 a2_1) else (if bt188.1 > (wrap64 (a0 + 1)) then (hopperlaw01_SatRaises.j0 k a0 a1 bt188.1 (decide ((wrap64 (100 * (wrap64 (bt188.1 - 1)))) ≥ (wrap64 (a0 * (wrap64 (100 + a1)))))) a2_0 a2_1) else (hopperlaw01_SatRaises.j0 k a0 a1 bt188.1 false a2_0 a2_1))))) else (if bt188.1 = 0 then ((hopperlaw01_live.f k).bind fun t190 => (some t190)) else (none)))
theorem hopperlaw01_SatRaises.mono_l : ∀ k, (∀ y0 y1 y2 y3 y4 y5, LeO (hopperlaw01_SatRaises.j0 k y0 y1 y2 y3 y4 y5) (hopperlaw01_SatRaises.j0 (k + 1) y0 y1 y2 y3 y4 y5)) ∧ (∀ y0 y1 y2 y3 y4 y5, LeO (hopperlaw01_SatRaises.j1 k y0 y1 y2 y3 y4 y5) (hopperlaw01_SatRaises.j1 (k + 1) y0 y1 y2 y3 y4 y5))
  | 0 => ⟨fun _ _ _ _ _ _ r h => by simp [hopperlaw01_SatRaises.j0] at h, fun _ _ _ _ _ _ r h => by simp [hopperlaw01_SatRaises.j1] at h⟩
  | k + 1 => by
    obtain ⟨ih0, ih1⟩ := hopperlaw01_SatRaises.mono_l k
    refine ⟨?_, ?_⟩
    · intro y0 y1 y2 y3 y4 y5
      unfold hopperlaw01_SatRaises.j0
      repeat' first
      | (with_reducible exact ih0 _ _ _ _ _ _)
      | (with_reducible exact ih1 _ _ _ _ _ _)
      | (with_reducible exact hopperlaw01_live.mono _)
      | (with_reducible exact sat_Raise.mono _ _ _)
      | (with_reducible exact LeO.refl _)
      | (with_reducible exact LeO.none _)
      | (with_reducible refine LeO.ite ?_ ?_)
      | (with_reducible refine LeO.bind ?_ (fun _ => ?_))
      | exact ih0 _ _ _ _ _ _
      | exact ih1 _ _ _ _ _ _
      | exact hopperlaw01_live.mono _
      | exact sat_Raise.mono _ _ _
      | exact LeO.none _
      | refine LeO.ite ?_ ?_
      | refine LeO.bind ?_ (fun _ => ?_)
    · intro y0 y1 y2 y3 y4 y5
      unfold hopperlaw01_SatRaises.j1
      repeat' first
      | (with_reducible exact ih0 _ _ _ _ _ _)
      | (with_reducible exact ih1 _ _ _ _ _ _)
      | (with_reducible exact hopperlaw01_live.mono _)
      | (with_reducible exact sat_Raise.mono _ _ _)
      | (with_reducible exact LeO.refl _)
      | (with_reducible exact LeO.none _)
      | (with_reducible refine LeO.ite ?_ ?_)
      | (with_reducible refine LeO.bind ?_ (fun _ => ?_))
      | exact ih0 _ _ _ _ _ _
      | exact ih1 _ _ _ _ _ _
      | exact hopperlaw01_live.mono _
      | exact sat_Raise.mono _ _ _
      | exact LeO.none _
      | refine LeO.ite ?_ ?_
      | refine LeO.bind ?_ (fun _ => ?_)
theorem hopperlaw01_SatRaises.mono : ∀ a0 a1 a2 a3 k, LeO (hopperlaw01_SatRaises.f k a0 a1 a2 a3) (hopperlaw01_SatRaises.f (k + 1) a0 a1 a2 a3) := by
  intro a0 a1 a2 a3 k
  obtain ⟨ih0, ih1⟩ := hopperlaw01_SatRaises.mono_l k
  unfold hopperlaw01_SatRaises.f
  repeat' first
      | (with_reducible exact ih0 _ _ _ _ _ _)
      | (with_reducible exact ih1 _ _ _ _ _ _)
      | (with_reducible exact hopperlaw01_live.mono _)
      | (with_reducible exact sat_Raise.mono _ _ _)
      | (with_reducible exact LeO.refl _)
      | (with_reducible exact LeO.none _)
      | (with_reducible refine LeO.ite ?_ ?_)
      | (with_reducible refine LeO.bind ?_ (fun _ => ?_))
      | exact ih0 _ _ _ _ _ _
      | exact ih1 _ _ _ _ _ _
      | exact hopperlaw01_live.mono _
      | exact sat_Raise.mono _ _ _
      | exact LeO.none _
      | refine LeO.ite ?_ ?_
      | refine LeO.bind ?_ (fun _ => ?_)
set_option maxHeartbeats 8000000 in
set_option maxRecDepth 100000 in
theorem hopperlaw01_SatRaises.calls (k : Nat) (a0 : Int) (a1 : Int) (a2_0 : Int) (a2_1 : Int) (r : Bool) (w : World) (h : hopperlaw01_SatRaises.f k a0 a1 a2_0 a2_1 = some r) :
    Calls Try.prog 6 #[.int .i64 a0, .int .i64 a1, .agg #[.int .i64 a2_0, .int .i64 a2_1]] w fun e w' => e = .returned (.bool r) ∧ Below w.heap.size w w' := by
  have hu29 := Try.underlying29
  have HB := Aside0.mk (Below.refl w.heap.size w)
  have H : ((sat_Raise.f k a0 a1).bind fun bt188 => (if bt188.2 = true then (if bt188.1 ≤ a0 then (hopperlaw01_SatRaises.j0 k a0 a1 bt188.1 true a2_0 a2_1) else (if bt188.1 > 1099511627776 then (hopperlaw01_SatRaises.j0 k a0 a1 bt188.1 true a2_0 a2_1) else (if (wrap64 (100 * bt188.1)) < (wrap64 (a0 * (wrap64 (100 + a1)))) then (hopperlaw01_SatRaises.j0 k a0 a1 bt188.1 true a2_0 a2_1) else (if bt188.1 > (wrap64 (a0 + 1)) then (hopperlaw01_SatRaises.j0 k a0 a1 bt188.1 (decide ((wrap64 (100 * (wrap64 (bt188.1 - 1)))) ≥ (wrap64 (a0 * (wrap64 (100 + a1)))))) a2_0 a2_1) else (hopperlaw01_SatRaises.j0 k a0 a1 bt188.1 false a2_0 a2_1))))) else (if bt188.1 = 0 then ((hopperlaw01_live.f k).bind fun t190 => (some t190)) else (none)))) = some r := h
  clear h
  replace H := Option.bind_eq_some_iff.mp H
  obtain ⟨⟨t188, t189⟩, A40, H⟩ := H
  replace H : (if t189 = true then (if t188 ≤ a0 then (hopperlaw01_SatRaises.j0 k a0 a1 t188 true a2_0 a2_1) else (if t188 > 1099511627776 then (hopperlaw01_SatRaises.j0 k a0 a1 t188 true a2_0 a2_1) else (if (wrap64 (100 * t188)) < (wrap64 (a0 * (wrap64 (100 + a1)))) then (hopperlaw01_SatRaises.j0 k a0 a1 t188 true a2_0 a2_1) else (if t188 > (wrap64 (a0 + 1)) then (hopperlaw01_SatRaises.j0 k a0 a1 t188 (decide ((wrap64 (100 * (wrap64 (t188 - 1)))) ≥ (wrap64 (a0 * (wrap64 (100 + a1)))))) a2_0 a2_1) else (hopperlaw01_SatRaises.j0 k a0 a1 t188 false a2_0 a2_1))))) else (if t188 = 0 then ((hopperlaw01_live.f k).bind fun t190 => (some t190)) else (none))) = some r := H
  have A4 := Aside0.mk A40
  clear A40
  by_cases c5 : t189 = true
  · subst c5
    have H1 : (if t188 ≤ a0 then (hopperlaw01_SatRaises.j0 k a0 a1 t188 true a2_0 a2_1) else (if t188 > 1099511627776 then (hopperlaw01_SatRaises.j0 k a0 a1 t188 true a2_0 a2_1) else (if (wrap64 (100 * t188)) < (wrap64 (a0 * (wrap64 (100 + a1)))) then (hopperlaw01_SatRaises.j0 k a0 a1 t188 true a2_0 a2_1) else (if t188 > (wrap64 (a0 + 1)) then (hopperlaw01_SatRaises.j0 k a0 a1 t188 (decide ((wrap64 (100 * (wrap64 (t188 - 1)))) ≥ (wrap64 (a0 * (wrap64 (100 + a1)))))) a2_0 a2_1) else (hopperlaw01_SatRaises.j0 k a0 a1 t188 false a2_0 a2_1))))) = some r := by rw [if_pos rfl] at H; exact H
    clear H
    have H := H1
    clear H1
    have HC6 := Aside0.mk H
    clear H
    go_enter Try.func6, Try.ntmps6
    go_upto_region 4 with (first | ((with_reducible refine gate_dst (N := 5) rfl ?_); refine box_event ?hg (N := 5) ?hd (cs := #[.int .i64 a2_0, .int .i64 a2_1]) (t := 29) ?hr ?_; (case hd => rfl); (case hg => rfl); (case hr => first | (go_simp; done) | (go_simp; rfl)); intro gb187 hg w7 hbox hb; have n0_ := Aside0.mk (below_step (by repeat (first | (with_reducible first | exact HB.out | apply below_alloc | apply pw_below_drewN | apply below_drew1) | exact HB.out)) hb); have n1_ := Aside0.mk (hbox); have n2_ := Aside0.mk ((by rw [hg]; exact (below_size (by repeat (first | (with_reducible first | exact HB.out | apply below_alloc | apply pw_below_drewN | apply below_drew1) | exact HB.out))) : w.heap.size ≤ gb187)); have n3_ := Aside0.mk ((by rw [hg]; exact (below_size (by repeat (first | (with_reducible first | exact HB.out | apply below_alloc | apply pw_below_drewN | apply below_drew1) | exact HB.out))) : w.heap.size ≤ gb187)); clear HB; have HB := n0_; have BK187 := n1_; have GW187 := n2_; have GE187 := n3_; clear n0_ n1_ n2_ n3_; clear hb hbox hg) | ((with_reducible refine gate_callee (f := 19) rfl ?_); refine goesL_ (some 14) rfl rfl Try.func19 (by kernel_rfl) rfl #[.int .i64 a0, .int .i64 a1] rfl (by (try simp only [List.map_toArray, List.map_cons, List.map_nil]); first | done | rfl | (simp only [List.length_drop, List.length_take]; rfl)) ?_; (with_reducible refine (sat_Raise.calls k a0 a1 t188 true _ A4.out).mono ?_); rintro e w' ⟨rfl, ⟨nd, rfl⟩⟩; refine ⟨_, rfl, ?_⟩))
    (try simp only [Act.put, List.setIfInBounds_toArray, List.set_cons_zero, List.set_cons_succ])
    go_cut [55] (fun v55 wc => ∃ (kq : Nat) (x55_5 : Bool), v55 = .bool x55_5 ∧ Aside0 (hopperlaw01_SatRaises.j0 kq a0 a1 t188 x55_5 a2_0 a2_1 = some r) ∧ Aside0 (kq ≤ k) ∧ Aside0 (wc.heap[gb187]? = some (.cells #[.int .i64 a2_0, .int .i64 a2_1] 29 (0, 0))) ∧ Aside0 (Below w.heap.size w wc))
    case first =>
      have H := HC6.out
      clear HC6
      by_cases c8 : t188 ≤ a0
      · rw [if_pos c8] at H
        have c8b0 : decide (t188 ≤ a0) = true := decide_eq_true c8
        clear c8
        (first | rw [c8b0] | (simp only [i64_w, i32_w]; rw [c8b0]) | skip)
        have H' := Aside0.mk H
        clear H
        go_wp2
        go_meet
        case rel => exact ⟨_, (true), (by first | rfl | (simp; done) | (simp [*]; done)), H', ⟨by first | omega | exact Nat.le_refl _⟩, ⟨by (with_reducible repeat (first | refine blk_drewN ?_ _ | refine blk_drew ?_ | refine blk_alloc ?_ _)); exact BK187.out⟩, ⟨by repeat (first | (with_reducible first | exact HB.out | apply below_alloc | apply pw_below_drewN | apply below_drew1 | refine below_set ?_ GE187.out) | exact HB.out)⟩⟩
      · rw [if_neg c8] at H
        have c8b0 : decide (t188 ≤ a0) = false := decide_eq_false c8
        clear c8
        (first | rw [c8b0] | (simp only [i64_w, i32_w]; rw [c8b0]) | skip)
        by_cases c9 : t188 > 1099511627776
        · rw [if_pos c9] at H
          have c9b0 : decide (1099511627776 < t188) = true := decide_eq_true c9
          clear c9
          have H' := Aside0.mk H
          clear H
          go_wp2
          go_meet
          case rel => exact ⟨_, (true), (by first | rfl | (simp; done) | (simp [*]; done)), H', ⟨by first | omega | exact Nat.le_refl _⟩, ⟨by (with_reducible repeat (first | refine blk_drewN ?_ _ | refine blk_drew ?_ | refine blk_alloc ?_ _)); exact BK187.out⟩, ⟨by repeat (first | (with_reducible first | exact HB.out | apply below_alloc | apply pw_below_drewN | apply below_drew1 | refine below_set ?_ GE187.out) | exact HB.out)⟩⟩
        · rw [if_neg c9] at H
          have c9b0 : decide (1099511627776 < t188) = false := decide_eq_false c9
          clear c9
          by_cases c10 : (wrap64 (100 * t188)) < (wrap64 (a0 * (wrap64 (100 + a1))))
          · rw [if_pos c10] at H
            have c10b0 : decide ((wrap64 (100 * t188)) < (wrap64 (a0 * (wrap64 (100 + a1))))) = true := decide_eq_true c10
            clear c10
            have H' := Aside0.mk H
            clear H
            go_wp2
            go_meet
            case rel => exact ⟨_, (true), (by first | rfl | (simp; done) | (simp [*]; done)), H', ⟨by first | omega | exact Nat.le_refl _⟩, ⟨by (with_reducible repeat (first | refine blk_drewN ?_ _ | refine blk_drew ?_ | refine blk_alloc ?_ _)); exact BK187.out⟩, ⟨by repeat (first | (with_reducible first | exact HB.out | apply below_alloc | apply pw_below_drewN | apply below_drew1 | refine below_set ?_ GE187.out) | exact HB.out)⟩⟩
          · rw [if_neg c10] at H
            have c10b0 : decide ((wrap64 (100 * t188)) < (wrap64 (a0 * (wrap64 (100 + a1))))) = false := decide_eq_false c10
            clear c10
            by_cases c11 : t188 > (wrap64 (a0 + 1))
            · rw [if_pos c11] at H
              have c11b0 : decide ((wrap64 (a0 + 1)) < t188) = true := decide_eq_true c11
              clear c11
              have H' := Aside0.mk H
              clear H
              go_wp2
              go_meet
              case rel => exact ⟨_, (decide ((wrap64 (100 * (wrap64 (t188 - 1)))) ≥ (wrap64 (a0 * (wrap64 (100 + a1)))))), (by first | rfl | (simp; done) | (simp [*]; done)), H', ⟨by first | omega | exact Nat.le_refl _⟩, ⟨by (with_reducible repeat (first | refine blk_drewN ?_ _ | refine blk_drew ?_ | refine blk_alloc ?_ _)); exact BK187.out⟩, ⟨by repeat (first | (with_reducible first | exact HB.out | apply below_alloc | apply pw_below_drewN | apply below_drew1 | refine below_set ?_ GE187.out) | exact HB.out)⟩⟩
            · rw [if_neg c11] at H
              have c11b0 : decide ((wrap64 (a0 + 1)) < t188) = false := decide_eq_false c11
              clear c11
              have H' := Aside0.mk H
              clear H
              go_wp2
              go_meet
              case rel => exact ⟨_, (false), (by first | rfl | (simp; done) | (simp [*]; done)), H', ⟨by first | omega | exact Nat.le_refl _⟩, ⟨by (with_reducible repeat (first | refine blk_drewN ?_ _ | refine blk_drew ?_ | refine blk_alloc ?_ _)); exact BK187.out⟩, ⟨by repeat (first | (with_reducible first | exact HB.out | apply below_alloc | apply pw_below_drewN | apply below_drew1 | refine below_set ?_ GE187.out) | exact HB.out)⟩⟩
    case rest =>
      clear HC6
      try clear c1
      try clear p2
      try clear c5
      try clear c6
      try clear p6
      try clear c8
      try clear c8b0
      try clear c9
      try clear c9b0
      try clear c10
      try clear c10b0
      try clear c11
      try clear c11b0
      obtain ⟨kq, x55_5, rfl, HA, HJ5, BK187, HB⟩ := hcut
      cases kq with
      | zero => exact absurd HA.out (by simp [hopperlaw01_SatRaises.j0])
      | succ kj5 =>
        have H := HA.out
        clear HA
        simp only [hopperlaw01_SatRaises.j0] at H
        by_cases c12 : x55_5 = true
        · subst c12
          have H1 : (none) = some r := by rw [if_pos rfl] at H; exact H
          clear H
          have H := H1
          clear H1
          exact absurd H (by simp)
        · replace c12 := Bool.eq_false_iff.mpr c12
          subst c12
          have H1 : (if a2_0 < 0 then (hopperlaw01_SatRaises.j1 kj5 a0 a1 t188 true a2_0 a2_1) else (if a2_0 > a0 then (hopperlaw01_SatRaises.j1 kj5 a0 a1 t188 true a2_0 a2_1) else (if a2_1 < 0 then (hopperlaw01_SatRaises.j1 kj5 a0 a1 t188 true a2_0 a2_1) else (hopperlaw01_SatRaises.j1 kj5 a0 a1 t188 (decide (a2_1 > a1)) a2_0 a2_1)))) = some r := by rw [if_neg (show ¬ (false = true) by decide)] at H; exact H
          clear H
          have H := H1
          clear H1
          have HC13 := Aside0.mk H
          clear H
          go_upto_region 6 with (fail)
          go_cut [75] (fun v75 wc => ∃ (kq : Nat) (x75_12 : Bool), v75 = .bool x75_12 ∧ Aside0 (hopperlaw01_SatRaises.j1 kq a0 a1 t188 x75_12 a2_0 a2_1 = some r) ∧ Aside0 (kq ≤ kj5) ∧ Aside0 (wc.heap[gb187]? = some (.cells #[.int .i64 a2_0, .int .i64 a2_1] 29 (0, 0))) ∧ Aside0 (Below w.heap.size w wc))
          case first =>
            have H := HC13.out
            clear HC13
            by_cases c14 : a2_0 < 0
            · rw [if_pos c14] at H
              have c14b0 : decide (a2_0 < 0) = true := decide_eq_true c14
              clear c14
              (first | rw [c14b0] | (simp only [i64_w, i32_w]; rw [c14b0]) | skip)
              have H' := Aside0.mk H
              clear H
              have hcz15_0 : wc.cell? ⟨gb187, 0, none⟩ = some (.int .i64 a2_0) := (blk_cell BK187.out 0).trans rfl
              have hcz15_1 : wc.cell? ⟨gb187, 1, none⟩ = some (.int .i64 a2_1) := (blk_cell BK187.out 1).trans rfl
              have hfz15_0 := blk_frozen BK187.out 0
              have hfz15_1 := blk_frozen BK187.out 1
              go_wp2
              go_meet
              case rel => exact ⟨_, (true), (by first | rfl | (simp; done) | (simp [*]; done)), H', ⟨by have := HJ5.out; first | omega | exact Nat.le_refl _⟩, ⟨by (with_reducible repeat (first | refine blk_drewN ?_ _ | refine blk_drew ?_ | refine blk_alloc ?_ _)); exact BK187.out⟩, ⟨by repeat (first | (with_reducible first | exact HB.out | apply below_alloc | apply pw_below_drewN | apply below_drew1 | refine below_set ?_ GE187.out) | exact HB.out)⟩⟩
            · rw [if_neg c14] at H
              have c14b0 : decide (a2_0 < 0) = false := decide_eq_false c14
              clear c14
              (first | rw [c14b0] | (simp only [i64_w, i32_w]; rw [c14b0]) | skip)
              by_cases c16 : a2_0 > a0
              · rw [if_pos c16] at H
                have c16b0 : decide (a0 < a2_0) = true := decide_eq_true c16
                clear c16
                have H' := Aside0.mk H
                clear H
                have hcz17_0 : wc.cell? ⟨gb187, 0, none⟩ = some (.int .i64 a2_0) := (blk_cell BK187.out 0).trans rfl
                have hcz17_1 : wc.cell? ⟨gb187, 1, none⟩ = some (.int .i64 a2_1) := (blk_cell BK187.out 1).trans rfl
                have hfz17_0 := blk_frozen BK187.out 0
                have hfz17_1 := blk_frozen BK187.out 1
                go_wp2
                go_meet
                case rel => exact ⟨_, (true), (by first | rfl | (simp; done) | (simp [*]; done)), H', ⟨by have := HJ5.out; first | omega | exact Nat.le_refl _⟩, ⟨by (with_reducible repeat (first | refine blk_drewN ?_ _ | refine blk_drew ?_ | refine blk_alloc ?_ _)); exact BK187.out⟩, ⟨by repeat (first | (with_reducible first | exact HB.out | apply below_alloc | apply pw_below_drewN | apply below_drew1 | refine below_set ?_ GE187.out) | exact HB.out)⟩⟩
              · rw [if_neg c16] at H
                have c16b0 : decide (a0 < a2_0) = false := decide_eq_false c16
                clear c16
                by_cases c18 : a2_1 < 0
                · rw [if_pos c18] at H
                  have c18b0 : decide (a2_1 < 0) = true := decide_eq_true c18
                  clear c18
                  have H' := Aside0.mk H
                  clear H
                  have hcz19_0 : wc.cell? ⟨gb187, 0, none⟩ = some (.int .i64 a2_0) := (blk_cell BK187.out 0).trans rfl
                  have hcz19_1 : wc.cell? ⟨gb187, 1, none⟩ = some (.int .i64 a2_1) := (blk_cell BK187.out 1).trans rfl
                  have hfz19_0 := blk_frozen BK187.out 0
                  have hfz19_1 := blk_frozen BK187.out 1
                  go_wp2
                  go_meet
                  case rel => exact ⟨_, (true), (by first | rfl | (simp; done) | (simp [*]; done)), H', ⟨by have := HJ5.out; first | omega | exact Nat.le_refl _⟩, ⟨by (with_reducible repeat (first | refine blk_drewN ?_ _ | refine blk_drew ?_ | refine blk_alloc ?_ _)); exact BK187.out⟩, ⟨by repeat (first | (with_reducible first | exact HB.out | apply below_alloc | apply pw_below_drewN | apply below_drew1 | refine below_set ?_ GE187.out) | exact HB.out)⟩⟩
                · rw [if_neg c18] at H
                  have c18b0 : decide (a2_1 < 0) = false := decide_eq_false c18
                  clear c18
                  have H' := Aside0.mk H
                  clear H
                  have hcz20_0 : wc.cell? ⟨gb187, 0, none⟩ = some (.int .i64 a2_0) := (blk_cell BK187.out 0).trans rfl
                  have hcz20_1 : wc.cell? ⟨gb187, 1, none⟩ = some (.int .i64 a2_1) := (blk_cell BK187.out 1).trans rfl
                  have hfz20_0 := blk_frozen BK187.out 0
                  have hfz20_1 := blk_frozen BK187.out 1
                  go_wp2
                  go_meet
                  case rel => exact ⟨_, (decide (a2_1 > a1)), (by first | rfl | (simp; done) | (simp [*]; done)), H', ⟨by have := HJ5.out; first | omega | exact Nat.le_refl _⟩, ⟨by (with_reducible repeat (first | refine blk_drewN ?_ _ | refine blk_drew ?_ | refine blk_alloc ?_ _)); exact BK187.out⟩, ⟨by repeat (first | (with_reducible first | exact HB.out | apply below_alloc | apply pw_below_drewN | apply below_drew1 | refine below_set ?_ GE187.out) | exact HB.out)⟩⟩
          case rest =>
            clear HC13
            try clear c1
            try clear p2
            try clear c5
            try clear c6
            try clear p6
            try clear c8
            try clear c8b0
            try clear c9
            try clear c9b0
            try clear c10
            try clear c10b0
            try clear c11
            try clear c11b0
            try clear c12
            try clear c14
            try clear c14b0
            try clear c16
            try clear c16b0
            try clear c18
            try clear c18b0
            try clear c19
            try clear hcz15_0
            try clear hcz15_1
            try clear hcz17_0
            try clear hcz17_1
            try clear hcz19_0
            try clear hcz19_1
            try clear hcz20_0
            try clear hcz20_1
            try clear hfz15_0
            try clear hfz15_1
            try clear hfz17_0
            try clear hfz17_1
            try clear hfz19_0
            try clear hfz19_1
            try clear hfz20_0
            try clear hfz20_1
            try clear p2
            try clear p6
            obtain ⟨kq, x75_12, rfl, HA, HJ12, BK187, HB⟩ := hcut
            cases kq with
            | zero => exact absurd HA.out (by simp [hopperlaw01_SatRaises.j1])
            | succ kj12 =>
              have H := HA.out
              clear HA
              simp only [hopperlaw01_SatRaises.j1] at H
              by_cases c21 : x75_12 = true
              · subst c21
                have H1 : ((hopperlaw01_live.f kj12).bind fun t191 => (some t191)) = some r := by rw [if_pos rfl] at H; exact H
                clear H
                have H := H1
                clear H1
                replace H := Option.bind_eq_some_iff.mp H
                obtain ⟨t191, A220, H⟩ := H
                replace H : (some t191) = some r := H
                have A22 := Aside0.mk A220
                clear A220
                obtain rfl := Option.some.inj H
                go_wp2_with (first | ((with_reducible refine gate_callee (f := 23) rfl ?_); refine goesL_ (some 76) rfl rfl Try.func23 (by kernel_rfl) rfl #[] rfl (by (try simp only [List.map_toArray, List.map_cons, List.map_nil]); first | done | rfl | (simp only [List.length_drop, List.length_take]; rfl)) ?_; (with_reducible refine (hopperlaw01_live.calls kj12  t191 _ A22.out).mono ?_); rintro e w23 ⟨rfl, hb⟩; refine ⟨_, rfl, ?_⟩; have n0_ := Aside0.mk (blk_below (g := gb187) (o := .cells #[.int .i64 a2_0, .int .i64 a2_1] 29 (0, 0)) (by (with_reducible repeat (first | refine blk_drewN ?_ _ | refine blk_drew ?_ | refine blk_alloc ?_ _)); exact BK187.out) hb); have n1_ := Aside0.mk (below_step (by repeat (first | (with_reducible first | exact HB.out | apply below_alloc | apply pw_below_drewN | apply below_drew1 | refine below_set ?_ GE187.out) | exact HB.out)) hb); clear BK187; clear HB; have BK187 := n0_; have HB := n1_; clear n0_ n1_; (try clear hb); (try clear hb2); (try clear hk); (try clear hi)))
                go_ret
                exact ⟨by first | rfl | (simp [errW_none, errW_some] <;> rfl) | (simp [*, errW_none, errW_some] <;> rfl), by repeat (first | (with_reducible first | exact HB.out | apply below_alloc | apply pw_below_drewN | apply below_drew1 | refine below_set ?_ GE187.out) | exact HB.out)⟩
              · replace c21 := Bool.eq_false_iff.mpr c21
                subst c21
                have H1 : ((sat_Raise.f kj12 (wrap64 (a0 - a2_0)) (wrap64 (a1 - a2_1))).bind fun bt192 => (if bt192.2 = true then (if bt192.1 ≤ t188 then ((hopperlaw01_live.f kj12).bind fun t194 => (some t194)) else (none)) else (none))) = some r := by rw [if_neg (show ¬ (false = true) by decide)] at H; exact H
                clear H
                have H := H1
                clear H1
                replace H := Option.bind_eq_some_iff.mp H
                obtain ⟨⟨t192, t193⟩, A240, H⟩ := H
                replace H : (if t193 = true then (if t192 ≤ t188 then ((hopperlaw01_live.f kj12).bind fun t194 => (some t194)) else (none)) else (none)) = some r := H
                have A24 := Aside0.mk A240
                clear A240
                by_cases c25 : t193 = true
                · subst c25
                  have H1 : (if t192 ≤ t188 then ((hopperlaw01_live.f kj12).bind fun t194 => (some t194)) else (none)) = some r := by rw [if_pos rfl] at H; exact H
                  clear H
                  have H := H1
                  clear H1
                  by_cases c26 : t192 ≤ t188
                  · rw [if_pos c26] at H
                    have c26b0 : decide (t192 ≤ t188) = true := decide_eq_true c26
                    clear c26
                    replace H := Option.bind_eq_some_iff.mp H
                    obtain ⟨t194, A270, H⟩ := H
                    replace H : (some t194) = some r := H
                    have A27 := Aside0.mk A270
                    clear A270
                    obtain rfl := Option.some.inj H
                    have hcz28_0 : wc.cell? ⟨gb187, 0, none⟩ = some (.int .i64 a2_0) := (blk_cell BK187.out 0).trans rfl
                    have hcz28_1 : wc.cell? ⟨gb187, 1, none⟩ = some (.int .i64 a2_1) := (blk_cell BK187.out 1).trans rfl
                    have hfz28_0 := blk_frozen BK187.out 0
                    have hfz28_1 := blk_frozen BK187.out 1
                    go_wp2_with (first | ((with_reducible refine gate_callee (f := 19) rfl ?_); refine goesL_ (some 86) rfl rfl Try.func19 (by kernel_rfl) rfl #[.int .i64 (wrap64 (a0 - a2_0)), .int .i64 (wrap64 (a1 - a2_1))] rfl (by (try simp only [List.map_toArray, List.map_cons, List.map_nil]); first | done | rfl | (simp only [List.length_drop, List.length_take]; rfl)) ?_; (with_reducible refine (sat_Raise.calls kj12 (wrap64 (a0 - a2_0)) (wrap64 (a1 - a2_1)) t192 true _ A24.out).mono ?_); rintro e w' ⟨rfl, ⟨nd, rfl⟩⟩; refine ⟨_, rfl, ?_⟩) | (go_at_call 23; (with_reducible refine (hopperlaw01_live.calls kj12  t194 _ A27.out).mono ?_); rintro e w29 ⟨rfl, hb⟩; have n0_ := Aside0.mk (blk_below (g := gb187) (o := .cells #[.int .i64 a2_0, .int .i64 a2_1] 29 (0, 0)) (by (with_reducible repeat (first | refine blk_drewN ?_ _ | refine blk_drew ?_ | refine blk_alloc ?_ _)); exact BK187.out) hb); have n1_ := Aside0.mk (below_step (by repeat (first | (with_reducible first | exact HB.out | apply below_alloc | apply pw_below_drewN | apply below_drew1 | refine below_set ?_ GE187.out) | exact HB.out)) hb); clear BK187; clear HB; have BK187 := n0_; have HB := n1_; clear n0_ n1_; (try clear hb); (try clear hb2); (try clear hk); (try clear hi)))
                    go_ret
                    exact ⟨by first | rfl | (simp [errW_none, errW_some] <;> rfl) | (simp [*, errW_none, errW_some] <;> rfl), by repeat (first | (with_reducible first | exact HB.out | apply below_alloc | apply pw_below_drewN | apply below_drew1 | refine below_set ?_ GE187.out) | exact HB.out)⟩
                  · rw [if_neg c26] at H
                    exact absurd H (by simp)
                · replace c25 := Bool.eq_false_iff.mpr c25
                  subst c25
                  have H1 : (none) = some r := by rw [if_neg (show ¬ (false = true) by decide)] at H; exact H
                  clear H
                  have H := H1
                  clear H1
                  exact absurd H (by simp)
  · replace c5 := Bool.eq_false_iff.mpr c5
    subst c5
    have H1 : (if t188 = 0 then ((hopperlaw01_live.f k).bind fun t190 => (some t190)) else (none)) = some r := by rw [if_neg (show ¬ (false = true) by decide)] at H; exact H
    clear H
    have H := H1
    clear H1
    by_cases c30 : t188 = 0
    · rw [if_pos c30] at H
      have c30b0 : (t188 == 0) = true := beq_iff_eq.mpr c30
      have c30b1 : (t188 != 0) = false := bne_eq_false_iff_eq.mpr c30
      clear c30
      replace H := Option.bind_eq_some_iff.mp H
      obtain ⟨t190, A310, H⟩ := H
      replace H : (some t190) = some r := H
      have A31 := Aside0.mk A310
      clear A310
      obtain rfl := Option.some.inj H
      go_enter Try.func6, Try.ntmps6
      go_wp2_with (first | ((with_reducible refine gate_dst (N := 5) rfl ?_); refine box_event ?hg (N := 5) ?hd (cs := #[.int .i64 a2_0, .int .i64 a2_1]) (t := 29) ?hr ?_; (case hd => rfl); (case hg => rfl); (case hr => first | (go_simp; done) | (go_simp; rfl)); intro gb187 hg w32 hbox hb; have n0_ := Aside0.mk (below_step (by repeat (first | (with_reducible first | exact HB.out | apply below_alloc | apply pw_below_drewN | apply below_drew1) | exact HB.out)) hb); have n1_ := Aside0.mk (hbox); have n2_ := Aside0.mk ((by rw [hg]; exact (below_size (by repeat (first | (with_reducible first | exact HB.out | apply below_alloc | apply pw_below_drewN | apply below_drew1) | exact HB.out))) : w.heap.size ≤ gb187)); have n3_ := Aside0.mk ((by rw [hg]; exact (below_size (by repeat (first | (with_reducible first | exact HB.out | apply below_alloc | apply pw_below_drewN | apply below_drew1) | exact HB.out))) : w.heap.size ≤ gb187)); clear HB; have HB := n0_; have BK187 := n1_; have GW187 := n2_; have GE187 := n3_; clear n0_ n1_ n2_ n3_; clear hb hbox hg) | ((with_reducible refine gate_callee (f := 19) rfl ?_); refine goesL_ (some 14) rfl rfl Try.func19 (by kernel_rfl) rfl #[.int .i64 a0, .int .i64 a1] rfl (by (try simp only [List.map_toArray, List.map_cons, List.map_nil]); first | done | rfl | (simp only [List.length_drop, List.length_take]; rfl)) ?_; (with_reducible refine (sat_Raise.calls k a0 a1 t188 false _ A4.out).mono ?_); rintro e w' ⟨rfl, ⟨nd, rfl⟩⟩; refine ⟨_, rfl, ?_⟩) | (go_at_call 23; (with_reducible refine (hopperlaw01_live.calls k  t190 _ A31.out).mono ?_); rintro e w33 ⟨rfl, hb⟩; have n0_ := Aside0.mk (blk_below (g := gb187) (o := .cells #[.int .i64 a2_0, .int .i64 a2_1] 29 (0, 0)) (by (with_reducible repeat (first | refine blk_drewN ?_ _ | refine blk_drew ?_ | refine blk_alloc ?_ _)); exact BK187.out) hb); have n1_ := Aside0.mk (below_step (by repeat (first | (with_reducible first | exact HB.out | apply below_alloc | apply pw_below_drewN | apply below_drew1 | refine below_set ?_ GE187.out) | exact HB.out)) hb); clear BK187; clear HB; have BK187 := n0_; have HB := n1_; clear n0_ n1_; (try clear hb); (try clear hb2); (try clear hk); (try clear hi)))
      go_ret
      exact ⟨by first | rfl | (simp [errW_none, errW_some] <;> rfl) | (simp [*, errW_none, errW_some] <;> rfl), by repeat (first | (with_reducible first | exact HB.out | apply below_alloc | apply pw_below_drewN | apply below_drew1 | refine below_set ?_ GE187.out) | exact HB.out)⟩
    · rw [if_neg c30] at H
      exact absurd H (by simp)

open Go.Proofs.Ytfpomamhcjkoeaa.Row (okI okB okS okL) in
/-- THE ONE PURE STATEMENT of hopperlaw01_SatRaises. -/
def hopperlaw01_SatRaises.Pure : Prop := ∀ (a0 : Int) (a1 : Int) (a2_0 : Int) (a2_1 : Int), (okI .i64) a0 → (okI .i64) a1 → ok29 (⟨a2_0, a2_1⟩ : S29) → ∃ k, hopperlaw01_SatRaises.f k a0 a1 a2_0 a2_1 = some true

/-! ### hopperlaw01_SatBounds: function 7 -/
def hopperlaw01_SatBounds.f (k : Nat) (a0 : Int) (a1 : Int) (a2 : Int) : Option (Bool) := (sat_Add.f a0 a1 a2).bind fun bt195 => ((sat_Mul.f k a0 a1 a2).bind fun bt197 => (if bt195.2 = true then (if bt197.2 = true then (if bt195.1 < a0 then (none) else (if bt195.1 < a1 then (none) else (if bt195.1 > a2 then (none) else (if (wrap64 (bt195.1 - a0)) = a1 then (if bt197.1 ≥ 0 then (if bt197.1 ≤ a2 then (if a0 = 0 then ((hopperlaw01_live.f k).bind fun t199 => (some t199)) else (if a1 = 0 then ((hopperlaw01_live.f k).bind fun t200 => (some t200)) else (if bt197.1 ≥ a0 then (if bt197.1 ≥ a1 then (if (wrap64 (Int.tdiv bt197.1 a0)) = a1 then (if (Int.tmod bt197.1 a0) = 0 then ((hopperlaw01_live.f k).bind fun t201 => (some t201)) else (none)) else (none)) else (none)) else (none)))) else (none)) else (none)) else (none))))) else (if bt197.1 = 0 then (if bt195.1 < a0 then (none) else (if bt195.1 < a1 then (none) else (if bt195.1 > a2 then (none) else (if (wrap64 (bt195.1 - a0)) = a1 then ((hopperlaw01_live.f k).bind fun t202 => (some t202)) else (none))))) else (none))) else (if bt195.1 = 0 then (if bt197.2 = true then (if bt197.1 ≥ 0 then (if bt197.1 ≤ a2 then (if a0 = 0 then ((hopperlaw01_live.f k).bind fun t203 => (some t203)) else (if a1 = 0 then ((hopperlaw01_live.f k).bind fun t204 => (some t204)) else (if bt197.1 ≥ a0 then (if bt197.1 ≥ a1 then (if (wrap64 (Int.tdiv bt197.1 a0)) = a1 then (if (Int.tmod bt197.1 a0) = 0 then ((hopperlaw01_live.f k).bind fun t205 => (some t205)) else (none)) else (none)) else (none)) else (none)))) else (none)) else (none)) else (if bt197.1 = 0 then ((hopperlaw01_live.f k).bind fun t206 => (some t206)) else (none))) else (none))))
theorem hopperlaw01_SatBounds.mono : ∀ a0 a1 a2 k, LeO (hopperlaw01_SatBounds.f k a0 a1 a2) (hopperlaw01_SatBounds.f (k + 1) a0 a1 a2) := by
  intro a0 a1 a2 k
  unfold hopperlaw01_SatBounds.f
  repeat' first
      | (with_reducible exact hopperlaw01_live.mono _)
      | (with_reducible exact sat_Mul.mono _ _ _ _)
      | (with_reducible exact LeO.refl _)
      | (with_reducible exact LeO.none _)
      | (with_reducible refine LeO.ite ?_ ?_)
      | (with_reducible refine LeO.bind ?_ (fun _ => ?_))
      | exact hopperlaw01_live.mono _
      | exact sat_Mul.mono _ _ _ _
      | exact LeO.none _
      | refine LeO.ite ?_ ?_
      | refine LeO.bind ?_ (fun _ => ?_)
set_option maxHeartbeats 8000000 in
set_option maxRecDepth 100000 in
theorem hopperlaw01_SatBounds.calls (k : Nat) (a0 : Int) (a1 : Int) (a2 : Int) (r : Bool) (w : World) (h : hopperlaw01_SatBounds.f k a0 a1 a2 = some r) :
    Calls Try.prog 7 #[.int .i64 a0, .int .i64 a1, .int .i64 a2] w fun e w' => e = .returned (.bool r) ∧ Below w.heap.size w w' := by
  have HB := Aside0.mk (Below.refl w.heap.size w)
  have H : ((sat_Add.f a0 a1 a2).bind fun bt195 => ((sat_Mul.f k a0 a1 a2).bind fun bt197 => (if bt195.2 = true then (if bt197.2 = true then (if bt195.1 < a0 then (none) else (if bt195.1 < a1 then (none) else (if bt195.1 > a2 then (none) else (if (wrap64 (bt195.1 - a0)) = a1 then (if bt197.1 ≥ 0 then (if bt197.1 ≤ a2 then (if a0 = 0 then ((hopperlaw01_live.f k).bind fun t199 => (some t199)) else (if a1 = 0 then ((hopperlaw01_live.f k).bind fun t200 => (some t200)) else (if bt197.1 ≥ a0 then (if bt197.1 ≥ a1 then (if (wrap64 (Int.tdiv bt197.1 a0)) = a1 then (if (Int.tmod bt197.1 a0) = 0 then ((hopperlaw01_live.f k).bind fun t201 => (some t201)) else (none)) else (none)) else (none)) else (none)))) else (none)) else (none)) else (none))))) else (if bt197.1 = 0 then (if bt195.1 < a0 then (none) else (if bt195.1 < a1 then (none) else (if bt195.1 > a2 then (none) else (if (wrap64 (bt195.1 - a0)) = a1 then ((hopperlaw01_live.f k).bind fun t202 => (some t202)) else (none))))) else (none))) else (if bt195.1 = 0 then (if bt197.2 = true then (if bt197.1 ≥ 0 then (if bt197.1 ≤ a2 then (if a0 = 0 then ((hopperlaw01_live.f k).bind fun t203 => (some t203)) else (if a1 = 0 then ((hopperlaw01_live.f k).bind fun t204 => (some t204)) else (if bt197.1 ≥ a0 then (if bt197.1 ≥ a1 then (if (wrap64 (Int.tdiv bt197.1 a0)) = a1 then (if (Int.tmod bt197.1 a0) = 0 then ((hopperlaw01_live.f k).bind fun t205 => (some t205)) else (none)) else (none)) else (none)) else (none)))) else (none)) else (none)) else (if bt197.1 = 0 then ((hopperlaw01_live.f k).bind fun t206 => (some t206)) else (none))) else (none))))) = some r := h
  clear h
  replace H := Option.bind_eq_some_iff.mp H
  obtain ⟨⟨t195, t196⟩, A40, H⟩ := H
  replace H : ((sat_Mul.f k a0 a1 a2).bind fun bt197 => (if t196 = true then (if bt197.2 = true then (if t195 < a0 then (none) else (if t195 < a1 then (none) else (if t195 > a2 then (none) else (if (wrap64 (t195 - a0)) = a1 then (if bt197.1 ≥ 0 then (if bt197.1 ≤ a2 then (if a0 = 0 then ((hopperlaw01_live.f k).bind fun t199 => (some t199)) else (if a1 = 0 then ((hopperlaw01_live.f k).bind fun t200 => (some t200)) else (if bt197.1 ≥ a0 then (if bt197.1 ≥ a1 then (if (wrap64 (Int.tdiv bt197.1 a0)) = a1 then (if (Int.tmod bt197.1 a0) = 0 then ((hopperlaw01_live.f k).bind fun t201 => (some t201)) else (none)) else (none)) else (none)) else (none)))) else (none)) else (none)) else (none))))) else (if bt197.1 = 0 then (if t195 < a0 then (none) else (if t195 < a1 then (none) else (if t195 > a2 then (none) else (if (wrap64 (t195 - a0)) = a1 then ((hopperlaw01_live.f k).bind fun t202 => (some t202)) else (none))))) else (none))) else (if t195 = 0 then (if bt197.2 = true then (if bt197.1 ≥ 0 then (if bt197.1 ≤ a2 then (if a0 = 0 then ((hopperlaw01_live.f k).bind fun t203 => (some t203)) else (if a1 = 0 then ((hopperlaw01_live.f k).bind fun t204 => (some t204)) else (if bt197.1 ≥ a0 then (if bt197.1 ≥ a1 then (if (wrap64 (Int.tdiv bt197.1 a0)) = a1 then (if (Int.tmod bt197.1 a0) = 0 then ((hopperlaw01_live.f k).bind fun t205 => (some t205)) else (none)) else (none)) else (none)) else (none)))) else (none)) else (none)) else (if bt197.1 = 0 then ((hopperlaw01_live.f k).bind fun t206 => (some t206)) else (none))) else (none)))) = some r := H
  have A4 := Aside0.mk A40
  clear A40
  replace H := Option.bind_eq_some_iff.mp H
  obtain ⟨⟨t197, t198⟩, A50, H⟩ := H
  replace H : (if t196 = true then (if t198 = true then (if t195 < a0 then (none) else (if t195 < a1 then (none) else (if t195 > a2 then (none) else (if (wrap64 (t195 - a0)) = a1 then (if t197 ≥ 0 then (if t197 ≤ a2 then (if a0 = 0 then ((hopperlaw01_live.f k).bind fun t199 => (some t199)) else (if a1 = 0 then ((hopperlaw01_live.f k).bind fun t200 => (some t200)) else (if t197 ≥ a0 then (if t197 ≥ a1 then (if (wrap64 (Int.tdiv t197 a0)) = a1 then (if (Int.tmod t197 a0) = 0 then ((hopperlaw01_live.f k).bind fun t201 => (some t201)) else (none)) else (none)) else (none)) else (none)))) else (none)) else (none)) else (none))))) else (if t197 = 0 then (if t195 < a0 then (none) else (if t195 < a1 then (none) else (if t195 > a2 then (none) else (if (wrap64 (t195 - a0)) = a1 then ((hopperlaw01_live.f k).bind fun t202 => (some t202)) else (none))))) else (none))) else (if t195 = 0 then (if t198 = true then (if t197 ≥ 0 then (if t197 ≤ a2 then (if a0 = 0 then ((hopperlaw01_live.f k).bind fun t203 => (some t203)) else (if a1 = 0 then ((hopperlaw01_live.f k).bind fun t204 => (some t204)) else (if t197 ≥ a0 then (if t197 ≥ a1 then (if (wrap64 (Int.tdiv t197 a0)) = a1 then (if (Int.tmod t197 a0) = 0 then ((hopperlaw01_live.f k).bind fun t205 => (some t205)) else (none)) else (none)) else (none)) else (none)))) else (none)) else (none)) else (if t197 = 0 then ((hopperlaw01_live.f k).bind fun t206 => (some t206)) else (none))) else (none))) = some r := H
  have A5 := Aside0.mk A50
  clear A50
  by_cases c6 : t196 = true
  · subst c6
    have H1 : (if t198 = true then (if t195 < a0 then (none) else (if t195 < a1 then (none) else (if t195 > a2 then (none) else (if (wrap64 (t195 - a0)) = a1 then (if t197 ≥ 0 then (if t197 ≤ a2 then (if a0 = 0 then ((hopperlaw01_live.f k).bind fun t199 => (some t199)) else (if a1 = 0 then ((hopperlaw01_live.f k).bind fun t200 => (some t200)) else (if t197 ≥ a0 then (if t197 ≥ a1 then (if (wrap64 (Int.tdiv t197 a0)) = a1 then (if (Int.tmod t197 a0) = 0 then ((hopperlaw01_live.f k).bind fun t201 => (some t201)) else (none)) else (none)) else (none)) else (none)))) else (none)) else (none)) else (none))))) else (if t197 = 0 then (if t195 < a0 then (none) else (if t195 < a1 then (none) else (if t195 > a2 then (none) else (if (wrap64 (t195 - a0)) = a1 then ((hopperlaw01_live.f k).bind fun t202 => (some t202)) else (none))))) else (none))) = some r := by rw [if_pos rfl] at H; exact H
    clear H
    have H := H1
    clear H1
    by_cases c7 : t198 = true
    · subst c7
      have H1 : (if t195 < a0 then (none) else (if t195 < a1 then (none) else (if t195 > a2 then (none) else (if (wrap64 (t195 - a0)) = a1 then (if t197 ≥ 0 then (if t197 ≤ a2 then (if a0 = 0 then ((hopperlaw01_live.f k).bind fun t199 => (some t199)) else (if a1 = 0 then ((hopperlaw01_live.f k).bind fun t200 => (some t200)) else (if t197 ≥ a0 then (if t197 ≥ a1 then (if (wrap64 (Int.tdiv t197 a0)) = a1 then (if (Int.tmod t197 a0) = 0 then ((hopperlaw01_live.f k).bind fun t201 => (some t201)) else (none)) else (none)) else (none)) else (none)))) else (none)) else (none)) else (none))))) = some r := by rw [if_pos rfl] at H; exact H
      clear H
      have H := H1
      clear H1
      by_cases c8 : t195 < a0
      · rw [if_pos c8] at H
        exact absurd H (by simp)
      · rw [if_neg c8] at H
        have c8b0 : decide (t195 < a0) = false := decide_eq_false c8
        clear c8
        by_cases c9 : t195 < a1
        · rw [if_pos c9] at H
          exact absurd H (by simp)
        · rw [if_neg c9] at H
          have c9b0 : decide (t195 < a1) = false := decide_eq_false c9
          clear c9
          by_cases c10 : t195 > a2
          · rw [if_pos c10] at H
            exact absurd H (by simp)
          · rw [if_neg c10] at H
            have c10b0 : decide (a2 < t195) = false := decide_eq_false c10
            clear c10
            by_cases c11 : (wrap64 (t195 - a0)) = a1
            · rw [if_pos c11] at H
              have c11b0 : ((wrap64 (t195 - a0)) == a1) = true := beq_iff_eq.mpr c11
              have c11b1 : ((wrap64 (t195 - a0)) != a1) = false := bne_eq_false_iff_eq.mpr c11
              clear c11
              by_cases c12 : t197 ≥ 0
              · rw [if_pos c12] at H
                have c12b0 : decide (0 ≤ t197) = true := decide_eq_true c12
                clear c12
                by_cases c13 : t197 ≤ a2
                · rw [if_pos c13] at H
                  have c13b0 : decide (t197 ≤ a2) = true := decide_eq_true c13
                  clear c13
                  by_cases c14 : a0 = 0
                  · rw [if_pos c14] at H
                    have c14b0 : (a0 == 0) = true := beq_iff_eq.mpr c14
                    have c14b1 : (a0 != 0) = false := bne_eq_false_iff_eq.mpr c14
                    clear c14
                    replace H := Option.bind_eq_some_iff.mp H
                    obtain ⟨t199, A150, H⟩ := H
                    replace H : (some t199) = some r := H
                    have A15 := Aside0.mk A150
                    clear A150
                    obtain rfl := Option.some.inj H
                    go_enter Try.func7, Try.ntmps7
                    go_wp2_with (first | ((with_reducible refine gate_callee (f := 15) rfl ?_); refine goesL_ (some 15) rfl rfl Try.func15 (by kernel_rfl) rfl #[.int .i64 a0, .int .i64 a1, .int .i64 a2] rfl (by (try simp only [List.map_toArray, List.map_cons, List.map_nil]); first | done | rfl | (simp only [List.length_drop, List.length_take]; rfl)) ?_; (with_reducible refine (sat_Add.calls a0 a1 a2 t195 true _ A4.out).mono ?_); rintro e w' ⟨rfl, ⟨nd, rfl⟩⟩; refine ⟨_, rfl, ?_⟩) | ((with_reducible refine gate_callee (f := 17) rfl ?_); refine goesL_ (some 22) rfl rfl Try.func17 (by kernel_rfl) rfl #[.int .i64 a0, .int .i64 a1, .int .i64 a2] rfl (by (try simp only [List.map_toArray, List.map_cons, List.map_nil]); first | done | rfl | (simp only [List.length_drop, List.length_take]; rfl)) ?_; (with_reducible refine (sat_Mul.calls k a0 a1 a2 t197 true _ A5.out).mono ?_); rintro e w' ⟨rfl, ⟨nd, rfl⟩⟩; refine ⟨_, rfl, ?_⟩) | (go_at_call 23; (with_reducible refine (hopperlaw01_live.calls k  t199 _ A15.out).mono ?_); rintro e w16 ⟨rfl, hb⟩; have n0_ := Aside0.mk (below_step (by repeat (first | (with_reducible first | exact HB.out | apply below_alloc | apply pw_below_drewN | apply below_drew1) | exact HB.out)) hb); clear HB; have HB := n0_; clear n0_; (try clear hb); (try clear hb2); (try clear hk); (try clear hi)))
                    go_ret
                    exact ⟨by first | rfl | (simp [errW_none, errW_some] <;> rfl) | (simp [*, errW_none, errW_some] <;> rfl), by repeat (first | (with_reducible first | exact HB.out | apply below_alloc | apply pw_below_drewN | apply below_drew1) | exact HB.out)⟩
                  · rw [if_neg c14] at H
                    have c14b0 : (a0 == 0) = false := beq_eq_false_iff_ne.mpr c14
                    have c14b1 : (a0 != 0) = true := bne_iff_ne.mpr c14
                    by_cases c17 : a1 = 0
                    · rw [if_pos c17] at H
                      have c17b0 : (a1 == 0) = true := beq_iff_eq.mpr c17
                      have c17b1 : (a1 != 0) = false := bne_eq_false_iff_eq.mpr c17
                      clear c17
                      replace H := Option.bind_eq_some_iff.mp H
                      obtain ⟨t200, A180, H⟩ := H
                      replace H : (some t200) = some r := H
                      have A18 := Aside0.mk A180
                      clear A180
                      obtain rfl := Option.some.inj H
                      go_enter Try.func7, Try.ntmps7
                      go_wp2_with (first | ((with_reducible refine gate_callee (f := 15) rfl ?_); refine goesL_ (some 15) rfl rfl Try.func15 (by kernel_rfl) rfl #[.int .i64 a0, .int .i64 a1, .int .i64 a2] rfl (by (try simp only [List.map_toArray, List.map_cons, List.map_nil]); first | done | rfl | (simp only [List.length_drop, List.length_take]; rfl)) ?_; (with_reducible refine (sat_Add.calls a0 a1 a2 t195 true _ A4.out).mono ?_); rintro e w' ⟨rfl, ⟨nd, rfl⟩⟩; refine ⟨_, rfl, ?_⟩) | ((with_reducible refine gate_callee (f := 17) rfl ?_); refine goesL_ (some 22) rfl rfl Try.func17 (by kernel_rfl) rfl #[.int .i64 a0, .int .i64 a1, .int .i64 a2] rfl (by (try simp only [List.map_toArray, List.map_cons, List.map_nil]); first | done | rfl | (simp only [List.length_drop, List.length_take]; rfl)) ?_; (with_reducible refine (sat_Mul.calls k a0 a1 a2 t197 true _ A5.out).mono ?_); rintro e w' ⟨rfl, ⟨nd, rfl⟩⟩; refine ⟨_, rfl, ?_⟩) | (go_at_call 23; (with_reducible refine (hopperlaw01_live.calls k  t200 _ A18.out).mono ?_); rintro e w19 ⟨rfl, hb⟩; have n0_ := Aside0.mk (below_step (by repeat (first | (with_reducible first | exact HB.out | apply below_alloc | apply pw_below_drewN | apply below_drew1) | exact HB.out)) hb); clear HB; have HB := n0_; clear n0_; (try clear hb); (try clear hb2); (try clear hk); (try clear hi)))
                      go_ret
                      exact ⟨by first | rfl | (simp [errW_none, errW_some] <;> rfl) | (simp [*, errW_none, errW_some] <;> rfl), by repeat (first | (with_reducible first | exact HB.out | apply below_alloc | apply pw_below_drewN | apply below_drew1) | exact HB.out)⟩
                    · rw [if_neg c17] at H
                      have c17b0 : (a1 == 0) = false := beq_eq_false_iff_ne.mpr c17
                      have c17b1 : (a1 != 0) = true := bne_iff_ne.mpr c17
                      by_cases c20 : t197 ≥ a0
                      · rw [if_pos c20] at H
                        have c20b0 : decide (a0 ≤ t197) = true := decide_eq_true c20
                        clear c20
                        by_cases c21 : t197 ≥ a1
                        · rw [if_pos c21] at H
                          have c21b0 : decide (a1 ≤ t197) = true := decide_eq_true c21
                          clear c21
                          by_cases c22 : (wrap64 (Int.tdiv t197 a0)) = a1
                          · rw [if_pos c22] at H
                            have c22b0 : ((wrap64 (Int.tdiv t197 a0)) == a1) = true := beq_iff_eq.mpr c22
                            have c22b1 : ((wrap64 (Int.tdiv t197 a0)) != a1) = false := bne_eq_false_iff_eq.mpr c22
                            clear c22
                            by_cases c23 : (Int.tmod t197 a0) = 0
                            · rw [if_pos c23] at H
                              have c23b0 : ((Int.tmod t197 a0) == 0) = true := beq_iff_eq.mpr c23
                              have c23b1 : ((Int.tmod t197 a0) != 0) = false := bne_eq_false_iff_eq.mpr c23
                              clear c23
                              replace H := Option.bind_eq_some_iff.mp H
                              obtain ⟨t201, A240, H⟩ := H
                              replace H : (some t201) = some r := H
                              have A24 := Aside0.mk A240
                              clear A240
                              obtain rfl := Option.some.inj H
                              go_enter Try.func7, Try.ntmps7
                              go_wp2_with (first | ((with_reducible refine gate_callee (f := 15) rfl ?_); refine goesL_ (some 15) rfl rfl Try.func15 (by kernel_rfl) rfl #[.int .i64 a0, .int .i64 a1, .int .i64 a2] rfl (by (try simp only [List.map_toArray, List.map_cons, List.map_nil]); first | done | rfl | (simp only [List.length_drop, List.length_take]; rfl)) ?_; (with_reducible refine (sat_Add.calls a0 a1 a2 t195 true _ A4.out).mono ?_); rintro e w' ⟨rfl, ⟨nd, rfl⟩⟩; refine ⟨_, rfl, ?_⟩) | ((with_reducible refine gate_callee (f := 17) rfl ?_); refine goesL_ (some 22) rfl rfl Try.func17 (by kernel_rfl) rfl #[.int .i64 a0, .int .i64 a1, .int .i64 a2] rfl (by (try simp only [List.map_toArray, List.map_cons, List.map_nil]); first | done | rfl | (simp only [List.length_drop, List.length_take]; rfl)) ?_; (with_reducible refine (sat_Mul.calls k a0 a1 a2 t197 true _ A5.out).mono ?_); rintro e w' ⟨rfl, ⟨nd, rfl⟩⟩; refine ⟨_, rfl, ?_⟩) | (go_at_call 23; (with_reducible refine (hopperlaw01_live.calls k  t201 _ A24.out).mono ?_); rintro e w25 ⟨rfl, hb⟩; have n0_ := Aside0.mk (below_step (by repeat (first | (with_reducible first | exact HB.out | apply below_alloc | apply pw_below_drewN | apply below_drew1) | exact HB.out)) hb); clear HB; have HB := n0_; clear n0_; (try clear hb); (try clear hb2); (try clear hk); (try clear hi)))
                              go_ret
                              exact ⟨by first | rfl | (simp [errW_none, errW_some] <;> rfl) | (simp [*, errW_none, errW_some] <;> rfl), by repeat (first | (with_reducible first | exact HB.out | apply below_alloc | apply pw_below_drewN | apply below_drew1) | exact HB.out)⟩
                            · rw [if_neg c23] at H
                              exact absurd H (by simp)
                          · rw [if_neg c22] at H
                            exact absurd H (by simp)
                        · rw [if_neg c21] at H
                          exact absurd H (by simp)
                      · rw [if_neg c20] at H
                        exact absurd H (by simp)
                · rw [if_neg c13] at H
                  exact absurd H (by simp)
              · rw [if_neg c12] at H
                exact absurd H (by simp)
            · rw [if_neg c11] at H
              exact absurd H (by simp)
    · replace c7 := Bool.eq_false_iff.mpr c7
      subst c7
      have H1 : (if t197 = 0 then (if t195 < a0 then (none) else (if t195 < a1 then (none) else (if t195 > a2 then (none) else (if (wrap64 (t195 - a0)) = a1 then ((hopperlaw01_live.f k).bind fun t202 => (some t202)) else (none))))) else (none)) = some r := by rw [if_neg (show ¬ (false = true) by decide)] at H; exact H
      clear H
      have H := H1
      clear H1
      by_cases c26 : t197 = 0
      · rw [if_pos c26] at H
        have c26b0 : (t197 == 0) = true := beq_iff_eq.mpr c26
        have c26b1 : (t197 != 0) = false := bne_eq_false_iff_eq.mpr c26
        clear c26
        by_cases c27 : t195 < a0
        · rw [if_pos c27] at H
          exact absurd H (by simp)
        · rw [if_neg c27] at H
          have c27b0 : decide (t195 < a0) = false := decide_eq_false c27
          clear c27
          by_cases c28 : t195 < a1
          · rw [if_pos c28] at H
            exact absurd H (by simp)
          · rw [if_neg c28] at H
            have c28b0 : decide (t195 < a1) = false := decide_eq_false c28
            clear c28
            by_cases c29 : t195 > a2
            · rw [if_pos c29] at H
              exact absurd H (by simp)
            · rw [if_neg c29] at H
              have c29b0 : decide (a2 < t195) = false := decide_eq_false c29
              clear c29
              by_cases c30 : (wrap64 (t195 - a0)) = a1
              · rw [if_pos c30] at H
                have c30b0 : ((wrap64 (t195 - a0)) == a1) = true := beq_iff_eq.mpr c30
                have c30b1 : ((wrap64 (t195 - a0)) != a1) = false := bne_eq_false_iff_eq.mpr c30
                clear c30
                replace H := Option.bind_eq_some_iff.mp H
                obtain ⟨t202, A310, H⟩ := H
                replace H : (some t202) = some r := H
                have A31 := Aside0.mk A310
                clear A310
                obtain rfl := Option.some.inj H
                go_enter Try.func7, Try.ntmps7
                go_wp2_with (first | ((with_reducible refine gate_callee (f := 15) rfl ?_); refine goesL_ (some 15) rfl rfl Try.func15 (by kernel_rfl) rfl #[.int .i64 a0, .int .i64 a1, .int .i64 a2] rfl (by (try simp only [List.map_toArray, List.map_cons, List.map_nil]); first | done | rfl | (simp only [List.length_drop, List.length_take]; rfl)) ?_; (with_reducible refine (sat_Add.calls a0 a1 a2 t195 true _ A4.out).mono ?_); rintro e w' ⟨rfl, ⟨nd, rfl⟩⟩; refine ⟨_, rfl, ?_⟩) | ((with_reducible refine gate_callee (f := 17) rfl ?_); refine goesL_ (some 22) rfl rfl Try.func17 (by kernel_rfl) rfl #[.int .i64 a0, .int .i64 a1, .int .i64 a2] rfl (by (try simp only [List.map_toArray, List.map_cons, List.map_nil]); first | done | rfl | (simp only [List.length_drop, List.length_take]; rfl)) ?_; (with_reducible refine (sat_Mul.calls k a0 a1 a2 t197 false _ A5.out).mono ?_); rintro e w' ⟨rfl, ⟨nd, rfl⟩⟩; refine ⟨_, rfl, ?_⟩) | (go_at_call 23; (with_reducible refine (hopperlaw01_live.calls k  t202 _ A31.out).mono ?_); rintro e w32 ⟨rfl, hb⟩; have n0_ := Aside0.mk (below_step (by repeat (first | (with_reducible first | exact HB.out | apply below_alloc | apply pw_below_drewN | apply below_drew1) | exact HB.out)) hb); clear HB; have HB := n0_; clear n0_; (try clear hb); (try clear hb2); (try clear hk); (try clear hi)))
                go_ret
                exact ⟨by first | rfl | (simp [errW_none, errW_some] <;> rfl) | (simp [*, errW_none, errW_some] <;> rfl), by repeat (first | (with_reducible first | exact HB.out | apply below_alloc | apply pw_below_drewN | apply below_drew1) | exact HB.out)⟩
              · rw [if_neg c30] at H
                exact absurd H (by simp)
      · rw [if_neg c26] at H
        exact absurd H (by simp)
  · replace c6 := Bool.eq_false_iff.mpr c6
    subst c6
    have H1 : (if t195 = 0 then (if t198 = true then (if t197 ≥ 0 then (if t197 ≤ a2 then (if a0 = 0 then ((hopperlaw01_live.f k).bind fun t203 => (some t203)) else (if a1 = 0 then ((hopperlaw01_live.f k).bind fun t204 => (some t204)) else (if t197 ≥ a0 then (if t197 ≥ a1 then (if (wrap64 (Int.tdiv t197 a0)) = a1 then (if (Int.tmod t197 a0) = 0 then ((hopperlaw01_live.f k).bind fun t205 => (some t205)) else (none)) else (none)) else (none)) else (none)))) else (none)) else (none)) else (if t197 = 0 then ((hopperlaw01_live.f k).bind fun t206 => (some t206)) else (none))) else (none)) = some r := by rw [if_neg (show ¬ (false = true) by decide)] at H; exact H
    clear H
    have H := H1
    clear H1
    by_cases c33 : t195 = 0
    · rw [if_pos c33] at H
      have c33b0 : (t195 == 0) = true := beq_iff_eq.mpr c33
      have c33b1 : (t195 != 0) = false := bne_eq_false_iff_eq.mpr c33
      clear c33
      by_cases c34 : t198 = true
      · subst c34
        have H1 : (if t197 ≥ 0 then (if t197 ≤ a2 then (if a0 = 0 then ((hopperlaw01_live.f k).bind fun t203 => (some t203)) else (if a1 = 0 then ((hopperlaw01_live.f k).bind fun t204 => (some t204)) else (if t197 ≥ a0 then (if t197 ≥ a1 then (if (wrap64 (Int.tdiv t197 a0)) = a1 then (if (Int.tmod t197 a0) = 0 then ((hopperlaw01_live.f k).bind fun t205 => (some t205)) else (none)) else (none)) else (none)) else (none)))) else (none)) else (none)) = some r := by rw [if_pos rfl] at H; exact H
        clear H
        have H := H1
        clear H1
        by_cases c35 : t197 ≥ 0
        · rw [if_pos c35] at H
          have c35b0 : decide (0 ≤ t197) = true := decide_eq_true c35
          clear c35
          by_cases c36 : t197 ≤ a2
          · rw [if_pos c36] at H
            have c36b0 : decide (t197 ≤ a2) = true := decide_eq_true c36
            clear c36
            by_cases c37 : a0 = 0
            · rw [if_pos c37] at H
              have c37b0 : (a0 == 0) = true := beq_iff_eq.mpr c37
              have c37b1 : (a0 != 0) = false := bne_eq_false_iff_eq.mpr c37
              clear c37
              replace H := Option.bind_eq_some_iff.mp H
              obtain ⟨t203, A380, H⟩ := H
              replace H : (some t203) = some r := H
              have A38 := Aside0.mk A380
              clear A380
              obtain rfl := Option.some.inj H
              go_enter Try.func7, Try.ntmps7
              go_wp2_with (first | ((with_reducible refine gate_callee (f := 15) rfl ?_); refine goesL_ (some 15) rfl rfl Try.func15 (by kernel_rfl) rfl #[.int .i64 a0, .int .i64 a1, .int .i64 a2] rfl (by (try simp only [List.map_toArray, List.map_cons, List.map_nil]); first | done | rfl | (simp only [List.length_drop, List.length_take]; rfl)) ?_; (with_reducible refine (sat_Add.calls a0 a1 a2 t195 false _ A4.out).mono ?_); rintro e w' ⟨rfl, ⟨nd, rfl⟩⟩; refine ⟨_, rfl, ?_⟩) | ((with_reducible refine gate_callee (f := 17) rfl ?_); refine goesL_ (some 22) rfl rfl Try.func17 (by kernel_rfl) rfl #[.int .i64 a0, .int .i64 a1, .int .i64 a2] rfl (by (try simp only [List.map_toArray, List.map_cons, List.map_nil]); first | done | rfl | (simp only [List.length_drop, List.length_take]; rfl)) ?_; (with_reducible refine (sat_Mul.calls k a0 a1 a2 t197 true _ A5.out).mono ?_); rintro e w' ⟨rfl, ⟨nd, rfl⟩⟩; refine ⟨_, rfl, ?_⟩) | (go_at_call 23; (with_reducible refine (hopperlaw01_live.calls k  t203 _ A38.out).mono ?_); rintro e w39 ⟨rfl, hb⟩; have n0_ := Aside0.mk (below_step (by repeat (first | (with_reducible first | exact HB.out | apply below_alloc | apply pw_below_drewN | apply below_drew1) | exact HB.out)) hb); clear HB; have HB := n0_; clear n0_; (try clear hb); (try clear hb2); (try clear hk); (try clear hi)))
              go_ret
              exact ⟨by first | rfl | (simp [errW_none, errW_some] <;> rfl) | (simp [*, errW_none, errW_some] <;> rfl), by repeat (first | (with_reducible first | exact HB.out | apply below_alloc | apply pw_below_drewN | apply below_drew1) | exact HB.out)⟩
            · rw [if_neg c37] at H
              have c37b0 : (a0 == 0) = false := beq_eq_false_iff_ne.mpr c37
              have c37b1 : (a0 != 0) = true := bne_iff_ne.mpr c37
              by_cases c40 : a1 = 0
              · rw [if_pos c40] at H
                have c40b0 : (a1 == 0) = true := beq_iff_eq.mpr c40
                have c40b1 : (a1 != 0) = false := bne_eq_false_iff_eq.mpr c40
                clear c40
                replace H := Option.bind_eq_some_iff.mp H
                obtain ⟨t204, A410, H⟩ := H
                replace H : (some t204) = some r := H
                have A41 := Aside0.mk A410
                clear A410
                obtain rfl := Option.some.inj H
                go_enter Try.func7, Try.ntmps7
                go_wp2_with (first | ((with_reducible refine gate_callee (f := 15) rfl ?_); refine goesL_ (some 15) rfl rfl Try.func15 (by kernel_rfl) rfl #[.int .i64 a0, .int .i64 a1, .int .i64 a2] rfl (by (try simp only [List.map_toArray, List.map_cons, List.map_nil]); first | done | rfl | (simp only [List.length_drop, List.length_take]; rfl)) ?_; (with_reducible refine (sat_Add.calls a0 a1 a2 t195 false _ A4.out).mono ?_); rintro e w' ⟨rfl, ⟨nd, rfl⟩⟩; refine ⟨_, rfl, ?_⟩) | ((with_reducible refine gate_callee (f := 17) rfl ?_); refine goesL_ (some 22) rfl rfl Try.func17 (by kernel_rfl) rfl #[.int .i64 a0, .int .i64 a1, .int .i64 a2] rfl (by (try simp only [List.map_toArray, List.map_cons, List.map_nil]); first | done | rfl | (simp only [List.length_drop, List.length_take]; rfl)) ?_; (with_reducible refine (sat_Mul.calls k a0 a1 a2 t197 true _ A5.out).mono ?_); rintro e w' ⟨rfl, ⟨nd, rfl⟩⟩; refine ⟨_, rfl, ?_⟩) | (go_at_call 23; (with_reducible refine (hopperlaw01_live.calls k  t204 _ A41.out).mono ?_); rintro e w42 ⟨rfl, hb⟩; have n0_ := Aside0.mk (below_step (by repeat (first | (with_reducible first | exact HB.out | apply below_alloc | apply pw_below_drewN | apply below_drew1) | exact HB.out)) hb); clear HB; have HB := n0_; clear n0_; (try clear hb); (try clear hb2); (try clear hk); (try clear hi)))
                go_ret
                exact ⟨by first | rfl | (simp [errW_none, errW_some] <;> rfl) | (simp [*, errW_none, errW_some] <;> rfl), by repeat (first | (with_reducible first | exact HB.out | apply below_alloc | apply pw_below_drewN | apply below_drew1) | exact HB.out)⟩
              · rw [if_neg c40] at H
                have c40b0 : (a1 == 0) = false := beq_eq_false_iff_ne.mpr c40
                have c40b1 : (a1 != 0) = true := bne_iff_ne.mpr c40
                by_cases c43 : t197 ≥ a0
                · rw [if_pos c43] at H
                  have c43b0 : decide (a0 ≤ t197) = true := decide_eq_true c43
                  clear c43
                  by_cases c44 : t197 ≥ a1
                  · rw [if_pos c44] at H
                    have c44b0 : decide (a1 ≤ t197) = true := decide_eq_true c44
                    clear c44
                    by_cases c45 : (wrap64 (Int.tdiv t197 a0)) = a1
                    · rw [if_pos c45] at H
                      have c45b0 : ((wrap64 (Int.tdiv t197 a0)) == a1) = true := beq_iff_eq.mpr c45
                      have c45b1 : ((wrap64 (Int.tdiv t197 a0)) != a1) = false := bne_eq_false_iff_eq.mpr c45
                      clear c45
                      by_cases c46 : (Int.tmod t197 a0) = 0
                      · rw [if_pos c46] at H
                        have c46b0 : ((Int.tmod t197 a0) == 0) = true := beq_iff_eq.mpr c46
                        have c46b1 : ((Int.tmod t197 a0) != 0) = false := bne_eq_false_iff_eq.mpr c46
                        clear c46
                        replace H := Option.bind_eq_some_iff.mp H
                        obtain ⟨t205, A470, H⟩ := H
                        replace H : (some t205) = some r := H
                        have A47 := Aside0.mk A470
                        clear A470
                        obtain rfl := Option.some.inj H
                        go_enter Try.func7, Try.ntmps7
                        go_wp2_with (first | ((with_reducible refine gate_callee (f := 15) rfl ?_); refine goesL_ (some 15) rfl rfl Try.func15 (by kernel_rfl) rfl #[.int .i64 a0, .int .i64 a1, .int .i64 a2] rfl (by (try simp only [List.map_toArray, List.map_cons, List.map_nil]); first | done | rfl | (simp only [List.length_drop, List.length_take]; rfl)) ?_; (with_reducible refine (sat_Add.calls a0 a1 a2 t195 false _ A4.out).mono ?_); rintro e w' ⟨rfl, ⟨nd, rfl⟩⟩; refine ⟨_, rfl, ?_⟩) | ((with_reducible refine gate_callee (f := 17) rfl ?_); refine goesL_ (some 22) rfl rfl Try.func17 (by kernel_rfl) rfl #[.int .i64 a0, .int .i64 a1, .int .i64 a2] rfl (by (try simp only [List.map_toArray, List.map_cons, List.map_nil]); first | done | rfl | (simp only [List.length_drop, List.length_take]; rfl)) ?_; (with_reducible refine (sat_Mul.calls k a0 a1 a2 t197 true _ A5.out).mono ?_); rintro e w' ⟨rfl, ⟨nd, rfl⟩⟩; refine ⟨_, rfl, ?_⟩) | (go_at_call 23; (with_reducible refine (hopperlaw01_live.calls k  t205 _ A47.out).mono ?_); rintro e w48 ⟨rfl, hb⟩; have n0_ := Aside0.mk (below_step (by repeat (first | (with_reducible first | exact HB.out | apply below_alloc | apply pw_below_drewN | apply below_drew1) | exact HB.out)) hb); clear HB; have HB := n0_; clear n0_; (try clear hb); (try clear hb2); (try clear hk); (try clear hi)))
                        go_ret
                        exact ⟨by first | rfl | (simp [errW_none, errW_some] <;> rfl) | (simp [*, errW_none, errW_some] <;> rfl), by repeat (first | (with_reducible first | exact HB.out | apply below_alloc | apply pw_below_drewN | apply below_drew1) | exact HB.out)⟩
                      · rw [if_neg c46] at H
                        exact absurd H (by simp)
                    · rw [if_neg c45] at H
                      exact absurd H (by simp)
                  · rw [if_neg c44] at H
                    exact absurd H (by simp)
                · rw [if_neg c43] at H
                  exact absurd H (by simp)
          · rw [if_neg c36] at H
            exact absurd H (by simp)
        · rw [if_neg c35] at H
          exact absurd H (by simp)
      · replace c34 := Bool.eq_false_iff.mpr c34
        subst c34
        have H1 : (if t197 = 0 then ((hopperlaw01_live.f k).bind fun t206 => (some t206)) else (none)) = some r := by rw [if_neg (show ¬ (false = true) by decide)] at H; exact H
        clear H
        have H := H1
        clear H1
        by_cases c49 : t197 = 0
        · rw [if_pos c49] at H
          have c49b0 : (t197 == 0) = true := beq_iff_eq.mpr c49
          have c49b1 : (t197 != 0) = false := bne_eq_false_iff_eq.mpr c49
          clear c49
          replace H := Option.bind_eq_some_iff.mp H
          obtain ⟨t206, A500, H⟩ := H
          replace H : (some t206) = some r := H
          have A50 := Aside0.mk A500
          clear A500
          obtain rfl := Option.some.inj H
          go_enter Try.func7, Try.ntmps7
          go_wp2_with (first | ((with_reducible refine gate_callee (f := 15) rfl ?_); refine goesL_ (some 15) rfl rfl Try.func15 (by kernel_rfl) rfl #[.int .i64 a0, .int .i64 a1, .int .i64 a2] rfl (by (try simp only [List.map_toArray, List.map_cons, List.map_nil]); first | done | rfl | (simp only [List.length_drop, List.length_take]; rfl)) ?_; (with_reducible refine (sat_Add.calls a0 a1 a2 t195 false _ A4.out).mono ?_); rintro e w' ⟨rfl, ⟨nd, rfl⟩⟩; refine ⟨_, rfl, ?_⟩) | ((with_reducible refine gate_callee (f := 17) rfl ?_); refine goesL_ (some 22) rfl rfl Try.func17 (by kernel_rfl) rfl #[.int .i64 a0, .int .i64 a1, .int .i64 a2] rfl (by (try simp only [List.map_toArray, List.map_cons, List.map_nil]); first | done | rfl | (simp only [List.length_drop, List.length_take]; rfl)) ?_; (with_reducible refine (sat_Mul.calls k a0 a1 a2 t197 false _ A5.out).mono ?_); rintro e w' ⟨rfl, ⟨nd, rfl⟩⟩; refine ⟨_, rfl, ?_⟩) | (go_at_call 23; (with_reducible refine (hopperlaw01_live.calls k  t206 _ A50.out).mono ?_); rintro e w51 ⟨rfl, hb⟩; have n0_ := Aside0.mk (below_step (by repeat (first | (with_reducible first | exact HB.out | apply below_alloc | apply pw_below_drewN | apply below_drew1) | exact HB.out)) hb); clear HB; have HB := n0_; clear n0_; (try clear hb); (try clear hb2); (try clear hk); (try clear hi)))
          go_ret
          exact ⟨by first | rfl | (simp [errW_none, errW_some] <;> rfl) | (simp [*, errW_none, errW_some] <;> rfl), by repeat (first | (with_reducible first | exact HB.out | apply below_alloc | apply pw_below_drewN | apply below_drew1) | exact HB.out)⟩
        · rw [if_neg c49] at H
          exact absurd H (by simp)
    · rw [if_neg c33] at H
      exact absurd H (by simp)

open Go.Proofs.Ytfpomamhcjkoeaa.Row (okI okB okS okL) in
/-- THE ONE PURE STATEMENT of hopperlaw01_SatBounds. -/
def hopperlaw01_SatBounds.Pure : Prop := ∀ (a0 : Int) (a1 : Int) (a2 : Int), (okI .i64) a0 → (okI .i64) a1 → (okI .i64) a2 → ∃ k, hopperlaw01_SatBounds.f k a0 a1 a2 = some true

end Go.Proofs.Ytfpomamhcjkoeaa.S
