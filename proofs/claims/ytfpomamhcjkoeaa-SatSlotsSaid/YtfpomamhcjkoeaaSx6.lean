/- Written by this session's own program over the kit's print: functions of Go told as plain functions, or the row of one statement; proved for every input, with no condition of ours. -/
import Derived.Test.YtfpomamhcjkoeaaSx0
import Derived.Test.YtfpomamhcjkoeaaSx2
import Derived.Test.YtfpomamhcjkoeaaSx3
namespace Go.Proofs.Ytfpomamhcjkoeaa.S
open Go.RowKit Go.Proofs.YtfpomamhcjkoeaaW.PrintWords Go.Proofs.YtfpomamhcjkoeaaW.PrintLast Go.Proofs.YtfpomamhcjkoeaaW.PrintMore
attribute [local go_sem] max2_int min2_int max_two min_two max_three min_three max_four min_four   -- for this text's walks alone
set_option linter.unusedVariables false
set_option linter.unusedSimpArgs false

/-! ### hopperlaw01_SatSlots: function 8 -/
mutual
def hopperlaw01_SatSlots.j0 : Nat → Int → Int → Int → Bool → Option (Bool)
  | 0, _, _, _, _ => none
  | k + 1, x0, x1, x5, x13 => if x13 = true then (if x5 = 0 then ((hopperlaw01_live.f k).bind fun t208 => (some t208)) else (none)) else (if x5 < 1 then (hopperlaw01_SatSlots.j1 k x0 x1 x5 true) else (if (wrap64 (32 * x5)) < x0 then (hopperlaw01_SatSlots.j1 k x0 x1 x5 true) else (if x5 > 1 then (if (wrap64 (32 * (wrap64 (x5 - 1)))) ≥ x0 then (hopperlaw01_SatSlots.j1 k x0 x1 x5 true) else (hopperlaw01_SatSlots.j1 k x0 x1 x5 (decide (x5 > 13)))) else (hopperlaw01_SatSlots.j1 k x0 x1 x5 (decide (x5 > 13))))))
def hopperlaw01_SatSlots.j1 : Nat → Int → Int → Int → Bool → Option (Bool)
  | 0, _, _, _, _ => none
  | k + 1, x0, x1, x5, x41 => if x41 = true then (none) else (if x1 < 0 then ((hopperlaw01_live.f k).bind fun t209 => (some t209)) else (if x1 > x0 then ((hopperlaw01_live.f k).bind fun t210 => (some t210)) else ((sat_Slots.f (wrap64 (x0 - x1))).bind fun t211 => (if t211 ≤ x5 then ((hopperlaw01_live.f k).bind fun t212 => (some t212)) else (none)))))
end
def hopperlaw01_SatSlots.f (k : Nat) (a0 : Int) (a1 : Int) : Option (Bool) := (sat_Slots.f a0).bind fun t207 => (if a0 < 0 then (hopperlaw01_SatSlots.j0 k a0 a1 t207 true) else (hopperlaw01_SatSlots.j0 k a0 a1 t207 (decide (a0 > 400))))
theorem hopperlaw01_SatSlots.mono_l : ∀ k, (∀ y0 y1 y2 y3, LeO (hopperlaw01_SatSlots.j0 k y0 y1 y2 y3) (hopperlaw01_SatSlots.j0 (k + 1) y0 y1 y2 y3)) ∧ (∀ y0 y1 y2 y3, LeO (hopperlaw01_SatSlots.j1 k y0 y1 y2 y3) (hopperlaw01_SatSlots.j1 (k + 1) y0 y1 y2 y3))
  | 0 => ⟨fun _ _ _ _ r h => by simp [hopperlaw01_SatSlots.j0] at h, fun _ _ _ _ r h => by simp [hopperlaw01_SatSlots.j1] at h⟩
  | k + 1 => by
    obtain ⟨ih0, ih1⟩ := hopperlaw01_SatSlots.mono_l k
    refine ⟨?_, ?_⟩
    · intro y0 y1 y2 y3
      unfold hopperlaw01_SatSlots.j0
      repeat' first
      | (with_reducible exact ih0 _ _ _ _)
      | (with_reducible exact ih1 _ _ _ _)
      | (with_reducible exact hopperlaw01_live.mono _)
      | (with_reducible exact LeO.refl _)
      | (with_reducible exact LeO.none _)
      | (with_reducible refine LeO.ite ?_ ?_)
      | (with_reducible refine LeO.bind ?_ (fun _ => ?_))
      | exact ih0 _ _ _ _
      | exact ih1 _ _ _ _
      | exact hopperlaw01_live.mono _
      | exact LeO.none _
      | refine LeO.ite ?_ ?_
      | refine LeO.bind ?_ (fun _ => ?_)
    · intro y0 y1 y2 y3
      unfold hopperlaw01_SatSlots.j1
      repeat' first
      | (with_reducible exact ih0 _ _ _ _)
      | (with_reducible exact ih1 _ _ _ _)
      | (with_reducible exact hopperlaw01_live.mono _)
      | (with_reducible exact LeO.refl _)
      | (with_reducible exact LeO.none _)
      | (with_reducible refine LeO.ite ?_ ?_)
      | (with_reducible refine LeO.bind ?_ (fun _ => ?_))
      | exact ih0 _ _ _ _
      | exact ih1 _ _ _ _
      | exact hopperlaw01_live.mono _
      | exact LeO.none _
      | refine LeO.ite ?_ ?_
      | refine LeO.bind ?_ (fun _ => ?_)
theorem hopperlaw01_SatSlots.mono : ∀ a0 a1 k, LeO (hopperlaw01_SatSlots.f k a0 a1) (hopperlaw01_SatSlots.f (k + 1) a0 a1) := by
  intro a0 a1 k
  obtain ⟨ih0, ih1⟩ := hopperlaw01_SatSlots.mono_l k
  unfold hopperlaw01_SatSlots.f
  repeat' first
      | (with_reducible exact ih0 _ _ _ _)
      | (with_reducible exact ih1 _ _ _ _)
      | (with_reducible exact hopperlaw01_live.mono _)
      | (with_reducible exact LeO.refl _)
      | (with_reducible exact LeO.none _)
      | (with_reducible refine LeO.ite ?_ ?_)
      | (with_reducible refine LeO.bind ?_ (fun _ => ?_))
      | exact ih0 _ _ _ _
      | exact ih1 _ _ _ _
      | exact hopperlaw01_live.mono _
      | exact LeO.none _
      | refine LeO.ite ?_ ?_
      | refine LeO.bind ?_ (fun _ => ?_)
set_option maxHeartbeats 8000000 in
set_option maxRecDepth 100000 in
theorem hopperlaw01_SatSlots.calls (k : Nat) (a0 : Int) (a1 : Int) (r : Bool) (w : World) (h : hopperlaw01_SatSlots.f k a0 a1 = some r) :
    Calls Try.prog 8 #[.int .i64 a0, .int .i64 a1] w fun e w' => e = .returned (.bool r) ∧ Below w.heap.size w w' := by
  have HB := Aside0.mk (Below.refl w.heap.size w)
  have H : ((sat_Slots.f a0).bind fun t207 => (if a0 < 0 then (hopperlaw01_SatSlots.j0 k a0 a1 t207 true) else (hopperlaw01_SatSlots.j0 k a0 a1 t207 (decide (a0 > 400))))) = some r := h
  clear h
  replace H := Option.bind_eq_some_iff.mp H
  obtain ⟨t207, A30, H⟩ := H
  replace H : (if a0 < 0 then (hopperlaw01_SatSlots.j0 k a0 a1 t207 true) else (hopperlaw01_SatSlots.j0 k a0 a1 t207 (decide (a0 > 400)))) = some r := H
  have A3 := Aside0.mk A30
  clear A30
  have HC4 := Aside0.mk H
  clear H
  go_enter Try.func8, Try.ntmps8
  go_upto_region 2 with (first | ((with_reducible refine gate_callee (f := 21) rfl ?_); refine goesL_ (some 7) rfl rfl Try.func21 (by kernel_rfl) rfl #[.int .i64 a0] rfl (by (try simp only [List.map_toArray, List.map_cons, List.map_nil]); first | done | rfl | (simp only [List.length_drop, List.length_take]; rfl)) ?_; (with_reducible refine (sat_Slots.calls a0 t207 _ A3.out).mono ?_); rintro e w5 ⟨rfl, hb⟩; refine ⟨_, rfl, ?_⟩; have n0_ := Aside0.mk (below_step (by repeat (first | (with_reducible first | exact HB.out | apply below_alloc | apply pw_below_drewN | apply below_drew1) | exact HB.out)) hb); clear HB; have HB := n0_; clear n0_; (try clear hb); (try clear hb2); (try clear hk); (try clear hi)))
  (try simp only [Act.put, List.setIfInBounds_toArray, List.set_cons_zero, List.set_cons_succ])
  go_cut [13] (fun v13 wc => ∃ (kq : Nat) (x13_3 : Bool), v13 = .bool x13_3 ∧ Aside0 (hopperlaw01_SatSlots.j0 kq a0 a1 t207 x13_3 = some r) ∧ Aside0 (kq ≤ k) ∧ Aside0 (Below w.heap.size w wc))
  case first =>
    have H := HC4.out
    clear HC4
    by_cases c6 : a0 < 0
    · rw [if_pos c6] at H
      have c6b0 : decide (a0 < 0) = true := decide_eq_true c6
      clear c6
      (first | rw [c6b0] | (simp only [i64_w, i32_w]; rw [c6b0]) | skip)
      have H' := Aside0.mk H
      clear H
      go_wp2
      go_meet
      case rel => exact ⟨_, (true), (by first | rfl | (simp; done) | (simp [*]; done)), H', ⟨by first | omega | exact Nat.le_refl _⟩, ⟨by repeat (first | (with_reducible first | exact HB.out | apply below_alloc | apply pw_below_drewN | apply below_drew1) | exact HB.out)⟩⟩
    · rw [if_neg c6] at H
      have c6b0 : decide (a0 < 0) = false := decide_eq_false c6
      clear c6
      (first | rw [c6b0] | (simp only [i64_w, i32_w]; rw [c6b0]) | skip)
      have H' := Aside0.mk H
      clear H
      go_wp2
      go_meet
      case rel => exact ⟨_, (decide (a0 > 400)), (by first | rfl | (simp; done) | (simp [*]; done)), H', ⟨by first | omega | exact Nat.le_refl _⟩, ⟨by repeat (first | (with_reducible first | exact HB.out | apply below_alloc | apply pw_below_drewN | apply below_drew1) | exact HB.out)⟩⟩
  case rest =>
    clear HC4
    try clear c2
    try clear p2
    try clear c6
    try clear c6b0
    obtain ⟨kq, x13_3, rfl, HA, HJ3, HB⟩ := hcut
    cases kq with
    | zero => exact absurd HA.out (by simp [hopperlaw01_SatSlots.j0])
    | succ kj3 =>
      have H := HA.out
      clear HA
      simp only [hopperlaw01_SatSlots.j0] at H
      by_cases c7 : x13_3 = true
      · subst c7
        have H1 : (if t207 = 0 then ((hopperlaw01_live.f kj3).bind fun t208 => (some t208)) else (none)) = some r := by rw [if_pos rfl] at H; exact H
        clear H
        have H := H1
        clear H1
        by_cases c8 : t207 = 0
        · rw [if_pos c8] at H
          have c8b0 : (t207 == 0) = true := beq_iff_eq.mpr c8
          have c8b1 : (t207 != 0) = false := bne_eq_false_iff_eq.mpr c8
          clear c8
          replace H := Option.bind_eq_some_iff.mp H
          obtain ⟨t208, A90, H⟩ := H
          replace H : (some t208) = some r := H
          have A9 := Aside0.mk A90
          clear A90
          obtain rfl := Option.some.inj H
          go_wp2_with (first | (go_at_call 23; (with_reducible refine (hopperlaw01_live.calls kj3  t208 _ A9.out).mono ?_); rintro e w10 ⟨rfl, hb⟩; have n0_ := Aside0.mk (below_step (by repeat (first | (with_reducible first | exact HB.out | apply below_alloc | apply pw_below_drewN | apply below_drew1) | exact HB.out)) hb); clear HB; have HB := n0_; clear n0_; (try clear hb); (try clear hb2); (try clear hk); (try clear hi)))
          go_ret
          exact ⟨by first | rfl | (simp [errW_none, errW_some] <;> rfl) | (simp [*, errW_none, errW_some] <;> rfl), by repeat (first | (with_reducible first | exact HB.out | apply below_alloc | apply pw_below_drewN | apply below_drew1) | exact HB.out)⟩
        · rw [if_neg c8] at H
          exact absurd H (by simp)
      · replace c7 := Bool.eq_false_iff.mpr c7
        subst c7
        have H1 : (if t207 < 1 then (hopperlaw01_SatSlots.j1 kj3 a0 a1 t207 true) else (if (wrap64 (32 * t207)) < a0 then (hopperlaw01_SatSlots.j1 kj3 a0 a1 t207 true) else (if t207 > 1 then (if (wrap64 (32 * (wrap64 (t207 - 1)))) ≥ a0 then (hopperlaw01_SatSlots.j1 kj3 a0 a1 t207 true) else (hopperlaw01_SatSlots.j1 kj3 a0 a1 t207 (decide (t207 > 13)))) else (hopperlaw01_SatSlots.j1 kj3 a0 a1 t207 (decide (t207 > 13)))))) = some r := by rw [if_neg (show ¬ (false = true) by decide)] at H; exact H
        clear H
        have H := H1
        clear H1
        have HC11 := Aside0.mk H
        clear H
        go_upto_region 4 with (fail)
        go_cut [41] (fun v41 wc => ∃ (kq : Nat) (x41_10 : Bool), v41 = .bool x41_10 ∧ Aside0 (hopperlaw01_SatSlots.j1 kq a0 a1 t207 x41_10 = some r) ∧ Aside0 (kq ≤ kj3) ∧ Aside0 (Below w.heap.size w wc))
        case first =>
          have H := HC11.out
          clear HC11
          by_cases c12 : t207 < 1
          · rw [if_pos c12] at H
            have c12b0 : decide (t207 < 1) = true := decide_eq_true c12
            clear c12
            (first | rw [c12b0] | (simp only [i64_w, i32_w]; rw [c12b0]) | skip)
            have H' := Aside0.mk H
            clear H
            go_wp2
            go_meet
            case rel => exact ⟨_, (true), (by first | rfl | (simp; done) | (simp [*]; done)), H', ⟨by have := HJ3.out; first | omega | exact Nat.le_refl _⟩, ⟨by repeat (first | (with_reducible first | exact HB.out | apply below_alloc | apply pw_below_drewN | apply below_drew1) | exact HB.out)⟩⟩
          · rw [if_neg c12] at H
            have c12b0 : decide (t207 < 1) = false := decide_eq_false c12
            clear c12
            (first | rw [c12b0] | (simp only [i64_w, i32_w]; rw [c12b0]) | skip)
            by_cases c13 : (wrap64 (32 * t207)) < a0
            · rw [if_pos c13] at H
              have c13b0 : decide ((wrap64 (32 * t207)) < a0) = true := decide_eq_true c13
              clear c13
              have H' := Aside0.mk H
              clear H
              go_wp2
              go_meet
              case rel => exact ⟨_, (true), (by first | rfl | (simp; done) | (simp [*]; done)), H', ⟨by have := HJ3.out; first | omega | exact Nat.le_refl _⟩, ⟨by repeat (first | (with_reducible first | exact HB.out | apply below_alloc | apply pw_below_drewN | apply below_drew1) | exact HB.out)⟩⟩
            · rw [if_neg c13] at H
              have c13b0 : decide ((wrap64 (32 * t207)) < a0) = false := decide_eq_false c13
              clear c13
              by_cases c14 : t207 > 1
              · rw [if_pos c14] at H
                have c14b0 : decide (1 < t207) = true := decide_eq_true c14
                clear c14
                by_cases c15 : (wrap64 (32 * (wrap64 (t207 - 1)))) ≥ a0
                · rw [if_pos c15] at H
                  have c15b0 : decide (a0 ≤ (wrap64 (32 * (wrap64 (t207 - 1))))) = true := decide_eq_true c15
                  clear c15
                  have H' := Aside0.mk H
                  clear H
                  go_wp2
                  go_meet
                  case rel => exact ⟨_, (true), (by first | rfl | (simp; done) | (simp [*]; done)), H', ⟨by have := HJ3.out; first | omega | exact Nat.le_refl _⟩, ⟨by repeat (first | (with_reducible first | exact HB.out | apply below_alloc | apply pw_below_drewN | apply below_drew1) | exact HB.out)⟩⟩
                · rw [if_neg c15] at H
                  have c15b0 : decide (a0 ≤ (wrap64 (32 * (wrap64 (t207 - 1))))) = false := decide_eq_false c15
                  clear c15
                  have H' := Aside0.mk H
                  clear H
                  go_wp2
                  go_meet
                  case rel => exact ⟨_, (decide (t207 > 13)), (by first | rfl | (simp; done) | (simp [*]; done)), H', ⟨by have := HJ3.out; first | omega | exact Nat.le_refl _⟩, ⟨by repeat (first | (with_reducible first | exact HB.out | apply below_alloc | apply pw_below_drewN | apply below_drew1) | exact HB.out)⟩⟩
              · rw [if_neg c14] at H
                have c14b0 : decide (1 < t207) = false := decide_eq_false c14
                clear c14
                have H' := Aside0.mk H
                clear H
                go_wp2
                go_meet
                case rel => exact ⟨_, (decide (t207 > 13)), (by first | rfl | (simp; done) | (simp [*]; done)), H', ⟨by have := HJ3.out; first | omega | exact Nat.le_refl _⟩, ⟨by repeat (first | (with_reducible first | exact HB.out | apply below_alloc | apply pw_below_drewN | apply below_drew1) | exact HB.out)⟩⟩
        case rest =>
          clear HC11
          try clear c1
          try clear c2
          try clear p2
          try clear c6
          try clear c6b0
          try clear p6
          try clear c7
          try clear c8
          try clear c8b0
          try clear c8b1
          try clear c12
          try clear c12b0
          try clear c13
          try clear c13b0
          try clear c14
          try clear c14b0
          try clear c15
          try clear c15b0
          try clear p2
          obtain ⟨kq, x41_10, rfl, HA, HJ10, HB⟩ := hcut
          cases kq with
          | zero => exact absurd HA.out (by simp [hopperlaw01_SatSlots.j1])
          | succ kj10 =>
            have H := HA.out
            clear HA
            simp only [hopperlaw01_SatSlots.j1] at H
            by_cases c16 : x41_10 = true
            · subst c16
              have H1 : (none) = some r := by rw [if_pos rfl] at H; exact H
              clear H
              have H := H1
              clear H1
              exact absurd H (by simp)
            · replace c16 := Bool.eq_false_iff.mpr c16
              subst c16
              have H1 : (if a1 < 0 then ((hopperlaw01_live.f kj10).bind fun t209 => (some t209)) else (if a1 > a0 then ((hopperlaw01_live.f kj10).bind fun t210 => (some t210)) else ((sat_Slots.f (wrap64 (a0 - a1))).bind fun t211 => (if t211 ≤ t207 then ((hopperlaw01_live.f kj10).bind fun t212 => (some t212)) else (none))))) = some r := by rw [if_neg (show ¬ (false = true) by decide)] at H; exact H
              clear H
              have H := H1
              clear H1
              by_cases c17 : a1 < 0
              · rw [if_pos c17] at H
                have c17b0 : decide (a1 < 0) = true := decide_eq_true c17
                clear c17
                replace H := Option.bind_eq_some_iff.mp H
                obtain ⟨t209, A180, H⟩ := H
                replace H : (some t209) = some r := H
                have A18 := Aside0.mk A180
                clear A180
                obtain rfl := Option.some.inj H
                go_wp2_with (first | (go_at_call 23; (with_reducible refine (hopperlaw01_live.calls kj10  t209 _ A18.out).mono ?_); rintro e w19 ⟨rfl, hb⟩; have n0_ := Aside0.mk (below_step (by repeat (first | (with_reducible first | exact HB.out | apply below_alloc | apply pw_below_drewN | apply below_drew1) | exact HB.out)) hb); clear HB; have HB := n0_; clear n0_; (try clear hb); (try clear hb2); (try clear hk); (try clear hi)))
                go_ret
                exact ⟨by first | rfl | (simp [errW_none, errW_some] <;> rfl) | (simp [*, errW_none, errW_some] <;> rfl), by repeat (first | (with_reducible first | exact HB.out | apply below_alloc | apply pw_below_drewN | apply below_drew1) | exact HB.out)⟩
              · rw [if_neg c17] at H
                have c17b0 : decide (a1 < 0) = false := decide_eq_false c17
                clear c17
                by_cases c20 : a1 > a0
                · rw [if_pos c20] at H
                  have c20b0 : decide (a0 < a1) = true := decide_eq_true c20
                  clear c20
                  replace H := Option.bind_eq_some_iff.mp H
                  obtain ⟨t210, A210, H⟩ := H
                  replace H : (some t210) = some r := H
                  have A21 := Aside0.mk A210
                  clear A210
                  obtain rfl := Option.some.inj H
                  go_wp2_with (first | (go_at_call 23; (with_reducible refine (hopperlaw01_live.calls kj10  t210 _ A21.out).mono ?_); rintro e w22 ⟨rfl, hb⟩; have n0_ := Aside0.mk (below_step (by repeat (first | (with_reducible first | exact HB.out | apply below_alloc | apply pw_below_drewN | apply below_drew1) | exact HB.out)) hb); clear HB; have HB := n0_; clear n0_; (try clear hb); (try clear hb2); (try clear hk); (try clear hi)))
                  go_ret
                  exact ⟨by first | rfl | (simp [errW_none, errW_some] <;> rfl) | (simp [*, errW_none, errW_some] <;> rfl), by repeat (first | (with_reducible first | exact HB.out | apply below_alloc | apply pw_below_drewN | apply below_drew1) | exact HB.out)⟩
                · rw [if_neg c20] at H
                  have c20b0 : decide (a0 < a1) = false := decide_eq_false c20
                  clear c20
                  replace H := Option.bind_eq_some_iff.mp H
                  obtain ⟨t211, A230, H⟩ := H
                  replace H : (if t211 ≤ t207 then ((hopperlaw01_live.f kj10).bind fun t212 => (some t212)) else (none)) = some r := H
                  have A23 := Aside0.mk A230
                  clear A230
                  by_cases c24 : t211 ≤ t207
                  · rw [if_pos c24] at H
                    have c24b0 : decide (t211 ≤ t207) = true := decide_eq_true c24
                    clear c24
                    replace H := Option.bind_eq_some_iff.mp H
                    obtain ⟨t212, A250, H⟩ := H
                    replace H : (some t212) = some r := H
                    have A25 := Aside0.mk A250
                    clear A250
                    obtain rfl := Option.some.inj H
                    go_wp2_with (first | (go_at_call 21; (with_reducible refine (sat_Slots.calls (wrap64 (a0 - a1)) t211 _ A23.out).mono ?_); rintro e w26 ⟨rfl, hb⟩; have n0_ := Aside0.mk (below_step (by repeat (first | (with_reducible first | exact HB.out | apply below_alloc | apply pw_below_drewN | apply below_drew1) | exact HB.out)) hb); clear HB; have HB := n0_; clear n0_; (try clear hb); (try clear hb2); (try clear hk); (try clear hi)) | (go_at_call 23; (with_reducible refine (hopperlaw01_live.calls kj10  t212 _ A25.out).mono ?_); rintro e w27 ⟨rfl, hb⟩; have n0_ := Aside0.mk (below_step (by repeat (first | (with_reducible first | exact HB.out | apply below_alloc | apply pw_below_drewN | apply below_drew1) | exact HB.out)) hb); clear HB; have HB := n0_; clear n0_; (try clear hb); (try clear hb2); (try clear hk); (try clear hi)))
                    go_ret
                    exact ⟨by first | rfl | (simp [errW_none, errW_some] <;> rfl) | (simp [*, errW_none, errW_some] <;> rfl), by repeat (first | (with_reducible first | exact HB.out | apply below_alloc | apply pw_below_drewN | apply below_drew1) | exact HB.out)⟩
                  · rw [if_neg c24] at H
                    exact absurd H (by simp)

open Go.Proofs.Ytfpomamhcjkoeaa.Row (okI okB okS okL) in
/-- THE ONE PURE STATEMENT of hopperlaw01_SatSlots. -/
def hopperlaw01_SatSlots.Pure : Prop := ∀ (a0 : Int) (a1 : Int), (okI .i64) a0 → (okI .i64) a1 → ∃ k, hopperlaw01_SatSlots.f k a0 a1 = some true

end Go.Proofs.Ytfpomamhcjkoeaa.S
