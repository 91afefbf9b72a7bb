/- Written by this session's own program over the kit's print: functions of Go told as plain functions, or the row of one statement; proved for every input, with no condition of ours. -/
import Derived.Test.YtfpomamhcjkoeaaSx0
namespace Go.Proofs.Ytfpomamhcjkoeaa.S
open Go.RowKit Go.Proofs.YtfpomamhcjkoeaaW.PrintWords Go.Proofs.YtfpomamhcjkoeaaW.PrintLast Go.Proofs.YtfpomamhcjkoeaaW.PrintMore
attribute [local go_sem] max2_int min2_int max_two min_two max_three min_three max_four min_four   -- for this text's walks alone
set_option linter.unusedVariables false
set_option linter.unusedSimpArgs false

/-! ### sat_Add: function 15 -/
def sat_Add.f (a0 : Int) (a1 : Int) (a2 : Int) : Option (Int × Bool) := if a0 < 0 then (some (0, false)) else (if a1 < 0 then (some (0, false)) else (if a2 < a0 then (some (0, false)) else (if (wrap64 (a2 - a0)) < a1 then (some (0, false)) else (some (wrap64 (a0 + a1), true)))))
set_option maxHeartbeats 8000000 in
set_option maxRecDepth 100000 in
theorem sat_Add.calls (a0 : Int) (a1 : Int) (a2 : Int) (r1 : Int) (r2 : Bool) (w : World) (h : sat_Add.f a0 a1 a2 = some (r1, r2)) :
    Calls Try.prog 15 #[.int .i64 a0, .int .i64 a1, .int .i64 a2] w fun e w' => e = .returned (.tuple #[.int .i64 r1, .bool r2]) ∧ Drawn0 w w' := by
  have H : (if a0 < 0 then (some (0, false)) else (if a1 < 0 then (some (0, false)) else (if a2 < a0 then (some (0, false)) else (if (wrap64 (a2 - a0)) < a1 then (some (0, false)) else (some (wrap64 (a0 + a1), true)))))) = some (r1, r2) := h
  clear h
  by_cases c4 : a0 < 0
  · rw [if_pos c4] at H
    have c4b0 : decide (a0 < 0) = true := decide_eq_true c4
    clear c4
    simp only [Option.some.injEq, Prod.mk.injEq] at H
    obtain ⟨rfl, rfl⟩ := H
    go_enter Try.func15, Try.ntmps15
    go_wp2
    go_ret2
    exact ⟨by first | rfl | (simp; done) | (simp [*]; done), by repeat (first | exact Drawn0.refl _ | apply Drawn0.step)⟩
  · rw [if_neg c4] at H
    have c4b0 : decide (a0 < 0) = false := decide_eq_false c4
    clear c4
    by_cases c5 : a1 < 0
    · rw [if_pos c5] at H
      have c5b0 : decide (a1 < 0) = true := decide_eq_true c5
      clear c5
      simp only [Option.some.injEq, Prod.mk.injEq] at H
      obtain ⟨rfl, rfl⟩ := H
      go_enter Try.func15, Try.ntmps15
      go_wp2
      go_ret2
      exact ⟨by first | rfl | (simp; done) | (simp [*]; done), by repeat (first | exact Drawn0.refl _ | apply Drawn0.step)⟩
    · rw [if_neg c5] at H
      have c5b0 : decide (a1 < 0) = false := decide_eq_false c5
      clear c5
      by_cases c6 : a2 < a0
      · rw [if_pos c6] at H
        have c6b0 : decide (a2 < a0) = true := decide_eq_true c6
        clear c6
        simp only [Option.some.injEq, Prod.mk.injEq] at H
        obtain ⟨rfl, rfl⟩ := H
        go_enter Try.func15, Try.ntmps15
        go_wp2
        go_ret2
        exact ⟨by first | rfl | (simp; done) | (simp [*]; done), by repeat (first | exact Drawn0.refl _ | apply Drawn0.step)⟩
      · rw [if_neg c6] at H
        have c6b0 : decide (a2 < a0) = false := decide_eq_false c6
        clear c6
        by_cases c7 : (wrap64 (a2 - a0)) < a1
        · rw [if_pos c7] at H
          have c7b0 : decide ((wrap64 (a2 - a0)) < a1) = true := decide_eq_true c7
          clear c7
          simp only [Option.some.injEq, Prod.mk.injEq] at H
          obtain ⟨rfl, rfl⟩ := H
          go_enter Try.func15, Try.ntmps15
          go_wp2
          go_ret2
          exact ⟨by first | rfl | (simp; done) | (simp [*]; done), by repeat (first | exact Drawn0.refl _ | apply Drawn0.step)⟩
        · rw [if_neg c7] at H
          have c7b0 : decide ((wrap64 (a2 - a0)) < a1) = false := decide_eq_false c7
          clear c7
          simp only [Option.some.injEq, Prod.mk.injEq] at H
          obtain ⟨rfl, rfl⟩ := H
          go_enter Try.func15, Try.ntmps15
          go_wp2
          go_ret2
          exact ⟨by first | rfl | (simp; done) | (simp [*]; done), by repeat (first | exact Drawn0.refl _ | apply Drawn0.step)⟩

/-! ### hopperref01_Add: function 16 -/
def hopperref01_Add.f (a0 : Int) (a1 : Int) (a2 : Int) : Option (Int × Bool) := if a0 < 0 then (some (0, false)) else (if a1 < 0 then (some (0, false)) else (if a2 < 0 then (some (0, false)) else (if a0 > a2 then (some (0, false)) else (if a1 > (wrap64 (a2 - a0)) then (some (0, false)) else (some (wrap64 (a0 + a1), true))))))
set_option maxHeartbeats 8000000 in
set_option maxRecDepth 100000 in
theorem hopperref01_Add.calls (a0 : Int) (a1 : Int) (a2 : Int) (r1 : Int) (r2 : Bool) (w : World) (h : hopperref01_Add.f a0 a1 a2 = some (r1, r2)) :
    Calls Try.prog 16 #[.int .i64 a0, .int .i64 a1, .int .i64 a2] w fun e w' => e = .returned (.tuple #[.int .i64 r1, .bool r2]) ∧ Drawn0 w w' := by
  have H : (if a0 < 0 then (some (0, false)) else (if a1 < 0 then (some (0, false)) else (if a2 < 0 then (some (0, false)) else (if a0 > a2 then (some (0, false)) else (if a1 > (wrap64 (a2 - a0)) then (some (0, false)) else (some (wrap64 (a0 + a1), true))))))) = some (r1, r2) := h
  clear h
  by_cases c4 : a0 < 0
  · rw [if_pos c4] at H
    have c4b0 : decide (a0 < 0) = true := decide_eq_true c4
    clear c4
    simp only [Option.some.injEq, Prod.mk.injEq] at H
    obtain ⟨rfl, rfl⟩ := H
    go_enter Try.func16, Try.ntmps16
    go_wp2
    go_ret2
    exact ⟨by first | rfl | (simp; done) | (simp [*]; done), by repeat (first | exact Drawn0.refl _ | apply Drawn0.step)⟩
  · rw [if_neg c4] at H
    have c4b0 : decide (a0 < 0) = false := decide_eq_false c4
    clear c4
    by_cases c5 : a1 < 0
    · rw [if_pos c5] at H
      have c5b0 : decide (a1 < 0) = true := decide_eq_true c5
      clear c5
      simp only [Option.some.injEq, Prod.mk.injEq] at H
      obtain ⟨rfl, rfl⟩ := H
      go_enter Try.func16, Try.ntmps16
      go_wp2
      go_ret2
      exact ⟨by first | rfl | (simp; done) | (simp [*]; done), by repeat (first | exact Drawn0.refl _ | apply Drawn0.step)⟩
    · rw [if_neg c5] at H
      have c5b0 : decide (a1 < 0) = false := decide_eq_false c5
      clear c5
      by_cases c6 : a2 < 0
      · rw [if_pos c6] at H
        have c6b0 : decide (a2 < 0) = true := decide_eq_true c6
        clear c6
        simp only [Option.some.injEq, Prod.mk.injEq] at H
        obtain ⟨rfl, rfl⟩ := H
        go_enter Try.func16, Try.ntmps16
        go_wp2
        go_ret2
        exact ⟨by first | rfl | (simp; done) | (simp [*]; done), by repeat (first | exact Drawn0.refl _ | apply Drawn0.step)⟩
      · rw [if_neg c6] at H
        have c6b0 : decide (a2 < 0) = false := decide_eq_false c6
        clear c6
        by_cases c7 : a0 > a2
        · rw [if_pos c7] at H
          have c7b0 : decide (a2 < a0) = true := decide_eq_true c7
          clear c7
          simp only [Option.some.injEq, Prod.mk.injEq] at H
          obtain ⟨rfl, rfl⟩ := H
          go_enter Try.func16, Try.ntmps16
          go_wp2
          go_ret2
          exact ⟨by first | rfl | (simp; done) | (simp [*]; done), by repeat (first | exact Drawn0.refl _ | apply Drawn0.step)⟩
        · rw [if_neg c7] at H
          have c7b0 : decide (a2 < a0) = false := decide_eq_false c7
          clear c7
          by_cases c8 : a1 > (wrap64 (a2 - a0))
          · rw [if_pos c8] at H
            have c8b0 : decide ((wrap64 (a2 - a0)) < a1) = true := decide_eq_true c8
            clear c8
            simp only [Option.some.injEq, Prod.mk.injEq] at H
            obtain ⟨rfl, rfl⟩ := H
            go_enter Try.func16, Try.ntmps16
            go_wp2
            go_ret2
            exact ⟨by first | rfl | (simp; done) | (simp [*]; done), by repeat (first | exact Drawn0.refl _ | apply Drawn0.step)⟩
          · rw [if_neg c8] at H
            have c8b0 : decide ((wrap64 (a2 - a0)) < a1) = false := decide_eq_false c8
            clear c8
            simp only [Option.some.injEq, Prod.mk.injEq] at H
            obtain ⟨rfl, rfl⟩ := H
            go_enter Try.func16, Try.ntmps16
            go_wp2
            go_ret2
            exact ⟨by first | rfl | (simp; done) | (simp [*]; done), by repeat (first | exact Drawn0.refl _ | apply Drawn0.step)⟩

/-! ### sat_Mul: function 17 -/
def sat_Mul.j0 : Nat → Int → Int → Int → Bool → Option (Int × Bool)
  | 0, _, _, _, _ => none
  | k + 1, x0, x1, x2, x8 => if x8 = true then (some (0, false)) else (if x0 = 0 then (some (0, true)) else (if (wrap64 (Int.tdiv x2 x0)) < x1 then (some (0, false)) else (some (wrap64 (x0 * x1), true))))
def sat_Mul.f (k : Nat) (a0 : Int) (a1 : Int) (a2 : Int) : Option (Int × Bool) := if a0 < 0 then (sat_Mul.j0 k a0 a1 a2 true) else (if a1 < 0 then (sat_Mul.j0 k a0 a1 a2 true) else (sat_Mul.j0 k a0 a1 a2 (decide (a2 < 0))))
theorem sat_Mul.mono_l : ∀ k, (∀ y0 y1 y2 y3, LeO (sat_Mul.j0 k y0 y1 y2 y3) (sat_Mul.j0 (k + 1) y0 y1 y2 y3))
  | 0 => fun _ _ _ _ r h => by simp [sat_Mul.j0] at h
  | k + 1 => by
    have ih0 := sat_Mul.mono_l k
    · intro y0 y1 y2 y3
      unfold sat_Mul.j0
      repeat' first
      | (with_reducible exact ih0 _ _ _ _)
      | (with_reducible exact LeO.refl _)
      | (with_reducible exact LeO.none _)
      | (with_reducible refine LeO.ite ?_ ?_)
      | (with_reducible refine LeO.bind ?_ (fun _ => ?_))
      | exact ih0 _ _ _ _
      | exact LeO.none _
      | refine LeO.ite ?_ ?_
      | refine LeO.bind ?_ (fun _ => ?_)
theorem sat_Mul.mono : ∀ a0 a1 a2 k, LeO (sat_Mul.f k a0 a1 a2) (sat_Mul.f (k + 1) a0 a1 a2) := by
  intro a0 a1 a2 k
  have ih0 := sat_Mul.mono_l k
  unfold sat_Mul.f
  repeat' first
      | (with_reducible exact ih0 _ _ _ _)
      | (with_reducible exact LeO.refl _)
      | (with_reducible exact LeO.none _)
      | (with_reducible refine LeO.ite ?_ ?_)
      | (with_reducible refine LeO.bind ?_ (fun _ => ?_))
      | exact ih0 _ _ _ _
      | exact LeO.none _
      | refine LeO.ite ?_ ?_
      | refine LeO.bind ?_ (fun _ => ?_)
set_option maxHeartbeats 8000000 in
set_option maxRecDepth 100000 in
theorem sat_Mul.calls (k : Nat) (a0 : Int) (a1 : Int) (a2 : Int) (r1 : Int) (r2 : Bool) (w : World) (h : sat_Mul.f k a0 a1 a2 = some (r1, r2)) :
    Calls Try.prog 17 #[.int .i64 a0, .int .i64 a1, .int .i64 a2] w fun e w' => e = .returned (.tuple #[.int .i64 r1, .bool r2]) ∧ Drawn0 w w' := by
  have H : (if a0 < 0 then (sat_Mul.j0 k a0 a1 a2 true) else (if a1 < 0 then (sat_Mul.j0 k a0 a1 a2 true) else (sat_Mul.j0 k a0 a1 a2 (decide (a2 < 0))))) = some (r1, r2) := h
  clear h
  have HC4 := Aside0.mk H
  clear H
  go_enter Try.func17, Try.ntmps17
  go_upto_region 1 with (fail)
  go_cut [8] (fun v8 wc => ∃ (kq : Nat) (x8_3 : Bool), v8 = .bool x8_3 ∧ Aside0 (sat_Mul.j0 kq a0 a1 a2 x8_3 = some (r1, r2)) ∧ Aside0 (kq ≤ k) ∧ Drawn0 w wc)
  case first =>
    have H := HC4.out
    clear HC4
    by_cases c5 : a0 < 0
    · rw [if_pos c5] at H
      have c5b0 : decide (a0 < 0) = true := decide_eq_true c5
      clear c5
      (first | rw [c5b0] | (simp only [i64_w, i32_w]; rw [c5b0]) | skip)
      have H' := Aside0.mk H
      clear H
      go_wp2
      go_meet
      case rel => exact ⟨_, (true), (by first | rfl | (simp; done) | (simp [*]; done)), H', ⟨by first | omega | exact Nat.le_refl _⟩, by repeat (first | exact Drawn0.refl _ | apply Drawn0.step)⟩
    · rw [if_neg c5] at H
      have c5b0 : decide (a0 < 0) = false := decide_eq_false c5
      clear c5
      (first | rw [c5b0] | (simp only [i64_w, i32_w]; rw [c5b0]) | skip)
      by_cases c6 : a1 < 0
      · rw [if_pos c6] at H
        have c6b0 : decide (a1 < 0) = true := decide_eq_true c6
        clear c6
        have H' := Aside0.mk H
        clear H
        go_wp2
        go_meet
        case rel => exact ⟨_, (true), (by first | rfl | (simp; done) | (simp [*]; done)), H', ⟨by first | omega | exact Nat.le_refl _⟩, by repeat (first | exact Drawn0.refl _ | apply Drawn0.step)⟩
      · rw [if_neg c6] at H
        have c6b0 : decide (a1 < 0) = false := decide_eq_false c6
        clear c6
        have H' := Aside0.mk H
        clear H
        go_wp2
        go_meet
        case rel => exact ⟨_, (decide (a2 < 0)), (by first | rfl | (simp; done) | (simp [*]; done)), H', ⟨by first | omega | exact Nat.le_refl _⟩, by repeat (first | exact Drawn0.refl _ | apply Drawn0.step)⟩
  case rest =>
    clear HC4
    try clear c1
    try clear p2
    try clear c5
    try clear c5b0
    try clear c6
    try clear c6b0
    obtain ⟨kq, x8_3, rfl, HA, HJ3, ⟨mc3, rfl⟩⟩ := hcut
    cases kq with
    | zero => exact absurd HA.out (by simp [sat_Mul.j0])
    | succ kj3 =>
      have H := HA.out
      clear HA
      simp only [sat_Mul.j0] at H
      by_cases c7 : x8_3 = true
      · subst c7
        have H1 : (some (0, false)) = some (r1, r2) := by rw [if_pos rfl] at H; exact H
        clear H
        have H := H1
        clear H1
        simp only [Option.some.injEq, Prod.mk.injEq] at H
        obtain ⟨rfl, rfl⟩ := H
        go_wp2
        go_ret2
        exact ⟨by first | rfl | (simp; done) | (simp [*]; done), by repeat (first | exact Drawn0.refl _ | apply Drawn0.step)⟩
      · replace c7 := Bool.eq_false_iff.mpr c7
        subst c7
        have H1 : (if a0 = 0 then (some (0, true)) else (if (wrap64 (Int.tdiv a2 a0)) < a1 then (some (0, false)) else (some (wrap64 (a0 * a1), true)))) = some (r1, r2) := by rw [if_neg (show ¬ (false = true) by decide)] at H; exact H
        clear H
        have H := H1
        clear H1
        by_cases c8 : a0 = 0
        · rw [if_pos c8] at H
          have c8b0 : (a0 == 0) = true := beq_iff_eq.mpr c8
          have c8b1 : (a0 != 0) = false := bne_eq_false_iff_eq.mpr c8
          clear c8
          simp only [Option.some.injEq, Prod.mk.injEq] at H
          obtain ⟨rfl, rfl⟩ := H
          go_wp2
          go_ret2
          exact ⟨by first | rfl | (simp; done) | (simp [*]; done), by repeat (first | exact Drawn0.refl _ | apply Drawn0.step)⟩
        · rw [if_neg c8] at H
          have c8b0 : (a0 == 0) = false := beq_eq_false_iff_ne.mpr c8
          have c8b1 : (a0 != 0) = true := bne_iff_ne.mpr c8
          by_cases c9 : (wrap64 (Int.tdiv a2 a0)) < a1
          · rw [if_pos c9] at H
            have c9b0 : decide ((wrap64 (Int.tdiv a2 a0)) < a1) = true := decide_eq_true c9
            clear c9
            simp only [Option.some.injEq, Prod.mk.injEq] at H
            obtain ⟨rfl, rfl⟩ := H
            go_wp2
            go_ret2
            exact ⟨by first | rfl | (simp; done) | (simp [*]; done), by repeat (first | exact Drawn0.refl _ | apply Drawn0.step)⟩
          · rw [if_neg c9] at H
            have c9b0 : decide ((wrap64 (Int.tdiv a2 a0)) < a1) = false := decide_eq_false c9
            clear c9
            simp only [Option.some.injEq, Prod.mk.injEq] at H
            obtain ⟨rfl, rfl⟩ := H
            go_wp2
            go_ret2
            exact ⟨by first | rfl | (simp; done) | (simp [*]; done), by repeat (first | exact Drawn0.refl _ | apply Drawn0.step)⟩

/-! ### hopperref01_Mul: function 18 -/
def hopperref01_Mul.f (a0 : Int) (a1 : Int) (a2 : Int) : Option (Int × Bool) := if a0 < 0 then (some (0, false)) else (if a1 < 0 then (some (0, false)) else (if a2 < 0 then (some (0, false)) else (if a0 > 0 then (if a0 = 0 then (none) else (if a1 > (wrap64 (Int.tdiv a2 a0)) then (some (0, false)) else (some (wrap64 (a0 * a1), true)))) else (some (wrap64 (a0 * a1), true)))))
set_option maxHeartbeats 8000000 in
set_option maxRecDepth 100000 in
theorem hopperref01_Mul.calls (a0 : Int) (a1 : Int) (a2 : Int) (r1 : Int) (r2 : Bool) (w : World) (h : hopperref01_Mul.f a0 a1 a2 = some (r1, r2)) :
    Calls Try.prog 18 #[.int .i64 a0, .int .i64 a1, .int .i64 a2] w fun e w' => e = .returned (.tuple #[.int .i64 r1, .bool r2]) ∧ Drawn0 w w' := by
  have H : (if a0 < 0 then (some (0, false)) else (if a1 < 0 then (some (0, false)) else (if a2 < 0 then (some (0, false)) else (if a0 > 0 then (if a0 = 0 then (none) else (if a1 > (wrap64 (Int.tdiv a2 a0)) then (some (0, false)) else (some (wrap64 (a0 * a1), true)))) else (some (wrap64 (a0 * a1), true)))))) = some (r1, r2) := h
  clear h
  by_cases c4 : a0 < 0
  · rw [if_pos c4] at H
    have c4b0 : decide (a0 < 0) = true := decide_eq_true c4
    clear c4
    simp only [Option.some.injEq, Prod.mk.injEq] at H
    obtain ⟨rfl, rfl⟩ := H
    go_enter Try.func18, Try.ntmps18
    go_wp2
    go_ret2
    exact ⟨by first | rfl | (simp; done) | (simp [*]; done), by repeat (first | exact Drawn0.refl _ | apply Drawn0.step)⟩
  · rw [if_neg c4] at H
    have c4b0 : decide (a0 < 0) = false := decide_eq_false c4
    clear c4
    by_cases c5 : a1 < 0
    · rw [if_pos c5] at H
      have c5b0 : decide (a1 < 0) = true := decide_eq_true c5
      clear c5
      simp only [Option.some.injEq, Prod.mk.injEq] at H
      obtain ⟨rfl, rfl⟩ := H
      go_enter Try.func18, Try.ntmps18
      go_wp2
      go_ret2
      exact ⟨by first | rfl | (simp; done) | (simp [*]; done), by repeat (first | exact Drawn0.refl _ | apply Drawn0.step)⟩
    · rw [if_neg c5] at H
      have c5b0 : decide (a1 < 0) = false := decide_eq_false c5
      clear c5
      by_cases c6 : a2 < 0
      · rw [if_pos c6] at H
        have c6b0 : decide (a2 < 0) = true := decide_eq_true c6
        clear c6
        simp only [Option.some.injEq, Prod.mk.injEq] at H
        obtain ⟨rfl, rfl⟩ := H
        go_enter Try.func18, Try.ntmps18
        go_wp2
        go_ret2
        exact ⟨by first | rfl | (simp; done) | (simp [*]; done), by repeat (first | exact Drawn0.refl _ | apply Drawn0.step)⟩
      · rw [if_neg c6] at H
        have c6b0 : decide (a2 < 0) = false := decide_eq_false c6
        clear c6
        by_cases c7 : a0 > 0
        · rw [if_pos c7] at H
          have c7b0 : decide (0 < a0) = true := decide_eq_true c7
          clear c7
          by_cases c8 : a0 = 0
          · rw [if_pos c8] at H
            exact absurd H (by simp)
          · rw [if_neg c8] at H
            have c8b0 : (a0 == 0) = false := beq_eq_false_iff_ne.mpr c8
            have c8b1 : (a0 != 0) = true := bne_iff_ne.mpr c8
            by_cases c9 : a1 > (wrap64 (Int.tdiv a2 a0))
            · rw [if_pos c9] at H
              have c9b0 : decide ((wrap64 (Int.tdiv a2 a0)) < a1) = true := decide_eq_true c9
              clear c9
              simp only [Option.some.injEq, Prod.mk.injEq] at H
              obtain ⟨rfl, rfl⟩ := H
              go_enter Try.func18, Try.ntmps18
              go_wp2
              go_ret2
              exact ⟨by first | rfl | (simp; done) | (simp [*]; done), by repeat (first | exact Drawn0.refl _ | apply Drawn0.step)⟩
            · rw [if_neg c9] at H
              have c9b0 : decide ((wrap64 (Int.tdiv a2 a0)) < a1) = false := decide_eq_false c9
              clear c9
              simp only [Option.some.injEq, Prod.mk.injEq] at H
              obtain ⟨rfl, rfl⟩ := H
              go_enter Try.func18, Try.ntmps18
              go_wp2
              go_ret2
              exact ⟨by first | rfl | (simp; done) | (simp [*]; done), by repeat (first | exact Drawn0.refl _ | apply Drawn0.step)⟩
        · rw [if_neg c7] at H
          have c7b0 : decide (0 < a0) = false := decide_eq_false c7
          clear c7
          simp only [Option.some.injEq, Prod.mk.injEq] at H
          obtain ⟨rfl, rfl⟩ := H
          go_enter Try.func18, Try.ntmps18
          go_wp2
          go_ret2
          exact ⟨by first | rfl | (simp; done) | (simp [*]; done), by repeat (first | exact Drawn0.refl _ | apply Drawn0.step)⟩

/-! ### sat_Raise: function 19 -/
def sat_Raise.j0 : Nat → Int → Int → Bool → Option (Int × Bool)
  | 0, _, _, _ => none
  | k + 1, x0, x1, x20 => if x20 = true then (some (0, false)) else (if (wrap64 (x0 + (wrap64 (Int.tdiv (wrap64 ((wrap64 ((wrap64 (x0 * x1)) + 100)) - 1)) 100)))) = x0 then (if (wrap64 ((wrap64 (x0 + (wrap64 (Int.tdiv (wrap64 ((wrap64 ((wrap64 (x0 * x1)) + 100)) - 1)) 100)))) + 1)) > 1099511627776 then (some (0, false)) else (some (wrap64 ((wrap64 (x0 + (wrap64 (Int.tdiv (wrap64 ((wrap64 ((wrap64 (x0 * x1)) + 100)) - 1)) 100)))) + 1), true))) else (if (wrap64 (x0 + (wrap64 (Int.tdiv (wrap64 ((wrap64 ((wrap64 (x0 * x1)) + 100)) - 1)) 100)))) > 1099511627776 then (some (0, false)) else (some (wrap64 (x0 + (wrap64 (Int.tdiv (wrap64 ((wrap64 ((wrap64 (x0 * x1)) + 100)) - 1)) 100))), true))))
def sat_Raise.f (k : Nat) (a0 : Int) (a1 : Int) : Option (Int × Bool) := if a0 < 0 then (sat_Raise.j0 k a0 a1 true) else (if a0 > 1099511627776 then (sat_Raise.j0 k a0 a1 true) else (if a1 < 0 then (sat_Raise.j0 k a0 a1 true) else (sat_Raise.j0 k a0 a1 (decide (a1 > 100)))))
theorem sat_Raise.mono_l : ∀ k, (∀ y0 y1 y2, LeO (sat_Raise.j0 k y0 y1 y2) (sat_Raise.j0 (k + 1) y0 y1 y2))
  | 0 => fun _ _ _ r h => by simp [sat_Raise.j0] at h
  | k + 1 => by
    have ih0 := sat_Raise.mono_l k
    · intro y0 y1 y2
      unfold sat_Raise.j0
      repeat' first
      | (with_reducible exact ih0 _ _ _)
      | (with_reducible exact LeO.refl _)
      | (with_reducible exact LeO.none _)
      | (with_reducible refine LeO.ite ?_ ?_)
      | (with_reducible refine LeO.bind ?_ (fun _ => ?_))
      | exact ih0 _ _ _
      | exact LeO.none _
      | refine LeO.ite ?_ ?_
      | refine LeO.bind ?_ (fun _ => ?_)
theorem sat_Raise.mono : ∀ a0 a1 k, LeO (sat_Raise.f k a0 a1) (sat_Raise.f (k + 1) a0 a1) := by
  intro a0 a1 k
  have ih0 := sat_Raise.mono_l k
  unfold sat_Raise.f
  repeat' first
      | (with_reducible exact ih0 _ _ _)
      | (with_reducible exact LeO.refl _)
      | (with_reducible exact LeO.none _)
      | (with_reducible refine LeO.ite ?_ ?_)
      | (with_reducible refine LeO.bind ?_ (fun _ => ?_))
      | exact ih0 _ _ _
      | exact LeO.none _
      | refine LeO.ite ?_ ?_
      | refine LeO.bind ?_ (fun _ => ?_)
set_option maxHeartbeats 8000000 in
set_option maxRecDepth 100000 in
theorem sat_Raise.calls (k : Nat) (a0 : Int) (a1 : Int) (r1 : Int) (r2 : Bool) (w : World) (h : sat_Raise.f k a0 a1 = some (r1, r2)) :
    Calls Try.prog 19 #[.int .i64 a0, .int .i64 a1] w fun e w' => e = .returned (.tuple #[.int .i64 r1, .bool r2]) ∧ Drawn0 w w' := by
  have H : (if a0 < 0 then (sat_Raise.j0 k a0 a1 true) else (if a0 > 1099511627776 then (sat_Raise.j0 k a0 a1 true) else (if a1 < 0 then (sat_Raise.j0 k a0 a1 true) else (sat_Raise.j0 k a0 a1 (decide (a1 > 100)))))) = some (r1, r2) := h
  clear h
  have HC3 := Aside0.mk H
  clear H
  go_enter Try.func19, Try.ntmps19
  go_upto_region 1 with (fail)
  go_cut [20] (fun v20 wc => ∃ (kq : Nat) (x20_2 : Bool), v20 = .bool x20_2 ∧ Aside0 (sat_Raise.j0 kq a0 a1 x20_2 = some (r1, r2)) ∧ Aside0 (kq ≤ k) ∧ Drawn0 w wc)
  case first =>
    have H := HC3.out
    clear HC3
    by_cases c4 : a0 < 0
    · rw [if_pos c4] at H
      have c4b0 : decide (a0 < 0) = true := decide_eq_true c4
      clear c4
      (first | rw [c4b0] | (simp only [i64_w, i32_w]; rw [c4b0]) | skip)
      have H' := Aside0.mk H
      clear H
      go_wp2
      go_meet
      case rel => exact ⟨_, (true), (by first | rfl | (simp; done) | (simp [*]; done)), H', ⟨by first | omega | exact Nat.le_refl _⟩, by repeat (first | exact Drawn0.refl _ | apply Drawn0.step)⟩
    · rw [if_neg c4] at H
      have c4b0 : decide (a0 < 0) = false := decide_eq_false c4
      clear c4
      (first | rw [c4b0] | (simp only [i64_w, i32_w]; rw [c4b0]) | skip)
      by_cases c5 : a0 > 1099511627776
      · rw [if_pos c5] at H
        have c5b0 : decide (1099511627776 < a0) = true := decide_eq_true c5
        clear c5
        have H' := Aside0.mk H
        clear H
        go_wp2
        go_meet
        case rel => exact ⟨_, (true), (by first | rfl | (simp; done) | (simp [*]; done)), H', ⟨by first | omega | exact Nat.le_refl _⟩, by repeat (first | exact Drawn0.refl _ | apply Drawn0.step)⟩
      · rw [if_neg c5] at H
        have c5b0 : decide (1099511627776 < a0) = false := decide_eq_false c5
        clear c5
        by_cases c6 : a1 < 0
        · rw [if_pos c6] at H
          have c6b0 : decide (a1 < 0) = true := decide_eq_true c6
          clear c6
          have H' := Aside0.mk H
          clear H
          go_wp2
          go_meet
          case rel => exact ⟨_, (true), (by first | rfl | (simp; done) | (simp [*]; done)), H', ⟨by first | omega | exact Nat.le_refl _⟩, by repeat (first | exact Drawn0.refl _ | apply Drawn0.step)⟩
        · rw [if_neg c6] at H
          have c6b0 : decide (a1 < 0) = false := decide_eq_false c6
          clear c6
          have H' := Aside0.mk H
          clear H
          go_wp2
          go_meet
          case rel => exact ⟨_, (decide (a1 > 100)), (by first | rfl | (simp; done) | (simp [*]; done)), H', ⟨by first | omega | exact Nat.le_refl _⟩, by repeat (first | exact Drawn0.refl _ | apply Drawn0.step)⟩
  case rest =>
    clear HC3
    try clear c1
    try clear p2
    try clear c4
    try clear c4b0
    try clear c5
    try clear c5b0
    try clear c6
    try clear c6b0
    obtain ⟨kq, x20_2, rfl, HA, HJ2, ⟨mc2, rfl⟩⟩ := hcut
    cases kq with
    | zero => exact absurd HA.out (by simp [sat_Raise.j0])
    | succ kj2 =>
      have H := HA.out
      clear HA
      simp only [sat_Raise.j0] at H
      by_cases c7 : x20_2 = true
      · subst c7
        have H1 : (some (0, false)) = some (r1, r2) := by rw [if_pos rfl] at H; exact H
        clear H
        have H := H1
        clear H1
        simp only [Option.some.injEq, Prod.mk.injEq] at H
        obtain ⟨rfl, rfl⟩ := H
        go_wp2
        go_ret2
        exact ⟨by first | rfl | (simp; done) | (simp [*]; done), by repeat (first | exact Drawn0.refl _ | apply Drawn0.step)⟩
      · replace c7 := Bool.eq_false_iff.mpr c7
        subst c7
        have H1 : (if (wrap64 (a0 + (wrap64 (Int.tdiv (wrap64 ((wrap64 ((wrap64 (a0 * a1)) + 100)) - 1)) 100)))) = a0 then (if (wrap64 ((wrap64 (a0 + (wrap64 (Int.tdiv (wrap64 ((wrap64 ((wrap64 (a0 * a1)) + 100)) - 1)) 100)))) + 1)) > 1099511627776 then (some (0, false)) else (some (wrap64 ((wrap64 (a0 + (wrap64 (Int.tdiv (wrap64 ((wrap64 ((wrap64 (a0 * a1)) + 100)) - 1)) 100)))) + 1), true))) else (if (wrap64 (a0 + (wrap64 (Int.tdiv (wrap64 ((wrap64 ((wrap64 (a0 * a1)) + 100)) - 1)) 100)))) > 1099511627776 then (some (0, false)) else (some (wrap64 (a0 + (wrap64 (Int.tdiv (wrap64 ((wrap64 ((wrap64 (a0 * a1)) + 100)) - 1)) 100))), true)))) = some (r1, r2) := by rw [if_neg (show ¬ (false = true) by decide)] at H; exact H
        clear H
        have H := H1
        clear H1
        by_cases c8 : (wrap64 (a0 + (wrap64 (Int.tdiv (wrap64 ((wrap64 ((wrap64 (a0 * a1)) + 100)) - 1)) 100)))) = a0
        · rw [if_pos c8] at H
          have c8b0 : ((wrap64 (a0 + (wrap64 (Int.tdiv (wrap64 ((wrap64 ((wrap64 (a0 * a1)) + 100)) - 1)) 100)))) == a0) = true := beq_iff_eq.mpr c8
          have c8b1 : ((wrap64 (a0 + (wrap64 (Int.tdiv (wrap64 ((wrap64 ((wrap64 (a0 * a1)) + 100)) - 1)) 100)))) != a0) = false := bne_eq_false_iff_eq.mpr c8
          clear c8
          by_cases c9 : (wrap64 ((wrap64 (a0 + (wrap64 (Int.tdiv (wrap64 ((wrap64 ((wrap64 (a0 * a1)) + 100)) - 1)) 100)))) + 1)) > 1099511627776
          · rw [if_pos c9] at H
            have c9b0 : decide (1099511627776 < (wrap64 ((wrap64 (a0 + (wrap64 (Int.tdiv (wrap64 ((wrap64 ((wrap64 (a0 * a1)) + 100)) - 1)) 100)))) + 1))) = true := decide_eq_true c9
            clear c9
            simp only [Option.some.injEq, Prod.mk.injEq] at H
            obtain ⟨rfl, rfl⟩ := H
            go_wp2
            go_ret2
            exact ⟨by first | rfl | (simp; done) | (simp [*]; done), by repeat (first | exact Drawn0.refl _ | apply Drawn0.step)⟩
          · rw [if_neg c9] at H
            have c9b0 : decide (1099511627776 < (wrap64 ((wrap64 (a0 + (wrap64 (Int.tdiv (wrap64 ((wrap64 ((wrap64 (a0 * a1)) + 100)) - 1)) 100)))) + 1))) = false := decide_eq_false c9
            clear c9
            simp only [Option.some.injEq, Prod.mk.injEq] at H
            obtain ⟨rfl, rfl⟩ := H
            go_wp2
            go_ret2
            exact ⟨by first | rfl | (simp; done) | (simp [*]; done), by repeat (first | exact Drawn0.refl _ | apply Drawn0.step)⟩
        · rw [if_neg c8] at H
          have c8b0 : ((wrap64 (a0 + (wrap64 (Int.tdiv (wrap64 ((wrap64 ((wrap64 (a0 * a1)) + 100)) - 1)) 100)))) == a0) = false := beq_eq_false_iff_ne.mpr c8
          have c8b1 : ((wrap64 (a0 + (wrap64 (Int.tdiv (wrap64 ((wrap64 ((wrap64 (a0 * a1)) + 100)) - 1)) 100)))) != a0) = true := bne_iff_ne.mpr c8
          by_cases c10 : (wrap64 (a0 + (wrap64 (Int.tdiv (wrap64 ((wrap64 ((wrap64 (a0 * a1)) + 100)) - 1)) 100)))) > 1099511627776
          · rw [if_pos c10] at H
            have c10b0 : decide (1099511627776 < (wrap64 (a0 + (wrap64 (Int.tdiv (wrap64 ((wrap64 ((wrap64 (a0 * a1)) + 100)) - 1)) 100))))) = true := decide_eq_true c10
            clear c10
            simp only [Option.some.injEq, Prod.mk.injEq] at H
            obtain ⟨rfl, rfl⟩ := H
            go_wp2
            go_ret2
            exact ⟨by first | rfl | (simp; done) | (simp [*]; done), by repeat (first | exact Drawn0.refl _ | apply Drawn0.step)⟩
          · rw [if_neg c10] at H
            have c10b0 : decide (1099511627776 < (wrap64 (a0 + (wrap64 (Int.tdiv (wrap64 ((wrap64 ((wrap64 (a0 * a1)) + 100)) - 1)) 100))))) = false := decide_eq_false c10
            clear c10
            simp only [Option.some.injEq, Prod.mk.injEq] at H
            obtain ⟨rfl, rfl⟩ := H
            go_wp2
            go_ret2
            exact ⟨by first | rfl | (simp; done) | (simp [*]; done), by repeat (first | exact Drawn0.refl _ | apply Drawn0.step)⟩

/-! ### hopperref01_Raise: function 20 -/
def hopperref01_Raise.j0 : Nat → Int → Int → Bool → Option (Int × Bool)
  | 0, _, _, _ => none
  | k + 1, x0, x1, x21 => if x21 = true then (some (0, false)) else (if (Int.tmod (wrap64 (x0 * (wrap64 (100 + x1)))) 100) > 0 then (if (mx (wrap64 ((wrap64 (Int.tdiv (wrap64 (x0 * (wrap64 (100 + x1)))) 100)) + 1)) (wrap64 (x0 + 1))) > 1099511627776 then (some (0, false)) else (some (mx (wrap64 ((wrap64 (Int.tdiv (wrap64 (x0 * (wrap64 (100 + x1)))) 100)) + 1)) (wrap64 (x0 + 1)), true))) else (if (mx (wrap64 (Int.tdiv (wrap64 (x0 * (wrap64 (100 + x1)))) 100)) (wrap64 (x0 + 1))) > 1099511627776 then (some (0, false)) else (some (mx (wrap64 (Int.tdiv (wrap64 (x0 * (wrap64 (100 + x1)))) 100)) (wrap64 (x0 + 1)), true))))
def hopperref01_Raise.f (k : Nat) (a0 : Int) (a1 : Int) : Option (Int × Bool) := if a0 < 0 then (hopperref01_Raise.j0 k a0 a1 true) else (if a0 > 1099511627776 then (hopperref01_Raise.j0 k a0 a1 true) else (if a1 < 0 then (hopperref01_Raise.j0 k a0 a1 true) else (hopperref01_Raise.j0 k a0 a1 (decide (a1 > 100)))))
theorem hopperref01_Raise.mono_l : ∀ k, (∀ y0 y1 y2, LeO (hopperref01_Raise.j0 k y0 y1 y2) (hopperref01_Raise.j0 (k + 1) y0 y1 y2))
  | 0 => fun _ _ _ r h => by simp [hopperref01_Raise.j0] at h
  | k + 1 => by
    have ih0 := hopperref01_Raise.mono_l k
    · intro y0 y1 y2
      unfold hopperref01_Raise.j0
      repeat' first
      | (with_reducible exact ih0 _ _ _)
      | (with_reducible exact LeO.refl _)
      | (with_reducible exact LeO.none _)
      | (with_reducible refine LeO.ite ?_ ?_)
      | (with_reducible refine LeO.bind ?_ (fun _ => ?_))
      | exact ih0 _ _ _
      | exact LeO.none _
      | refine LeO.ite ?_ ?_
      | refine LeO.bind ?_ (fun _ => ?_)
theorem hopperref01_Raise.mono : ∀ a0 a1 k, LeO (hopperref01_Raise.f k a0 a1) (hopperref01_Raise.f (k + 1) a0 a1) := by
  intro a0 a1 k
  have ih0 := hopperref01_Raise.mono_l k
  unfold hopperref01_Raise.f
  repeat' first
      | (with_reducible exact ih0 _ _ _)
      | (with_reducible exact LeO.refl _)
      | (with_reducible exact LeO.none _)
      | (with_reducible refine LeO.ite ?_ ?_)
      | (with_reducible refine LeO.bind ?_ (fun _ => ?_))
      | exact ih0 _ _ _
      | exact LeO.none _
      | refine LeO.ite ?_ ?_
      | refine LeO.bind ?_ (fun _ => ?_)
set_option maxHeartbeats 8000000 in
set_option maxRecDepth 100000 in
theorem hopperref01_Raise.calls (k : Nat) (a0 : Int) (a1 : Int) (r1 : Int) (r2 : Bool) (w : World) (h : hopperref01_Raise.f k a0 a1 = some (r1, r2)) :
    Calls Try.prog 20 #[.int .i64 a0, .int .i64 a1] w fun e w' => e = .returned (.tuple #[.int .i64 r1, .bool r2]) ∧ Below w.heap.size w w' := by
  have HB := Aside0.mk (Below.refl w.heap.size w)
  have H : (if a0 < 0 then (hopperref01_Raise.j0 k a0 a1 true) else (if a0 > 1099511627776 then (hopperref01_Raise.j0 k a0 a1 true) else (if a1 < 0 then (hopperref01_Raise.j0 k a0 a1 true) else (hopperref01_Raise.j0 k a0 a1 (decide (a1 > 100)))))) = some (r1, r2) := h
  clear h
  have HC3 := Aside0.mk H
  clear H
  go_enter Try.func20, Try.ntmps20
  go_upto_region 1 with (fail)
  go_cut [21] (fun v21 wc => ∃ (kq : Nat) (x21_2 : Bool), v21 = .bool x21_2 ∧ Aside0 (hopperref01_Raise.j0 kq a0 a1 x21_2 = some (r1, r2)) ∧ Aside0 (kq ≤ k) ∧ Aside0 (Below w.heap.size w wc))
  case first =>
    have H := HC3.out
    clear HC3
    by_cases c4 : a0 < 0
    · rw [if_pos c4] at H
      have c4b0 : decide (a0 < 0) = true := decide_eq_true c4
      clear c4
      (first | rw [c4b0] | (simp only [i64_w, i32_w]; rw [c4b0]) | skip)
      have H' := Aside0.mk H
      clear H
      go_wp2
      go_meet
      case rel => exact ⟨_, (true), (by first | rfl | (simp; done) | (simp [*]; done)), H', ⟨by first | omega | exact Nat.le_refl _⟩, ⟨by repeat (first | (with_reducible first | exact HB.out | apply below_alloc | apply pw_below_drewN | apply below_drew1) | exact HB.out)⟩⟩
    · rw [if_neg c4] at H
      have c4b0 : decide (a0 < 0) = false := decide_eq_false c4
      clear c4
      (first | rw [c4b0] | (simp only [i64_w, i32_w]; rw [c4b0]) | skip)
      by_cases c5 : a0 > 1099511627776
      · rw [if_pos c5] at H
        have c5b0 : decide (1099511627776 < a0) = true := decide_eq_true c5
        clear c5
        have H' := Aside0.mk H
        clear H
        go_wp2
        go_meet
        case rel => exact ⟨_, (true), (by first | rfl | (simp; done) | (simp [*]; done)), H', ⟨by first | omega | exact Nat.le_refl _⟩, ⟨by repeat (first | (with_reducible first | exact HB.out | apply below_alloc | apply pw_below_drewN | apply below_drew1) | exact HB.out)⟩⟩
      · rw [if_neg c5] at H
        have c5b0 : decide (1099511627776 < a0) = false := decide_eq_false c5
        clear c5
        by_cases c6 : a1 < 0
        · rw [if_pos c6] at H
          have c6b0 : decide (a1 < 0) = true := decide_eq_true c6
          clear c6
          have H' := Aside0.mk H
          clear H
          go_wp2
          go_meet
          case rel => exact ⟨_, (true), (by first | rfl | (simp; done) | (simp [*]; done)), H', ⟨by first | omega | exact Nat.le_refl _⟩, ⟨by repeat (first | (with_reducible first | exact HB.out | apply below_alloc | apply pw_below_drewN | apply below_drew1) | exact HB.out)⟩⟩
        · rw [if_neg c6] at H
          have c6b0 : decide (a1 < 0) = false := decide_eq_false c6
          clear c6
          have H' := Aside0.mk H
          clear H
          go_wp2
          go_meet
          case rel => exact ⟨_, (decide (a1 > 100)), (by first | rfl | (simp; done) | (simp [*]; done)), H', ⟨by first | omega | exact Nat.le_refl _⟩, ⟨by repeat (first | (with_reducible first | exact HB.out | apply below_alloc | apply pw_below_drewN | apply below_drew1) | exact HB.out)⟩⟩
  case rest =>
    clear HC3
    try clear c2
    try clear p2
    try clear c4
    try clear c4b0
    try clear c5
    try clear c5b0
    try clear c6
    try clear c6b0
    obtain ⟨kq, x21_2, rfl, HA, HJ2, HB⟩ := hcut
    cases kq with
    | zero => exact absurd HA.out (by simp [hopperref01_Raise.j0])
    | succ kj2 =>
      have H := HA.out
      clear HA
      simp only [hopperref01_Raise.j0] at H
      by_cases c7 : x21_2 = true
      · subst c7
        have H1 : (some (0, false)) = some (r1, r2) := by rw [if_pos rfl] at H; exact H
        clear H
        have H := H1
        clear H1
        simp only [Option.some.injEq, Prod.mk.injEq] at H
        obtain ⟨rfl, rfl⟩ := H
        go_wp2
        go_ret2
        exact ⟨by first | rfl | (simp [errW_none, errW_some] <;> rfl) | (simp [*, errW_none, errW_some] <;> rfl), by repeat (first | (with_reducible first | exact HB.out | apply below_alloc | apply pw_below_drewN | apply below_drew1) | exact HB.out)⟩
      · replace c7 := Bool.eq_false_iff.mpr c7
        subst c7
        have H1 : (if (Int.tmod (wrap64 (a0 * (wrap64 (100 + a1)))) 100) > 0 then (if (mx (wrap64 ((wrap64 (Int.tdiv (wrap64 (a0 * (wrap64 (100 + a1)))) 100)) + 1)) (wrap64 (a0 + 1))) > 1099511627776 then (some (0, false)) else (some (mx (wrap64 ((wrap64 (Int.tdiv (wrap64 (a0 * (wrap64 (100 + a1)))) 100)) + 1)) (wrap64 (a0 + 1)), true))) else (if (mx (wrap64 (Int.tdiv (wrap64 (a0 * (wrap64 (100 + a1)))) 100)) (wrap64 (a0 + 1))) > 1099511627776 then (some (0, false)) else (some (mx (wrap64 (Int.tdiv (wrap64 (a0 * (wrap64 (100 + a1)))) 100)) (wrap64 (a0 + 1)), true)))) = some (r1, r2) := by rw [if_neg (show ¬ (false = true) by decide)] at H; exact H
        clear H
        have H := H1
        clear H1
        by_cases c8 : (Int.tmod (wrap64 (a0 * (wrap64 (100 + a1)))) 100) > 0
        · rw [if_pos c8] at H
          have c8b0 : decide (0 < (Int.tmod (wrap64 (a0 * (wrap64 (100 + a1)))) 100)) = true := decide_eq_true c8
          clear c8
          obtain ⟨ji9, hji9⟩ : ∃ j_ : Int, (mx (wrap64 ((wrap64 (Int.tdiv (wrap64 (a0 * (wrap64 (100 + a1)))) 100)) + 1)) (wrap64 (a0 + 1))) = j_ := ⟨_, rfl⟩
          replace H : (if (ji9) > 1099511627776 then (some (0, false)) else (some (ji9, true))) = some (r1, r2) := by first | (rw [hji9] at H; exact H) | (simp only [hji9] at H ⊢; exact H)
          have hji9_ : (if (wrap64 ((wrap64 (Int.tdiv (wrap64 (a0 * (wrap64 (100 + a1)))) 100)) + 1)) < (wrap64 (a0 + 1)) then (wrap64 (a0 + 1)) else (wrap64 ((wrap64 (Int.tdiv (wrap64 (a0 * (wrap64 (100 + a1)))) 100)) + 1))) = ji9 := hji9
          by_cases c10 : (ji9) > 1099511627776
          · rw [if_pos c10] at H
            have c10b0 : decide (1099511627776 < (ji9)) = true := decide_eq_true c10
            clear c10
            simp only [Option.some.injEq, Prod.mk.injEq] at H
            obtain ⟨rfl, rfl⟩ := H
            go_wp2
            go_ret2
            exact ⟨by first | rfl | (simp [errW_none, errW_some] <;> rfl) | (simp only [← hji9]; first | rfl | (simp [errW_none, errW_some] <;> rfl)) | (simp [*, errW_none, errW_some] <;> rfl), by repeat (first | (with_reducible first | exact HB.out | apply below_alloc | apply pw_below_drewN | apply below_drew1) | exact HB.out)⟩
          · rw [if_neg c10] at H
            have c10b0 : decide (1099511627776 < (ji9)) = false := decide_eq_false c10
            clear c10
            simp only [Option.some.injEq, Prod.mk.injEq] at H
            obtain ⟨rfl, rfl⟩ := H
            go_wp2
            go_ret2
            exact ⟨by first | rfl | (simp [errW_none, errW_some] <;> rfl) | (simp only [← hji9]; first | rfl | (simp [errW_none, errW_some] <;> rfl)) | (simp [*, errW_none, errW_some] <;> rfl), by repeat (first | (with_reducible first | exact HB.out | apply below_alloc | apply pw_below_drewN | apply below_drew1) | exact HB.out)⟩
        · rw [if_neg c8] at H
          have c8b0 : decide (0 < (Int.tmod (wrap64 (a0 * (wrap64 (100 + a1)))) 100)) = false := decide_eq_false c8
          clear c8
          obtain ⟨ji11, hji11⟩ : ∃ j_ : Int, (mx (wrap64 (Int.tdiv (wrap64 (a0 * (wrap64 (100 + a1)))) 100)) (wrap64 (a0 + 1))) = j_ := ⟨_, rfl⟩
          replace H : (if (ji11) > 1099511627776 then (some (0, false)) else (some (ji11, true))) = some (r1, r2) := by first | (rw [hji11] at H; exact H) | (simp only [hji11] at H ⊢; exact H)
          have hji11_ : (if (wrap64 (Int.tdiv (wrap64 (a0 * (wrap64 (100 + a1)))) 100)) < (wrap64 (a0 + 1)) then (wrap64 (a0 + 1)) else (wrap64 (Int.tdiv (wrap64 (a0 * (wrap64 (100 + a1)))) 100))) = ji11 := hji11
          by_cases c12 : (ji11) > 1099511627776
          · rw [if_pos c12] at H
            have c12b0 : decide (1099511627776 < (ji11)) = true := decide_eq_true c12
            clear c12
            simp only [Option.some.injEq, Prod.mk.injEq] at H
            obtain ⟨rfl, rfl⟩ := H
            go_wp2
            go_ret2
            exact ⟨by first | rfl | (simp [errW_none, errW_some] <;> rfl) | (simp only [← hji11]; first | rfl | (simp [errW_none, errW_some] <;> rfl)) | (simp [*, errW_none, errW_some] <;> rfl), by repeat (first | (with_reducible first | exact HB.out | apply below_alloc | apply pw_below_drewN | apply below_drew1) | exact HB.out)⟩
          · rw [if_neg c12] at H
            have c12b0 : decide (1099511627776 < (ji11)) = false := decide_eq_false c12
            clear c12
            simp only [Option.some.injEq, Prod.mk.injEq] at H
            obtain ⟨rfl, rfl⟩ := H
            go_wp2
            go_ret2
            exact ⟨by first | rfl | (simp [errW_none, errW_some] <;> rfl) | (simp only [← hji11]; first | rfl | (simp [errW_none, errW_some] <;> rfl)) | (simp [*, errW_none, errW_some] <;> rfl), by repeat (first | (with_reducible first | exact HB.out | apply below_alloc | apply pw_below_drewN | apply below_drew1) | exact HB.out)⟩

/-! ### sat_Slots: function 21 -/
def sat_Slots.f (a0 : Int) : Option (Int) := if a0 < 0 then (some 0) else (if a0 > 400 then (some 0) else (some (mx 1 (wrap64 (Int.tdiv (wrap64 ((wrap64 (a0 + 32)) - 1)) 32)))))
set_option maxHeartbeats 8000000 in
set_option maxRecDepth 100000 in
theorem sat_Slots.calls (a0 : Int) (r : Int) (w : World) (h : sat_Slots.f a0 = some r) :
    Calls Try.prog 21 #[.int .i64 a0] w fun e w' => e = .returned (.int .i64 r) ∧ Below w.heap.size w w' := by
  have HB := Aside0.mk (Below.refl w.heap.size w)
  have H : (if a0 < 0 then (some 0) else (if a0 > 400 then (some 0) else (some (mx 1 (wrap64 (Int.tdiv (wrap64 ((wrap64 (a0 + 32)) - 1)) 32)))))) = some r := h
  clear h
  by_cases c2 : a0 < 0
  · rw [if_pos c2] at H
    have c2b0 : decide (a0 < 0) = true := decide_eq_true c2
    clear c2
    obtain rfl := Option.some.inj H
    go_enter Try.func21, Try.ntmps21
    go_wp2
    go_ret
    exact ⟨by first | rfl | (simp [errW_none, errW_some] <;> rfl) | (simp [*, errW_none, errW_some] <;> rfl), by repeat (first | (with_reducible first | exact HB.out | apply below_alloc | apply pw_below_drewN | apply below_drew1) | exact HB.out)⟩
  · rw [if_neg c2] at H
    have c2b0 : decide (a0 < 0) = false := decide_eq_false c2
    clear c2
    by_cases c3 : a0 > 400
    · rw [if_pos c3] at H
      have c3b0 : decide (400 < a0) = true := decide_eq_true c3
      clear c3
      obtain rfl := Option.some.inj H
      go_enter Try.func21, Try.ntmps21
      go_wp2
      go_ret
      exact ⟨by first | rfl | (simp [errW_none, errW_some] <;> rfl) | (simp [*, errW_none, errW_some] <;> rfl), by repeat (first | (with_reducible first | exact HB.out | apply below_alloc | apply pw_below_drewN | apply below_drew1) | exact HB.out)⟩
    · rw [if_neg c3] at H
      have c3b0 : decide (400 < a0) = false := decide_eq_false c3
      clear c3
      obtain ⟨ji4, hji4⟩ : ∃ j_ : Int, (mx 1 (wrap64 (Int.tdiv (wrap64 ((wrap64 (a0 + 32)) - 1)) 32))) = j_ := ⟨_, rfl⟩
      replace H : (some ji4) = some r := by first | (rw [hji4] at H; exact H) | (simp only [hji4] at H ⊢; exact H)
      (try (have hji4l : 1 ≤ ji4 := by (rw [← hji4]; unfold mx; (repeat' split) <;> omega)))
      (try (have hji4m : 0 ≤ ji4 := by omega))
      have hji4_ : (if 1 < (wrap64 (Int.tdiv (wrap64 ((wrap64 (a0 + 32)) - 1)) 32)) then (wrap64 (Int.tdiv (wrap64 ((wrap64 (a0 + 32)) - 1)) 32)) else 1) = ji4 := hji4
      obtain rfl := Option.some.inj H
      go_enter Try.func21, Try.ntmps21
      go_wp2
      go_ret
      exact ⟨by first | rfl | (simp [errW_none, errW_some] <;> rfl) | (simp only [← hji4]; first | rfl | (simp [errW_none, errW_some] <;> rfl)) | (simp [*, errW_none, errW_some] <;> rfl), by repeat (first | (with_reducible first | exact HB.out | apply below_alloc | apply pw_below_drewN | apply below_drew1) | exact HB.out)⟩

/-! ### hopperref01_Slots: function 22 -/
def hopperref01_Slots.f (a0 : Int) : Option (Int) := if a0 < 0 then (some 0) else (if a0 > 400 then (some 0) else (some (mx (wrap64 (Int.tdiv (wrap64 (a0 + 31)) 32)) 1)))
set_option maxHeartbeats 8000000 in
set_option maxRecDepth 100000 in
theorem hopperref01_Slots.calls (a0 : Int) (r : Int) (w : World) (h : hopperref01_Slots.f a0 = some r) :
    Calls Try.prog 22 #[.int .i64 a0] w fun e w' => e = .returned (.int .i64 r) ∧ Below w.heap.size w w' := by
  have HB := Aside0.mk (Below.refl w.heap.size w)
  have H : (if a0 < 0 then (some 0) else (if a0 > 400 then (some 0) else (some (mx (wrap64 (Int.tdiv (wrap64 (a0 + 31)) 32)) 1)))) = some r := h
  clear h
  by_cases c2 : a0 < 0
  · rw [if_pos c2] at H
    have c2b0 : decide (a0 < 0) = true := decide_eq_true c2
    clear c2
    obtain rfl := Option.some.inj H
    go_enter Try.func22, Try.ntmps22
    go_wp2
    go_ret
    exact ⟨by first | rfl | (simp [errW_none, errW_some] <;> rfl) | (simp [*, errW_none, errW_some] <;> rfl), by repeat (first | (with_reducible first | exact HB.out | apply below_alloc | apply pw_below_drewN | apply below_drew1) | exact HB.out)⟩
  · rw [if_neg c2] at H
    have c2b0 : decide (a0 < 0) = false := decide_eq_false c2
    clear c2
    by_cases c3 : a0 > 400
    · rw [if_pos c3] at H
      have c3b0 : decide (400 < a0) = true := decide_eq_true c3
      clear c3
      obtain rfl := Option.some.inj H
      go_enter Try.func22, Try.ntmps22
      go_wp2
      go_ret
      exact ⟨by first | rfl | (simp [errW_none, errW_some] <;> rfl) | (simp [*, errW_none, errW_some] <;> rfl), by repeat (first | (with_reducible first | exact HB.out | apply below_alloc | apply pw_below_drewN | apply below_drew1) | exact HB.out)⟩
    · rw [if_neg c3] at H
      have c3b0 : decide (400 < a0) = false := decide_eq_false c3
      clear c3
      obtain ⟨ji4, hji4⟩ : ∃ j_ : Int, (mx (wrap64 (Int.tdiv (wrap64 (a0 + 31)) 32)) 1) = j_ := ⟨_, rfl⟩
      replace H : (some ji4) = some r := by first | (rw [hji4] at H; exact H) | (simp only [hji4] at H ⊢; exact H)
      (try (have hji4l : 1 ≤ ji4 := by (rw [← hji4]; unfold mx; (repeat' split) <;> omega)))
      (try (have hji4m : 0 ≤ ji4 := by omega))
      have hji4_ : (if (wrap64 (Int.tdiv (wrap64 (a0 + 31)) 32)) < 1 then 1 else (wrap64 (Int.tdiv (wrap64 (a0 + 31)) 32))) = ji4 := hji4
      obtain rfl := Option.some.inj H
      go_enter Try.func22, Try.ntmps22
      go_wp2
      go_ret
      exact ⟨by first | rfl | (simp [errW_none, errW_some] <;> rfl) | (simp only [← hji4]; first | rfl | (simp [errW_none, errW_some] <;> rfl)) | (simp [*, errW_none, errW_some] <;> rfl), by repeat (first | (with_reducible first | exact HB.out | apply below_alloc | apply pw_below_drewN | apply below_drew1) | exact HB.out)⟩

/-! ### sat_pair: function 35, by hand -/
-- HAND rounds=0 making=1 opaque
-- IMPORT Derived.Test.YtfpomamhcjkoeaaFlt
-- IMPORT Derived.Laws.ComplexArith
theorem sat_pair.calls (a b : Int) (w : World) :
    Calls Try.prog 35 #[.agg #[.int .i64 a, .int .i64 b]] w fun e w' => e = .returned (.complex .f64 (floatOfInt .f64 a) (floatOfInt .f64 b)) ∧ Below w.heap.size w w' := by
  have hu := Try.underlying29
  go_enter Try.func35, Try.ntmps35
  go_wp2
  go_ret
  exact ⟨rfl, below_alloc (Below.refl _ _) _⟩


end Go.Proofs.Ytfpomamhcjkoeaa.S
