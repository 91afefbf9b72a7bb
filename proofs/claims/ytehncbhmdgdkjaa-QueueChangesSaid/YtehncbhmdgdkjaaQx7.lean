/- Written by this session's own program over the kit's print: functions of Go told as plain functions, or the row of one statement; proved for every input, with no condition of ours. -/
import Derived.Test.YtehncbhmdgdkjaaQx0
import Derived.Test.YtehncbhmdgdkjaaQx4
import Derived.Test.YtehncbhmdgdkjaaQx5
import Derived.Test.YtehncbhmdgdkjaaQx6
namespace Go.Proofs.Ytehncbhmdgdkjaa.Q
open Go.RowKit Go.Proofs.YtehncbhmdgdkjaaW.PrintWords Go.Proofs.YtehncbhmdgdkjaaW.PrintLast Go.Proofs.YtehncbhmdgdkjaaW.PrintMore
attribute [local go_sem] max2_int min2_int max_two min_two max_three min_three max_four min_four   -- for this text's walks alone
set_option linter.unusedVariables false
set_option linter.unusedSimpArgs false

/-! ### sat_Raise: function 105 -/
def sat_Raise.j0 : Nat → Int → Int → Bool → Option (Int × Bool)
 | 0, _, _, _ => none
 | k + 1, x0, x1, x20 => if x20 = true then (some (0, false)) else (if (wrap64 (x0 + (wrap64 (Int.tdiv (wrap64 ((wrap64 ((wrap64 (x0 * x1)) + 100)) - 1)) 100)))) = x0 then (if (wrap64 ((wrap64 (x0 + (wrap64 (Int.tdiv (wrap64 ((wrap64 ((wrap64 (x0 * x1)) + 100)) - 1)) 100)))) + 1)) > 1099511627776 then (some (0, false)) else (some (wrap64 ((wrap64 (x0 + (wrap64 (Int.tdiv (wrap64 ((wrap64 ((wrap64 (x0 * x1)) + 100)) - 1)) 100)))) + 1), true))) else (if (wrap64 (x0 + (wrap64 (Int.tdiv (wrap64 ((wrap64 ((wrap64 (x0 * x1)) + 100)) - 1)) 100)))) > 1099511627776 then (some (0, false)) else (some (wrap64 (x0 + (wrap64 (Int.tdiv (wrap64 ((wrap64 ((wrap64 (x0 * x1)) + 100)) - 1)) 100))), true))))
def sat_Raise.f (k : Nat) (a0 : Int) (a1 : Int) : Option (Int × Bool) := if a0 < 0 then (sat_Raise.j0 k a0 a1 true) else (if a0 > 1099511627776 then (sat_Raise.j0 k a0 a1 true) else (if a1 < 0 then (sat_Raise.j0 k a0 a1 true) else (sat_Raise.j0 k a0 a1 (decide (a1 > 100)))))
theorem sat_Raise.mono_l : ∀ k, (∀ y0 y1 y2, LeO (sat_Raise.j0 k y0 y1 y2) (sat_Raise.j0 (k + 1) y0 y1 y2))
 | 0 => fun _ _ _ r h => by simp [sat_Raise.j0] at h
 | k + 1 => by
  have ih0 := sat_Raise.mono_l k
  · intro y0 y1 y2
    unfold sat_Raise.j0
    repeat' first
    | (with_reducible exact ih0 _ _ _)
    | (with_reducible exact LeO.refl _)
    | (with_reducible exact LeO.none _)
    | (with_reducible refine LeO.ite ?_ ?_)
    | (with_reducible refine LeO.bind ?_ (fun _ => ?_))
    | exact ih0 _ _ _
    | exact LeO.none _
    | refine LeO.ite ?_ ?_
    | refine LeO.bind ?_ (fun _ => ?_)
theorem sat_Raise.mono : ∀ a0 a1 k, LeO (sat_Raise.f k a0 a1) (sat_Raise.f (k + 1) a0 a1) := by
 intro a0 a1 k
 have ih0 := sat_Raise.mono_l k
 unfold sat_Raise.f
 repeat' first
  | (with_reducible exact ih0 _ _ _)
  | (with_reducible exact LeO.refl _)
  | (with_reducible exact LeO.none _)
  | (with_reducible refine LeO.ite ?_ ?_)
  | (with_reducible refine LeO.bind ?_ (fun _ => ?_))
  | exact ih0 _ _ _
  | exact LeO.none _
  | refine LeO.ite ?_ ?_
  | refine LeO.bind ?_ (fun _ => ?_)
set_option maxHeartbeats 8000000 in
set_option maxRecDepth 100000 in
theorem sat_Raise.calls (k : Nat) (a0 : Int) (a1 : Int) (r1 : Int) (r2 : Bool) (w : World) (h : sat_Raise.f k a0 a1 = some (r1, r2)) :
 Calls Try.prog 105 #[.int .i64 a0, .int .i64 a1] w fun e w' => e = .returned (.tuple #[.int .i64 r1, .bool r2]) ∧ Drawn0 w w' := by
 have H : (if a0 < 0 then (sat_Raise.j0 k a0 a1 true) else (if a0 > 1099511627776 then (sat_Raise.j0 k a0 a1 true) else (if a1 < 0 then (sat_Raise.j0 k a0 a1 true) else (sat_Raise.j0 k a0 a1 (decide (a1 > 100)))))) = some (r1, r2) := h
 clear h
 have HC3 := A_ H
 clear H
 go_enter Try.func105, Try.ntmps105
 go_upto_region 1 with (fail)
 go_cut [20] (fun v20 wc => ∃ (kq : Nat) (x20_2 : Bool), v20 = .bool x20_2 ∧ Aside0 (sat_Raise.j0 kq a0 a1 x20_2 = some (r1, r2)) ∧ Aside0 (kq ≤ k) ∧ Drawn0 w wc)
 case first =>
  have H := HC3.out
  clear HC3
  by_cases c4 : a0 < 0
  · rw [if_pos c4] at H
    have c4b0 : decide (a0 < 0) = true := decide_eq_true c4
    clear c4
    (first | rw [c4b0] | (simp only [i64_w, i32_w]; rw [c4b0]) | skip)
    have H' := A_ H
    clear H
    go_wp2
    go_meet
    case rel => exact ⟨_, (true), (by first | rfl | (simp; done) | (simp [*]; done)), H', ⟨by first | omega | exact Nat.le_refl _⟩, by repeat (first | exact Drawn0.refl _ | apply Drawn0.step)⟩
  rw [if_neg c4] at H
  have c4b0 : decide (a0 < 0) = false := decide_eq_false c4
  clear c4
  (first | rw [c4b0] | (simp only [i64_w, i32_w]; rw [c4b0]) | skip)
  by_cases c5 : a0 > 1099511627776
  · rw [if_pos c5] at H
    have c5b0 : decide (1099511627776 < a0) = true := decide_eq_true c5
    clear c5
    have H' := A_ H
    clear H
    go_wp2
    go_meet
    case rel => exact ⟨_, (true), (by first | rfl | (simp; done) | (simp [*]; done)), H', ⟨by first | omega | exact Nat.le_refl _⟩, by repeat (first | exact Drawn0.refl _ | apply Drawn0.step)⟩
  rw [if_neg c5] at H
  have c5b0 : decide (1099511627776 < a0) = false := decide_eq_false c5
  clear c5
  by_cases c6 : a1 < 0
  · rw [if_pos c6] at H
    have c6b0 : decide (a1 < 0) = true := decide_eq_true c6
    clear c6
    have H' := A_ H
    clear H
    go_wp2
    go_meet
    case rel => exact ⟨_, (true), (by first | rfl | (simp; done) | (simp [*]; done)), H', ⟨by first | omega | exact Nat.le_refl _⟩, by repeat (first | exact Drawn0.refl _ | apply Drawn0.step)⟩
  · rw [if_neg c6] at H
    have c6b0 : decide (a1 < 0) = false := decide_eq_false c6
    clear c6
    have H' := A_ H
    clear H
    go_wp2
    go_meet
    case rel => exact ⟨_, (decide (a1 > 100)), (by first | rfl | (simp; done) | (simp [*]; done)), H', ⟨by first | omega | exact Nat.le_refl _⟩, by repeat (first | exact Drawn0.refl _ | apply Drawn0.step)⟩
 case rest =>
  clear HC3; (try clear c1); (try clear p2); (try clear c4); (try clear c4b0); (try clear c5); (try clear c5b0); (try clear c6); (try clear c6b0)
  obtain ⟨kq, x20_2, rfl, HA, HJ2, ⟨mc2, rfl⟩⟩ := hcut
  cases kq with
  | zero => exact absurd HA.out (by simp [sat_Raise.j0])
  | succ kj2 =>
   have H := HA.out
   clear HA
   simp only [sat_Raise.j0] at H
   by_cases c7 : x20_2 = true
   · subst c7
     have H1 : (some (0, false)) = some (r1, r2) := by rw [if_pos rfl] at H; exact H
     clear H
     have H := H1
     clear H1
     simp only [Option.some.injEq, Prod.mk.injEq] at H
     obtain ⟨rfl, rfl⟩ := H
     go_wp2
     go_ret2
     exact ⟨by first | rfl | (simp; done) | (simp [*]; done), by repeat (first | exact Drawn0.refl _ | apply Drawn0.step)⟩
   replace c7 := Bool.eq_false_iff.mpr c7
   subst c7
   have H1 : (if (wrap64 (a0 + (wrap64 (Int.tdiv (wrap64 ((wrap64 ((wrap64 (a0 * a1)) + 100)) - 1)) 100)))) = a0 then (if (wrap64 ((wrap64 (a0 + (wrap64 (Int.tdiv (wrap64 ((wrap64 ((wrap64 (a0 * a1)) + 100)) - 1)) 100)))) + 1)) > 1099511627776 then (some (0, false)) else (some (wrap64 ((wrap64 (a0 + (wrap64 (Int.tdiv (wrap64 ((wrap64 ((wrap64 (a0 * a1)) + 100)) - 1)) 100)))) + 1), true))) else (if (wrap64 (a0 + (wrap64 (Int.tdiv (wrap64 ((wrap64 ((wrap64 (a0 * a1)) + 100)) - 1)) 100)))) > 1099511627776 then (some (0, false)) else (some (wrap64 (a0 + (wrap64 (Int.tdiv (wrap64 ((wrap64 ((wrap64 (a0 * a1)) + 100)) - 1)) 100))), true)))) = some (r1, r2) := by rw [if_neg (show ¬ (false = true) by decide)] at H; exact H
   clear H
   have H := H1
   clear H1
   by_cases c8 : (wrap64 (a0 + (wrap64 (Int.tdiv (wrap64 ((wrap64 ((wrap64 (a0 * a1)) + 100)) - 1)) 100)))) = a0
   · rw [if_pos c8] at H
     have c8b0 : ((wrap64 (a0 + (wrap64 (Int.tdiv (wrap64 ((wrap64 ((wrap64 (a0 * a1)) + 100)) - 1)) 100)))) == a0) = true := beq_iff_eq.mpr c8
     have c8b1 : ((wrap64 (a0 + (wrap64 (Int.tdiv (wrap64 ((wrap64 ((wrap64 (a0 * a1)) + 100)) - 1)) 100)))) != a0) = false := bne_eq_false_iff_eq.mpr c8
     clear c8
     by_cases c9 : (wrap64 ((wrap64 (a0 + (wrap64 (Int.tdiv (wrap64 ((wrap64 ((wrap64 (a0 * a1)) + 100)) - 1)) 100)))) + 1)) > 1099511627776
     · rw [if_pos c9] at H
       have c9b0 : decide (1099511627776 < (wrap64 ((wrap64 (a0 + (wrap64 (Int.tdiv (wrap64 ((wrap64 ((wrap64 (a0 * a1)) + 100)) - 1)) 100)))) + 1))) = true := decide_eq_true c9
       clear c9
       simp only [Option.some.injEq, Prod.mk.injEq] at H
       obtain ⟨rfl, rfl⟩ := H
       go_wp2
       go_ret2
       exact ⟨by first | rfl | (simp; done) | (simp [*]; done), by repeat (first | exact Drawn0.refl _ | apply Drawn0.step)⟩
     · rw [if_neg c9] at H
       have c9b0 : decide (1099511627776 < (wrap64 ((wrap64 (a0 + (wrap64 (Int.tdiv (wrap64 ((wrap64 ((wrap64 (a0 * a1)) + 100)) - 1)) 100)))) + 1))) = false := decide_eq_false c9
       clear c9
       simp only [Option.some.injEq, Prod.mk.injEq] at H
       obtain ⟨rfl, rfl⟩ := H
       go_wp2
       go_ret2
       exact ⟨by first | rfl | (simp; done) | (simp [*]; done), by repeat (first | exact Drawn0.refl _ | apply Drawn0.step)⟩
   · rw [if_neg c8] at H
     have c8b0 : ((wrap64 (a0 + (wrap64 (Int.tdiv (wrap64 ((wrap64 ((wrap64 (a0 * a1)) + 100)) - 1)) 100)))) == a0) = false := beq_eq_false_iff_ne.mpr c8
     have c8b1 : ((wrap64 (a0 + (wrap64 (Int.tdiv (wrap64 ((wrap64 ((wrap64 (a0 * a1)) + 100)) - 1)) 100)))) != a0) = true := bne_iff_ne.mpr c8
     by_cases c10 : (wrap64 (a0 + (wrap64 (Int.tdiv (wrap64 ((wrap64 ((wrap64 (a0 * a1)) + 100)) - 1)) 100)))) > 1099511627776
     · rw [if_pos c10] at H
       have c10b0 : decide (1099511627776 < (wrap64 (a0 + (wrap64 (Int.tdiv (wrap64 ((wrap64 ((wrap64 (a0 * a1)) + 100)) - 1)) 100))))) = true := decide_eq_true c10
       clear c10
       simp only [Option.some.injEq, Prod.mk.injEq] at H
       obtain ⟨rfl, rfl⟩ := H
       go_wp2
       go_ret2
       exact ⟨by first | rfl | (simp; done) | (simp [*]; done), by repeat (first | exact Drawn0.refl _ | apply Drawn0.step)⟩
     · rw [if_neg c10] at H
       have c10b0 : decide (1099511627776 < (wrap64 (a0 + (wrap64 (Int.tdiv (wrap64 ((wrap64 ((wrap64 (a0 * a1)) + 100)) - 1)) 100))))) = false := decide_eq_false c10
       clear c10
       simp only [Option.some.injEq, Prod.mk.injEq] at H
       obtain ⟨rfl, rfl⟩ := H
       go_wp2
       go_ret2
       exact ⟨by first | rfl | (simp; done) | (simp [*]; done), by repeat (first | exact Drawn0.refl _ | apply Drawn0.step)⟩

/-! ### queue_Place: function 58 -/
mutual
def queue_Place.j0 : Nat → Int → Int → Bool → Int → Int → List (S24) → Int → Int → Int → Int → Int → ByteArray → Option (Int × Int)
 | 0, _, _, _, _, _, _, _, _, _, _, _, _ => none
 | k + 1, x2, x3, x14, x157000, x157001, x157002, x158000, x158001, x158002, x158003, x158004, x158005 => if x14 = true then (some (0, 1)) else (if x158001 < x157001 then (some (0, 3)) else ((queue_Find.f x157000 x157001 x157002 x158001).bind fun bt161 => (if bt161.2.2.2.2.2.2 = true then ((sat_Raise.f k bt161.2.2.1 x3).bind fun bt170 => (if bt170.2 = true then (queue_Place.j1 k (decide (x158002 < bt170.1)) x158000 x158001 x158002 x158003 x158004 x158005 bt161.1 bt161.2.1 bt161.2.2.1 bt161.2.2.2.1 bt161.2.2.2.2.1 bt161.2.2.2.2.2.1) else (queue_Place.j1 k true x158000 x158001 x158002 x158003 x158004 x158005 bt161.1 bt161.2.1 bt161.2.2.1 bt161.2.2.2.1 bt161.2.2.2.2.1 bt161.2.2.2.2.2.1))) else (if (x157002.length : Int) = x2 then (some (0, 5)) else ((txn_Slots.f x158000 x158001 x158002 x158003 x158004 x158005).bind fun t169 => (some (t169, 0)))))))
def queue_Place.j1 : Nat → Bool → Int → Int → Int → Int → Int → ByteArray → Int → Int → Int → Int → Int → ByteArray → Option (Int × Int)
 | 0, _, _, _, _, _, _, _, _, _, _, _, _, _ => none
 | k + 1, x72, x158000, x158001, x158002, x158003, x158004, x158005, x169000, x169001, x169002, x169003, x169004, x169005 => if x72 = true then (some (0, 4)) else ((txn_Slots.f x158000 x158001 x158002 x158003 x158004 x158005).bind fun t172 => ((txn_Slots.f x169000 x169001 x169002 x169003 x169004 x169005).bind fun t173 => (some (wrap64 (t172 - t173), 0))))
end
def queue_Place.f (k : Nat) (a0_0 : Int) (a0_1 : Int) (l0_2 : List (S24)) (a1_0 : Int) (a1_1 : Int) (a1_2 : Int) (a1_3 : Int) (a1_4 : Int) (a1_5 : ByteArray) (a2 : Int) (a3 : Int) : Option (Int × Int) := (queue_Check.f k a0_0 a0_1 l0_2 a2).bind fun t158 => (if t158 = true then ((txn_Check.f a1_0 a1_1 a1_2 a1_3 a1_4 a1_5).bind fun t159 => (if t159 = true then (if a1_0 = a0_0 then ((queue_in.f a3 0 100).bind fun t160 => (queue_Place.j0 k a2 a3 (!t160) a0_0 a0_1 l0_2 a1_0 a1_1 a1_2 a1_3 a1_4 a1_5)) else (queue_Place.j0 k a2 a3 true a0_0 a0_1 l0_2 a1_0 a1_1 a1_2 a1_3 a1_4 a1_5)) else (queue_Place.j0 k a2 a3 true a0_0 a0_1 l0_2 a1_0 a1_1 a1_2 a1_3 a1_4 a1_5))) else (queue_Place.j0 k a2 a3 true a0_0 a0_1 l0_2 a1_0 a1_1 a1_2 a1_3 a1_4 a1_5))
theorem queue_Place.mono_l : ∀ k, (∀ y0 y1 y2 y3 y4 y5 y6 y7 y8 y9 y10 y11, LeO (queue_Place.j0 k y0 y1 y2 y3 y4 y5 y6 y7 y8 y9 y10 y11) (queue_Place.j0 (k + 1) y0 y1 y2 y3 y4 y5 y6 y7 y8 y9 y10 y11)) ∧ (∀ y0 y1 y2 y3 y4 y5 y6 y7 y8 y9 y10 y11 y12, LeO (queue_Place.j1 k y0 y1 y2 y3 y4 y5 y6 y7 y8 y9 y10 y11 y12) (queue_Place.j1 (k + 1) y0 y1 y2 y3 y4 y5 y6 y7 y8 y9 y10 y11 y12))
 | 0 => ⟨fun _ _ _ _ _ _ _ _ _ _ _ _ r h => by simp [queue_Place.j0] at h, fun _ _ _ _ _ _ _ _ _ _ _ _ _ r h => by simp [queue_Place.j1] at h⟩
 | k + 1 => by
  obtain ⟨ih0, ih1⟩ := queue_Place.mono_l k
  refine ⟨?_, ?_⟩
  · intro y0 y1 y2 y3 y4 y5 y6 y7 y8 y9 y10 y11
    unfold queue_Place.j0
    repeat' first
    | (with_reducible exact ih0 _ _ _ _ _ _ _ _ _ _ _ _)
    | (with_reducible exact ih1 _ _ _ _ _ _ _ _ _ _ _ _ _)
    | (with_reducible exact queue_Check.mono _ _ _ _ _)
    | (with_reducible exact sat_Raise.mono _ _ _)
    | (with_reducible exact LeO.refl _)
    | (with_reducible exact LeO.none _)
    | (with_reducible refine LeO.ite ?_ ?_)
    | (with_reducible refine LeO.bind ?_ (fun _ => ?_))
    | exact ih0 _ _ _ _ _ _ _ _ _ _ _ _
    | exact ih1 _ _ _ _ _ _ _ _ _ _ _ _ _
    | exact queue_Check.mono _ _ _ _ _
    | exact sat_Raise.mono _ _ _
    | exact LeO.none _
    | refine LeO.ite ?_ ?_
    | refine LeO.bind ?_ (fun _ => ?_)
  · intro y0 y1 y2 y3 y4 y5 y6 y7 y8 y9 y10 y11 y12
    unfold queue_Place.j1
    repeat' first
    | (with_reducible exact ih0 _ _ _ _ _ _ _ _ _ _ _ _)
    | (with_reducible exact ih1 _ _ _ _ _ _ _ _ _ _ _ _ _)
    | (with_reducible exact queue_Check.mono _ _ _ _ _)
    | (with_reducible exact sat_Raise.mono _ _ _)
    | (with_reducible exact LeO.refl _)
    | (with_reducible exact LeO.none _)
    | (with_reducible refine LeO.ite ?_ ?_)
    | (with_reducible refine LeO.bind ?_ (fun _ => ?_))
    | exact ih0 _ _ _ _ _ _ _ _ _ _ _ _
    | exact ih1 _ _ _ _ _ _ _ _ _ _ _ _ _
    | exact queue_Check.mono _ _ _ _ _
    | exact sat_Raise.mono _ _ _
    | exact LeO.none _
    | refine LeO.ite ?_ ?_
    | refine LeO.bind ?_ (fun _ => ?_)
theorem queue_Place.mono : ∀ a0 a1 a2 a3 a4 a5 a6 a7 a8 a9 a10 k, LeO (queue_Place.f k a0 a1 a2 a3 a4 a5 a6 a7 a8 a9 a10) (queue_Place.f (k + 1) a0 a1 a2 a3 a4 a5 a6 a7 a8 a9 a10) := by
 intro a0 a1 a2 a3 a4 a5 a6 a7 a8 a9 a10 k
 obtain ⟨ih0, ih1⟩ := queue_Place.mono_l k
 unfold queue_Place.f
 repeat' first
  | (with_reducible exact ih0 _ _ _ _ _ _ _ _ _ _ _ _)
  | (with_reducible exact ih1 _ _ _ _ _ _ _ _ _ _ _ _ _)
  | (with_reducible exact queue_Check.mono _ _ _ _ _)
  | (with_reducible exact sat_Raise.mono _ _ _)
  | (with_reducible exact LeO.refl _)
  | (with_reducible exact LeO.none _)
  | (with_reducible refine LeO.ite ?_ ?_)
  | (with_reducible refine LeO.bind ?_ (fun _ => ?_))
  | exact ih0 _ _ _ _ _ _ _ _ _ _ _ _
  | exact ih1 _ _ _ _ _ _ _ _ _ _ _ _ _
  | exact queue_Check.mono _ _ _ _ _
  | exact sat_Raise.mono _ _ _
  | exact LeO.none _
  | refine LeO.ite ?_ ?_
  | refine LeO.bind ?_ (fun _ => ?_)
set_option maxHeartbeats 8000000 in
set_option maxRecDepth 100000 in
theorem queue_Place.calls (k : Nat) (a0_0 : Int) (a0_1 : Int) (A0_2 : Option Addr) (c0_2 : Nat) (l0_2 : List (S24)) (a1_0 : Int) (a1_1 : Int) (a1_2 : Int) (a1_3 : Int) (a1_4 : Int) (a1_5 : ByteArray) (a2 : Int) (a3 : Int) (r1 : Int) (r2 : Int) (w : World) (hr0_2 : Kd.C k24 w A0_2 l0_2.length l0_2) (hc0_2 : l0_2.length ≤ c0_2) (h : queue_Place.f k a0_0 a0_1 l0_2 a1_0 a1_1 a1_2 a1_3 a1_4 a1_5 a2 a3 = some (r1, r2)) :
 Calls Try.prog 58 #[.agg #[.int .i64 a0_0, .int .i64 a0_1, .slice A0_2 l0_2.length c0_2], .agg #[.int .i64 a1_0, .int .i64 a1_1, .int .i64 a1_2, .int .i64 a1_3, .int .i64 a1_4, .string a1_5], .int .i64 a2, .int .i64 a3] w fun e w' => e = .returned (.tuple #[.int .i64 r1, .int .i64 r2]) ∧ Below w.heap.size w w' := by
 have hu46 := Try.underlying46
 have hu24 := Try.underlying24
 have HR0_2 := A_ hr0_2
 have HC0_2 := A_ hc0_2
 clear hr0_2 hc0_2; have HB := A_ (Below.refl w.heap.size w)
 have H : ((queue_Check.f k a0_0 a0_1 l0_2 a2).bind fun t158 => (if t158 = true then ((txn_Check.f a1_0 a1_1 a1_2 a1_3 a1_4 a1_5).bind fun t159 => (if t159 = true then (if a1_0 = a0_0 then ((queue_in.f a3 0 100).bind fun t160 => (queue_Place.j0 k a2 a3 (!t160) a0_0 a0_1 l0_2 a1_0 a1_1 a1_2 a1_3 a1_4 a1_5)) else (queue_Place.j0 k a2 a3 true a0_0 a0_1 l0_2 a1_0 a1_1 a1_2 a1_3 a1_4 a1_5)) else (queue_Place.j0 k a2 a3 true a0_0 a0_1 l0_2 a1_0 a1_1 a1_2 a1_3 a1_4 a1_5))) else (queue_Place.j0 k a2 a3 true a0_0 a0_1 l0_2 a1_0 a1_1 a1_2 a1_3 a1_4 a1_5))) = some (r1, r2) := h
 clear h
 have HC5 := A_ H
 clear H
 go_enter Try.func58, Try.ntmps58
 go_upto_region 1 with (first | ((with_reducible refine gate_dst (N := 4) rfl ?_); refine box_event ?hg (N := 4) ?hd (cs := #[.int .i64 a0_0, .int .i64 a0_1, .slice A0_2 l0_2.length c0_2]) (t := 46) ?hr ?_; (case hd => rfl); (case hg => rfl); (case hr => first | (go_simp; done) | (go_simp; rfl)); intro gb156 hg w6 hbox hb; have n0_ := A_ (below_step bw_ hb); have n1_ := A_ (hbox); have n2_ := A_ (gz_ (w := w) hg); have n3_ := A_ (gz_ (w := w) hg); replace HB := n0_; have BK156 := n1_; have GW156 := n2_; have GE156 := n3_; clear n0_ n1_ n2_ n3_; clear hb hbox hg) | ((with_reducible refine gate_dst (N := 5) rfl ?_); refine box_event ?hg (N := 5) ?hd (cs := #[.int .i64 a1_0, .int .i64 a1_1, .int .i64 a1_2, .int .i64 a1_3, .int .i64 a1_4, .string a1_5]) (t := 24) ?hr ?_; (case hd => rfl); (case hg => rfl); (case hr => first | (go_simp; done) | (go_simp; rfl)); intro gb157 hg w7 hbox hb; have n0_ := A_ (kb_ BK156 hb); have n1_ := A_ (below_step bw_ hb); have n2_ := A_ (hbox); have n3_ := A_ (gz_ (w := w) hg); have n4_ := A_ (gz_ (w := w) hg); have n5_ := A_ (nl_ BK156 hg); have n6_ := A_ (ng_ BK156 hg); replace BK156 := n0_; replace HB := n1_; have BK157 := n2_; have GW157 := n3_; have GE157 := n4_; have NB156_157 := n5_; have NB157_156 := n6_; clear n0_ n1_ n2_ n3_ n4_ n5_ n6_; clear hb hbox hg))
 (try simp only [Act.put, s0_, s1_, s2_])
 go_cut [14] (fun v14 wc => ∃ (kq : Nat) (x14_4 : Bool), v14 = .bool x14_4 ∧ Aside0 (queue_Place.j0 kq a2 a3 x14_4 a0_0 a0_1 l0_2 a1_0 a1_1 a1_2 a1_3 a1_4 a1_5 = some (r1, r2)) ∧ Aside0 (kq ≤ k) ∧ Aside0 (wc.heap[gb156]? = some (.cells #[.int .i64 a0_0, .int .i64 a0_1, (.slice A0_2 l0_2.length c0_2)] 46 (0, 0))) ∧ Aside0 (wc.heap[gb157]? = some (.cells #[.int .i64 a1_0, .int .i64 a1_1, .int .i64 a1_2, .int .i64 a1_3, .int .i64 a1_4, .string a1_5] 24 (0, 0))) ∧ Aside0 (Below w.heap.size w wc))
 case first =>
  have H := HC5.out
  clear HC5
  replace H := Option.bind_eq_some_iff.mp H
  obtain ⟨t158, A80, H⟩ := H
  replace H : (if t158 = true then ((txn_Check.f a1_0 a1_1 a1_2 a1_3 a1_4 a1_5).bind fun t159 => (if t159 = true then (if a1_0 = a0_0 then ((queue_in.f a3 0 100).bind fun t160 => (queue_Place.j0 k a2 a3 (!t160) a0_0 a0_1 l0_2 a1_0 a1_1 a1_2 a1_3 a1_4 a1_5)) else (queue_Place.j0 k a2 a3 true a0_0 a0_1 l0_2 a1_0 a1_1 a1_2 a1_3 a1_4 a1_5)) else (queue_Place.j0 k a2 a3 true a0_0 a0_1 l0_2 a1_0 a1_1 a1_2 a1_3 a1_4 a1_5))) else (queue_Place.j0 k a2 a3 true a0_0 a0_1 l0_2 a1_0 a1_1 a1_2 a1_3 a1_4 a1_5)) = some (r1, r2) := H
  have A8 := A_ A80
  clear A80
  by_cases c9 : t158 = true
  · subst c9
    have H1 : ((txn_Check.f a1_0 a1_1 a1_2 a1_3 a1_4 a1_5).bind fun t159 => (if t159 = true then (if a1_0 = a0_0 then ((queue_in.f a3 0 100).bind fun t160 => (queue_Place.j0 k a2 a3 (!t160) a0_0 a0_1 l0_2 a1_0 a1_1 a1_2 a1_3 a1_4 a1_5)) else (queue_Place.j0 k a2 a3 true a0_0 a0_1 l0_2 a1_0 a1_1 a1_2 a1_3 a1_4 a1_5)) else (queue_Place.j0 k a2 a3 true a0_0 a0_1 l0_2 a1_0 a1_1 a1_2 a1_3 a1_4 a1_5))) = some (r1, r2) := by rw [if_pos rfl] at H; exact H
    clear H
    have H := H1
    clear H1
    replace H := Option.bind_eq_some_iff.mp H
    obtain ⟨t159, A100, H⟩ := H
    replace H : (if t159 = true then (if a1_0 = a0_0 then ((queue_in.f a3 0 100).bind fun t160 => (queue_Place.j0 k a2 a3 (!t160) a0_0 a0_1 l0_2 a1_0 a1_1 a1_2 a1_3 a1_4 a1_5)) else (queue_Place.j0 k a2 a3 true a0_0 a0_1 l0_2 a1_0 a1_1 a1_2 a1_3 a1_4 a1_5)) else (queue_Place.j0 k a2 a3 true a0_0 a0_1 l0_2 a1_0 a1_1 a1_2 a1_3 a1_4 a1_5)) = some (r1, r2) := H
    have A10 := A_ A100
    clear A100
    by_cases c11 : t159 = true
    · subst c11
      have H1 : (if a1_0 = a0_0 then ((queue_in.f a3 0 100).bind fun t160 => (queue_Place.j0 k a2 a3 (!t160) a0_0 a0_1 l0_2 a1_0 a1_1 a1_2 a1_3 a1_4 a1_5)) else (queue_Place.j0 k a2 a3 true a0_0 a0_1 l0_2 a1_0 a1_1 a1_2 a1_3 a1_4 a1_5)) = some (r1, r2) := by rw [if_pos rfl] at H; exact H
      clear H
      have H := H1
      clear H1
      by_cases c12 : a1_0 = a0_0
      · rw [if_pos c12] at H
        have c12b0 : (a1_0 == a0_0) = true := beq_iff_eq.mpr c12
        have c12b1 : (a1_0 != a0_0) = false := bne_eq_false_iff_eq.mpr c12
        clear c12
        (first | rw [c12b0] | (simp only [i64_w, i32_w]; rw [c12b0]) | skip)
        replace H := Option.bind_eq_some_iff.mp H
        obtain ⟨t160, A130, H⟩ := H
        replace H : (queue_Place.j0 k a2 a3 (!t160) a0_0 a0_1 l0_2 a1_0 a1_1 a1_2 a1_3 a1_4 a1_5) = some (r1, r2) := H
        have A13 := A_ A130
        clear A130
        have H' := A_ H
        clear H; have hnb14 := NB156_157.out; have hnc14 := NB157_156.out; have hcz15_0 : w7.cell? ⟨gb156, 0, none⟩ = some (.int .i64 a0_0) := e_ BK156 0; have hcz15_1 : w7.cell? ⟨gb156, 1, none⟩ = some (.int .i64 a0_1) := e_ BK156 1; have hcz15_2 : w7.cell? ⟨gb156, 2, none⟩ = some (.slice A0_2 l0_2.length c0_2) := e_ BK156 2; obtain ⟨hfz15_0, hfz15_1, hfz15_2⟩ := z3_ BK156
        go_wp2_with (first | ((with_reducible refine gate_callee (f := 54) rfl ?_); refine goesL_ (some 17) rfl rfl Try.func54 (by kernel_rfl) rfl #[.agg #[.int .i64 a0_0, .int .i64 a0_1, .slice A0_2 l0_2.length c0_2], .int .i64 a2] rfl (by (try simp only [m0_, m1_, m2_]); first | done | rfl) ?_; (with_reducible refine (queue_Check.calls k a0_0 a0_1 _ _ l0_2 a2 true _ ?side1 ?side2 A8.out).mono ?_); (case side1 => repeat (first | exact (Kd.C_below HR0_2.out HB.out) | (with_reducible refine ca_ ?_ _) | (with_reducible refine cn_ ?_ _) | (with_reducible refine cd_ ?_))); (case side2 => exact HC0_2.out); rintro e w16 ⟨rfl, hb⟩; refine ⟨_, rfl, ?_⟩; replace BK156 := A_ (kb_ BK156 hb); replace BK157 := A_ (kb_ BK157 hb); replace HB := A_ (below_step bw_ hb); (try clear hb); (try clear hb2); (try clear hk); (try clear hi); have hcz17_0 : w16.cell? ⟨gb157, 0, none⟩ = some (.int .i64 a1_0) := e_ BK157 0; have hcz17_1 : w16.cell? ⟨gb157, 1, none⟩ = some (.int .i64 a1_1) := e_ BK157 1; have hcz17_2 : w16.cell? ⟨gb157, 2, none⟩ = some (.int .i64 a1_2) := e_ BK157 2; have hcz17_3 : w16.cell? ⟨gb157, 3, none⟩ = some (.int .i64 a1_3) := e_ BK157 3; have hcz17_4 : w16.cell? ⟨gb157, 4, none⟩ = some (.int .i64 a1_4) := e_ BK157 4; have hcz17_5 : w16.cell? ⟨gb157, 5, none⟩ = some (.string a1_5) := e_ BK157 5; obtain ⟨hfz17_0, hfz17_1, hfz17_2, hfz17_3, hfz17_4, hfz17_5⟩ := z6_ BK157) | (go_at_call 102; (with_reducible refine (txn_Check.calls a1_0 a1_1 a1_2 a1_3 a1_4 a1_5 true _ A10.out).mono ?_); rintro e w18 ⟨rfl, hb⟩; replace BK156 := A_ (kb_ BK156 hb); replace BK157 := A_ (kb_ BK157 hb); replace HB := A_ (below_step bw_ hb); (try clear hb); (try clear hb2); (try clear hk); (try clear hi); have hcz19_0 : w18.cell? ⟨gb157, 0, none⟩ = some (.int .i64 a1_0) := e_ BK157 0; have hcz19_1 : w18.cell? ⟨gb157, 1, none⟩ = some (.int .i64 a1_1) := e_ BK157 1; have hcz19_2 : w18.cell? ⟨gb157, 2, none⟩ = some (.int .i64 a1_2) := e_ BK157 2; have hcz19_3 : w18.cell? ⟨gb157, 3, none⟩ = some (.int .i64 a1_3) := e_ BK157 3; have hcz19_4 : w18.cell? ⟨gb157, 4, none⟩ = some (.int .i64 a1_4) := e_ BK157 4; have hcz19_5 : w18.cell? ⟨gb157, 5, none⟩ = some (.string a1_5) := e_ BK157 5; obtain ⟨hfz19_0, hfz19_1, hfz19_2, hfz19_3, hfz19_4, hfz19_5⟩ := z6_ BK157; have hcz20_0 : w18.cell? ⟨gb156, 0, none⟩ = some (.int .i64 a0_0) := e_ BK156 0; have hcz20_1 : w18.cell? ⟨gb156, 1, none⟩ = some (.int .i64 a0_1) := e_ BK156 1; have hcz20_2 : w18.cell? ⟨gb156, 2, none⟩ = some (.slice A0_2 l0_2.length c0_2) := e_ BK156 2; obtain ⟨hfz20_0, hfz20_1, hfz20_2⟩ := z3_ BK156) | (go_at_call 101; (with_reducible refine (queue_in.calls a3 0 100 t160 _ A13.out).mono ?_); rintro e w' ⟨rfl, ⟨nd, rfl⟩⟩))
        go_meet
        case rel => exact ⟨_, (!t160), (by first | rfl | (simp; done) | (simp [*]; done)), H', ⟨by first | omega | exact Nat.le_refl _⟩, ⟨bk_⟩, ⟨bk_⟩, ⟨by repeat (first | (with_reducible first | exact HB.out | apply wa_ | apply wn_ | apply wd_ | refine ws_ ?_ GE156.out | refine ws_ ?_ GE157.out) | exact HB.out)⟩⟩
      · rw [if_neg c12] at H
        have c12b0 : (a1_0 == a0_0) = false := beq_eq_false_iff_ne.mpr c12
        have c12b1 : (a1_0 != a0_0) = true := bne_iff_ne.mpr c12
        (first | rw [c12b0] | (simp only [i64_w, i32_w]; rw [c12b0]) | skip)
        have H' := A_ H
        clear H; have hnb21 := NB156_157.out; have hnc21 := NB157_156.out; have hcz22_0 : w7.cell? ⟨gb156, 0, none⟩ = some (.int .i64 a0_0) := e_ BK156 0; have hcz22_1 : w7.cell? ⟨gb156, 1, none⟩ = some (.int .i64 a0_1) := e_ BK156 1; have hcz22_2 : w7.cell? ⟨gb156, 2, none⟩ = some (.slice A0_2 l0_2.length c0_2) := e_ BK156 2; obtain ⟨hfz22_0, hfz22_1, hfz22_2⟩ := z3_ BK156
        go_wp2_with (first | ((with_reducible refine gate_callee (f := 54) rfl ?_); refine goesL_ (some 17) rfl rfl Try.func54 (by kernel_rfl) rfl #[.agg #[.int .i64 a0_0, .int .i64 a0_1, .slice A0_2 l0_2.length c0_2], .int .i64 a2] rfl (by (try simp only [m0_, m1_, m2_]); first | done | rfl) ?_; (with_reducible refine (queue_Check.calls k a0_0 a0_1 _ _ l0_2 a2 true _ ?side1 ?side2 A8.out).mono ?_); (case side1 => repeat (first | exact (Kd.C_below HR0_2.out HB.out) | (with_reducible refine ca_ ?_ _) | (with_reducible refine cn_ ?_ _) | (with_reducible refine cd_ ?_))); (case side2 => exact HC0_2.out); rintro e w23 ⟨rfl, hb⟩; refine ⟨_, rfl, ?_⟩; replace BK156 := A_ (kb_ BK156 hb); replace BK157 := A_ (kb_ BK157 hb); replace HB := A_ (below_step bw_ hb); (try clear hb); (try clear hb2); (try clear hk); (try clear hi); have hcz24_0 : w23.cell? ⟨gb157, 0, none⟩ = some (.int .i64 a1_0) := e_ BK157 0; have hcz24_1 : w23.cell? ⟨gb157, 1, none⟩ = some (.int .i64 a1_1) := e_ BK157 1; have hcz24_2 : w23.cell? ⟨gb157, 2, none⟩ = some (.int .i64 a1_2) := e_ BK157 2; have hcz24_3 : w23.cell? ⟨gb157, 3, none⟩ = some (.int .i64 a1_3) := e_ BK157 3; have hcz24_4 : w23.cell? ⟨gb157, 4, none⟩ = some (.int .i64 a1_4) := e_ BK157 4; have hcz24_5 : w23.cell? ⟨gb157, 5, none⟩ = some (.string a1_5) := e_ BK157 5; obtain ⟨hfz24_0, hfz24_1, hfz24_2, hfz24_3, hfz24_4, hfz24_5⟩ := z6_ BK157) | (go_at_call 102; (with_reducible refine (txn_Check.calls a1_0 a1_1 a1_2 a1_3 a1_4 a1_5 true _ A10.out).mono ?_); rintro e w25 ⟨rfl, hb⟩; replace BK156 := A_ (kb_ BK156 hb); replace BK157 := A_ (kb_ BK157 hb); replace HB := A_ (below_step bw_ hb); (try clear hb); (try clear hb2); (try clear hk); (try clear hi); have hcz26_0 : w25.cell? ⟨gb157, 0, none⟩ = some (.int .i64 a1_0) := e_ BK157 0; have hcz26_1 : w25.cell? ⟨gb157, 1, none⟩ = some (.int .i64 a1_1) := e_ BK157 1; have hcz26_2 : w25.cell? ⟨gb157, 2, none⟩ = some (.int .i64 a1_2) := e_ BK157 2; have hcz26_3 : w25.cell? ⟨gb157, 3, none⟩ = some (.int .i64 a1_3) := e_ BK157 3; have hcz26_4 : w25.cell? ⟨gb157, 4, none⟩ = some (.int .i64 a1_4) := e_ BK157 4; have hcz26_5 : w25.cell? ⟨gb157, 5, none⟩ = some (.string a1_5) := e_ BK157 5; obtain ⟨hfz26_0, hfz26_1, hfz26_2, hfz26_3, hfz26_4, hfz26_5⟩ := z6_ BK157; have hcz27_0 : w25.cell? ⟨gb156, 0, none⟩ = some (.int .i64 a0_0) := e_ BK156 0; have hcz27_1 : w25.cell? ⟨gb156, 1, none⟩ = some (.int .i64 a0_1) := e_ BK156 1; have hcz27_2 : w25.cell? ⟨gb156, 2, none⟩ = some (.slice A0_2 l0_2.length c0_2) := e_ BK156 2; obtain ⟨hfz27_0, hfz27_1, hfz27_2⟩ := z3_ BK156))
        go_meet
        case rel => exact ⟨_, (true), (by first | rfl | (simp; done) | (simp [*]; done)), H', ⟨by first | omega | exact Nat.le_refl _⟩, ⟨bk_⟩, ⟨bk_⟩, ⟨by repeat (first | (with_reducible first | exact HB.out | apply wa_ | apply wn_ | apply wd_ | refine ws_ ?_ GE156.out | refine ws_ ?_ GE157.out) | exact HB.out)⟩⟩
    · replace c11 := Bool.eq_false_iff.mpr c11
      subst c11
      have H1 : (queue_Place.j0 k a2 a3 true a0_0 a0_1 l0_2 a1_0 a1_1 a1_2 a1_3 a1_4 a1_5) = some (r1, r2) := by rw [if_neg (show ¬ (false = true) by decide)] at H; exact H
      clear H
      have H := H1
      clear H1
      have H' := A_ H
      clear H; have hnb28 := NB156_157.out; have hnc28 := NB157_156.out; have hcz29_0 : w7.cell? ⟨gb156, 0, none⟩ = some (.int .i64 a0_0) := e_ BK156 0; have hcz29_1 : w7.cell? ⟨gb156, 1, none⟩ = some (.int .i64 a0_1) := e_ BK156 1; have hcz29_2 : w7.cell? ⟨gb156, 2, none⟩ = some (.slice A0_2 l0_2.length c0_2) := e_ BK156 2; obtain ⟨hfz29_0, hfz29_1, hfz29_2⟩ := z3_ BK156
      go_wp2_with (first | ((with_reducible refine gate_callee (f := 54) rfl ?_); refine goesL_ (some 17) rfl rfl Try.func54 (by kernel_rfl) rfl #[.agg #[.int .i64 a0_0, .int .i64 a0_1, .slice A0_2 l0_2.length c0_2], .int .i64 a2] rfl (by (try simp only [m0_, m1_, m2_]); first | done | rfl) ?_; (with_reducible refine (queue_Check.calls k a0_0 a0_1 _ _ l0_2 a2 true _ ?side1 ?side2 A8.out).mono ?_); (case side1 => repeat (first | exact (Kd.C_below HR0_2.out HB.out) | (with_reducible refine ca_ ?_ _) | (with_reducible refine cn_ ?_ _) | (with_reducible refine cd_ ?_))); (case side2 => exact HC0_2.out); rintro e w30 ⟨rfl, hb⟩; refine ⟨_, rfl, ?_⟩; replace BK156 := A_ (kb_ BK156 hb); replace BK157 := A_ (kb_ BK157 hb); replace HB := A_ (below_step bw_ hb); (try clear hb); (try clear hb2); (try clear hk); (try clear hi); have hcz31_0 : w30.cell? ⟨gb157, 0, none⟩ = some (.int .i64 a1_0) := e_ BK157 0; have hcz31_1 : w30.cell? ⟨gb157, 1, none⟩ = some (.int .i64 a1_1) := e_ BK157 1; have hcz31_2 : w30.cell? ⟨gb157, 2, none⟩ = some (.int .i64 a1_2) := e_ BK157 2; have hcz31_3 : w30.cell? ⟨gb157, 3, none⟩ = some (.int .i64 a1_3) := e_ BK157 3; have hcz31_4 : w30.cell? ⟨gb157, 4, none⟩ = some (.int .i64 a1_4) := e_ BK157 4; have hcz31_5 : w30.cell? ⟨gb157, 5, none⟩ = some (.string a1_5) := e_ BK157 5; obtain ⟨hfz31_0, hfz31_1, hfz31_2, hfz31_3, hfz31_4, hfz31_5⟩ := z6_ BK157) | (go_at_call 102; (with_reducible refine (txn_Check.calls a1_0 a1_1 a1_2 a1_3 a1_4 a1_5 false _ A10.out).mono ?_); rintro e w32 ⟨rfl, hb⟩; replace BK156 := A_ (kb_ BK156 hb); replace BK157 := A_ (kb_ BK157 hb); replace HB := A_ (below_step bw_ hb); (try clear hb); (try clear hb2); (try clear hk); (try clear hi)))
      go_meet
      case rel => exact ⟨_, (true), (by first | rfl | (simp; done) | (simp [*]; done)), H', ⟨by first | omega | exact Nat.le_refl _⟩, ⟨bk_⟩, ⟨bk_⟩, ⟨by repeat (first | (with_reducible first | exact HB.out | apply wa_ | apply wn_ | apply wd_ | refine ws_ ?_ GE156.out | refine ws_ ?_ GE157.out) | exact HB.out)⟩⟩
  · replace c9 := Bool.eq_false_iff.mpr c9
    subst c9
    have H1 : (queue_Place.j0 k a2 a3 true a0_0 a0_1 l0_2 a1_0 a1_1 a1_2 a1_3 a1_4 a1_5) = some (r1, r2) := by rw [if_neg (show ¬ (false = true) by decide)] at H; exact H
    clear H
    have H := H1
    clear H1
    have H' := A_ H
    clear H; have hnb33 := NB156_157.out; have hnc33 := NB157_156.out; have hcz34_0 : w7.cell? ⟨gb156, 0, none⟩ = some (.int .i64 a0_0) := e_ BK156 0; have hcz34_1 : w7.cell? ⟨gb156, 1, none⟩ = some (.int .i64 a0_1) := e_ BK156 1; have hcz34_2 : w7.cell? ⟨gb156, 2, none⟩ = some (.slice A0_2 l0_2.length c0_2) := e_ BK156 2; obtain ⟨hfz34_0, hfz34_1, hfz34_2⟩ := z3_ BK156
    go_wp2_with (first | ((with_reducible refine gate_callee (f := 54) rfl ?_); refine goesL_ (some 17) rfl rfl Try.func54 (by kernel_rfl) rfl #[.agg #[.int .i64 a0_0, .int .i64 a0_1, .slice A0_2 l0_2.length c0_2], .int .i64 a2] rfl (by (try simp only [m0_, m1_, m2_]); first | done | rfl) ?_; (with_reducible refine (queue_Check.calls k a0_0 a0_1 _ _ l0_2 a2 false _ ?side1 ?side2 A8.out).mono ?_); (case side1 => repeat (first | exact (Kd.C_below HR0_2.out HB.out) | (with_reducible refine ca_ ?_ _) | (with_reducible refine cn_ ?_ _) | (with_reducible refine cd_ ?_))); (case side2 => exact HC0_2.out); rintro e w35 ⟨rfl, hb⟩; refine ⟨_, rfl, ?_⟩; replace BK156 := A_ (kb_ BK156 hb); replace BK157 := A_ (kb_ BK157 hb); replace HB := A_ (below_step bw_ hb); (try clear hb); (try clear hb2); (try clear hk); (try clear hi)))
    go_meet
    case rel => exact ⟨_, (true), (by first | rfl | (simp; done) | (simp [*]; done)), H', ⟨by first | omega | exact Nat.le_refl _⟩, ⟨bk_⟩, ⟨bk_⟩, ⟨by repeat (first | (with_reducible first | exact HB.out | apply wa_ | apply wn_ | apply wd_ | refine ws_ ?_ GE156.out | refine ws_ ?_ GE157.out) | exact HB.out)⟩⟩
 case rest =>
  clear HC5; (try clear c1); (try clear c2); (try clear p2); (try clear c3); (try clear c5); (try clear c9); (try clear c11); (try clear c12); (try clear c12b0); (try clear c12b1); (try clear c14); (try clear c21); (try clear c28); (try clear c33); (try clear hcz15_0 hcz15_1 hcz15_2); (try clear hcz17_0 hcz17_1 hcz17_2 hcz17_3 hcz17_4 hcz17_5); (try clear hcz19_0 hcz19_1 hcz19_2 hcz19_3 hcz19_4 hcz19_5); (try clear hcz20_0 hcz20_1 hcz20_2); (try clear hcz22_0 hcz22_1 hcz22_2); (try clear hcz24_0 hcz24_1 hcz24_2 hcz24_3 hcz24_4 hcz24_5); (try clear hcz26_0 hcz26_1 hcz26_2 hcz26_3 hcz26_4 hcz26_5); (try clear hcz27_0 hcz27_1 hcz27_2); (try clear hcz29_0 hcz29_1 hcz29_2); (try clear hcz31_0 hcz31_1 hcz31_2 hcz31_3 hcz31_4 hcz31_5); (try clear hcz34_0 hcz34_1 hcz34_2); (try clear hfz15_0 hfz15_1 hfz15_2); (try clear hfz17_0 hfz17_1 hfz17_2 hfz17_3 hfz17_4 hfz17_5); (try clear hfz19_0 hfz19_1 hfz19_2 hfz19_3 hfz19_4 hfz19_5); (try clear hfz20_0 hfz20_1 hfz20_2); (try clear hfz22_0 hfz22_1 hfz22_2); (try clear hfz24_0 hfz24_1 hfz24_2 hfz24_3 hfz24_4 hfz24_5); (try clear hfz26_0 hfz26_1 hfz26_2 hfz26_3 hfz26_4 hfz26_5); (try clear hfz27_0 hfz27_1 hfz27_2); (try clear hfz29_0 hfz29_1 hfz29_2); (try clear hfz31_0 hfz31_1 hfz31_2 hfz31_3 hfz31_4 hfz31_5); (try clear hfz34_0 hfz34_1 hfz34_2)
  obtain ⟨kq, x14_4, rfl, HA, HJ4, BK156, BK157, HB⟩ := hcut
  cases kq with
  | zero => exact absurd HA.out (by simp [queue_Place.j0])
  | succ kj4 =>
   have H := HA.out
   clear HA
   simp only [queue_Place.j0] at H
   by_cases c36 : x14_4 = true
   · subst c36
     have H1 : (some (0, 1)) = some (r1, r2) := by rw [if_pos rfl] at H; exact H
     clear H
     have H := H1
     clear H1
     simp only [Option.some.injEq, Prod.mk.injEq] at H
     obtain ⟨rfl, rfl⟩ := H
     go_wp2
     go_ret2
     exact ⟨by first | rfl | (simp [errW_none, errW_some] <;> rfl) | (simp [*, errW_none, errW_some] <;> rfl), by repeat (first | (with_reducible first | exact HB.out | apply wa_ | apply wn_ | apply wd_ | refine ws_ ?_ GE156.out | refine ws_ ?_ GE157.out) | exact HB.out)⟩
   replace c36 := Bool.eq_false_iff.mpr c36
   subst c36
   have H1 : (if a1_1 < a0_1 then (some (0, 3)) else ((queue_Find.f a0_0 a0_1 l0_2 a1_1).bind fun bt161 => (if bt161.2.2.2.2.2.2 = true then ((sat_Raise.f kj4 bt161.2.2.1 a3).bind fun bt170 => (if bt170.2 = true then (queue_Place.j1 kj4 (decide (a1_2 < bt170.1)) a1_0 a1_1 a1_2 a1_3 a1_4 a1_5 bt161.1 bt161.2.1 bt161.2.2.1 bt161.2.2.2.1 bt161.2.2.2.2.1 bt161.2.2.2.2.2.1) else (queue_Place.j1 kj4 true a1_0 a1_1 a1_2 a1_3 a1_4 a1_5 bt161.1 bt161.2.1 bt161.2.2.1 bt161.2.2.2.1 bt161.2.2.2.2.1 bt161.2.2.2.2.2.1))) else (if (l0_2.length : Int) = a2 then (some (0, 5)) else ((txn_Slots.f a1_0 a1_1 a1_2 a1_3 a1_4 a1_5).bind fun t169 => (some (t169, 0))))))) = some (r1, r2) := by rw [if_neg (show ¬ (false = true) by decide)] at H; exact H
   clear H
   have H := H1
   clear H1
   by_cases c37 : a1_1 < a0_1
   · rw [if_pos c37] at H
     have c37b0 : decide (a1_1 < a0_1) = true := decide_eq_true c37
     clear c37
     simp only [Option.some.injEq, Prod.mk.injEq] at H
     obtain ⟨rfl, rfl⟩ := H
     have hnb38 := NB157_156.out; have hnc38 := NB156_157.out; have hcz39_0 : wc.cell? ⟨gb157, 0, none⟩ = some (.int .i64 a1_0) := e_ BK157 0; have hcz39_1 : wc.cell? ⟨gb157, 1, none⟩ = some (.int .i64 a1_1) := e_ BK157 1; have hcz39_2 : wc.cell? ⟨gb157, 2, none⟩ = some (.int .i64 a1_2) := e_ BK157 2; have hcz39_3 : wc.cell? ⟨gb157, 3, none⟩ = some (.int .i64 a1_3) := e_ BK157 3; have hcz39_4 : wc.cell? ⟨gb157, 4, none⟩ = some (.int .i64 a1_4) := e_ BK157 4; have hcz39_5 : wc.cell? ⟨gb157, 5, none⟩ = some (.string a1_5) := e_ BK157 5; obtain ⟨hfz39_0, hfz39_1, hfz39_2, hfz39_3, hfz39_4, hfz39_5⟩ := z6_ BK157; have hcz40_0 : wc.cell? ⟨gb156, 0, none⟩ = some (.int .i64 a0_0) := e_ BK156 0; have hcz40_1 : wc.cell? ⟨gb156, 1, none⟩ = some (.int .i64 a0_1) := e_ BK156 1; have hcz40_2 : wc.cell? ⟨gb156, 2, none⟩ = some (.slice A0_2 l0_2.length c0_2) := e_ BK156 2; obtain ⟨hfz40_0, hfz40_1, hfz40_2⟩ := z3_ BK156
     go_wp2
     go_ret2
     exact ⟨by first | rfl | (simp [errW_none, errW_some] <;> rfl) | (simp [*, errW_none, errW_some] <;> rfl), by repeat (first | (with_reducible first | exact HB.out | apply wa_ | apply wn_ | apply wd_ | refine ws_ ?_ GE156.out | refine ws_ ?_ GE157.out) | exact HB.out)⟩
   · rw [if_neg c37] at H
     have c37b0 : decide (a1_1 < a0_1) = false := decide_eq_false c37
     clear c37
     replace H := Option.bind_eq_some_iff.mp H
     obtain ⟨⟨t161, t162, t163, t164, t165, t166, t167⟩, A410, H⟩ := H
     replace H : (if t167 = true then ((sat_Raise.f kj4 t163 a3).bind fun bt170 => (if bt170.2 = true then (queue_Place.j1 kj4 (decide (a1_2 < bt170.1)) a1_0 a1_1 a1_2 a1_3 a1_4 a1_5 t161 t162 t163 t164 t165 t166) else (queue_Place.j1 kj4 true a1_0 a1_1 a1_2 a1_3 a1_4 a1_5 t161 t162 t163 t164 t165 t166))) else (if (l0_2.length : Int) = a2 then (some (0, 5)) else ((txn_Slots.f a1_0 a1_1 a1_2 a1_3 a1_4 a1_5).bind fun t169 => (some (t169, 0))))) = some (r1, r2) := H
     have A41 := A_ A410
     clear A410
     by_cases c42 : t167 = true
     · subst c42
       have H1 : ((sat_Raise.f kj4 t163 a3).bind fun bt170 => (if bt170.2 = true then (queue_Place.j1 kj4 (decide (a1_2 < bt170.1)) a1_0 a1_1 a1_2 a1_3 a1_4 a1_5 t161 t162 t163 t164 t165 t166) else (queue_Place.j1 kj4 true a1_0 a1_1 a1_2 a1_3 a1_4 a1_5 t161 t162 t163 t164 t165 t166))) = some (r1, r2) := by rw [if_pos rfl] at H; exact H
       clear H
       have H := H1
       clear H1
       replace H := Option.bind_eq_some_iff.mp H
       obtain ⟨⟨t170, t171⟩, A430, H⟩ := H
       replace H : (if t171 = true then (queue_Place.j1 kj4 (decide (a1_2 < t170)) a1_0 a1_1 a1_2 a1_3 a1_4 a1_5 t161 t162 t163 t164 t165 t166) else (queue_Place.j1 kj4 true a1_0 a1_1 a1_2 a1_3 a1_4 a1_5 t161 t162 t163 t164 t165 t166)) = some (r1, r2) := H
       have A43 := A_ A430
       clear A430
       have HC44 := A_ H
       clear H; have hnb45 := NB157_156.out; have hnc45 := NB156_157.out; have hcz46_0 : wc.cell? ⟨gb157, 0, none⟩ = some (.int .i64 a1_0) := e_ BK157 0; have hcz46_1 : wc.cell? ⟨gb157, 1, none⟩ = some (.int .i64 a1_1) := e_ BK157 1; have hcz46_2 : wc.cell? ⟨gb157, 2, none⟩ = some (.int .i64 a1_2) := e_ BK157 2; have hcz46_3 : wc.cell? ⟨gb157, 3, none⟩ = some (.int .i64 a1_3) := e_ BK157 3; have hcz46_4 : wc.cell? ⟨gb157, 4, none⟩ = some (.int .i64 a1_4) := e_ BK157 4; have hcz46_5 : wc.cell? ⟨gb157, 5, none⟩ = some (.string a1_5) := e_ BK157 5; obtain ⟨hfz46_0, hfz46_1, hfz46_2, hfz46_3, hfz46_4, hfz46_5⟩ := z6_ BK157; have hcz47_0 : wc.cell? ⟨gb156, 0, none⟩ = some (.int .i64 a0_0) := e_ BK156 0; have hcz47_1 : wc.cell? ⟨gb156, 1, none⟩ = some (.int .i64 a0_1) := e_ BK156 1; have hcz47_2 : wc.cell? ⟨gb156, 2, none⟩ = some (.slice A0_2 l0_2.length c0_2) := e_ BK156 2; obtain ⟨hfz47_0, hfz47_1, hfz47_2⟩ := z3_ BK156
       go_upto_region 11 with (first | ((with_reducible refine gate_callee (f := 52) rfl ?_); refine goesL_ (some 46) rfl rfl Try.func52 (by kernel_rfl) rfl #[.agg #[.int .i64 a0_0, .int .i64 a0_1, .slice A0_2 l0_2.length c0_2], .int .i64 a1_1] rfl (by (try simp only [m0_, m1_, m2_]); first | done | rfl) ?_; (with_reducible refine (queue_Find.calls a0_0 a0_1 _ _ l0_2 a1_1 t161 t162 t163 t164 t165 t166 true _ ?side1 ?side2 A41.out).mono ?_); (case side1 => repeat (first | exact (Kd.C_below HR0_2.out HB.out) | (with_reducible refine ca_ ?_ _) | (with_reducible refine cn_ ?_ _) | (with_reducible refine cd_ ?_))); (case side2 => exact HC0_2.out); rintro e w48 ⟨rfl, hb⟩; refine ⟨_, rfl, ?_⟩; replace BK156 := A_ (kb_ BK156 hb); replace BK157 := A_ (kb_ BK157 hb); replace HB := A_ (below_step bw_ hb); (try clear hb); (try clear hb2); (try clear hk); (try clear hi)) | ((with_reducible refine gate_dst (N := 10) rfl ?_); refine box_event ?hg (N := 10) ?hd (cs := #[.int .i64 0, .int .i64 0, .int .i64 0, .int .i64 0, .int .i64 0, .string (⟨#[]⟩ : ByteArray)]) (t := 24) ?hr ?_; (case hd => rfl); (case hg => rfl); (case hr => first | (go_simp; done) | (go_simp; rfl)); intro gb168 hg w49 hbox hb; have n0_ := A_ (kb_ BK156 hb); have n1_ := A_ (kb_ BK157 hb); have n2_ := A_ (below_step bw_ hb); have n3_ := A_ (hbox); have n4_ := A_ (gz_ (w := w) hg); have n5_ := A_ (gz_ (w := w) hg); have n6_ := A_ (nl_ BK156 hg); have n7_ := A_ (ng_ BK156 hg); have n8_ := A_ (nl_ BK157 hg); have n9_ := A_ (ng_ BK157 hg); replace BK156 := n0_; replace BK157 := n1_; replace HB := n2_; have BK168 := n3_; have GW168 := n4_; have GE168 := n5_; have NB156_168 := n6_; have NB168_156 := n7_; have NB157_168 := n8_; have NB168_157 := n9_; clear n0_ n1_ n2_ n3_ n4_ n5_ n6_ n7_ n8_ n9_; clear hb hbox hg; have hnb50 := NB168_156.out; have hnc50 := NB156_168.out; have hnb51 := NB168_157.out; have hnc51 := NB157_168.out; have hcz52_0 : w49.cell? ⟨gb168, 0, none⟩ = some (.int .i64 0) := e_ BK168 0; have hcz52_1 : w49.cell? ⟨gb168, 1, none⟩ = some (.int .i64 0) := e_ BK168 1; have hcz52_2 : w49.cell? ⟨gb168, 2, none⟩ = some (.int .i64 0) := e_ BK168 2; have hcz52_3 : w49.cell? ⟨gb168, 3, none⟩ = some (.int .i64 0) := e_ BK168 3; have hcz52_4 : w49.cell? ⟨gb168, 4, none⟩ = some (.int .i64 0) := e_ BK168 4; have hcz52_5 : w49.cell? ⟨gb168, 5, none⟩ = some (.string (⟨#[]⟩ : ByteArray)) := e_ BK168 5; obtain ⟨hfz52_0, hfz52_1, hfz52_2, hfz52_3, hfz52_4, hfz52_5⟩ := z6_ BK168) | ((with_reducible refine gate_callee (f := 105) rfl ?_); refine goesL_ (some 62) rfl rfl Try.func105 (by kernel_rfl) rfl #[.int .i64 t163, .int .i64 a3] rfl (by (try simp only [m0_, m1_, m2_]); first | done | rfl) ?_; (with_reducible refine (sat_Raise.calls kj4 t163 a3 t170 t171 _ A43.out).mono ?_); rintro e w' ⟨rfl, ⟨nd, rfl⟩⟩; refine ⟨_, rfl, ?_⟩))
       (try simp only [Act.put, s0_, s1_, s2_])
       go_cut [72] (fun v72 wc => ∃ (kq : Nat) (x72_43 : Bool), v72 = .bool x72_43 ∧ Aside0 (queue_Place.j1 kq x72_43 a1_0 a1_1 a1_2 a1_3 a1_4 a1_5 t161 t162 t163 t164 t165 t166 = some (r1, r2)) ∧ Aside0 (kq ≤ kj4) ∧ Aside0 (wc.heap[gb156]? = some (.cells #[.int .i64 a0_0, .int .i64 a0_1, (.slice A0_2 l0_2.length c0_2)] 46 (0, 0))) ∧ Aside0 (wc.heap[gb157]? = some (.cells #[.int .i64 a1_0, .int .i64 a1_1, .int .i64 a1_2, .int .i64 a1_3, .int .i64 a1_4, .string a1_5] 24 (0, 0))) ∧ Aside0 (wc.heap[gb168]? = some (.cells #[.int .i64 t161, .int .i64 t162, .int .i64 t163, .int .i64 t164, .int .i64 t165, .string t166] 24 (0, 0))) ∧ Aside0 (Below w.heap.size w wc))
       case first =>
        have H := HC44.out
        clear HC44
        by_cases c53 : t171 = true
        rotate_left
        · replace c53 := Bool.eq_false_iff.mpr c53
          subst c53
          have H1 : (queue_Place.j1 kj4 true a1_0 a1_1 a1_2 a1_3 a1_4 a1_5 t161 t162 t163 t164 t165 t166) = some (r1, r2) := by rw [if_neg (show ¬ (false = true) by decide)] at H; exact H
          clear H
          have H := H1
          clear H1
          have H' := A_ H
          clear H
          go_wp2
          go_meet
          case rel => exact ⟨_, (true), (by first | rfl | (simp; done) | (simp [*]; done)), H', ⟨by have := HJ4.out; first | omega | exact Nat.le_refl _⟩, ⟨bk_⟩, ⟨bk_⟩, ⟨by exact pk_ (b6_ BK168.out)⟩, ⟨by repeat (first | (with_reducible first | exact HB.out | apply wa_ | apply wn_ | apply wd_ | refine ws_ ?_ GE156.out | refine ws_ ?_ GE157.out | refine ws_ ?_ GE168.out) | exact HB.out)⟩⟩
        subst c53
        have H1 : (queue_Place.j1 kj4 (decide (a1_2 < t170)) a1_0 a1_1 a1_2 a1_3 a1_4 a1_5 t161 t162 t163 t164 t165 t166) = some (r1, r2) := by rw [if_pos rfl] at H; exact H
        clear H
        have H := H1
        clear H1
        have H' := A_ H
        clear H; have hnb54 := NB157_156.out; have hnc54 := NB156_157.out; have hnb55 := NB157_168.out; have hnc55 := NB168_157.out; have hcz56_0 : w49.cell? ⟨gb157, 0, none⟩ = some (.int .i64 a1_0) := e_ BK157 0; have hcz56_1 : w49.cell? ⟨gb157, 1, none⟩ = some (.int .i64 a1_1) := e_ BK157 1; have hcz56_2 : w49.cell? ⟨gb157, 2, none⟩ = some (.int .i64 a1_2) := e_ BK157 2; have hcz56_3 : w49.cell? ⟨gb157, 3, none⟩ = some (.int .i64 a1_3) := e_ BK157 3; have hcz56_4 : w49.cell? ⟨gb157, 4, none⟩ = some (.int .i64 a1_4) := e_ BK157 4; have hcz56_5 : w49.cell? ⟨gb157, 5, none⟩ = some (.string a1_5) := e_ BK157 5; obtain ⟨hfz56_0, hfz56_1, hfz56_2, hfz56_3, hfz56_4, hfz56_5⟩ := z6_ BK157
        go_wp2
        go_meet
        case rel => exact ⟨_, (decide (a1_2 < t170)), (by first | rfl | (simp; done) | (simp [*]; done)), H', ⟨by have := HJ4.out; first | omega | exact Nat.le_refl _⟩, ⟨bk_⟩, ⟨bk_⟩, ⟨by exact pk_ (b6_ BK168.out)⟩, ⟨by repeat (first | (with_reducible first | exact HB.out | apply wa_ | apply wn_ | apply wd_ | refine ws_ ?_ GE156.out | refine ws_ ?_ GE157.out | refine ws_ ?_ GE168.out) | exact HB.out)⟩⟩
       case rest =>
        clear HC44; (try clear c1); (try clear c2); (try clear p2); (try clear c3); (try clear c4); (try clear c5); (try clear c9); (try clear c10); (try clear c11); (try clear c12); (try clear c12b0); (try clear c12b1); (try clear c14); (try clear c21); (try clear c28); (try clear c33); (try clear c36); (try clear c37); (try clear c37b0); (try clear c38); (try clear c42); (try clear c45); (try clear c50); (try clear c51); (try clear c52); (try clear c53); (try clear c54); (try clear c55); (try clear hcz15_0 hcz15_1 hcz15_2); (try clear hcz17_0 hcz17_1 hcz17_2 hcz17_3 hcz17_4 hcz17_5); (try clear hcz19_0 hcz19_1 hcz19_2 hcz19_3 hcz19_4 hcz19_5); (try clear hcz20_0 hcz20_1 hcz20_2); (try clear hcz22_0 hcz22_1 hcz22_2); (try clear hcz24_0 hcz24_1 hcz24_2 hcz24_3 hcz24_4 hcz24_5); (try clear hcz26_0 hcz26_1 hcz26_2 hcz26_3 hcz26_4 hcz26_5); (try clear hcz27_0 hcz27_1 hcz27_2); (try clear hcz29_0 hcz29_1 hcz29_2); (try clear hcz31_0 hcz31_1 hcz31_2 hcz31_3 hcz31_4 hcz31_5); (try clear hcz34_0 hcz34_1 hcz34_2); (try clear hcz39_0 hcz39_1 hcz39_2 hcz39_3 hcz39_4 hcz39_5); (try clear hcz40_0 hcz40_1 hcz40_2); (try clear hcz46_0 hcz46_1 hcz46_2 hcz46_3 hcz46_4 hcz46_5); (try clear hcz47_0 hcz47_1 hcz47_2); (try clear hcz52_0 hcz52_1 hcz52_2 hcz52_3 hcz52_4 hcz52_5); (try clear hcz56_0 hcz56_1 hcz56_2 hcz56_3 hcz56_4 hcz56_5); (try clear hfz15_0 hfz15_1 hfz15_2); (try clear hfz17_0 hfz17_1 hfz17_2 hfz17_3 hfz17_4 hfz17_5); (try clear hfz19_0 hfz19_1 hfz19_2 hfz19_3 hfz19_4 hfz19_5); (try clear hfz20_0 hfz20_1 hfz20_2); (try clear hfz22_0 hfz22_1 hfz22_2); (try clear hfz24_0 hfz24_1 hfz24_2 hfz24_3 hfz24_4 hfz24_5); (try clear hfz26_0 hfz26_1 hfz26_2 hfz26_3 hfz26_4 hfz26_5); (try clear hfz27_0 hfz27_1 hfz27_2); (try clear hfz29_0 hfz29_1 hfz29_2); (try clear hfz31_0 hfz31_1 hfz31_2 hfz31_3 hfz31_4 hfz31_5); (try clear hfz34_0 hfz34_1 hfz34_2); (try clear hfz39_0 hfz39_1 hfz39_2 hfz39_3 hfz39_4 hfz39_5); (try clear hfz40_0 hfz40_1 hfz40_2); (try clear hfz46_0 hfz46_1 hfz46_2 hfz46_3 hfz46_4 hfz46_5); (try clear hfz47_0 hfz47_1 hfz47_2); (try clear hfz52_0 hfz52_1 hfz52_2 hfz52_3 hfz52_4 hfz52_5); (try clear hfz56_0 hfz56_1 hfz56_2 hfz56_3 hfz56_4 hfz56_5); (try clear p2)
        obtain ⟨kq, x72_43, rfl, HA, HJ43, BK156, BK157, BK168, HB⟩ := hcut
        cases kq with
        | zero => exact absurd HA.out (by simp [queue_Place.j1])
        | succ kj43 =>
         have H := HA.out
         clear HA
         simp only [queue_Place.j1] at H
         by_cases c57 : x72_43 = true
         · subst c57
           have H1 : (some (0, 4)) = some (r1, r2) := by rw [if_pos rfl] at H; exact H
           clear H
           have H := H1
           clear H1
           simp only [Option.some.injEq, Prod.mk.injEq] at H
           obtain ⟨rfl, rfl⟩ := H
           go_wp2
           go_ret2
           exact ⟨by first | rfl | (simp [errW_none, errW_some] <;> rfl) | (simp [*, errW_none, errW_some] <;> rfl), by repeat (first | (with_reducible first | exact HB.out | apply wa_ | apply wn_ | apply wd_ | refine ws_ ?_ GE156.out | refine ws_ ?_ GE157.out | refine ws_ ?_ GE168.out) | exact HB.out)⟩
         replace c57 := Bool.eq_false_iff.mpr c57
         subst c57
         have H1 : ((txn_Slots.f a1_0 a1_1 a1_2 a1_3 a1_4 a1_5).bind fun t172 => ((txn_Slots.f t161 t162 t163 t164 t165 t166).bind fun t173 => (some (wrap64 (t172 - t173), 0)))) = some (r1, r2) := by rw [if_neg (show ¬ (false = true) by decide)] at H; exact H
         clear H
         have H := H1
         clear H1
         replace H := Option.bind_eq_some_iff.mp H
         obtain ⟨t172, A580, H⟩ := H
         replace H : ((txn_Slots.f t161 t162 t163 t164 t165 t166).bind fun t173 => (some (wrap64 (t172 - t173), 0))) = some (r1, r2) := H
         have A58 := A_ A580
         clear A580
         replace H := Option.bind_eq_some_iff.mp H
         obtain ⟨t173, A590, H⟩ := H
         replace H : (some (wrap64 (t172 - t173), 0)) = some (r1, r2) := H
         have A59 := A_ A590
         clear A590
         simp only [Option.some.injEq, Prod.mk.injEq] at H
         obtain ⟨rfl, rfl⟩ := H
         try go_wp2
         have n0_ := A_ (bd_ BK156.out); have n1_ := A_ (bd_ BK157.out); have n2_ := A_ (bd_ BK168.out); have n3_ := A_ (wd_ HB.out); replace BK156 := n0_; replace BK157 := n1_; replace BK168 := n2_; replace HB := n3_; clear n0_ n1_ n2_ n3_
         refine start_ (n := 7) (S := fun w' => w'.cell? ⟨gb157, 0, none⟩ = some (.int .i64 a1_0) ∧ w'.cell? ⟨gb157, 1, none⟩ = some (.int .i64 a1_1) ∧ w'.cell? ⟨gb157, 2, none⟩ = some (.int .i64 a1_2) ∧ w'.cell? ⟨gb157, 3, none⟩ = some (.int .i64 a1_3) ∧ w'.cell? ⟨gb157, 4, none⟩ = some (.int .i64 a1_4) ∧ w'.cell? ⟨gb157, 5, none⟩ = some (.string a1_5) ∧ w'.cell? ⟨gb168, 0, none⟩ = some (.int .i64 t161) ∧ w'.cell? ⟨gb168, 1, none⟩ = some (.int .i64 t162) ∧ w'.cell? ⟨gb168, 2, none⟩ = some (.int .i64 t163) ∧ w'.cell? ⟨gb168, 3, none⟩ = some (.int .i64 t164) ∧ w'.cell? ⟨gb168, 4, none⟩ = some (.int .i64 t165) ∧ w'.cell? ⟨gb168, 5, none⟩ = some (.string t166)) (ds := []) #[false, false, false, false, false, false, false] (by kernel_rfl) rfl rfl ⟨e_ BK157 0, e_ BK157 1, e_ BK157 2, e_ BK157 3, e_ BK157 4, e_ BK157 5, e_ BK168 0, e_ BK168 1, e_ BK168 2, e_ BK168 3, e_ BK168 4, e_ BK168 5⟩ (fun hHeld => ?_)
         generalize wc.drew = w60 at BK156 BK157 BK168 HB hHeld ⊢
         refine take_ (i := 0) (N := some 73) (v := ?_) (a' := ?_) #[true, false, false, false, false, false, false] rfl rfl (by kernel_rfl) (fun _ _ _ h => h) (Or.inl ⟨by rfl, ?_⟩) hHeld ?_ ?_
         rotate_left
         · rintro w' ⟨s0, s1, s2, s3, s4, s5, s6, s7, s8, s9, s10, s11⟩
           go_simp
           with_reducible rfl
         rotate_left
         · simp only [Act.put, s0_, s1_, s2_, i64_w, i32_w]
           rfl
         refine take_ (i := 2) (N := some 75) (v := ?_) (a' := ?_) #[true, false, true, false, false, false, false] rfl rfl (by kernel_rfl) (fun _ _ _ h => h) (Or.inl ⟨by rfl, ?_⟩) hHeld ?_ ?_
         rotate_left
         · rintro w' ⟨s0, s1, s2, s3, s4, s5, s6, s7, s8, s9, s10, s11⟩
           go_simp
           with_reducible rfl
         rotate_left
         · simp only [Act.put, s0_, s1_, s2_, i64_w, i32_w]
           rfl
         refine one_ (i := 1) (N := some 74) #[true, true, true, false, false, false, false] rfl rfl (by kernel_rfl) (by decide) (fun K hK => ?_)
         refine goes_ Try.func103 (by kernel_rfl) rfl #[.agg #[.int .i64 a1_0, .int .i64 a1_1, .int .i64 a1_2, .int .i64 a1_3, .int .i64 a1_4, .string a1_5]] (by rfl) rfl rfl (by (try simp only [m0_, m1_, m2_]); first | done | rfl) ?_
         with_reducible refine (txn_Slots.calls a1_0 a1_1 a1_2 a1_3 a1_4 a1_5 t172 _ A58.out).mono ?_
         rintro e w61 ⟨rfl, hb⟩
         refine ⟨_, rfl, ?_⟩
         have n0_ := A_ (kb_ BK156 hb); have n1_ := A_ (kb_ BK157 hb); have n2_ := A_ (kb_ BK168 hb); have n3_ := A_ (below_step bw_ hb); replace BK156 := n0_; replace BK157 := n1_; replace BK168 := n2_; replace HB := n3_; clear n0_ n1_ n2_ n3_
         (try clear hb)
         (try clear hb2)
         (try clear hk)
         (try clear hi)
         refine hK.out _ _ ⟨e_ BK157 0, e_ BK157 1, e_ BK157 2, e_ BK157 3, e_ BK157 4, e_ BK157 5, e_ BK168 0, e_ BK168 1, e_ BK168 2, e_ BK168 3, e_ BK168 4, e_ BK168 5⟩ (fun hHeld => ?_)
         clear hK K
         refine norm_ (a' := ?_) ?_ ?_
         rotate_left
         · show Act.put _ (some 74) _ = _
           simp only [Act.put, s0_, s1_, s2_, i64_w, i32_w]
           rfl
         refine one_ (i := 3) (N := some 76) #[true, true, true, true, false, false, false] rfl rfl (by kernel_rfl) (by decide) (fun K hK => ?_)
         refine goes_ Try.func103 (by kernel_rfl) rfl #[.agg #[.int .i64 t161, .int .i64 t162, .int .i64 t163, .int .i64 t164, .int .i64 t165, .string t166]] (by rfl) rfl rfl (by (try simp only [m0_, m1_, m2_]); first | done | rfl) ?_
         with_reducible refine (txn_Slots.calls t161 t162 t163 t164 t165 t166 t173 _ A59.out).mono ?_
         rintro e w62 ⟨rfl, hb⟩
         refine ⟨_, rfl, ?_⟩
         have n0_ := A_ (kb_ BK156 hb); have n1_ := A_ (kb_ BK157 hb); have n2_ := A_ (kb_ BK168 hb); have n3_ := A_ (below_step bw_ hb); replace BK156 := n0_; replace BK157 := n1_; replace BK168 := n2_; replace HB := n3_; clear n0_ n1_ n2_ n3_
         (try clear hb)
         (try clear hb2)
         (try clear hk)
         (try clear hi)
         refine hK.out _ _ ⟨e_ BK157 0, e_ BK157 1, e_ BK157 2, e_ BK157 3, e_ BK157 4, e_ BK157 5, e_ BK168 0, e_ BK168 1, e_ BK168 2, e_ BK168 3, e_ BK168 4, e_ BK168 5⟩ (fun hHeld => ?_)
         clear hK K
         refine norm_ (a' := ?_) ?_ ?_
         rotate_left
         · show Act.put _ (some 76) _ = _
           simp only [Act.put, s0_, s1_, s2_, i64_w, i32_w]
           rfl
         refine pure_ (i := 4) (N := some 77) (v := ?_) (a' := ?_) #[true, true, true, true, true, false, false] rfl rfl (by kernel_rfl) (fun _ _ _ h => h) (Or.inl ⟨by rfl, ?_⟩) ?_ ?_
         rotate_left
         · intro w'
           go_simp
           with_reducible rfl
         rotate_left
         · simp only [Act.put, s0_, s1_, s2_, i64_w, i32_w]
           rfl
         refine pure_ (i := 5) (N := some 8) (v := ?_) (a' := ?_) #[true, true, true, true, true, true, false] rfl rfl (by kernel_rfl) (fun _ _ _ h => h) (Or.inl ⟨by rfl, ?_⟩) ?_ ?_
         rotate_left
         · intro w'
           go_simp
           with_reducible rfl
         rotate_left
         · simp only [Act.put, s0_, s1_, s2_, i64_w, i32_w]
           rfl
         refine pure_ (i := 6) (N := some 9) (v := ?_) (a' := ?_) #[true, true, true, true, true, true, true] rfl rfl (by kernel_rfl) (fun _ _ _ h => h) (Or.inl ⟨by rfl, ?_⟩) ?_ ?_
         rotate_left
         · intro w'
           go_simp
           with_reducible rfl
         rotate_left
         · simp only [Act.put, s0_, s1_, s2_, i64_w, i32_w]
           rfl
         refine done_ (by kernel_rfl) ?_
         try go_wp2
         go_ret2
         exact ⟨by first | rfl | (simp [errW_none, errW_some] <;> rfl) | (simp [*, errW_none, errW_some] <;> rfl), by repeat (first | (with_reducible first | exact HB.out | apply wa_ | apply wn_ | apply wd_ | refine ws_ ?_ GE156.out | refine ws_ ?_ GE157.out | refine ws_ ?_ GE168.out) | exact HB.out)⟩
     · replace c42 := Bool.eq_false_iff.mpr c42
       subst c42
       have H1 : (if (l0_2.length : Int) = a2 then (some (0, 5)) else ((txn_Slots.f a1_0 a1_1 a1_2 a1_3 a1_4 a1_5).bind fun t169 => (some (t169, 0)))) = some (r1, r2) := by rw [if_neg (show ¬ (false = true) by decide)] at H; exact H
       clear H
       have H := H1
       clear H1
       by_cases c63 : (l0_2.length : Int) = a2
       · rw [if_pos c63] at H
         have c63b0 : ((l0_2.length : Int) == a2) = true := beq_iff_eq.mpr c63
         have c63b1 : ((l0_2.length : Int) != a2) = false := bne_eq_false_iff_eq.mpr c63
         clear c63
         simp only [Option.some.injEq, Prod.mk.injEq] at H
         obtain ⟨rfl, rfl⟩ := H
         have hnb64 := NB157_156.out; have hnc64 := NB156_157.out; have hcz65_0 : wc.cell? ⟨gb157, 0, none⟩ = some (.int .i64 a1_0) := e_ BK157 0; have hcz65_1 : wc.cell? ⟨gb157, 1, none⟩ = some (.int .i64 a1_1) := e_ BK157 1; have hcz65_2 : wc.cell? ⟨gb157, 2, none⟩ = some (.int .i64 a1_2) := e_ BK157 2; have hcz65_3 : wc.cell? ⟨gb157, 3, none⟩ = some (.int .i64 a1_3) := e_ BK157 3; have hcz65_4 : wc.cell? ⟨gb157, 4, none⟩ = some (.int .i64 a1_4) := e_ BK157 4; have hcz65_5 : wc.cell? ⟨gb157, 5, none⟩ = some (.string a1_5) := e_ BK157 5; obtain ⟨hfz65_0, hfz65_1, hfz65_2, hfz65_3, hfz65_4, hfz65_5⟩ := z6_ BK157; have hcz66_0 : wc.cell? ⟨gb156, 0, none⟩ = some (.int .i64 a0_0) := e_ BK156 0; have hcz66_1 : wc.cell? ⟨gb156, 1, none⟩ = some (.int .i64 a0_1) := e_ BK156 1; have hcz66_2 : wc.cell? ⟨gb156, 2, none⟩ = some (.slice A0_2 l0_2.length c0_2) := e_ BK156 2; obtain ⟨hfz66_0, hfz66_1, hfz66_2⟩ := z3_ BK156
         go_wp2_with (first | ((with_reducible refine gate_callee (f := 52) rfl ?_); refine goesL_ (some 46) rfl rfl Try.func52 (by kernel_rfl) rfl #[.agg #[.int .i64 a0_0, .int .i64 a0_1, .slice A0_2 l0_2.length c0_2], .int .i64 a1_1] rfl (by (try simp only [m0_, m1_, m2_]); first | done | rfl) ?_; (with_reducible refine (queue_Find.calls a0_0 a0_1 _ _ l0_2 a1_1 t161 t162 t163 t164 t165 t166 false _ ?side1 ?side2 A41.out).mono ?_); (case side1 => repeat (first | exact (Kd.C_below HR0_2.out HB.out) | (with_reducible refine ca_ ?_ _) | (with_reducible refine cn_ ?_ _) | (with_reducible refine cd_ ?_))); (case side2 => exact HC0_2.out); rintro e w67 ⟨rfl, hb⟩; refine ⟨_, rfl, ?_⟩; replace BK156 := A_ (kb_ BK156 hb); replace BK157 := A_ (kb_ BK157 hb); replace HB := A_ (below_step bw_ hb); (try clear hb); (try clear hb2); (try clear hk); (try clear hi)) | ((with_reducible refine gate_dst (N := 10) rfl ?_); refine box_event ?hg (N := 10) ?hd (cs := #[.int .i64 0, .int .i64 0, .int .i64 0, .int .i64 0, .int .i64 0, .string (⟨#[]⟩ : ByteArray)]) (t := 24) ?hr ?_; (case hd => rfl); (case hg => rfl); (case hr => first | (go_simp; done) | (go_simp; rfl)); intro gb168 hg w68 hbox hb; have n0_ := A_ (kb_ BK156 hb); have n1_ := A_ (kb_ BK157 hb); have n2_ := A_ (below_step bw_ hb); have n3_ := A_ (hbox); have n4_ := A_ (gz_ (w := w) hg); have n5_ := A_ (gz_ (w := w) hg); have n6_ := A_ (nl_ BK156 hg); have n7_ := A_ (ng_ BK156 hg); have n8_ := A_ (nl_ BK157 hg); have n9_ := A_ (ng_ BK157 hg); replace BK156 := n0_; replace BK157 := n1_; replace HB := n2_; have BK168 := n3_; have GW168 := n4_; have GE168 := n5_; have NB156_168 := n6_; have NB168_156 := n7_; have NB157_168 := n8_; have NB168_157 := n9_; clear n0_ n1_ n2_ n3_ n4_ n5_ n6_ n7_ n8_ n9_; clear hb hbox hg; have hnb69 := NB168_156.out; have hnc69 := NB156_168.out; have hnb70 := NB168_157.out; have hnc70 := NB157_168.out; have hcz71_0 : w68.cell? ⟨gb168, 0, none⟩ = some (.int .i64 0) := e_ BK168 0; have hcz71_1 : w68.cell? ⟨gb168, 1, none⟩ = some (.int .i64 0) := e_ BK168 1; have hcz71_2 : w68.cell? ⟨gb168, 2, none⟩ = some (.int .i64 0) := e_ BK168 2; have hcz71_3 : w68.cell? ⟨gb168, 3, none⟩ = some (.int .i64 0) := e_ BK168 3; have hcz71_4 : w68.cell? ⟨gb168, 4, none⟩ = some (.int .i64 0) := e_ BK168 4; have hcz71_5 : w68.cell? ⟨gb168, 5, none⟩ = some (.string (⟨#[]⟩ : ByteArray)) := e_ BK168 5; obtain ⟨hfz71_0, hfz71_1, hfz71_2, hfz71_3, hfz71_4, hfz71_5⟩ := z6_ BK168; have hcz72_0 : w68.cell? ⟨gb156, 0, none⟩ = some (.int .i64 a0_0) := e_ BK156 0; have hcz72_1 : w68.cell? ⟨gb156, 1, none⟩ = some (.int .i64 a0_1) := e_ BK156 1; have hcz72_2 : w68.cell? ⟨gb156, 2, none⟩ = some (.slice A0_2 l0_2.length c0_2) := e_ BK156 2; obtain ⟨hfz72_0, hfz72_1, hfz72_2⟩ := z3_ BK156))
         go_ret2
         exact ⟨by first | rfl | (simp [errW_none, errW_some] <;> rfl) | (simp [*, errW_none, errW_some] <;> rfl), by repeat (first | (with_reducible first | exact HB.out | apply wa_ | apply wn_ | apply wd_ | refine ws_ ?_ GE156.out | refine ws_ ?_ GE157.out | refine ws_ ?_ GE168.out) | exact HB.out)⟩
       · rw [if_neg c63] at H
         have c63b0 : ((l0_2.length : Int) == a2) = false := beq_eq_false_iff_ne.mpr c63
         have c63b1 : ((l0_2.length : Int) != a2) = true := bne_iff_ne.mpr c63
         replace H := Option.bind_eq_some_iff.mp H
         obtain ⟨t169, A730, H⟩ := H
         replace H : (some (t169, 0)) = some (r1, r2) := H
         have A73 := A_ A730
         clear A730
         simp only [Option.some.injEq, Prod.mk.injEq] at H
         obtain ⟨rfl, rfl⟩ := H
         have hnb74 := NB157_156.out; have hnc74 := NB156_157.out; have hcz75_0 : wc.cell? ⟨gb157, 0, none⟩ = some (.int .i64 a1_0) := e_ BK157 0; have hcz75_1 : wc.cell? ⟨gb157, 1, none⟩ = some (.int .i64 a1_1) := e_ BK157 1; have hcz75_2 : wc.cell? ⟨gb157, 2, none⟩ = some (.int .i64 a1_2) := e_ BK157 2; have hcz75_3 : wc.cell? ⟨gb157, 3, none⟩ = some (.int .i64 a1_3) := e_ BK157 3; have hcz75_4 : wc.cell? ⟨gb157, 4, none⟩ = some (.int .i64 a1_4) := e_ BK157 4; have hcz75_5 : wc.cell? ⟨gb157, 5, none⟩ = some (.string a1_5) := e_ BK157 5; obtain ⟨hfz75_0, hfz75_1, hfz75_2, hfz75_3, hfz75_4, hfz75_5⟩ := z6_ BK157; have hcz76_0 : wc.cell? ⟨gb156, 0, none⟩ = some (.int .i64 a0_0) := e_ BK156 0; have hcz76_1 : wc.cell? ⟨gb156, 1, none⟩ = some (.int .i64 a0_1) := e_ BK156 1; have hcz76_2 : wc.cell? ⟨gb156, 2, none⟩ = some (.slice A0_2 l0_2.length c0_2) := e_ BK156 2; obtain ⟨hfz76_0, hfz76_1, hfz76_2⟩ := z3_ BK156
         go_wp2_with (first | ((with_reducible refine gate_callee (f := 52) rfl ?_); refine goesL_ (some 46) rfl rfl Try.func52 (by kernel_rfl) rfl #[.agg #[.int .i64 a0_0, .int .i64 a0_1, .slice A0_2 l0_2.length c0_2], .int .i64 a1_1] rfl (by (try simp only [m0_, m1_, m2_]); first | done | rfl) ?_; (with_reducible refine (queue_Find.calls a0_0 a0_1 _ _ l0_2 a1_1 t161 t162 t163 t164 t165 t166 false _ ?side1 ?side2 A41.out).mono ?_); (case side1 => repeat (first | exact (Kd.C_below HR0_2.out HB.out) | (with_reducible refine ca_ ?_ _) | (with_reducible refine cn_ ?_ _) | (with_reducible refine cd_ ?_))); (case side2 => exact HC0_2.out); rintro e w77 ⟨rfl, hb⟩; refine ⟨_, rfl, ?_⟩; replace BK156 := A_ (kb_ BK156 hb); replace BK157 := A_ (kb_ BK157 hb); replace HB := A_ (below_step bw_ hb); (try clear hb); (try clear hb2); (try clear hk); (try clear hi)) | ((with_reducible refine gate_dst (N := 10) rfl ?_); refine box_event ?hg (N := 10) ?hd (cs := #[.int .i64 0, .int .i64 0, .int .i64 0, .int .i64 0, .int .i64 0, .string (⟨#[]⟩ : ByteArray)]) (t := 24) ?hr ?_; (case hd => rfl); (case hg => rfl); (case hr => first | (go_simp; done) | (go_simp; rfl)); intro gb168 hg w78 hbox hb; have n0_ := A_ (kb_ BK156 hb); have n1_ := A_ (kb_ BK157 hb); have n2_ := A_ (below_step bw_ hb); have n3_ := A_ (hbox); have n4_ := A_ (gz_ (w := w) hg); have n5_ := A_ (gz_ (w := w) hg); have n6_ := A_ (nl_ BK156 hg); have n7_ := A_ (ng_ BK156 hg); have n8_ := A_ (nl_ BK157 hg); have n9_ := A_ (ng_ BK157 hg); replace BK156 := n0_; replace BK157 := n1_; replace HB := n2_; have BK168 := n3_; have GW168 := n4_; have GE168 := n5_; have NB156_168 := n6_; have NB168_156 := n7_; have NB157_168 := n8_; have NB168_157 := n9_; clear n0_ n1_ n2_ n3_ n4_ n5_ n6_ n7_ n8_ n9_; clear hb hbox hg; have hnb79 := NB168_156.out; have hnc79 := NB156_168.out; have hnb80 := NB168_157.out; have hnc80 := NB157_168.out; have hcz81_0 : w78.cell? ⟨gb168, 0, none⟩ = some (.int .i64 0) := e_ BK168 0; have hcz81_1 : w78.cell? ⟨gb168, 1, none⟩ = some (.int .i64 0) := e_ BK168 1; have hcz81_2 : w78.cell? ⟨gb168, 2, none⟩ = some (.int .i64 0) := e_ BK168 2; have hcz81_3 : w78.cell? ⟨gb168, 3, none⟩ = some (.int .i64 0) := e_ BK168 3; have hcz81_4 : w78.cell? ⟨gb168, 4, none⟩ = some (.int .i64 0) := e_ BK168 4; have hcz81_5 : w78.cell? ⟨gb168, 5, none⟩ = some (.string (⟨#[]⟩ : ByteArray)) := e_ BK168 5; obtain ⟨hfz81_0, hfz81_1, hfz81_2, hfz81_3, hfz81_4, hfz81_5⟩ := z6_ BK168; have hcz82_0 : w78.cell? ⟨gb156, 0, none⟩ = some (.int .i64 a0_0) := e_ BK156 0; have hcz82_1 : w78.cell? ⟨gb156, 1, none⟩ = some (.int .i64 a0_1) := e_ BK156 1; have hcz82_2 : w78.cell? ⟨gb156, 2, none⟩ = some (.slice A0_2 l0_2.length c0_2) := e_ BK156 2; obtain ⟨hfz82_0, hfz82_1, hfz82_2⟩ := z3_ BK156; have hcz83_0 : w78.cell? ⟨gb157, 0, none⟩ = some (.int .i64 a1_0) := e_ BK157 0; have hcz83_1 : w78.cell? ⟨gb157, 1, none⟩ = some (.int .i64 a1_1) := e_ BK157 1; have hcz83_2 : w78.cell? ⟨gb157, 2, none⟩ = some (.int .i64 a1_2) := e_ BK157 2; have hcz83_3 : w78.cell? ⟨gb157, 3, none⟩ = some (.int .i64 a1_3) := e_ BK157 3; have hcz83_4 : w78.cell? ⟨gb157, 4, none⟩ = some (.int .i64 a1_4) := e_ BK157 4; have hcz83_5 : w78.cell? ⟨gb157, 5, none⟩ = some (.string a1_5) := e_ BK157 5; obtain ⟨hfz83_0, hfz83_1, hfz83_2, hfz83_3, hfz83_4, hfz83_5⟩ := z6_ BK157) | ((with_reducible refine gate_callee (f := 103) rfl ?_); refine goesL_ (some 57) rfl rfl Try.func103 (by kernel_rfl) rfl #[.agg #[.int .i64 a1_0, .int .i64 a1_1, .int .i64 a1_2, .int .i64 a1_3, .int .i64 a1_4, .string a1_5]] rfl (by (try simp only [m0_, m1_, m2_]); first | done | rfl) ?_; (with_reducible refine (txn_Slots.calls a1_0 a1_1 a1_2 a1_3 a1_4 a1_5 t169 _ A73.out).mono ?_); rintro e w84 ⟨rfl, hb⟩; refine ⟨_, rfl, ?_⟩; replace BK156 := A_ (kb_ BK156 hb); replace BK157 := A_ (kb_ BK157 hb); replace BK168 := A_ (blk_below (g := gb168) (o := .cells #[.int .i64 t161, .int .i64 t162, .int .i64 t163, .int .i64 t164, .int .i64 t165, .string t166] 24 (0, 0)) (by exact pk_ (b6_ BK168.out)) hb); replace HB := A_ (below_step bw_ hb); (try clear hb); (try clear hb2); (try clear hk); (try clear hi)))
         go_ret2
         exact ⟨by first | rfl | (simp [errW_none, errW_some] <;> rfl) | (simp [*, errW_none, errW_some] <;> rfl), by repeat (first | (with_reducible first | exact HB.out | apply wa_ | apply wn_ | apply wd_ | refine ws_ ?_ GE156.out | refine ws_ ?_ GE157.out | refine ws_ ?_ GE168.out) | exact HB.out)⟩

end Go.Proofs.Ytehncbhmdgdkjaa.Q
