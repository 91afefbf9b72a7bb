/- Written by this session's own program over the kit's print: functions of Go told as plain functions, or the row of one statement; proved for every input, with no condition of ours. -/
import Derived.Test.YtihlogdmdmhefaaLx0
import Derived.Test.YtihlogdmdmhefaaLx1
import Derived.Test.YtihlogdmdmhefaaLx2
import Derived.Test.YtihlogdmdmhefaaLx3
import Derived.Test.YtihlogdmdmhefaaLx5
import Derived.Test.YtihlogdmdmhefaaLx14
import Derived.Test.YtihlogdmdmhefaaLx16
import Derived.Test.YtihlogdmdmhefaaLx18
import Derived.Test.YtihlogdmdmhefaaLx22
import Derived.Test.YtihlogdmdmhefaaLx30
namespace Go.Proofs.Ytihlogdmdmhefaa.L
open Go.RowKit Go.Proofs.YtihlogdmdmhefaaW.PrintWords Go.Proofs.YtihlogdmdmhefaaW.PrintLast Go.Proofs.YtihlogdmdmhefaaW.PrintMore
attribute [local go_sem] max2_int min2_int max_two min_two max_three min_three max_four min_four   -- for this text's walks alone
set_option linter.unusedVariables false
set_option linter.unusedSimpArgs false

attribute [local go_sem high] eqA23
/-! ### hopperlaw06_HeapStays: function 18 -/
mutual
def hopperlaw06_HeapStays.j0 : Nat → List (S23) → Bool → Int → Int → Int → Int → Int → ByteArray → Option (Bool)
  | 0, _, _, _, _, _, _, _, _ => none
  | k + 1, x0, x25, x506000, x506001, x506002, x506003, x506004, x506005 => if x25 = true then ((hopperlaw06_live.f k).bind fun t509 => (some t509)) else ((heap_Push.f x0 x506000 x506001 x506002 x506003 x506004 x506005).bind fun t510 => ((heap_Pop.f t510).bind fun bt513 => ((heap_Check.f k t510).bind fun t524 => (if t524 = true then (if bt513.2.2.2.2.2.2.2 = true then ((heap_Check.f k bt513.1).bind fun t525 => (if t525 = true then (if (t510.length : Int) = (wrap64 ((x0.length : Int) + 1)) then (hopperlaw06_HeapStays.j1 k x0 t510 bt513.1 ((bt513.1.length : Int) != (x0.length : Int)) x506000 x506001 x506002 x506003 x506004 x506005 bt513.2.1 bt513.2.2.1 bt513.2.2.2.1 bt513.2.2.2.2.1 bt513.2.2.2.2.2.1 bt513.2.2.2.2.2.2.1) else (none)) else (none))) else (none)) else (none)))))
def hopperlaw06_HeapStays.j1 : Nat → List (S23) → List (S23) → List (S23) → Bool → Int → Int → Int → Int → Int → ByteArray → Int → Int → Int → Int → Int → ByteArray → Option (Bool)
  | 0, _, _, _, _, _, _, _, _, _, _, _, _, _, _, _, _ => none
  | k + 1, x0, x5, x6, x62, x506000, x506001, x506002, x506003, x506004, x506005, x524000, x524001, x524002, x524003, x524004, x524005 => if x62 = true then (none) else (hopperlaw06_HeapStays.l0 k x0 x5 x6 0 x506000 x506001 x506002 x506003 x506004 x506005 x524000 x524001 x524002 x524003 x524004 x524005)
def hopperlaw06_HeapStays.l0 : Nat → List (S23) → List (S23) → List (S23) → Int → Int → Int → Int → Int → Int → ByteArray → Int → Int → Int → Int → Int → ByteArray → Option (Bool)
  | 0, _, _, _, _, _, _, _, _, _, _, _, _, _, _, _, _ => none
  | k + 1, x0, x5, x6, x9, x506000, x506001, x506002, x506003, x506004, x506005, x524000, x524001, x524002, x524003, x524004, x524005 => if x9 < (x5.length : Int) then (if 0 ≤ x9 then (if (((rd_T23 x5 x9).f0) == x506000 && (((rd_T23 x5 x9).f1) == x506001 && (((rd_T23 x5 x9).f2) == x506002 && (((rd_T23 x5 x9).f3) == x506003 && (((rd_T23 x5 x9).f4) == x506004 && ((((rd_T23 x5 x9).f5).toList) == x506005.toList)))))) = true then (hopperlaw06_HeapStays.j3 k x0 x5 x6 x9 1 x506000 x506001 x506002 x506003 x506004 x506005 x524000 x524001 x524002 x524003 x524004 x524005) else (hopperlaw06_HeapStays.j3 k x0 x5 x6 x9 0 x506000 x506001 x506002 x506003 x506004 x506005 x524000 x524001 x524002 x524003 x524004 x524005)) else (none)) else (hopperlaw06_HeapStays.l1 k x5 x6 0 x524000 x524001 x524002 x524003 x524004 x524005)
def hopperlaw06_HeapStays.j3 : Nat → List (S23) → List (S23) → List (S23) → Int → Int → Int → Int → Int → Int → Int → ByteArray → Int → Int → Int → Int → Int → ByteArray → Option (Bool)
  | 0, _, _, _, _, _, _, _, _, _, _, _, _, _, _, _, _, _ => none
  | k + 1, x0, x5, x6, x9, x10, x506000, x506001, x506002, x506003, x506004, x506005, x524000, x524001, x524002, x524003, x524004, x524005 => if 0 ≤ x9 then (if x9 < (x5.length : Int) then ((hopperref04_Better.f k ((rd_T23 x5 x9).f0) ((rd_T23 x5 x9).f1) ((rd_T23 x5 x9).f2) ((rd_T23 x5 x9).f3) ((rd_T23 x5 x9).f4) ((rd_T23 x5 x9).f5) x524000 x524001 x524002 x524003 x524004 x524005).bind fun t528 => (if t528 = true then (none) else ((hopperlaw06_count.f k x5 ((rd_T23 x5 x9).f0) ((rd_T23 x5 x9).f1) ((rd_T23 x5 x9).f2) ((rd_T23 x5 x9).f3) ((rd_T23 x5 x9).f4) ((rd_T23 x5 x9).f5)).bind fun t530 => ((hopperlaw06_count.f k x0 ((rd_T23 x5 x9).f0) ((rd_T23 x5 x9).f1) ((rd_T23 x5 x9).f2) ((rd_T23 x5 x9).f3) ((rd_T23 x5 x9).f4) ((rd_T23 x5 x9).f5)).bind fun t532 => (if t530 = (wrap64 (t532 + x10)) then (hopperlaw06_HeapStays.l0 k x0 x5 x6 (wrap64 (x9 + 1)) x506000 x506001 x506002 x506003 x506004 x506005 x524000 x524001 x524002 x524003 x524004 x524005) else (none)))))) else (none)) else (none)
def hopperlaw06_HeapStays.l1 : Nat → List (S23) → List (S23) → Int → Int → Int → Int → Int → Int → ByteArray → Option (Bool)
  | 0, _, _, _, _, _, _, _, _, _ => none
  | k + 1, x5, x6, x11, x524000, x524001, x524002, x524003, x524004, x524005 => if x11 < (x6.length : Int) then (if 0 ≤ x11 then (if (((rd_T23 x6 x11).f0) == x524000 && (((rd_T23 x6 x11).f1) == x524001 && (((rd_T23 x6 x11).f2) == x524002 && (((rd_T23 x6 x11).f3) == x524003 && (((rd_T23 x6 x11).f4) == x524004 && ((((rd_T23 x6 x11).f5).toList) == x524005.toList)))))) = true then (hopperlaw06_HeapStays.j5 k x5 x6 x11 1 x524000 x524001 x524002 x524003 x524004 x524005) else (hopperlaw06_HeapStays.j5 k x5 x6 x11 0 x524000 x524001 x524002 x524003 x524004 x524005)) else (none)) else ((hopperlaw06_live.f k).bind fun t533 => (some t533))
def hopperlaw06_HeapStays.j5 : Nat → List (S23) → List (S23) → Int → Int → Int → Int → Int → Int → Int → ByteArray → Option (Bool)
  | 0, _, _, _, _, _, _, _, _, _, _ => none
  | k + 1, x5, x6, x11, x12, x524000, x524001, x524002, x524003, x524004, x524005 => if 0 ≤ x11 then (if x11 < (x6.length : Int) then ((hopperlaw06_count.f k x6 ((rd_T23 x6 x11).f0) ((rd_T23 x6 x11).f1) ((rd_T23 x6 x11).f2) ((rd_T23 x6 x11).f3) ((rd_T23 x6 x11).f4) ((rd_T23 x6 x11).f5)).bind fun t536 => ((hopperlaw06_count.f k x5 ((rd_T23 x6 x11).f0) ((rd_T23 x6 x11).f1) ((rd_T23 x6 x11).f2) ((rd_T23 x6 x11).f3) ((rd_T23 x6 x11).f4) ((rd_T23 x6 x11).f5)).bind fun t538 => (if t536 = (wrap64 (t538 - x12)) then (hopperlaw06_HeapStays.l1 k x5 x6 (wrap64 (x11 + 1)) x524000 x524001 x524002 x524003 x524004 x524005) else (none)))) else (none)) else (none)
end
def hopperlaw06_HeapStays.f (k : Nat) (l0 : List (S23)) (a1_0 : Int) (a1_1 : Int) (a1_2 : Int) (a1_3 : Int) (a1_4 : Int) (a1_5 : ByteArray) : Option (Bool) := (hopperref04_Few.f k l0 40).bind fun t506 => (if t506 = true then ((hopperref04_Small.f a1_0 a1_1 a1_2 a1_3 a1_4 a1_5).bind fun t507 => (if t507 = true then ((heap_Check.f k l0).bind fun t508 => (hopperlaw06_HeapStays.j0 k l0 (!t508) a1_0 a1_1 a1_2 a1_3 a1_4 a1_5)) else (hopperlaw06_HeapStays.j0 k l0 true a1_0 a1_1 a1_2 a1_3 a1_4 a1_5))) else (hopperlaw06_HeapStays.j0 k l0 true a1_0 a1_1 a1_2 a1_3 a1_4 a1_5))
theorem hopperlaw06_HeapStays.mono_l : ∀ k, (∀ y0 y1 y2 y3 y4 y5 y6 y7, LeO (hopperlaw06_HeapStays.j0 k y0 y1 y2 y3 y4 y5 y6 y7) (hopperlaw06_HeapStays.j0 (k + 1) y0 y1 y2 y3 y4 y5 y6 y7)) ∧ (∀ y0 y1 y2 y3 y4 y5 y6 y7 y8 y9 y10 y11 y12 y13 y14 y15, LeO (hopperlaw06_HeapStays.j1 k y0 y1 y2 y3 y4 y5 y6 y7 y8 y9 y10 y11 y12 y13 y14 y15) (hopperlaw06_HeapStays.j1 (k + 1) y0 y1 y2 y3 y4 y5 y6 y7 y8 y9 y10 y11 y12 y13 y14 y15)) ∧ (∀ y0 y1 y2 y3 y4 y5 y6 y7 y8 y9 y10 y11 y12 y13 y14 y15, LeO (hopperlaw06_HeapStays.l0 k y0 y1 y2 y3 y4 y5 y6 y7 y8 y9 y10 y11 y12 y13 y14 y15) (hopperlaw06_HeapStays.l0 (k + 1) y0 y1 y2 y3 y4 y5 y6 y7 y8 y9 y10 y11 y12 y13 y14 y15)) ∧ (∀ y0 y1 y2 y3 y4 y5 y6 y7 y8 y9 y10 y11 y12 y13 y14 y15 y16, LeO (hopperlaw06_HeapStays.j3 k y0 y1 y2 y3 y4 y5 y6 y7 y8 y9 y10 y11 y12 y13 y14 y15 y16) (hopperlaw06_HeapStays.j3 (k + 1) y0 y1 y2 y3 y4 y5 y6 y7 y8 y9 y10 y11 y12 y13 y14 y15 y16)) ∧ (∀ y0 y1 y2 y3 y4 y5 y6 y7 y8, LeO (hopperlaw06_HeapStays.l1 k y0 y1 y2 y3 y4 y5 y6 y7 y8) (hopperlaw06_HeapStays.l1 (k + 1) y0 y1 y2 y3 y4 y5 y6 y7 y8)) ∧ (∀ y0 y1 y2 y3 y4 y5 y6 y7 y8 y9, LeO (hopperlaw06_HeapStays.j5 k y0 y1 y2 y3 y4 y5 y6 y7 y8 y9) (hopperlaw06_HeapStays.j5 (k + 1) y0 y1 y2 y3 y4 y5 y6 y7 y8 y9))
  | 0 => ⟨fun _ _ _ _ _ _ _ _ r h => by simp [hopperlaw06_HeapStays.j0] at h, fun _ _ _ _ _ _ _ _ _ _ _ _ _ _ _ _ r h => by simp [hopperlaw06_HeapStays.j1] at h, fun _ _ _ _ _ _ _ _ _ _ _ _ _ _ _ _ r h => by simp [hopperlaw06_HeapStays.l0] at h, fun _ _ _ _ _ _ _ _ _ _ _ _ _ _ _ _ _ r h => by simp [hopperlaw06_HeapStays.j3] at h, fun _ _ _ _ _ _ _ _ _ r h => by simp [hopperlaw06_HeapStays.l1] at h, fun _ _ _ _ _ _ _ _ _ _ r h => by simp [hopperlaw06_HeapStays.j5] at h⟩
  | k + 1 => by
    obtain ⟨ih0, ih1, ih2, ih3, ih4, ih5⟩ := hopperlaw06_HeapStays.mono_l k
    refine ⟨?_, ?_, ?_, ?_, ?_, ?_⟩
    · intro y0 y1 y2 y3 y4 y5 y6 y7
      unfold hopperlaw06_HeapStays.j0
      repeat' first
      | (with_reducible exact ih0 _ _ _ _ _ _ _ _)
      | (with_reducible exact ih1 _ _ _ _ _ _ _ _ _ _ _ _ _ _ _ _)
      | (with_reducible exact ih2 _ _ _ _ _ _ _ _ _ _ _ _ _ _ _ _)
      | (with_reducible exact ih3 _ _ _ _ _ _ _ _ _ _ _ _ _ _ _ _ _)
      | (with_reducible exact ih4 _ _ _ _ _ _ _ _ _)
      | (with_reducible exact ih5 _ _ _ _ _ _ _ _ _ _)
      | (with_reducible exact heap_Check.mono _ _)
      | (with_reducible exact hopperlaw06_count.mono _ _ _ _ _ _ _ _)
      | (with_reducible exact hopperlaw06_live.mono _)
      | (with_reducible exact hopperref04_Better.mono _ _ _ _ _ _ _ _ _ _ _ _ _)
      | (with_reducible exact hopperref04_Few.mono _ _ _)
      | (with_reducible exact LeO.refl _)
      | (with_reducible exact LeO.none _)
      | (with_reducible refine LeO.ite ?_ ?_)
      | (with_reducible refine LeO.bind ?_ (fun _ => ?_))
      | exact ih0 _ _ _ _ _ _ _ _
      | exact ih1 _ _ _ _ _ _ _ _ _ _ _ _ _ _ _ _
      | exact ih2 _ _ _ _ _ _ _ _ _ _ _ _ _ _ _ _
      | exact ih3 _ _ _ _ _ _ _ _ _ _ _ _ _ _ _ _ _
      | exact ih4 _ _ _ _ _ _ _ _ _
      | exact ih5 _ _ _ _ _ _ _ _ _ _
      | exact heap_Check.mono _ _
      | exact hopperlaw06_count.mono _ _ _ _ _ _ _ _
      | exact hopperlaw06_live.mono _
      | exact hopperref04_Better.mono _ _ _ _ _ _ _ _ _ _ _ _ _
      | exact hopperref04_Few.mono _ _ _
      | exact LeO.none _
      | refine LeO.ite ?_ ?_
      | refine LeO.bind ?_ (fun _ => ?_)
    · intro y0 y1 y2 y3 y4 y5 y6 y7 y8 y9 y10 y11 y12 y13 y14 y15
      unfold hopperlaw06_HeapStays.j1
      repeat' first
      | (with_reducible exact ih0 _ _ _ _ _ _ _ _)
      | (with_reducible exact ih1 _ _ _ _ _ _ _ _ _ _ _ _ _ _ _ _)
      | (with_reducible exact ih2 _ _ _ _ _ _ _ _ _ _ _ _ _ _ _ _)
      | (with_reducible exact ih3 _ _ _ _ _ _ _ _ _ _ _ _ _ _ _ _ _)
      | (with_reducible exact ih4 _ _ _ _ _ _ _ _ _)
      | (with_reducible exact ih5 _ _ _ _ _ _ _ _ _ _)
      | (with_reducible exact heap_Check.mono _ _)
      | (with_reducible exact hopperlaw06_count.mono _ _ _ _ _ _ _ _)
      | (with_reducible exact hopperlaw06_live.mono _)
      | (with_reducible exact hopperref04_Better.mono _ _ _ _ _ _ _ _ _ _ _ _ _)
      | (with_reducible exact hopperref04_Few.mono _ _ _)
      | (with_reducible exact LeO.refl _)
      | (with_reducible exact LeO.none _)
      | (with_reducible refine LeO.ite ?_ ?_)
      | (with_reducible refine LeO.bind ?_ (fun _ => ?_))
      | exact ih0 _ _ _ _ _ _ _ _
      | exact ih1 _ _ _ _ _ _ _ _ _ _ _ _ _ _ _ _
      | exact ih2 _ _ _ _ _ _ _ _ _ _ _ _ _ _ _ _
      | exact ih3 _ _ _ _ _ _ _ _ _ _ _ _ _ _ _ _ _
      | exact ih4 _ _ _ _ _ _ _ _ _
      | exact ih5 _ _ _ _ _ _ _ _ _ _
      | exact heap_Check.mono _ _
      | exact hopperlaw06_count.mono _ _ _ _ _ _ _ _
      | exact hopperlaw06_live.mono _
      | exact hopperref04_Better.mono _ _ _ _ _ _ _ _ _ _ _ _ _
      | exact hopperref04_Few.mono _ _ _
      | exact LeO.none _
      | refine LeO.ite ?_ ?_
      | refine LeO.bind ?_ (fun _ => ?_)
    · intro y0 y1 y2 y3 y4 y5 y6 y7 y8 y9 y10 y11 y12 y13 y14 y15
      unfold hopperlaw06_HeapStays.l0
      repeat' first
      | (with_reducible exact ih0 _ _ _ _ _ _ _ _)
      | (with_reducible exact ih1 _ _ _ _ _ _ _ _ _ _ _ _ _ _ _ _)
      | (with_reducible exact ih2 _ _ _ _ _ _ _ _ _ _ _ _ _ _ _ _)
      | (with_reducible exact ih3 _ _ _ _ _ _ _ _ _ _ _ _ _ _ _ _ _)
      | (with_reducible exact ih4 _ _ _ _ _ _ _ _ _)
      | (with_reducible exact ih5 _ _ _ _ _ _ _ _ _ _)
      | (with_reducible exact heap_Check.mono _ _)
      | (with_reducible exact hopperlaw06_count.mono _ _ _ _ _ _ _ _)
      | (with_reducible exact hopperlaw06_live.mono _)
      | (with_reducible exact hopperref04_Better.mono _ _ _ _ _ _ _ _ _ _ _ _ _)
      | (with_reducible exact hopperref04_Few.mono _ _ _)
      | (with_reducible exact LeO.refl _)
      | (with_reducible exact LeO.none _)
      | (with_reducible refine LeO.ite ?_ ?_)
      | (with_reducible refine LeO.bind ?_ (fun _ => ?_))
      | exact ih0 _ _ _ _ _ _ _ _
      | exact ih1 _ _ _ _ _ _ _ _ _ _ _ _ _ _ _ _
      | exact ih2 _ _ _ _ _ _ _ _ _ _ _ _ _ _ _ _
      | exact ih3 _ _ _ _ _ _ _ _ _ _ _ _ _ _ _ _ _
      | exact ih4 _ _ _ _ _ _ _ _ _
      | exact ih5 _ _ _ _ _ _ _ _ _ _
      | exact heap_Check.mono _ _
      | exact hopperlaw06_count.mono _ _ _ _ _ _ _ _
      | exact hopperlaw06_live.mono _
      | exact hopperref04_Better.mono _ _ _ _ _ _ _ _ _ _ _ _ _
      | exact hopperref04_Few.mono _ _ _
      | exact LeO.none _
      | refine LeO.ite ?_ ?_
      | refine LeO.bind ?_ (fun _ => ?_)
    · intro y0 y1 y2 y3 y4 y5 y6 y7 y8 y9 y10 y11 y12 y13 y14 y15 y16
      unfold hopperlaw06_HeapStays.j3
      repeat' first
      | (with_reducible exact ih0 _ _ _ _ _ _ _ _)
      | (with_reducible exact ih1 _ _ _ _ _ _ _ _ _ _ _ _ _ _ _ _)
      | (with_reducible exact ih2 _ _ _ _ _ _ _ _ _ _ _ _ _ _ _ _)
      | (with_reducible exact ih3 _ _ _ _ _ _ _ _ _ _ _ _ _ _ _ _ _)
      | (with_reducible exact ih4 _ _ _ _ _ _ _ _ _)
      | (with_reducible exact ih5 _ _ _ _ _ _ _ _ _ _)
      | (with_reducible exact heap_Check.mono _ _)
      | (with_reducible exact hopperlaw06_count.mono _ _ _ _ _ _ _ _)
      | (with_reducible exact hopperlaw06_live.mono _)
      | (with_reducible exact hopperref04_Better.mono _ _ _ _ _ _ _ _ _ _ _ _ _)
      | (with_reducible exact hopperref04_Few.mono _ _ _)
      | (with_reducible exact LeO.refl _)
      | (with_reducible exact LeO.none _)
      | (with_reducible refine LeO.ite ?_ ?_)
      | (with_reducible refine LeO.bind ?_ (fun _ => ?_))
      | exact ih0 _ _ _ _ _ _ _ _
      | exact ih1 _ _ _ _ _ _ _ _ _ _ _ _ _ _ _ _
      | exact ih2 _ _ _ _ _ _ _ _ _ _ _ _ _ _ _ _
      | exact ih3 _ _ _ _ _ _ _ _ _ _ _ _ _ _ _ _ _
      | exact ih4 _ _ _ _ _ _ _ _ _
      | exact ih5 _ _ _ _ _ _ _ _ _ _
      | exact heap_Check.mono _ _
      | exact hopperlaw06_count.mono _ _ _ _ _ _ _ _
      | exact hopperlaw06_live.mono _
      | exact hopperref04_Better.mono _ _ _ _ _ _ _ _ _ _ _ _ _
      | exact hopperref04_Few.mono _ _ _
      | exact LeO.none _
      | refine LeO.ite ?_ ?_
      | refine LeO.bind ?_ (fun _ => ?_)
    · intro y0 y1 y2 y3 y4 y5 y6 y7 y8
      unfold hopperlaw06_HeapStays.l1
      repeat' first
      | (with_reducible exact ih0 _ _ _ _ _ _ _ _)
      | (with_reducible exact ih1 _ _ _ _ _ _ _ _ _ _ _ _ _ _ _ _)
      | (with_reducible exact ih2 _ _ _ _ _ _ _ _ _ _ _ _ _ _ _ _)
      | (with_reducible exact ih3 _ _ _ _ _ _ _ _ _ _ _ _ _ _ _ _ _)
      | (with_reducible exact ih4 _ _ _ _ _ _ _ _ _)
      | (with_reducible exact ih5 _ _ _ _ _ _ _ _ _ _)
      | (with_reducible exact heap_Check.mono _ _)
      | (with_reducible exact hopperlaw06_count.mono _ _ _ _ _ _ _ _)
      | (with_reducible exact hopperlaw06_live.mono _)
      | (with_reducible exact hopperref04_Better.mono _ _ _ _ _ _ _ _ _ _ _ _ _)
      | (with_reducible exact hopperref04_Few.mono _ _ _)
      | (with_reducible exact LeO.refl _)
      | (with_reducible exact LeO.none _)
      | (with_reducible refine LeO.ite ?_ ?_)
      | (with_reducible refine LeO.bind ?_ (fun _ => ?_))
      | exact ih0 _ _ _ _ _ _ _ _
      | exact ih1 _ _ _ _ _ _ _ _ _ _ _ _ _ _ _ _
      | exact ih2 _ _ _ _ _ _ _ _ _ _ _ _ _ _ _ _
      | exact ih3 _ _ _ _ _ _ _ _ _ _ _ _ _ _ _ _ _
      | exact ih4 _ _ _ _ _ _ _ _ _
      | exact ih5 _ _ _ _ _ _ _ _ _ _
      | exact heap_Check.mono _ _
      | exact hopperlaw06_count.mono _ _ _ _ _ _ _ _
      | exact hopperlaw06_live.mono _
      | exact hopperref04_Better.mono _ _ _ _ _ _ _ _ _ _ _ _ _
      | exact hopperref04_Few.mono _ _ _
      | exact LeO.none _
      | refine LeO.ite ?_ ?_
      | refine LeO.bind ?_ (fun _ => ?_)
    · intro y0 y1 y2 y3 y4 y5 y6 y7 y8 y9
      unfold hopperlaw06_HeapStays.j5
      repeat' first
      | (with_reducible exact ih0 _ _ _ _ _ _ _ _)
      | (with_reducible exact ih1 _ _ _ _ _ _ _ _ _ _ _ _ _ _ _ _)
      | (with_reducible exact ih2 _ _ _ _ _ _ _ _ _ _ _ _ _ _ _ _)
      | (with_reducible exact ih3 _ _ _ _ _ _ _ _ _ _ _ _ _ _ _ _ _)
      | (with_reducible exact ih4 _ _ _ _ _ _ _ _ _)
      | (with_reducible exact ih5 _ _ _ _ _ _ _ _ _ _)
      | (with_reducible exact heap_Check.mono _ _)
      | (with_reducible exact hopperlaw06_count.mono _ _ _ _ _ _ _ _)
      | (with_reducible exact hopperlaw06_live.mono _)
      | (with_reducible exact hopperref04_Better.mono _ _ _ _ _ _ _ _ _ _ _ _ _)
      | (with_reducible exact hopperref04_Few.mono _ _ _)
      | (with_reducible exact LeO.refl _)
      | (with_reducible exact LeO.none _)
      | (with_reducible refine LeO.ite ?_ ?_)
      | (with_reducible refine LeO.bind ?_ (fun _ => ?_))
      | exact ih0 _ _ _ _ _ _ _ _
      | exact ih1 _ _ _ _ _ _ _ _ _ _ _ _ _ _ _ _
      | exact ih2 _ _ _ _ _ _ _ _ _ _ _ _ _ _ _ _
      | exact ih3 _ _ _ _ _ _ _ _ _ _ _ _ _ _ _ _ _
      | exact ih4 _ _ _ _ _ _ _ _ _
      | exact ih5 _ _ _ _ _ _ _ _ _ _
      | exact heap_Check.mono _ _
      | exact hopperlaw06_count.mono _ _ _ _ _ _ _ _
      | exact hopperlaw06_live.mono _
      | exact hopperref04_Better.mono _ _ _ _ _ _ _ _ _ _ _ _ _
      | exact hopperref04_Few.mono _ _ _
      | exact LeO.none _
      | refine LeO.ite ?_ ?_
      | refine LeO.bind ?_ (fun _ => ?_)
theorem hopperlaw06_HeapStays.mono : ∀ a0 a1 a2 a3 a4 a5 a6 k, LeO (hopperlaw06_HeapStays.f k a0 a1 a2 a3 a4 a5 a6) (hopperlaw06_HeapStays.f (k + 1) a0 a1 a2 a3 a4 a5 a6) := by
  intro a0 a1 a2 a3 a4 a5 a6 k
  obtain ⟨ih0, ih1, ih2, ih3, ih4, ih5⟩ := hopperlaw06_HeapStays.mono_l k
  unfold hopperlaw06_HeapStays.f
  repeat' first
      | (with_reducible exact ih0 _ _ _ _ _ _ _ _)
      | (with_reducible exact ih1 _ _ _ _ _ _ _ _ _ _ _ _ _ _ _ _)
      | (with_reducible exact ih2 _ _ _ _ _ _ _ _ _ _ _ _ _ _ _ _)
      | (with_reducible exact ih3 _ _ _ _ _ _ _ _ _ _ _ _ _ _ _ _ _)
      | (with_reducible exact ih4 _ _ _ _ _ _ _ _ _)
      | (with_reducible exact ih5 _ _ _ _ _ _ _ _ _ _)
      | (with_reducible exact heap_Check.mono _ _)
      | (with_reducible exact hopperlaw06_count.mono _ _ _ _ _ _ _ _)
      | (with_reducible exact hopperlaw06_live.mono _)
      | (with_reducible exact hopperref04_Better.mono _ _ _ _ _ _ _ _ _ _ _ _ _)
      | (with_reducible exact hopperref04_Few.mono _ _ _)
      | (with_reducible exact LeO.refl _)
      | (with_reducible exact LeO.none _)
      | (with_reducible refine LeO.ite ?_ ?_)
      | (with_reducible refine LeO.bind ?_ (fun _ => ?_))
      | exact ih0 _ _ _ _ _ _ _ _
      | exact ih1 _ _ _ _ _ _ _ _ _ _ _ _ _ _ _ _
      | exact ih2 _ _ _ _ _ _ _ _ _ _ _ _ _ _ _ _
      | exact ih3 _ _ _ _ _ _ _ _ _ _ _ _ _ _ _ _ _
      | exact ih4 _ _ _ _ _ _ _ _ _
      | exact ih5 _ _ _ _ _ _ _ _ _ _
      | exact heap_Check.mono _ _
      | exact hopperlaw06_count.mono _ _ _ _ _ _ _ _
      | exact hopperlaw06_live.mono _
      | exact hopperref04_Better.mono _ _ _ _ _ _ _ _ _ _ _ _ _
      | exact hopperref04_Few.mono _ _ _
      | exact LeO.none _
      | refine LeO.ite ?_ ?_
      | refine LeO.bind ?_ (fun _ => ?_)
def hopperlaw06_HeapStays.T13 : Bool × List (List Nat × List Nat) := (true, [([], []), ([], []), ([0, 1], [0, 1]), ([2], [2]), ([], []), ([3, 4], [3, 4]), ([5, 5], [5]), ([6], [6]), ([6], [6]), ([6], [6]), ([8, 9, 6], [6, 8, 9]), ([10, 6], [6, 10]), ([7, 11, 6, 6], [6, 7, 11]), ([6], [6]), ([6], [6]), ([6], [6]), ([14, 15, 6], [6, 14, 15]), ([16, 6], [6, 16]), ([13, 17, 12, 6], [6, 13, 17]), ([6], [6]), ([18, 19, 6], [6, 18, 19]), ([12, 20, 6], [6, 12, 20]), ([6, 21], [6, 21])])
def hopperlaw06_HeapStays.B13 : List Nat := [0, 0, 3, 7, 0, 31, 63, 127, 127, 127, 895, 1919, 4095, 127, 127, 127, 49279, 114815, 262143, 127, 1048575, 2097151, 4194303]
theorem hopperlaw06_HeapStays.tab13 : rtab .any (opsOf Try.f18 13) = hopperlaw06_HeapStays.T13 := by kernel_rfl
theorem hopperlaw06_HeapStays.bits13 : waitsOk hopperlaw06_HeapStays.T13.2 hopperlaw06_HeapStays.B13 = true := by kernel_rfl
def hopperlaw06_HeapStays.T21 : Bool × List (List Nat × List Nat) := (true, [([], []), ([], []), ([], []), ([1, 2], [1, 2]), ([3], [3]), ([0, 4], [0, 4]), ([], []), ([], []), ([], []), ([7, 8], [7, 8]), ([9], [9]), ([6, 10, 5], [6, 10]), ([], []), ([11, 12], [11, 12]), ([5, 13], [5, 13])])
def hopperlaw06_HeapStays.B21 : List Nat := [0, 0, 0, 6, 14, 31, 0, 0, 0, 384, 896, 2047, 0, 8191, 16383]
theorem hopperlaw06_HeapStays.tab21 : rtab .any (opsOf Try.f18 21) = hopperlaw06_HeapStays.T21 := by kernel_rfl
theorem hopperlaw06_HeapStays.bits21 : waitsOk hopperlaw06_HeapStays.T21.2 hopperlaw06_HeapStays.B21 = true := by kernel_rfl
set_option maxHeartbeats 8000000 in
set_option maxRecDepth 100000 in
theorem hopperlaw06_HeapStays.calls (k : Nat) (A0 : Option Addr) (c0 : Nat) (l0 : List (S23)) (a1_0 : Int) (a1_1 : Int) (a1_2 : Int) (a1_3 : Int) (a1_4 : Int) (a1_5 : ByteArray) (r : Bool) (w : World) (hr0 : Kd.C k23 w A0 l0.length l0) (hc0 : l0.length ≤ c0) (h : hopperlaw06_HeapStays.f k l0 a1_0 a1_1 a1_2 a1_3 a1_4 a1_5 = some r) :
    Calls Try.prog 18 #[.slice A0 l0.length c0, .agg #[.int .i64 a1_0, .int .i64 a1_1, .int .i64 a1_2, .int .i64 a1_3, .int .i64 a1_4, .string a1_5]] w fun e w' => e = .returned (.bool r) ∧ Below w.heap.size w w' := by
  have hu23 := Try.underlying23
  have HR0 := Aside0.mk hr0
  have HC0 := Aside0.mk hc0
  clear hr0 hc0
  have HB := Aside0.mk (Below.refl w.heap.size w)
  have H : ((hopperref04_Few.f k l0 40).bind fun t506 => (if t506 = true then ((hopperref04_Small.f a1_0 a1_1 a1_2 a1_3 a1_4 a1_5).bind fun t507 => (if t507 = true then ((heap_Check.f k l0).bind fun t508 => (hopperlaw06_HeapStays.j0 k l0 (!t508) a1_0 a1_1 a1_2 a1_3 a1_4 a1_5)) else (hopperlaw06_HeapStays.j0 k l0 true a1_0 a1_1 a1_2 a1_3 a1_4 a1_5))) else (hopperlaw06_HeapStays.j0 k l0 true a1_0 a1_1 a1_2 a1_3 a1_4 a1_5))) = some r := h
  clear h
  have HC3 := Aside0.mk H
  clear H
  go_enter Try.func18, Try.ntmps18
  go_upto_region 1 with (first | ((with_reducible refine gate_dst (N := 3) rfl ?_); (try (refine gate_guard (by rfl) ?_; dsimp only)); refine box_event ?hg (N := 3) ?hd (cs := #[.int .i64 a1_0, .int .i64 a1_1, .int .i64 a1_2, .int .i64 a1_3, .int .i64 a1_4, .string a1_5]) (t := 23) ?hr ?_; (case hd => rfl); (case hg => rfl); (case hr => first | (go_simp; done) | (go_simp; rfl)); intro gb505 hg w4 hbox hb; have n0_ := Aside0.mk (below_step (by repeat (first | (with_reducible first | exact HB.out | apply below_alloc | apply pw_below_drewN | apply below_drew1) | exact HB.out)) hb); have n1_ := Aside0.mk (hbox); have n2_ := Aside0.mk ((by rw [hg]; exact (below_size (by repeat (first | (with_reducible first | exact HB.out | apply below_alloc | apply pw_below_drewN | apply below_drew1) | exact HB.out))) : w.heap.size ≤ gb505)); have n3_ := Aside0.mk ((by rw [hg]; exact (below_size (by repeat (first | (with_reducible first | exact HB.out | apply below_alloc | apply pw_below_drewN | apply below_drew1) | exact HB.out))) : w.heap.size ≤ gb505)); clear HB; have HB := n0_; have BK505 := n1_; have GW505 := n2_; have GE505 := n3_; clear n0_ n1_ n2_ n3_; clear hb hbox hg))
  (try simp only [Act.put, List.setIfInBounds_toArray, List.set_cons_zero, List.set_cons_succ])
  go_cut [25] (fun v25 wc => ∃ (kq : Nat) (x25_2 : Bool), v25 = .bool x25_2 ∧ Aside0 (hopperlaw06_HeapStays.j0 kq l0 x25_2 a1_0 a1_1 a1_2 a1_3 a1_4 a1_5 = some r) ∧ Aside0 (kq ≤ k) ∧ Aside0 (wc.heap[gb505]? = some (.cells #[.int .i64 a1_0, .int .i64 a1_1, .int .i64 a1_2, .int .i64 a1_3, .int .i64 a1_4, .string a1_5] 23 (0, 0))) ∧ Aside0 (Below w.heap.size w wc))
  case first =>
    have H := HC3.out
    clear HC3
    replace H := Option.bind_eq_some_iff.mp H
    obtain ⟨t506, A50, H⟩ := H
    replace H : (if t506 = true then ((hopperref04_Small.f a1_0 a1_1 a1_2 a1_3 a1_4 a1_5).bind fun t507 => (if t507 = true then ((heap_Check.f k l0).bind fun t508 => (hopperlaw06_HeapStays.j0 k l0 (!t508) a1_0 a1_1 a1_2 a1_3 a1_4 a1_5)) else (hopperlaw06_HeapStays.j0 k l0 true a1_0 a1_1 a1_2 a1_3 a1_4 a1_5))) else (hopperlaw06_HeapStays.j0 k l0 true a1_0 a1_1 a1_2 a1_3 a1_4 a1_5)) = some r := H
    have A5 := Aside0.mk A50
    clear A50
    by_cases c6 : t506 = true
    · subst c6
      have H1 : ((hopperref04_Small.f a1_0 a1_1 a1_2 a1_3 a1_4 a1_5).bind fun t507 => (if t507 = true then ((heap_Check.f k l0).bind fun t508 => (hopperlaw06_HeapStays.j0 k l0 (!t508) a1_0 a1_1 a1_2 a1_3 a1_4 a1_5)) else (hopperlaw06_HeapStays.j0 k l0 true a1_0 a1_1 a1_2 a1_3 a1_4 a1_5))) = some r := by rw [if_pos rfl] at H; exact H
      clear H
      have H := H1
      clear H1
      replace H := Option.bind_eq_some_iff.mp H
      obtain ⟨t507, A70, H⟩ := H
      replace H : (if t507 = true then ((heap_Check.f k l0).bind fun t508 => (hopperlaw06_HeapStays.j0 k l0 (!t508) a1_0 a1_1 a1_2 a1_3 a1_4 a1_5)) else (hopperlaw06_HeapStays.j0 k l0 true a1_0 a1_1 a1_2 a1_3 a1_4 a1_5)) = some r := H
      have A7 := Aside0.mk A70
      clear A70
      by_cases c8 : t507 = true
      · subst c8
        have H1 : ((heap_Check.f k l0).bind fun t508 => (hopperlaw06_HeapStays.j0 k l0 (!t508) a1_0 a1_1 a1_2 a1_3 a1_4 a1_5)) = some r := by rw [if_pos rfl] at H; exact H
        clear H
        have H := H1
        clear H1
        replace H := Option.bind_eq_some_iff.mp H
        obtain ⟨t508, A90, H⟩ := H
        replace H : (hopperlaw06_HeapStays.j0 k l0 (!t508) a1_0 a1_1 a1_2 a1_3 a1_4 a1_5) = some r := H
        have A9 := Aside0.mk A90
        clear A90
        have H' := Aside0.mk H
        clear H
        go_wp2_with (first | ((with_reducible refine gate_callee (f := 66) rfl ?_); refine goesL_ (some 14) rfl rfl Try.func66 (by kernel_rfl) rfl #[.slice A0 l0.length c0, .int .i64 40] rfl (by (try simp only [List.map_toArray, List.map_cons, List.map_nil]); first | done | rfl | (simp only [List.length_drop, List.length_take]; rfl)) ?_; (with_reducible refine (hopperref04_Few.calls k _ _ l0 40 true _ ?side1 ?side2 A5.out).mono ?_); (case side1 => repeat (first | exact (Kd.C_below HR0.out HB.out) | (with_reducible refine Kd.C_alloc ?_ _) | (with_reducible refine Kd.C_drewN ?_ _) | (with_reducible refine Kd.C_drew ?_))); (case side2 => exact HC0.out); rintro e w10 ⟨rfl, hb⟩; refine ⟨_, rfl, ?_⟩; have n0_ := Aside0.mk (blk_below (g := gb505) (o := .cells #[.int .i64 a1_0, .int .i64 a1_1, .int .i64 a1_2, .int .i64 a1_3, .int .i64 a1_4, .string a1_5] 23 (0, 0)) (by (with_reducible repeat (first | refine blk_drewN ?_ _ | refine blk_drew ?_ | refine blk_alloc ?_ _)); exact BK505.out) hb); have n1_ := Aside0.mk (below_step (by repeat (first | (with_reducible first | exact HB.out | apply below_alloc | apply pw_below_drewN | apply below_drew1 | refine below_set ?_ GE505.out) | exact HB.out)) hb); clear BK505; clear HB; have BK505 := n0_; have HB := n1_; clear n0_ n1_; (try clear hb); (try clear hb2); (try clear hk); (try clear hi); have hcz11_0 : w10.cell? ⟨gb505, 0, none⟩ = some (.int .i64 a1_0) := (blk_cell BK505.out 0).trans rfl; have hcz11_1 : w10.cell? ⟨gb505, 1, none⟩ = some (.int .i64 a1_1) := (blk_cell BK505.out 1).trans rfl; have hcz11_2 : w10.cell? ⟨gb505, 2, none⟩ = some (.int .i64 a1_2) := (blk_cell BK505.out 2).trans rfl; have hcz11_3 : w10.cell? ⟨gb505, 3, none⟩ = some (.int .i64 a1_3) := (blk_cell BK505.out 3).trans rfl; have hcz11_4 : w10.cell? ⟨gb505, 4, none⟩ = some (.int .i64 a1_4) := (blk_cell BK505.out 4).trans rfl; have hcz11_5 : w10.cell? ⟨gb505, 5, none⟩ = some (.string a1_5) := (blk_cell BK505.out 5).trans rfl; have hfz11_0 := blk_frozen BK505.out 0; have hfz11_1 := blk_frozen BK505.out 1; have hfz11_2 := blk_frozen BK505.out 2; have hfz11_3 := blk_frozen BK505.out 3; have hfz11_4 := blk_frozen BK505.out 4; have hfz11_5 := blk_frozen BK505.out 5) | (go_at_call 32; (with_reducible refine (hopperref04_Small.calls a1_0 a1_1 a1_2 a1_3 a1_4 a1_5 true _ A7.out).mono ?_); rintro e w12 ⟨rfl, hb⟩; have n0_ := Aside0.mk (blk_below (g := gb505) (o := .cells #[.int .i64 a1_0, .int .i64 a1_1, .int .i64 a1_2, .int .i64 a1_3, .int .i64 a1_4, .string a1_5] 23 (0, 0)) (by (with_reducible repeat (first | refine blk_drewN ?_ _ | refine blk_drew ?_ | refine blk_alloc ?_ _)); exact BK505.out) hb); have n1_ := Aside0.mk (below_step (by repeat (first | (with_reducible first | exact HB.out | apply below_alloc | apply pw_below_drewN | apply below_drew1 | refine below_set ?_ GE505.out) | exact HB.out)) hb); clear BK505; clear HB; have BK505 := n0_; have HB := n1_; clear n0_ n1_; (try clear hb); (try clear hb2); (try clear hk); (try clear hi)) | (go_at_call 72; (with_reducible refine (heap_Check.calls k _ _ l0 t508 _ ?side1 ?side2 A9.out).mono ?_); (case side1 => repeat (first | exact (Kd.C_below HR0.out HB.out) | (with_reducible refine Kd.C_alloc ?_ _) | (with_reducible refine Kd.C_drewN ?_ _) | (with_reducible refine Kd.C_drew ?_))); (case side2 => exact HC0.out); rintro e w13 ⟨rfl, hb⟩; have n0_ := Aside0.mk (blk_below (g := gb505) (o := .cells #[.int .i64 a1_0, .int .i64 a1_1, .int .i64 a1_2, .int .i64 a1_3, .int .i64 a1_4, .string a1_5] 23 (0, 0)) (by (with_reducible repeat (first | refine blk_drewN ?_ _ | refine blk_drew ?_ | refine blk_alloc ?_ _)); exact BK505.out) hb); have n1_ := Aside0.mk (below_step (by repeat (first | (with_reducible first | exact HB.out | apply below_alloc | apply pw_below_drewN | apply below_drew1 | refine below_set ?_ GE505.out) | exact HB.out)) hb); clear BK505; clear HB; have BK505 := n0_; have HB := n1_; clear n0_ n1_; (try clear hb); (try clear hb2); (try clear hk); (try clear hi)))
        go_meet
        case rel => exact ⟨_, (!t508), (by first | rfl | (simp; done) | (simp [*]; done)), H', ⟨by first | omega | exact Nat.le_refl _⟩, ⟨by (with_reducible repeat (first | refine blk_drewN ?_ _ | refine blk_drew ?_ | refine blk_alloc ?_ _)); exact BK505.out⟩, ⟨by repeat (first | (with_reducible first | exact HB.out | apply below_alloc | apply pw_below_drewN | apply below_drew1 | refine below_set ?_ GE505.out) | exact HB.out)⟩⟩
      · replace c8 := Bool.eq_false_iff.mpr c8
        subst c8
        have H1 : (hopperlaw06_HeapStays.j0 k l0 true a1_0 a1_1 a1_2 a1_3 a1_4 a1_5) = some r := by rw [if_neg (show ¬ (false = true) by decide)] at H; exact H
        clear H
        have H := H1
        clear H1
        have H' := Aside0.mk H
        clear H
        go_wp2_with (first | ((with_reducible refine gate_callee (f := 66) rfl ?_); refine goesL_ (some 14) rfl rfl Try.func66 (by kernel_rfl) rfl #[.slice A0 l0.length c0, .int .i64 40] rfl (by (try simp only [List.map_toArray, List.map_cons, List.map_nil]); first | done | rfl | (simp only [List.length_drop, List.length_take]; rfl)) ?_; (with_reducible refine (hopperref04_Few.calls k _ _ l0 40 true _ ?side1 ?side2 A5.out).mono ?_); (case side1 => repeat (first | exact (Kd.C_below HR0.out HB.out) | (with_reducible refine Kd.C_alloc ?_ _) | (with_reducible refine Kd.C_drewN ?_ _) | (with_reducible refine Kd.C_drew ?_))); (case side2 => exact HC0.out); rintro e w14 ⟨rfl, hb⟩; refine ⟨_, rfl, ?_⟩; have n0_ := Aside0.mk (blk_below (g := gb505) (o := .cells #[.int .i64 a1_0, .int .i64 a1_1, .int .i64 a1_2, .int .i64 a1_3, .int .i64 a1_4, .string a1_5] 23 (0, 0)) (by (with_reducible repeat (first | refine blk_drewN ?_ _ | refine blk_drew ?_ | refine blk_alloc ?_ _)); exact BK505.out) hb); have n1_ := Aside0.mk (below_step (by repeat (first | (with_reducible first | exact HB.out | apply below_alloc | apply pw_below_drewN | apply below_drew1 | refine below_set ?_ GE505.out) | exact HB.out)) hb); clear BK505; clear HB; have BK505 := n0_; have HB := n1_; clear n0_ n1_; (try clear hb); (try clear hb2); (try clear hk); (try clear hi); have hcz15_0 : w14.cell? ⟨gb505, 0, none⟩ = some (.int .i64 a1_0) := (blk_cell BK505.out 0).trans rfl; have hcz15_1 : w14.cell? ⟨gb505, 1, none⟩ = some (.int .i64 a1_1) := (blk_cell BK505.out 1).trans rfl; have hcz15_2 : w14.cell? ⟨gb505, 2, none⟩ = some (.int .i64 a1_2) := (blk_cell BK505.out 2).trans rfl; have hcz15_3 : w14.cell? ⟨gb505, 3, none⟩ = some (.int .i64 a1_3) := (blk_cell BK505.out 3).trans rfl; have hcz15_4 : w14.cell? ⟨gb505, 4, none⟩ = some (.int .i64 a1_4) := (blk_cell BK505.out 4).trans rfl; have hcz15_5 : w14.cell? ⟨gb505, 5, none⟩ = some (.string a1_5) := (blk_cell BK505.out 5).trans rfl; have hfz15_0 := blk_frozen BK505.out 0; have hfz15_1 := blk_frozen BK505.out 1; have hfz15_2 := blk_frozen BK505.out 2; have hfz15_3 := blk_frozen BK505.out 3; have hfz15_4 := blk_frozen BK505.out 4; have hfz15_5 := blk_frozen BK505.out 5) | (go_at_call 32; (with_reducible refine (hopperref04_Small.calls a1_0 a1_1 a1_2 a1_3 a1_4 a1_5 false _ A7.out).mono ?_); rintro e w16 ⟨rfl, hb⟩; have n0_ := Aside0.mk (blk_below (g := gb505) (o := .cells #[.int .i64 a1_0, .int .i64 a1_1, .int .i64 a1_2, .int .i64 a1_3, .int .i64 a1_4, .string a1_5] 23 (0, 0)) (by (with_reducible repeat (first | refine blk_drewN ?_ _ | refine blk_drew ?_ | refine blk_alloc ?_ _)); exact BK505.out) hb); have n1_ := Aside0.mk (below_step (by repeat (first | (with_reducible first | exact HB.out | apply below_alloc | apply pw_below_drewN | apply below_drew1 | refine below_set ?_ GE505.out) | exact HB.out)) hb); clear BK505; clear HB; have BK505 := n0_; have HB := n1_; clear n0_ n1_; (try clear hb); (try clear hb2); (try clear hk); (try clear hi)))
        go_meet
        case rel => exact ⟨_, (true), (by first | rfl | (simp; done) | (simp [*]; done)), H', ⟨by first | omega | exact Nat.le_refl _⟩, ⟨by (with_reducible repeat (first | refine blk_drewN ?_ _ | refine blk_drew ?_ | refine blk_alloc ?_ _)); exact BK505.out⟩, ⟨by repeat (first | (with_reducible first | exact HB.out | apply below_alloc | apply pw_below_drewN | apply below_drew1 | refine below_set ?_ GE505.out) | exact HB.out)⟩⟩
    · replace c6 := Bool.eq_false_iff.mpr c6
      subst c6
      have H1 : (hopperlaw06_HeapStays.j0 k l0 true a1_0 a1_1 a1_2 a1_3 a1_4 a1_5) = some r := by rw [if_neg (show ¬ (false = true) by decide)] at H; exact H
      clear H
      have H := H1
      clear H1
      have H' := Aside0.mk H
      clear H
      go_wp2_with (first | ((with_reducible refine gate_callee (f := 66) rfl ?_); refine goesL_ (some 14) rfl rfl Try.func66 (by kernel_rfl) rfl #[.slice A0 l0.length c0, .int .i64 40] rfl (by (try simp only [List.map_toArray, List.map_cons, List.map_nil]); first | done | rfl | (simp only [List.length_drop, List.length_take]; rfl)) ?_; (with_reducible refine (hopperref04_Few.calls k _ _ l0 40 false _ ?side1 ?side2 A5.out).mono ?_); (case side1 => repeat (first | exact (Kd.C_below HR0.out HB.out) | (with_reducible refine Kd.C_alloc ?_ _) | (with_reducible refine Kd.C_drewN ?_ _) | (with_reducible refine Kd.C_drew ?_))); (case side2 => exact HC0.out); rintro e w17 ⟨rfl, hb⟩; refine ⟨_, rfl, ?_⟩; have n0_ := Aside0.mk (blk_below (g := gb505) (o := .cells #[.int .i64 a1_0, .int .i64 a1_1, .int .i64 a1_2, .int .i64 a1_3, .int .i64 a1_4, .string a1_5] 23 (0, 0)) (by (with_reducible repeat (first | refine blk_drewN ?_ _ | refine blk_drew ?_ | refine blk_alloc ?_ _)); exact BK505.out) hb); have n1_ := Aside0.mk (below_step (by repeat (first | (with_reducible first | exact HB.out | apply below_alloc | apply pw_below_drewN | apply below_drew1 | refine below_set ?_ GE505.out) | exact HB.out)) hb); clear BK505; clear HB; have BK505 := n0_; have HB := n1_; clear n0_ n1_; (try clear hb); (try clear hb2); (try clear hk); (try clear hi)))
      go_meet
      case rel => exact ⟨_, (true), (by first | rfl | (simp; done) | (simp [*]; done)), H', ⟨by first | omega | exact Nat.le_refl _⟩, ⟨by (with_reducible repeat (first | refine blk_drewN ?_ _ | refine blk_drew ?_ | refine blk_alloc ?_ _)); exact BK505.out⟩, ⟨by repeat (first | (with_reducible first | exact HB.out | apply below_alloc | apply pw_below_drewN | apply below_drew1 | refine below_set ?_ GE505.out) | exact HB.out)⟩⟩
  case rest =>
    clear HC3
    try clear c1
    try clear p2
    try clear c6
    try clear c8
    try clear hcz11_0
    try clear hcz11_1
    try clear hcz11_2
    try clear hcz11_3
    try clear hcz11_4
    try clear hcz11_5
    try clear hcz15_0
    try clear hcz15_1
    try clear hcz15_2
    try clear hcz15_3
    try clear hcz15_4
    try clear hcz15_5
    try clear hfz11_0
    try clear hfz11_1
    try clear hfz11_2
    try clear hfz11_3
    try clear hfz11_4
    try clear hfz11_5
    try clear hfz15_0
    try clear hfz15_1
    try clear hfz15_2
    try clear hfz15_3
    try clear hfz15_4
    try clear hfz15_5
    obtain ⟨kq, x25_2, rfl, HA, HJ2, BK505, HB⟩ := hcut
    cases kq with
    | zero => exact absurd HA.out (by simp [hopperlaw06_HeapStays.j0])
    | succ kj2 =>
      have H := HA.out
      clear HA
      simp only [hopperlaw06_HeapStays.j0] at H
      by_cases c18 : x25_2 = true
      · subst c18
        have H1 : ((hopperlaw06_live.f kj2).bind fun t509 => (some t509)) = some r := by rw [if_pos rfl] at H; exact H
        clear H
        have H := H1
        clear H1
        replace H := Option.bind_eq_some_iff.mp H
        obtain ⟨t509, A190, H⟩ := H
        replace H : (some t509) = some r := H
        have A19 := Aside0.mk A190
        clear A190
        obtain rfl := Option.some.inj H
        go_wp2_with (first | ((with_reducible refine gate_callee (f := 67) rfl ?_); refine goesL_ (some 26) rfl rfl Try.func67 (by kernel_rfl) rfl #[] rfl (by (try simp only [List.map_toArray, List.map_cons, List.map_nil]); first | done | rfl | (simp only [List.length_drop, List.length_take]; rfl)) ?_; (with_reducible refine (hopperlaw06_live.calls kj2  t509 _ A19.out).mono ?_); rintro e w20 ⟨rfl, hb⟩; refine ⟨_, rfl, ?_⟩; have n0_ := Aside0.mk (blk_below (g := gb505) (o := .cells #[.int .i64 a1_0, .int .i64 a1_1, .int .i64 a1_2, .int .i64 a1_3, .int .i64 a1_4, .string a1_5] 23 (0, 0)) (by (with_reducible repeat (first | refine blk_drewN ?_ _ | refine blk_drew ?_ | refine blk_alloc ?_ _)); exact BK505.out) hb); have n1_ := Aside0.mk (below_step (by repeat (first | (with_reducible first | exact HB.out | apply below_alloc | apply pw_below_drewN | apply below_drew1 | refine below_set ?_ GE505.out) | exact HB.out)) hb); clear BK505; clear HB; have BK505 := n0_; have HB := n1_; clear n0_ n1_; (try clear hb); (try clear hb2); (try clear hk); (try clear hi)))
        go_ret
        exact ⟨by first | rfl | (simp [errW_none, errW_some] <;> rfl) | (simp [*, errW_none, errW_some] <;> rfl), by repeat (first | (with_reducible first | exact HB.out | apply below_alloc | apply pw_below_drewN | apply below_drew1 | refine below_set ?_ GE505.out) | exact HB.out)⟩
      · replace c18 := Bool.eq_false_iff.mpr c18
        subst c18
        have H1 : ((heap_Push.f l0 a1_0 a1_1 a1_2 a1_3 a1_4 a1_5).bind fun t510 => ((heap_Pop.f t510).bind fun bt513 => ((heap_Check.f kj2 t510).bind fun t524 => (if t524 = true then (if bt513.2.2.2.2.2.2.2 = true then ((heap_Check.f kj2 bt513.1).bind fun t525 => (if t525 = true then (if (t510.length : Int) = (wrap64 ((l0.length : Int) + 1)) then (hopperlaw06_HeapStays.j1 kj2 l0 t510 bt513.1 ((bt513.1.length : Int) != (l0.length : Int)) a1_0 a1_1 a1_2 a1_3 a1_4 a1_5 bt513.2.1 bt513.2.2.1 bt513.2.2.2.1 bt513.2.2.2.2.1 bt513.2.2.2.2.2.1 bt513.2.2.2.2.2.2.1) else (none)) else (none))) else (none)) else (none))))) = some r := by rw [if_neg (show ¬ (false = true) by decide)] at H; exact H
        clear H
        have H := H1
        clear H1
        replace H := Option.bind_eq_some_iff.mp H
        obtain ⟨t510, A210, H⟩ := H
        replace H : ((heap_Pop.f t510).bind fun bt513 => ((heap_Check.f kj2 t510).bind fun t524 => (if t524 = true then (if bt513.2.2.2.2.2.2.2 = true then ((heap_Check.f kj2 bt513.1).bind fun t525 => (if t525 = true then (if (t510.length : Int) = (wrap64 ((l0.length : Int) + 1)) then (hopperlaw06_HeapStays.j1 kj2 l0 t510 bt513.1 ((bt513.1.length : Int) != (l0.length : Int)) a1_0 a1_1 a1_2 a1_3 a1_4 a1_5 bt513.2.1 bt513.2.2.1 bt513.2.2.2.1 bt513.2.2.2.2.1 bt513.2.2.2.2.2.1 bt513.2.2.2.2.2.2.1) else (none)) else (none))) else (none)) else (none)))) = some r := H
        have A21 := Aside0.mk A210
        clear A210
        replace H := Option.bind_eq_some_iff.mp H
        obtain ⟨⟨t513, t516, t517, t518, t519, t520, t521, t522⟩, A220, H⟩ := H
        replace H : ((heap_Check.f kj2 t510).bind fun t524 => (if t524 = true then (if t522 = true then ((heap_Check.f kj2 t513).bind fun t525 => (if t525 = true then (if (t510.length : Int) = (wrap64 ((l0.length : Int) + 1)) then (hopperlaw06_HeapStays.j1 kj2 l0 t510 t513 ((t513.length : Int) != (l0.length : Int)) a1_0 a1_1 a1_2 a1_3 a1_4 a1_5 t516 t517 t518 t519 t520 t521) else (none)) else (none))) else (none)) else (none))) = some r := H
        have A22 := Aside0.mk A220
        clear A220
        have HC23 := Aside0.mk H
        clear H
        have hcz24_0 : wc.cell? ⟨gb505, 0, none⟩ = some (.int .i64 a1_0) := (blk_cell BK505.out 0).trans rfl
        have hcz24_1 : wc.cell? ⟨gb505, 1, none⟩ = some (.int .i64 a1_1) := (blk_cell BK505.out 1).trans rfl
        have hcz24_2 : wc.cell? ⟨gb505, 2, none⟩ = some (.int .i64 a1_2) := (blk_cell BK505.out 2).trans rfl
        have hcz24_3 : wc.cell? ⟨gb505, 3, none⟩ = some (.int .i64 a1_3) := (blk_cell BK505.out 3).trans rfl
        have hcz24_4 : wc.cell? ⟨gb505, 4, none⟩ = some (.int .i64 a1_4) := (blk_cell BK505.out 4).trans rfl
        have hcz24_5 : wc.cell? ⟨gb505, 5, none⟩ = some (.string a1_5) := (blk_cell BK505.out 5).trans rfl
        have hfz24_0 := blk_frozen BK505.out 0
        have hfz24_1 := blk_frozen BK505.out 1
        have hfz24_2 := blk_frozen BK505.out 2
        have hfz24_3 := blk_frozen BK505.out 3
        have hfz24_4 := blk_frozen BK505.out 4
        have hfz24_5 := blk_frozen BK505.out 5
        go_upto_region 5 with (first | ((with_reducible refine gate_callee (f := 74) rfl ?_); refine goesL_ (some 29) rfl rfl Try.func74 (by kernel_rfl) rfl #[.slice A0 l0.length c0, .agg #[.int .i64 a1_0, .int .i64 a1_1, .int .i64 a1_2, .int .i64 a1_3, .int .i64 a1_4, .string a1_5]] rfl (by (try simp only [List.map_toArray, List.map_cons, List.map_nil]); first | done | rfl | (simp only [List.length_drop, List.length_take]; rfl)) ?_; (with_reducible refine (heap_Push.calls _ _ l0 a1_0 a1_1 a1_2 a1_3 a1_4 a1_5 t510 _ ?side1 ?side2 A21.out).mono ?_); (case side1 => repeat (first | exact (Kd.C_below HR0.out HB.out) | (with_reducible refine Kd.C_alloc ?_ _) | (with_reducible refine Kd.C_drewN ?_ _) | (with_reducible refine Kd.C_drew ?_))); (case side2 => exact HC0.out); rintro e w25 ⟨v511, rfl, ho0, hb⟩; refine ⟨_, rfl, ?_⟩; have n0_ := Aside0.mk (Kd.R_lower (Kd.R_newB ho0 (g := gb505) (o := .cells #[.int .i64 a1_0, .int .i64 a1_1, .int .i64 a1_2, .int .i64 a1_3, .int .i64 a1_4, .string a1_5] 23 (0, 0)) (by (with_reducible repeat (first | refine blk_drewN ?_ _ | refine blk_drew ?_ | refine blk_alloc ?_ _)); exact BK505.out)) (below_size (by repeat (first | (with_reducible first | exact HB.out | apply below_alloc | apply pw_below_drewN | apply below_drew1 | refine below_set ?_ GE505.out) | exact HB.out)))); have n1_ := Aside0.mk (blk_below (g := gb505) (o := .cells #[.int .i64 a1_0, .int .i64 a1_1, .int .i64 a1_2, .int .i64 a1_3, .int .i64 a1_4, .string a1_5] 23 (0, 0)) (by (with_reducible repeat (first | refine blk_drewN ?_ _ | refine blk_drew ?_ | refine blk_alloc ?_ _)); exact BK505.out) hb); have n2_ := Aside0.mk (below_step (by repeat (first | (with_reducible first | exact HB.out | apply below_alloc | apply pw_below_drewN | apply below_drew1 | refine below_set ?_ GE505.out) | exact HB.out)) hb); clear BK505; clear HB; have HO512 := n0_; have BK505 := n1_; have HB := n2_; clear n0_ n1_ n2_; (try clear hb); (try clear hb2); (try clear hk); (try clear hi); (try clear ho0); obtain ⟨Ao26, co26, eo26⟩ := Kd.R_slice HO512.out; subst eo26) | ((with_reducible refine gate_callee (f := 68) rfl ?_); refine goesL_ (some 32) rfl rfl Try.func68 (by kernel_rfl) rfl #[.slice Ao26 t510.length co26] rfl (by (try simp only [List.map_toArray, List.map_cons, List.map_nil]); first | done | rfl | (simp only [List.length_drop, List.length_take]; rfl)) ?_; (with_reducible refine (heap_Pop.calls _ _ t510 t513 t516 t517 t518 t519 t520 t521 t522 _ ?side1 ?side2 A22.out).mono ?_); (case side1 => repeat (first | exact (Kd.R_reads' HO512.out).2.2 | (with_reducible refine Kd.C_alloc ?_ _) | (with_reducible refine Kd.C_drewN ?_ _) | (with_reducible refine Kd.C_drew ?_))); (case side2 => exact (Kd.R_reads' HO512.out).2.1); rintro e w27 ⟨v514, rfl, ho0, hb⟩; refine ⟨_, rfl, ?_⟩; have n0_ := Aside0.mk (Kd.R_elder' (by (with_reducible repeat (first | apply Kd.R_alloc | apply Kd.R_drewN | apply Kd.R_drew)); exact HO512.out) (Kd.R_base ho0) hb); have n1_ := Aside0.mk (Kd.R_lower (Kd.R_newB (Kd.R_new' ho0 (Kd.R_lt (by (with_reducible repeat (first | apply Kd.R_alloc | apply Kd.R_drewN | apply Kd.R_drew)); exact HO512.out))) (g := gb505) (o := .cells #[.int .i64 a1_0, .int .i64 a1_1, .int .i64 a1_2, .int .i64 a1_3, .int .i64 a1_4, .string a1_5] 23 (0, 0)) (by (with_reducible repeat (first | refine blk_drewN ?_ _ | refine blk_drew ?_ | refine blk_alloc ?_ _)); exact BK505.out)) (below_size (by repeat (first | (with_reducible first | exact HB.out | apply below_alloc | apply pw_below_drewN | apply below_drew1 | refine below_set ?_ GE505.out) | exact HB.out)))); have n2_ := Aside0.mk (blk_below (g := gb505) (o := .cells #[.int .i64 a1_0, .int .i64 a1_1, .int .i64 a1_2, .int .i64 a1_3, .int .i64 a1_4, .string a1_5] 23 (0, 0)) (by (with_reducible repeat (first | refine blk_drewN ?_ _ | refine blk_drew ?_ | refine blk_alloc ?_ _)); exact BK505.out) hb); have n3_ := Aside0.mk (below_step (by repeat (first | (with_reducible first | exact HB.out | apply below_alloc | apply pw_below_drewN | apply below_drew1 | refine below_set ?_ GE505.out) | exact HB.out)) hb); clear HO512; clear BK505; clear HB; have HO512 := n0_; have HO515 := n1_; have BK505 := n2_; have HB := n3_; clear n0_ n1_ n2_ n3_; (try clear hb); (try clear hb2); (try clear hk); (try clear hi); (try clear ho0)) | ((with_reducible refine gate_dst (N := 7) rfl ?_); (try (refine gate_guard (by rfl) ?_; dsimp only)); refine box_event ?hg (N := 7) ?hd (cs := #[.int .i64 0, .int .i64 0, .int .i64 0, .int .i64 0, .int .i64 0, .string (⟨#[]⟩ : ByteArray)]) (t := 23) ?hr ?_; (case hd => rfl); (case hg => rfl); (case hr => first | (go_simp; done) | (go_simp; rfl)); intro gb523 hg w28 hbox hb; have n0_ := Aside0.mk (Kd.R_below (Kd.R_elderB (by (with_reducible repeat (first | apply Kd.R_alloc | apply Kd.R_drewN | apply Kd.R_drew)); exact HO512.out) gb523 (Nat.le_of_eq hg.symm)) hb); have n1_ := Aside0.mk (Kd.R_below (Kd.R_elderB (by (with_reducible repeat (first | apply Kd.R_alloc | apply Kd.R_drewN | apply Kd.R_drew)); exact HO515.out) gb523 (Nat.le_of_eq hg.symm)) hb); have n2_ := Aside0.mk (blk_below (g := gb505) (o := .cells #[.int .i64 a1_0, .int .i64 a1_1, .int .i64 a1_2, .int .i64 a1_3, .int .i64 a1_4, .string a1_5] 23 (0, 0)) (by (with_reducible repeat (first | refine blk_drewN ?_ _ | refine blk_drew ?_ | refine blk_alloc ?_ _)); exact BK505.out) hb); have n3_ := Aside0.mk (below_step (by repeat (first | (with_reducible first | exact HB.out | apply below_alloc | apply pw_below_drewN | apply below_drew1 | refine below_set ?_ GE505.out) | exact HB.out)) hb); have n4_ := Aside0.mk (hbox); have n5_ := Aside0.mk ((by rw [hg]; exact (below_size (by repeat (first | (with_reducible first | exact HB.out | apply below_alloc | apply pw_below_drewN | apply below_drew1 | refine below_set ?_ GE505.out) | exact HB.out))) : w.heap.size ≤ gb523)); have n6_ := Aside0.mk ((by rw [hg]; exact (below_size (by repeat (first | (with_reducible first | exact HB.out | apply below_alloc | apply pw_below_drewN | apply below_drew1 | refine below_set ?_ GE505.out) | exact HB.out))) : w.heap.size ≤ gb523)); have n7_ := Aside0.mk ((by rw [hg]; exact Nat.ne_of_lt (blk_lt (g := gb505) (o := .cells #[.int .i64 a1_0, .int .i64 a1_1, .int .i64 a1_2, .int .i64 a1_3, .int .i64 a1_4, .string a1_5] 23 (0, 0)) (by (with_reducible repeat (first | refine blk_drewN ?_ _ | refine blk_drew ?_ | refine blk_alloc ?_ _)); exact BK505.out)) : gb505 ≠ gb523)); have n8_ := Aside0.mk ((by rw [hg]; exact Nat.ne_of_gt (blk_lt (g := gb505) (o := .cells #[.int .i64 a1_0, .int .i64 a1_1, .int .i64 a1_2, .int .i64 a1_3, .int .i64 a1_4, .string a1_5] 23 (0, 0)) (by (with_reducible repeat (first | refine blk_drewN ?_ _ | refine blk_drew ?_ | refine blk_alloc ?_ _)); exact BK505.out)) : gb523 ≠ gb505)); clear HO512; clear HO515; clear BK505; clear HB; have HO512 := n0_; have HO515 := n1_; have BK505 := n2_; have HB := n3_; have BK523 := n4_; have GW523 := n5_; have GE523 := n6_; have NB505_523 := n7_; have NB523_505 := n8_; clear n0_ n1_ n2_ n3_ n4_ n5_ n6_ n7_ n8_; clear hb hbox hg; have hnb29 := NB523_505.out; have hnc29 := NB505_523.out; have hcz30_0 : w28.cell? ⟨gb523, 0, none⟩ = some (.int .i64 0) := (blk_cell BK523.out 0).trans rfl; have hcz30_1 : w28.cell? ⟨gb523, 1, none⟩ = some (.int .i64 0) := (blk_cell BK523.out 1).trans rfl; have hcz30_2 : w28.cell? ⟨gb523, 2, none⟩ = some (.int .i64 0) := (blk_cell BK523.out 2).trans rfl; have hcz30_3 : w28.cell? ⟨gb523, 3, none⟩ = some (.int .i64 0) := (blk_cell BK523.out 3).trans rfl; have hcz30_4 : w28.cell? ⟨gb523, 4, none⟩ = some (.int .i64 0) := (blk_cell BK523.out 4).trans rfl; have hcz30_5 : w28.cell? ⟨gb523, 5, none⟩ = some (.string (⟨#[]⟩ : ByteArray)) := (blk_cell BK523.out 5).trans rfl; have hfz30_0 := blk_frozen BK523.out 0; have hfz30_1 := blk_frozen BK523.out 1; have hfz30_2 := blk_frozen BK523.out 2; have hfz30_3 := blk_frozen BK523.out 3; have hfz30_4 := blk_frozen BK523.out 4; have hfz30_5 := blk_frozen BK523.out 5))
        (try simp only [Act.put, List.setIfInBounds_toArray, List.set_cons_zero, List.set_cons_succ])
        go_cut [62] (fun v62 wc => ∃ (kq : Nat) (x62_22 : Bool), v62 = .bool x62_22 ∧ Aside0 (hopperlaw06_HeapStays.j1 kq l0 t510 t513 x62_22 a1_0 a1_1 a1_2 a1_3 a1_4 a1_5 t516 t517 t518 t519 t520 t521 = some r) ∧ Aside0 (kq ≤ kj2) ∧ Aside0 (Kd.R k23 23 wc w.heap.size (fun k_ => some k_ ≠ (v514 : Value).ownBlock ∧ k_ ≠ gb505 ∧ k_ ≠ gb523) (.slice Ao26 t510.length co26) t510) ∧ Aside0 (Kd.R k23 23 wc w.heap.size (fun k_ => some k_ ≠ ((.slice Ao26 t510.length co26) : Value).ownBlock ∧ k_ ≠ gb505 ∧ k_ ≠ gb523) v514 t513) ∧ Aside0 (wc.heap[gb505]? = some (.cells #[.int .i64 a1_0, .int .i64 a1_1, .int .i64 a1_2, .int .i64 a1_3, .int .i64 a1_4, .string a1_5] 23 (0, 0))) ∧ Aside0 (wc.heap[gb523]? = some (.cells #[.int .i64 t516, .int .i64 t517, .int .i64 t518, .int .i64 t519, .int .i64 t520, .string t521] 23 (0, 0))) ∧ Aside0 (Below w.heap.size w wc))
        case first =>
          have H := HC23.out
          clear HC23
          replace H := Option.bind_eq_some_iff.mp H
          obtain ⟨t524, A310, H⟩ := H
          replace H : (if t524 = true then (if t522 = true then ((heap_Check.f kj2 t513).bind fun t525 => (if t525 = true then (if (t510.length : Int) = (wrap64 ((l0.length : Int) + 1)) then (hopperlaw06_HeapStays.j1 kj2 l0 t510 t513 ((t513.length : Int) != (l0.length : Int)) a1_0 a1_1 a1_2 a1_3 a1_4 a1_5 t516 t517 t518 t519 t520 t521) else (none)) else (none))) else (none)) else (none)) = some r := H
          have A31 := Aside0.mk A310
          clear A310
          by_cases c32 : t524 = true
          · subst c32
            have H1 : (if t522 = true then ((heap_Check.f kj2 t513).bind fun t525 => (if t525 = true then (if (t510.length : Int) = (wrap64 ((l0.length : Int) + 1)) then (hopperlaw06_HeapStays.j1 kj2 l0 t510 t513 ((t513.length : Int) != (l0.length : Int)) a1_0 a1_1 a1_2 a1_3 a1_4 a1_5 t516 t517 t518 t519 t520 t521) else (none)) else (none))) else (none)) = some r := by rw [if_pos rfl] at H; exact H
            clear H
            have H := H1
            clear H1
            by_cases c33 : t522 = true
            · subst c33
              have H1 : ((heap_Check.f kj2 t513).bind fun t525 => (if t525 = true then (if (t510.length : Int) = (wrap64 ((l0.length : Int) + 1)) then (hopperlaw06_HeapStays.j1 kj2 l0 t510 t513 ((t513.length : Int) != (l0.length : Int)) a1_0 a1_1 a1_2 a1_3 a1_4 a1_5 t516 t517 t518 t519 t520 t521) else (none)) else (none))) = some r := by rw [if_pos rfl] at H; exact H
              clear H
              have H := H1
              clear H1
              replace H := Option.bind_eq_some_iff.mp H
              obtain ⟨t525, A340, H⟩ := H
              replace H : (if t525 = true then (if (t510.length : Int) = (wrap64 ((l0.length : Int) + 1)) then (hopperlaw06_HeapStays.j1 kj2 l0 t510 t513 ((t513.length : Int) != (l0.length : Int)) a1_0 a1_1 a1_2 a1_3 a1_4 a1_5 t516 t517 t518 t519 t520 t521) else (none)) else (none)) = some r := H
              have A34 := Aside0.mk A340
              clear A340
              by_cases c35 : t525 = true
              · subst c35
                have H1 : (if (t510.length : Int) = (wrap64 ((l0.length : Int) + 1)) then (hopperlaw06_HeapStays.j1 kj2 l0 t510 t513 ((t513.length : Int) != (l0.length : Int)) a1_0 a1_1 a1_2 a1_3 a1_4 a1_5 t516 t517 t518 t519 t520 t521) else (none)) = some r := by rw [if_pos rfl] at H; exact H
                clear H
                have H := H1
                clear H1
                by_cases c36 : (t510.length : Int) = (wrap64 ((l0.length : Int) + 1))
                · rw [if_pos c36] at H
                  have c36b0 : ((t510.length : Int) == (wrap64 ((l0.length : Int) + 1))) = true := beq_iff_eq.mpr c36
                  have c36b1 : ((t510.length : Int) != (wrap64 ((l0.length : Int) + 1))) = false := bne_eq_false_iff_eq.mpr c36
                  clear c36
                  (first | rw [c36b0] | (simp only [i64_w, i32_w]; rw [c36b0]) | skip)
                  have H' := Aside0.mk H
                  clear H
                  go_wp2_with (first | ((with_reducible refine gate_callee (f := 72) rfl ?_); refine goesL_ (some 37) rfl rfl Try.func72 (by kernel_rfl) rfl #[.slice Ao26 t510.length co26] rfl (by (try simp only [List.map_toArray, List.map_cons, List.map_nil]); first | done | rfl | (simp only [List.length_drop, List.length_take]; rfl)) ?_; (with_reducible refine (heap_Check.calls kj2 _ _ t510 true _ ?side1 ?side2 A31.out).mono ?_); (case side1 => refine (Kd.R_reads' (e := 23) (base := w.heap.size) (ok := fun k_ => (((True ∧ k_ ≠ gb505) ∧ some k_ ≠ (v514 : Value).ownBlock) ∧ k_ ≠ gb523)) (n := t510.length) (c := co26) ?_).2.2; exact (by (with_reducible repeat (first | apply Kd.R_alloc | apply Kd.R_drewN | apply Kd.R_drew)); exact (Kd.R_mono (Kd.R_far (p := ⟨gb523, 5, none⟩) (Kd.R_far (p := ⟨gb523, 4, none⟩) (Kd.R_far (p := ⟨gb523, 3, none⟩) (Kd.R_far (p := ⟨gb523, 2, none⟩) (Kd.R_far (p := ⟨gb523, 1, none⟩) (Kd.R_far (p := ⟨gb523, 0, none⟩) (Kd.R_mono HO512.out (fun k_ hk => (⟨hk, hk.2⟩ : _ ∧ k_ ≠ gb523))) (fun _ hk => hk.2) (.int .i64 t516)) (fun _ hk => hk.2) (.int .i64 t517)) (fun _ hk => hk.2) (.int .i64 t518)) (fun _ hk => hk.2) (.int .i64 t519)) (fun _ hk => hk.2) (.int .i64 t520)) (fun _ hk => hk.2) (.string t521)) (fun _ h_ => h_.1)))); (case side2 => exact (Kd.R_reads' HO512.out).2.1); rintro e w37 ⟨rfl, hb⟩; refine ⟨_, rfl, ?_⟩; have n0_ := Aside0.mk (Kd.R_below (by (with_reducible repeat (first | apply Kd.R_alloc | apply Kd.R_drewN | apply Kd.R_drew)); exact (Kd.R_mono (Kd.R_far (p := ⟨gb523, 5, none⟩) (Kd.R_far (p := ⟨gb523, 4, none⟩) (Kd.R_far (p := ⟨gb523, 3, none⟩) (Kd.R_far (p := ⟨gb523, 2, none⟩) (Kd.R_far (p := ⟨gb523, 1, none⟩) (Kd.R_far (p := ⟨gb523, 0, none⟩) (Kd.R_mono HO512.out (fun k_ hk => (⟨hk, hk.2⟩ : _ ∧ k_ ≠ gb523))) (fun _ hk => hk.2) (.int .i64 t516)) (fun _ hk => hk.2) (.int .i64 t517)) (fun _ hk => hk.2) (.int .i64 t518)) (fun _ hk => hk.2) (.int .i64 t519)) (fun _ hk => hk.2) (.int .i64 t520)) (fun _ hk => hk.2) (.string t521)) (fun _ h_ => h_.1))) hb); have n1_ := Aside0.mk (Kd.R_below (by (with_reducible repeat (first | apply Kd.R_alloc | apply Kd.R_drewN | apply Kd.R_drew)); exact (Kd.R_mono (Kd.R_far (p := ⟨gb523, 5, none⟩) (Kd.R_far (p := ⟨gb523, 4, none⟩) (Kd.R_far (p := ⟨gb523, 3, none⟩) (Kd.R_far (p := ⟨gb523, 2, none⟩) (Kd.R_far (p := ⟨gb523, 1, none⟩) (Kd.R_far (p := ⟨gb523, 0, none⟩) (Kd.R_mono HO515.out (fun k_ hk => (⟨hk, hk.2⟩ : _ ∧ k_ ≠ gb523))) (fun _ hk => hk.2) (.int .i64 t516)) (fun _ hk => hk.2) (.int .i64 t517)) (fun _ hk => hk.2) (.int .i64 t518)) (fun _ hk => hk.2) (.int .i64 t519)) (fun _ hk => hk.2) (.int .i64 t520)) (fun _ hk => hk.2) (.string t521)) (fun _ h_ => h_.1))) hb); have n2_ := Aside0.mk (blk_below (g := gb505) (o := .cells #[.int .i64 a1_0, .int .i64 a1_1, .int .i64 a1_2, .int .i64 a1_3, .int .i64 a1_4, .string a1_5] 23 (0, 0)) (by (with_reducible repeat (first | refine blk_drewN ?_ _ | refine blk_drew ?_ | refine blk_alloc ?_ _)); refine blk_far ?_ NB505_523.out _; (with_reducible repeat (first | refine blk_drewN ?_ _ | refine blk_drew ?_ | refine blk_alloc ?_ _)); refine blk_far ?_ NB505_523.out _; (with_reducible repeat (first | refine blk_drewN ?_ _ | refine blk_drew ?_ | refine blk_alloc ?_ _)); refine blk_far ?_ NB505_523.out _; (with_reducible repeat (first | refine blk_drewN ?_ _ | refine blk_drew ?_ | refine blk_alloc ?_ _)); refine blk_far ?_ NB505_523.out _; (with_reducible repeat (first | refine blk_drewN ?_ _ | refine blk_drew ?_ | refine blk_alloc ?_ _)); refine blk_far ?_ NB505_523.out _; (with_reducible repeat (first | refine blk_drewN ?_ _ | refine blk_drew ?_ | refine blk_alloc ?_ _)); refine blk_far ?_ NB505_523.out _; (with_reducible repeat (first | refine blk_drewN ?_ _ | refine blk_drew ?_ | refine blk_alloc ?_ _)); exact BK505.out) hb); have n3_ := Aside0.mk (blk_below (g := gb523) (o := .cells #[.int .i64 t516, .int .i64 t517, .int .i64 t518, .int .i64 t519, .int .i64 t520, .string t521] 23 (0, 0)) (by (with_reducible repeat (first | refine blk_drewN ?_ _ | refine blk_drew ?_ | refine blk_alloc ?_ _)); refine blk_put (cs := #[.int .i64 t516, .int .i64 t517, .int .i64 t518, .int .i64 t519, .int .i64 t520, .string (⟨#[]⟩ : ByteArray)]) ?_ 5 _ rfl; (with_reducible repeat (first | refine blk_drewN ?_ _ | refine blk_drew ?_ | refine blk_alloc ?_ _)); refine blk_put (cs := #[.int .i64 t516, .int .i64 t517, .int .i64 t518, .int .i64 t519, .int .i64 0, .string (⟨#[]⟩ : ByteArray)]) ?_ 4 _ rfl; (with_reducible repeat (first | refine blk_drewN ?_ _ | refine blk_drew ?_ | refine blk_alloc ?_ _)); refine blk_put (cs := #[.int .i64 t516, .int .i64 t517, .int .i64 t518, .int .i64 0, .int .i64 0, .string (⟨#[]⟩ : ByteArray)]) ?_ 3 _ rfl; (with_reducible repeat (first | refine blk_drewN ?_ _ | refine blk_drew ?_ | refine blk_alloc ?_ _)); refine blk_put (cs := #[.int .i64 t516, .int .i64 t517, .int .i64 0, .int .i64 0, .int .i64 0, .string (⟨#[]⟩ : ByteArray)]) ?_ 2 _ rfl; (with_reducible repeat (first | refine blk_drewN ?_ _ | refine blk_drew ?_ | refine blk_alloc ?_ _)); refine blk_put (cs := #[.int .i64 t516, .int .i64 0, .int .i64 0, .int .i64 0, .int .i64 0, .string (⟨#[]⟩ : ByteArray)]) ?_ 1 _ rfl; (with_reducible repeat (first | refine blk_drewN ?_ _ | refine blk_drew ?_ | refine blk_alloc ?_ _)); refine blk_put (cs := #[.int .i64 0, .int .i64 0, .int .i64 0, .int .i64 0, .int .i64 0, .string (⟨#[]⟩ : ByteArray)]) ?_ 0 _ rfl; (with_reducible repeat (first | refine blk_drewN ?_ _ | refine blk_drew ?_ | refine blk_alloc ?_ _)); exact BK523.out) hb); have n4_ := Aside0.mk (below_step (by repeat (first | (with_reducible first | exact HB.out | apply below_alloc | apply pw_below_drewN | apply below_drew1 | refine below_set ?_ GE505.out | refine below_set ?_ GE523.out) | exact HB.out)) hb); clear HO512; clear HO515; clear BK505; clear BK523; clear HB; have HO512 := n0_; have HO515 := n1_; have BK505 := n2_; have BK523 := n3_; have HB := n4_; clear n0_ n1_ n2_ n3_ n4_; (try clear hb); (try clear hb2); (try clear hk); (try clear hi); obtain ⟨Ao38, co38, eo38⟩ := Kd.R_slice HO515.out; subst eo38) | (go_at_call 72; (with_reducible refine (heap_Check.calls kj2 _ _ t513 true _ ?side1 ?side2 A34.out).mono ?_); (case side1 => repeat (first | exact (Kd.R_reads' HO515.out).2.2 | (with_reducible refine Kd.C_alloc ?_ _) | (with_reducible refine Kd.C_drewN ?_ _) | (with_reducible refine Kd.C_drew ?_))); (case side2 => exact (Kd.R_reads' HO515.out).2.1); rintro e w39 ⟨rfl, hb⟩; have n0_ := Aside0.mk (Kd.R_below (by (with_reducible repeat (first | apply Kd.R_alloc | apply Kd.R_drewN | apply Kd.R_drew)); exact HO512.out) hb); have n1_ := Aside0.mk (Kd.R_below (by (with_reducible repeat (first | apply Kd.R_alloc | apply Kd.R_drewN | apply Kd.R_drew)); exact HO515.out) hb); have n2_ := Aside0.mk (blk_below (g := gb505) (o := .cells #[.int .i64 a1_0, .int .i64 a1_1, .int .i64 a1_2, .int .i64 a1_3, .int .i64 a1_4, .string a1_5] 23 (0, 0)) (by (with_reducible repeat (first | refine blk_drewN ?_ _ | refine blk_drew ?_ | refine blk_alloc ?_ _)); exact BK505.out) hb); have n3_ := Aside0.mk (blk_below (g := gb523) (o := .cells #[.int .i64 t516, .int .i64 t517, .int .i64 t518, .int .i64 t519, .int .i64 t520, .string t521] 23 (0, 0)) (by (with_reducible repeat (first | refine blk_drewN ?_ _ | refine blk_drew ?_ | refine blk_alloc ?_ _)); exact BK523.out) hb); have n4_ := Aside0.mk (below_step (by repeat (first | (with_reducible first | exact HB.out | apply below_alloc | apply pw_below_drewN | apply below_drew1 | refine below_set ?_ GE505.out | refine below_set ?_ GE523.out) | exact HB.out)) hb); clear HO512; clear HO515; clear BK505; clear BK523; clear HB; have HO512 := n0_; have HO515 := n1_; have BK505 := n2_; have BK523 := n3_; have HB := n4_; clear n0_ n1_ n2_ n3_ n4_; (try clear hb); (try clear hb2); (try clear hk); (try clear hi)))
                  go_meet
                  case rel => exact ⟨_, (((t513.length : Int) != (l0.length : Int))), (by first | rfl | (simp; done) | (simp [*]; done)), H', ⟨by have := HJ2.out; first | omega | exact Nat.le_refl _⟩, ⟨by (with_reducible repeat (first | apply Kd.R_alloc | apply Kd.R_drewN | apply Kd.R_drew)); exact Kd.R_mono HO512.out (fun _ hk => ⟨hk.1.2, ⟨hk.1.1.2, hk.2⟩⟩)⟩, ⟨by (with_reducible repeat (first | apply Kd.R_alloc | apply Kd.R_drewN | apply Kd.R_drew)); exact Kd.R_mono HO515.out (fun _ hk => ⟨hk.1.1.2, ⟨hk.1.2, hk.2⟩⟩)⟩, ⟨by (with_reducible repeat (first | refine blk_drewN ?_ _ | refine blk_drew ?_ | refine blk_alloc ?_ _)); exact BK505.out⟩, ⟨by (with_reducible repeat (first | refine blk_drewN ?_ _ | refine blk_drew ?_ | refine blk_alloc ?_ _)); exact BK523.out⟩, ⟨by repeat (first | (with_reducible first | exact HB.out | apply below_alloc | apply pw_below_drewN | apply below_drew1 | refine below_set ?_ GE505.out | refine below_set ?_ GE523.out) | exact HB.out)⟩⟩
                · rw [if_neg c36] at H
                  exact absurd H (by simp)
              · replace c35 := Bool.eq_false_iff.mpr c35
                subst c35
                have H1 : (none) = some r := by rw [if_neg (show ¬ (false = true) by decide)] at H; exact H
                clear H
                have H := H1
                clear H1
                exact absurd H (by simp)
            · replace c33 := Bool.eq_false_iff.mpr c33
              subst c33
              have H1 : (none) = some r := by rw [if_neg (show ¬ (false = true) by decide)] at H; exact H
              clear H
              have H := H1
              clear H1
              exact absurd H (by simp)
          · replace c32 := Bool.eq_false_iff.mpr c32
            subst c32
            have H1 : (none) = some r := by rw [if_neg (show ¬ (false = true) by decide)] at H; exact H
            clear H
            have H := H1
            clear H1
            exact absurd H (by simp)
        case rest =>
          clear HC23
          try clear c1
          try clear c2
          try clear p2
          try clear c3
          try clear c6
          try clear p6
          try clear c7
          try clear c8
          try clear c18
          try clear c29
          try clear c32
          try clear c33
          try clear c35
          try clear c36
          try clear c36b0
          try clear c36b1
          try clear hcz11_0
          try clear hcz11_1
          try clear hcz11_2
          try clear hcz11_3
          try clear hcz11_4
          try clear hcz11_5
          try clear hcz15_0
          try clear hcz15_1
          try clear hcz15_2
          try clear hcz15_3
          try clear hcz15_4
          try clear hcz15_5
          try clear hcz24_0
          try clear hcz24_1
          try clear hcz24_2
          try clear hcz24_3
          try clear hcz24_4
          try clear hcz24_5
          try clear hcz30_0
          try clear hcz30_1
          try clear hcz30_2
          try clear hcz30_3
          try clear hcz30_4
          try clear hcz30_5
          try clear hfz11_0
          try clear hfz11_1
          try clear hfz11_2
          try clear hfz11_3
          try clear hfz11_4
          try clear hfz11_5
          try clear hfz15_0
          try clear hfz15_1
          try clear hfz15_2
          try clear hfz15_3
          try clear hfz15_4
          try clear hfz15_5
          try clear hfz24_0
          try clear hfz24_1
          try clear hfz24_2
          try clear hfz24_3
          try clear hfz24_4
          try clear hfz24_5
          try clear hfz30_0
          try clear hfz30_1
          try clear hfz30_2
          try clear hfz30_3
          try clear hfz30_4
          try clear hfz30_5
          try clear p2
          obtain ⟨kq, x62_22, rfl, HA, HJ22, HO_5, HO_6, BK505, BK523, HB⟩ := hcut
          cases kq with
          | zero => exact absurd HA.out (by simp [hopperlaw06_HeapStays.j1])
          | succ kj22 =>
            have H := HA.out
            clear HA
            simp only [hopperlaw06_HeapStays.j1] at H
            by_cases c40 : x62_22 = true
            · subst c40
              have H1 : (none) = some r := by rw [if_pos rfl] at H; exact H
              clear H
              have H := H1
              clear H1
              exact absurd H (by simp)
            · replace c40 := Bool.eq_false_iff.mpr c40
              subst c40
              have H1 : (hopperlaw06_HeapStays.l0 kj22 l0 t510 t513 0 a1_0 a1_1 a1_2 a1_3 a1_4 a1_5 t516 t517 t518 t519 t520 t521) = some r := by rw [if_neg (show ¬ (false = true) by decide)] at H; exact H
              clear H
              have H := H1
              clear H1
              have H' := Aside0.mk H
              clear H
              go_wp2
              go_loopg [9] kj22 (fun kq v9 w' => ∃ (x9_3 : Int), v9 = .int .i64 x9_3 ∧ Aside0 (hopperlaw06_HeapStays.l0 kq l0 t510 t513 x9_3 a1_0 a1_1 a1_2 a1_3 a1_4 a1_5 t516 t517 t518 t519 t520 t521 = some r) ∧ Aside0 (kq ≤ kj22) ∧ Aside0 (Kd.R k23 23 w' w.heap.size (fun k_ => some k_ ≠ (v514 : Value).ownBlock ∧ k_ ≠ gb505 ∧ k_ ≠ gb523) (.slice Ao26 t510.length co26) t510) ∧ Aside0 (Kd.R k23 23 w' w.heap.size (fun k_ => some k_ ≠ ((.slice Ao26 t510.length co26) : Value).ownBlock ∧ k_ ≠ gb505 ∧ k_ ≠ gb523) v514 t513) ∧ Aside0 (w'.heap[gb505]? = some (.cells #[.int .i64 a1_0, .int .i64 a1_1, .int .i64 a1_2, .int .i64 a1_3, .int .i64 a1_4, .string a1_5] 23 (0, 0))) ∧ Aside0 (w'.heap[gb523]? = some (.cells #[.int .i64 t516, .int .i64 t517, .int .i64 t518, .int .i64 t519, .int .i64 t520, .string t521] 23 (0, 0))) ∧ Aside0 (Below w.heap.size w w'))
              case atStart => exact ⟨(0), (by first | rfl | (simp; done) | (simp [*]; done)), H', ⟨Nat.le_refl _⟩, ⟨by (with_reducible repeat (first | apply Kd.R_alloc | apply Kd.R_drewN | apply Kd.R_drew)); exact HO_5.out⟩, ⟨by (with_reducible repeat (first | apply Kd.R_alloc | apply Kd.R_drewN | apply Kd.R_drew)); exact HO_6.out⟩, ⟨by (with_reducible repeat (first | refine blk_drewN ?_ _ | refine blk_drew ?_ | refine blk_alloc ?_ _)); exact BK505.out⟩, ⟨by (with_reducible repeat (first | refine blk_drewN ?_ _ | refine blk_drew ?_ | refine blk_alloc ?_ _)); exact BK523.out⟩, ⟨by repeat (first | (with_reducible first | exact HB.out | apply below_alloc | apply pw_below_drewN | apply below_drew1 | refine below_set ?_ GE505.out | refine below_set ?_ GE523.out) | exact HB.out)⟩⟩
              case round =>
                clear H'
                try clear c1
                try clear c2
                try clear p2
                try clear c3
                try clear c4
                try clear c6
                try clear p6
                try clear c7
                try clear c8
                try clear c18
                try clear c29
                try clear c32
                try clear c33
                try clear c35
                try clear c36
                try clear c36b0
                try clear c36b1
                try clear c40
                try clear hcz11_0
                try clear hcz11_1
                try clear hcz11_2
                try clear hcz11_3
                try clear hcz11_4
                try clear hcz11_5
                try clear hcz15_0
                try clear hcz15_1
                try clear hcz15_2
                try clear hcz15_3
                try clear hcz15_4
                try clear hcz15_5
                try clear hcz24_0
                try clear hcz24_1
                try clear hcz24_2
                try clear hcz24_3
                try clear hcz24_4
                try clear hcz24_5
                try clear hcz30_0
                try clear hcz30_1
                try clear hcz30_2
                try clear hcz30_3
                try clear hcz30_4
                try clear hcz30_5
                try clear hfz11_0
                try clear hfz11_1
                try clear hfz11_2
                try clear hfz11_3
                try clear hfz11_4
                try clear hfz11_5
                try clear hfz15_0
                try clear hfz15_1
                try clear hfz15_2
                try clear hfz15_3
                try clear hfz15_4
                try clear hfz15_5
                try clear hfz24_0
                try clear hfz24_1
                try clear hfz24_2
                try clear hfz24_3
                try clear hfz24_4
                try clear hfz24_5
                try clear hfz30_0
                try clear hfz30_1
                try clear hfz30_2
                try clear hfz30_3
                try clear hfz30_4
                try clear hfz30_5
                try clear p2
                try clear p6
                obtain ⟨x9_3, rfl, HA, HK3, HO_5, HO_6, BK505, BK523, HB⟩ := hrel
                cases gk with
                | zero => exact absurd HA.out (by simp [hopperlaw06_HeapStays.l0])
                | succ k3 =>
                  have H := HA.out
                  clear HA
                  simp only [hopperlaw06_HeapStays.l0] at H
                  by_cases c41 : x9_3 < (t510.length : Int)
                  · rw [if_pos c41] at H
                    have c41b0 : decide (x9_3 < (t510.length : Int)) = true := decide_eq_true c41
                    clear c41
                    by_cases c42 : 0 ≤ x9_3
                    · rw [if_pos c42] at H
                      have c42b0 : decide (0 ≤ x9_3) = true := decide_eq_true c42
                      clear c42
                      have HC43 := Aside0.mk H
                      clear H
                      try go_wp2
                      have n0_ := Aside0.mk (Kd.R_drew HO_5.out)
                      have n1_ := Aside0.mk (Kd.R_drew HO_6.out)
                      have n2_ := Aside0.mk (blk_drew BK505.out)
                      have n3_ := Aside0.mk (blk_drew BK523.out)
                      have n4_ := Aside0.mk (below_drew1 HB.out)
                      clear HO_5
                      clear HO_6
                      clear BK505
                      clear BK523
                      clear HB
                      have HO_5 := n0_
                      have HO_6 := n1_
                      have BK505 := n2_
                      have BK523 := n3_
                      have HB := n4_
                      clear n0_ n1_ n2_ n3_ n4_
                      have p526 : 0 ≤ (x9_3 : Int) := of_decide_eq_true (by first | (with_reducible assumption) | assumption)
                      have q526 : x9_3 < (t510.length : Int) := of_decide_eq_true (by first | (with_reducible assumption) | assumption)
                      obtain ⟨ad526, e526, hx526_0, hx526_1, hx526_2, hx526_3, hx526_4, hx526_5⟩ := at_T23 (Kd.R_reads' HO_5.out).2.2 x9_3 p526 q526
                      cases e526
                      replace p526 := eq_true p526
                      replace q526 := eq_true q526
                      refine start_ (n := 6) (S := fun w' => w'.cell? ⟨gb505, 0, none⟩ = some (.int .i64 a1_0) ∧ w'.cell? ⟨gb505, 1, none⟩ = some (.int .i64 a1_1) ∧ w'.cell? ⟨gb505, 2, none⟩ = some (.int .i64 a1_2) ∧ w'.cell? ⟨gb505, 3, none⟩ = some (.int .i64 a1_3) ∧ w'.cell? ⟨gb505, 4, none⟩ = some (.int .i64 a1_4) ∧ w'.cell? ⟨gb505, 5, none⟩ = some (.string a1_5) ∧ w'.cell? (ad526.add ((x9_3).toNat * 6)) = some (.int .i64 ((rd_T23 t510 x9_3).f0)) ∧ w'.cell? ⟨(ad526.add ((x9_3).toNat * 6)).block, (ad526.add ((x9_3).toNat * 6)).off + 1, none⟩ = some (.int .i64 ((rd_T23 t510 x9_3).f1)) ∧ w'.cell? ⟨(ad526.add ((x9_3).toNat * 6)).block, (ad526.add ((x9_3).toNat * 6)).off + 2, none⟩ = some (.int .i64 ((rd_T23 t510 x9_3).f2)) ∧ w'.cell? ⟨(ad526.add ((x9_3).toNat * 6)).block, (ad526.add ((x9_3).toNat * 6)).off + 3, none⟩ = some (.int .i64 ((rd_T23 t510 x9_3).f3)) ∧ w'.cell? ⟨(ad526.add ((x9_3).toNat * 6)).block, (ad526.add ((x9_3).toNat * 6)).off + 4, none⟩ = some (.int .i64 ((rd_T23 t510 x9_3).f4)) ∧ w'.cell? ⟨(ad526.add ((x9_3).toNat * 6)).block, (ad526.add ((x9_3).toNat * 6)).off + 5, none⟩ = some (.string ((rd_T23 t510 x9_3).f5))) (ds := []) #[false, false, false, false, false, false] (by kernel_rfl) rfl rfl ⟨(blk_cell BK505.out 0).trans rfl, (blk_cell BK505.out 1).trans rfl, (blk_cell BK505.out 2).trans rfl, (blk_cell BK505.out 3).trans rfl, (blk_cell BK505.out 4).trans rfl, (blk_cell BK505.out 5).trans rfl, hx526_0, hx526_1, hx526_2, hx526_3, hx526_4, hx526_5⟩ (fun hHeld => ?_)
                      generalize wr.drew = w44 at HO_5 HO_6 BK505 BK523 HB hx526_0 hx526_1 hx526_2 hx526_3 hx526_4 hx526_5 hHeld ⊢
                      refine pure_ (i := 0) (N := some 69) (v := ?_) (a' := ?_) #[true, false, false, false, false, false] rfl rfl (by kernel_rfl) (fun _ _ _ h => h) (Or.inl ⟨by rfl, ?_⟩) ?_ ?_
                      rotate_left
                      · intro w'
                        go_simp
                        with_reducible rfl
                      rotate_left
                      · simp only [Act.put, List.setIfInBounds_toArray, List.set_cons_zero, List.set_cons_succ, i64_w, i32_w]
                        rfl
                      refine pure_ (i := 1) (N := some 70) (v := ?_) (a' := ?_) #[true, true, false, false, false, false] rfl rfl (by kernel_rfl) (fun _ _ _ h => h) (Or.inl ⟨by rfl, ?_⟩) ?_ ?_
                      rotate_left
                      · intro w'
                        go_simp
                        with_reducible rfl
                      rotate_left
                      · simp only [Act.put, List.setIfInBounds_toArray, List.set_cons_zero, List.set_cons_succ, i64_w, i32_w]
                        rfl
                      refine pure_ (i := 2) (N := some 71) (v := ?_) (a' := ?_) #[true, true, true, false, false, false] rfl rfl (by kernel_rfl) (fun _ _ _ h => h) (Or.inl ⟨by rfl, ?_⟩) ?_ ?_
                      rotate_left
                      · intro w'
                        go_simp
                        with_reducible rfl
                      rotate_left
                      · simp only [Act.put, List.setIfInBounds_toArray, List.set_cons_zero, List.set_cons_succ, i64_w, i32_w]
                        rfl
                      refine take_ (i := 3) (N := some 72) (v := ?_) (a' := ?_) #[true, true, true, true, false, false] rfl rfl (by kernel_rfl) (fun _ _ _ h => h) (Or.inl ⟨by rfl, ?_⟩) hHeld ?_ ?_
                      rotate_left
                      · rintro w' ⟨s0, s1, s2, s3, s4, s5, s6, s7, s8, s9, s10, s11⟩
                        go_simp
                        with_reducible rfl
                      rotate_left
                      · simp only [Act.put, List.setIfInBounds_toArray, List.set_cons_zero, List.set_cons_succ, i64_w, i32_w]
                        rfl
                      refine take_ (i := 4) (N := some 73) (v := ?_) (a' := ?_) #[true, true, true, true, true, false] rfl rfl (by kernel_rfl) (fun _ _ _ h => h) (Or.inl ⟨by rfl, ?_⟩) hHeld ?_ ?_
                      rotate_left
                      · rintro w' ⟨s0, s1, s2, s3, s4, s5, s6, s7, s8, s9, s10, s11⟩
                        go_simp
                        with_reducible rfl
                      rotate_left
                      · simp only [Act.put, List.setIfInBounds_toArray, List.set_cons_zero, List.set_cons_succ, i64_w, i32_w]
                        rfl
                      refine pure_ (i := 5) (N := some 74) (v := ?_) (a' := ?_) #[true, true, true, true, true, true] rfl rfl (by kernel_rfl) (fun _ _ _ h => h) (Or.inl ⟨by rfl, ?_⟩) ?_ ?_
                      rotate_left
                      · intro w'
                        go_simp
                        with_reducible rfl
                      rotate_left
                      · simp only [Act.put, List.setIfInBounds_toArray, List.set_cons_zero, List.set_cons_succ, i64_w, i32_w]
                        rfl
                      refine done_ (by kernel_rfl) ?_
                      go_upto_if 74 with (fail)
                      go_cut [10] (fun v10 wc => ∃ (kq : Nat) (x10_42 : Int), v10 = .int .i64 x10_42 ∧ Aside0 (hopperlaw06_HeapStays.j3 kq l0 t510 t513 x9_3 x10_42 a1_0 a1_1 a1_2 a1_3 a1_4 a1_5 t516 t517 t518 t519 t520 t521 = some r) ∧ Aside0 (kq ≤ k3) ∧ Aside0 (Kd.R k23 23 wc w.heap.size (fun k_ => some k_ ≠ (v514 : Value).ownBlock ∧ k_ ≠ gb505 ∧ k_ ≠ gb523) (.slice (some ad526) t510.length co26) t510) ∧ Aside0 (Kd.R k23 23 wc w.heap.size (fun k_ => some k_ ≠ ((.slice (some ad526) t510.length co26) : Value).ownBlock ∧ k_ ≠ gb505 ∧ k_ ≠ gb523) v514 t513) ∧ Aside0 (wc.heap[gb505]? = some (.cells #[.int .i64 a1_0, .int .i64 a1_1, .int .i64 a1_2, .int .i64 a1_3, .int .i64 a1_4, .string a1_5] 23 (0, 0))) ∧ Aside0 (wc.heap[gb523]? = some (.cells #[.int .i64 t516, .int .i64 t517, .int .i64 t518, .int .i64 t519, .int .i64 t520, .string t521] 23 (0, 0))) ∧ Aside0 (Below w.heap.size w wc))
                      case first =>
                        have H := HC43.out
                        clear HC43
                        by_cases c45 : (((rd_T23 t510 x9_3).f0) == a1_0 && (((rd_T23 t510 x9_3).f1) == a1_1 && (((rd_T23 t510 x9_3).f2) == a1_2 && (((rd_T23 t510 x9_3).f3) == a1_3 && (((rd_T23 t510 x9_3).f4) == a1_4 && ((((rd_T23 t510 x9_3).f5).toList) == a1_5.toList)))))) = true
                        · rw [if_pos c45] at H
                          have c45b0 : (((rd_T23 t510 x9_3).f0) == a1_0 && (((rd_T23 t510 x9_3).f1) == a1_1 && (((rd_T23 t510 x9_3).f2) == a1_2 && (((rd_T23 t510 x9_3).f3) == a1_3 && (((rd_T23 t510 x9_3).f4) == a1_4 && ((((rd_T23 t510 x9_3).f5).toList) == a1_5.toList)))))) = true := c45
                          (try (have c45b1 : decide (((rd_T23 t510 x9_3).f0) = a1_0 && (((rd_T23 t510 x9_3).f1) == a1_1 && (((rd_T23 t510 x9_3).f2) == a1_2 && (((rd_T23 t510 x9_3).f3) == a1_3 && (((rd_T23 t510 x9_3).f4) == a1_4 && ((((rd_T23 t510 x9_3).f5).toList) == a1_5.toList)))))) = true := by simpa using c45))
                          (try (have c45b2 : (((rd_T23 t510 x9_3).f0) == a1_0 && (((rd_T23 t510 x9_3).f1) == a1_1 && (((rd_T23 t510 x9_3).f2) == a1_2 && (((rd_T23 t510 x9_3).f3) == a1_3 && (((rd_T23 t510 x9_3).f4) == a1_4 && ((((rd_T23 t510 x9_3).f5).toList) == a1_5.toList)))))) = true := by simpa using c45))
                          clear c45
                          (first | rw [c45b0] | (simp only [i64_w, i32_w]; rw [c45b0]) | skip)
                          have H' := Aside0.mk H
                          clear H
                          go_wp2
                          go_meet
                          case rel => exact ⟨_, (1), (by first | rfl | (simp; done) | (simp [*]; done)), H', ⟨by have := HJ2.out; have := HJ22.out; have := HK3.out; first | omega | exact Nat.le_refl _⟩, ⟨by (with_reducible repeat (first | apply Kd.R_alloc | apply Kd.R_drewN | apply Kd.R_drew)); exact HO_5.out⟩, ⟨by (with_reducible repeat (first | apply Kd.R_alloc | apply Kd.R_drewN | apply Kd.R_drew)); exact HO_6.out⟩, ⟨by (with_reducible repeat (first | refine blk_drewN ?_ _ | refine blk_drew ?_ | refine blk_alloc ?_ _)); exact BK505.out⟩, ⟨by (with_reducible repeat (first | refine blk_drewN ?_ _ | refine blk_drew ?_ | refine blk_alloc ?_ _)); exact BK523.out⟩, ⟨by repeat (first | (with_reducible first | exact HB.out | apply below_alloc | apply pw_below_drewN | apply below_drew1 | refine below_set ?_ GE505.out | refine below_set ?_ GE523.out) | exact HB.out)⟩⟩
                        · rw [if_neg c45] at H
                          have c45b0 : (((rd_T23 t510 x9_3).f0) == a1_0 && (((rd_T23 t510 x9_3).f1) == a1_1 && (((rd_T23 t510 x9_3).f2) == a1_2 && (((rd_T23 t510 x9_3).f3) == a1_3 && (((rd_T23 t510 x9_3).f4) == a1_4 && ((((rd_T23 t510 x9_3).f5).toList) == a1_5.toList)))))) = false := by simpa using c45
                          (try (have c45b1 : decide (((rd_T23 t510 x9_3).f0) = a1_0 && (((rd_T23 t510 x9_3).f1) == a1_1 && (((rd_T23 t510 x9_3).f2) == a1_2 && (((rd_T23 t510 x9_3).f3) == a1_3 && (((rd_T23 t510 x9_3).f4) == a1_4 && ((((rd_T23 t510 x9_3).f5).toList) == a1_5.toList)))))) = false := by simpa using c45))
                          (try (have c45b2 : (((rd_T23 t510 x9_3).f0) == a1_0 && (((rd_T23 t510 x9_3).f1) == a1_1 && (((rd_T23 t510 x9_3).f2) == a1_2 && (((rd_T23 t510 x9_3).f3) == a1_3 && (((rd_T23 t510 x9_3).f4) == a1_4 && ((((rd_T23 t510 x9_3).f5).toList) == a1_5.toList)))))) = false := by simpa using c45))
                          (try (have c45b3 : ¬ (((rd_T23 t510 x9_3).f0) = a1_0 && (((rd_T23 t510 x9_3).f1) == a1_1 && (((rd_T23 t510 x9_3).f2) == a1_2 && (((rd_T23 t510 x9_3).f3) == a1_3 && (((rd_T23 t510 x9_3).f4) == a1_4 && ((((rd_T23 t510 x9_3).f5).toList) == a1_5.toList)))))) := by simpa using c45))
                          clear c45
                          (first | rw [c45b0] | (simp only [i64_w, i32_w]; rw [c45b0]) | skip)
                          have H' := Aside0.mk H
                          clear H
                          go_wp2
                          go_meet
                          case rel => exact ⟨_, (0), (by first | rfl | (simp; done) | (simp [*]; done)), H', ⟨by have := HJ2.out; have := HJ22.out; have := HK3.out; first | omega | exact Nat.le_refl _⟩, ⟨by (with_reducible repeat (first | apply Kd.R_alloc | apply Kd.R_drewN | apply Kd.R_drew)); exact HO_5.out⟩, ⟨by (with_reducible repeat (first | apply Kd.R_alloc | apply Kd.R_drewN | apply Kd.R_drew)); exact HO_6.out⟩, ⟨by (with_reducible repeat (first | refine blk_drewN ?_ _ | refine blk_drew ?_ | refine blk_alloc ?_ _)); exact BK505.out⟩, ⟨by (with_reducible repeat (first | refine blk_drewN ?_ _ | refine blk_drew ?_ | refine blk_alloc ?_ _)); exact BK523.out⟩, ⟨by repeat (first | (with_reducible first | exact HB.out | apply below_alloc | apply pw_below_drewN | apply below_drew1 | refine below_set ?_ GE505.out | refine below_set ?_ GE523.out) | exact HB.out)⟩⟩
                      case rest =>
                        clear HC43
                        try clear c1
                        try clear c2
                        try clear p2
                        try clear c3
                        try clear c4
                        try clear p5
                        try clear q5
                        try clear hx5
                        try clear c6
                        try clear p6
                        try clear c7
                        try clear c8
                        try clear c18
                        try clear c29
                        try clear c32
                        try clear c33
                        try clear c35
                        try clear c36
                        try clear c36b0
                        try clear c36b1
                        try clear c40
                        try clear c41
                        try clear c41b0
                        try clear c42
                        try clear c42b0
                        try clear c45
                        try clear c45b0
                        try clear c45b1
                        try clear c45b2
                        try clear hcz11_0
                        try clear hcz11_1
                        try clear hcz11_2
                        try clear hcz11_3
                        try clear hcz11_4
                        try clear hcz11_5
                        try clear hcz15_0
                        try clear hcz15_1
                        try clear hcz15_2
                        try clear hcz15_3
                        try clear hcz15_4
                        try clear hcz15_5
                        try clear hcz24_0
                        try clear hcz24_1
                        try clear hcz24_2
                        try clear hcz24_3
                        try clear hcz24_4
                        try clear hcz24_5
                        try clear hcz30_0
                        try clear hcz30_1
                        try clear hcz30_2
                        try clear hcz30_3
                        try clear hcz30_4
                        try clear hcz30_5
                        try clear hfz11_0
                        try clear hfz11_1
                        try clear hfz11_2
                        try clear hfz11_3
                        try clear hfz11_4
                        try clear hfz11_5
                        try clear hfz15_0
                        try clear hfz15_1
                        try clear hfz15_2
                        try clear hfz15_3
                        try clear hfz15_4
                        try clear hfz15_5
                        try clear hfz24_0
                        try clear hfz24_1
                        try clear hfz24_2
                        try clear hfz24_3
                        try clear hfz24_4
                        try clear hfz24_5
                        try clear hfz30_0
                        try clear hfz30_1
                        try clear hfz30_2
                        try clear hfz30_3
                        try clear hfz30_4
                        try clear hfz30_5
                        try clear hx526_0
                        try clear hx526_1
                        try clear hx526_2
                        try clear hx526_3
                        try clear hx526_4
                        try clear hx526_5
                        try clear p2
                        try clear p526
                        try clear p6
                        try clear q526
                        obtain ⟨kq, x10_42, rfl, HA, HJ42, HO_5, HO_6, BK505, BK523, HB⟩ := hcut
                        cases kq with
                        | zero => exact absurd HA.out (by simp [hopperlaw06_HeapStays.j3])
                        | succ kj42 =>
                          have H := HA.out
                          clear HA
                          simp only [hopperlaw06_HeapStays.j3] at H
                          by_cases c46 : 0 ≤ x9_3
                          · rw [if_pos c46] at H
                            have c46b0 : decide (0 ≤ x9_3) = true := decide_eq_true c46
                            clear c46
                            by_cases c47 : x9_3 < (t510.length : Int)
                            · rw [if_pos c47] at H
                              have c47b0 : decide (x9_3 < (t510.length : Int)) = true := decide_eq_true c47
                              clear c47
                              replace H := Option.bind_eq_some_iff.mp H
                              obtain ⟨t528, A480, H⟩ := H
                              replace H : (if t528 = true then (none) else ((hopperlaw06_count.f kj42 t510 ((rd_T23 t510 x9_3).f0) ((rd_T23 t510 x9_3).f1) ((rd_T23 t510 x9_3).f2) ((rd_T23 t510 x9_3).f3) ((rd_T23 t510 x9_3).f4) ((rd_T23 t510 x9_3).f5)).bind fun t530 => ((hopperlaw06_count.f kj42 l0 ((rd_T23 t510 x9_3).f0) ((rd_T23 t510 x9_3).f1) ((rd_T23 t510 x9_3).f2) ((rd_T23 t510 x9_3).f3) ((rd_T23 t510 x9_3).f4) ((rd_T23 t510 x9_3).f5)).bind fun t532 => (if t530 = (wrap64 (t532 + x10_42)) then (hopperlaw06_HeapStays.l0 kj42 l0 t510 t513 (wrap64 (x9_3 + 1)) a1_0 a1_1 a1_2 a1_3 a1_4 a1_5 t516 t517 t518 t519 t520 t521) else (none))))) = some r := H
                              have A48 := Aside0.mk A480
                              clear A480
                              by_cases c49 : t528 = true
                              · subst c49
                                have H1 : (none) = some r := by rw [if_pos rfl] at H; exact H
                                clear H
                                have H := H1
                                clear H1
                                exact absurd H (by simp)
                              · replace c49 := Bool.eq_false_iff.mpr c49
                                subst c49
                                have H1 : ((hopperlaw06_count.f kj42 t510 ((rd_T23 t510 x9_3).f0) ((rd_T23 t510 x9_3).f1) ((rd_T23 t510 x9_3).f2) ((rd_T23 t510 x9_3).f3) ((rd_T23 t510 x9_3).f4) ((rd_T23 t510 x9_3).f5)).bind fun t530 => ((hopperlaw06_count.f kj42 l0 ((rd_T23 t510 x9_3).f0) ((rd_T23 t510 x9_3).f1) ((rd_T23 t510 x9_3).f2) ((rd_T23 t510 x9_3).f3) ((rd_T23 t510 x9_3).f4) ((rd_T23 t510 x9_3).f5)).bind fun t532 => (if t530 = (wrap64 (t532 + x10_42)) then (hopperlaw06_HeapStays.l0 kj42 l0 t510 t513 (wrap64 (x9_3 + 1)) a1_0 a1_1 a1_2 a1_3 a1_4 a1_5 t516 t517 t518 t519 t520 t521) else (none)))) = some r := by rw [if_neg (show ¬ (false = true) by decide)] at H; exact H
                                clear H
                                have H := H1
                                clear H1
                                replace H := Option.bind_eq_some_iff.mp H
                                obtain ⟨t530, A500, H⟩ := H
                                replace H : ((hopperlaw06_count.f kj42 l0 ((rd_T23 t510 x9_3).f0) ((rd_T23 t510 x9_3).f1) ((rd_T23 t510 x9_3).f2) ((rd_T23 t510 x9_3).f3) ((rd_T23 t510 x9_3).f4) ((rd_T23 t510 x9_3).f5)).bind fun t532 => (if t530 = (wrap64 (t532 + x10_42)) then (hopperlaw06_HeapStays.l0 kj42 l0 t510 t513 (wrap64 (x9_3 + 1)) a1_0 a1_1 a1_2 a1_3 a1_4 a1_5 t516 t517 t518 t519 t520 t521) else (none))) = some r := H
                                have A50 := Aside0.mk A500
                                clear A500
                                replace H := Option.bind_eq_some_iff.mp H
                                obtain ⟨t532, A510, H⟩ := H
                                replace H : (if t530 = (wrap64 (t532 + x10_42)) then (hopperlaw06_HeapStays.l0 kj42 l0 t510 t513 (wrap64 (x9_3 + 1)) a1_0 a1_1 a1_2 a1_3 a1_4 a1_5 t516 t517 t518 t519 t520 t521) else (none)) = some r := H
                                have A51 := Aside0.mk A510
                                clear A510
                                by_cases c52 : t530 = (wrap64 (t532 + x10_42))
                                · rw [if_pos c52] at H
                                  have c52b0 : (t530 == (wrap64 (t532 + x10_42))) = true := beq_iff_eq.mpr c52
                                  have c52b1 : (t530 != (wrap64 (t532 + x10_42))) = false := bne_eq_false_iff_eq.mpr c52
                                  clear c52
                                  have H' := Aside0.mk H
                                  clear H
                                  try go_wp2
                                  have n0_ := Aside0.mk (Kd.R_drew HO_5.out)
                                  have n1_ := Aside0.mk (Kd.R_drew HO_6.out)
                                  have n2_ := Aside0.mk (blk_drew BK505.out)
                                  have n3_ := Aside0.mk (blk_drew BK523.out)
                                  have n4_ := Aside0.mk (below_drew1 HB.out)
                                  clear HO_5
                                  clear HO_6
                                  clear BK505
                                  clear BK523
                                  clear HB
                                  have HO_5 := n0_
                                  have HO_6 := n1_
                                  have BK505 := n2_
                                  have BK523 := n3_
                                  have HB := n4_
                                  clear n0_ n1_ n2_ n3_ n4_
                                  have p527 : 0 ≤ (x9_3 : Int) := of_decide_eq_true (by first | (with_reducible assumption) | assumption)
                                  have q527 : x9_3 < (t510.length : Int) := of_decide_eq_true (by first | (with_reducible assumption) | assumption)
                                  obtain ⟨ad527, e527, hx527_0, hx527_1, hx527_2, hx527_3, hx527_4, hx527_5⟩ := at_T23 (Kd.R_reads' HO_5.out).2.2 x9_3 p527 q527
                                  obtain rfl : ad526 = ad527 := (by injection e527)
                                  replace p527 := eq_true p527
                                  replace q527 := eq_true q527
                                  have p529 : 0 ≤ (x9_3 : Int) := of_decide_eq_true (by first | (with_reducible assumption) | assumption)
                                  have q529 : x9_3 < (t510.length : Int) := of_decide_eq_true (by first | (with_reducible assumption) | assumption)
                                  obtain ⟨ad529, e529, hx529_0, hx529_1, hx529_2, hx529_3, hx529_4, hx529_5⟩ := at_T23 (Kd.R_reads' HO_5.out).2.2 x9_3 p529 q529
                                  obtain rfl : ad526 = ad529 := (by injection e529)
                                  replace p529 := eq_true p529
                                  replace q529 := eq_true q529
                                  have p531 : 0 ≤ (x9_3 : Int) := of_decide_eq_true (by first | (with_reducible assumption) | assumption)
                                  have q531 : x9_3 < (t510.length : Int) := of_decide_eq_true (by first | (with_reducible assumption) | assumption)
                                  obtain ⟨ad531, e531, hx531_0, hx531_1, hx531_2, hx531_3, hx531_4, hx531_5⟩ := at_T23 (Kd.R_reads' HO_5.out).2.2 x9_3 p531 q531
                                  obtain rfl : ad526 = ad531 := (by injection e531)
                                  replace p531 := eq_true p531
                                  replace q531 := eq_true q531
                                  refine start_ (n := 23) (S := fun w' => w'.cell? ⟨gb523, 0, none⟩ = some (.int .i64 t516) ∧ w'.cell? ⟨gb523, 1, none⟩ = some (.int .i64 t517) ∧ w'.cell? ⟨gb523, 2, none⟩ = some (.int .i64 t518) ∧ w'.cell? ⟨gb523, 3, none⟩ = some (.int .i64 t519) ∧ w'.cell? ⟨gb523, 4, none⟩ = some (.int .i64 t520) ∧ w'.cell? ⟨gb523, 5, none⟩ = some (.string t521) ∧ w'.cell? (ad526.add ((x9_3).toNat * 6)) = some (.int .i64 ((rd_T23 t510 x9_3).f0)) ∧ w'.cell? ⟨(ad526.add ((x9_3).toNat * 6)).block, (ad526.add ((x9_3).toNat * 6)).off + 1, none⟩ = some (.int .i64 ((rd_T23 t510 x9_3).f1)) ∧ w'.cell? ⟨(ad526.add ((x9_3).toNat * 6)).block, (ad526.add ((x9_3).toNat * 6)).off + 2, none⟩ = some (.int .i64 ((rd_T23 t510 x9_3).f2)) ∧ w'.cell? ⟨(ad526.add ((x9_3).toNat * 6)).block, (ad526.add ((x9_3).toNat * 6)).off + 3, none⟩ = some (.int .i64 ((rd_T23 t510 x9_3).f3)) ∧ w'.cell? ⟨(ad526.add ((x9_3).toNat * 6)).block, (ad526.add ((x9_3).toNat * 6)).off + 4, none⟩ = some (.int .i64 ((rd_T23 t510 x9_3).f4)) ∧ w'.cell? ⟨(ad526.add ((x9_3).toNat * 6)).block, (ad526.add ((x9_3).toNat * 6)).off + 5, none⟩ = some (.string ((rd_T23 t510 x9_3).f5)) ∧ w'.cell? (ad526.add ((x9_3).toNat * 6)) = some (.int .i64 ((rd_T23 t510 x9_3).f0)) ∧ w'.cell? ⟨(ad526.add ((x9_3).toNat * 6)).block, (ad526.add ((x9_3).toNat * 6)).off + 1, none⟩ = some (.int .i64 ((rd_T23 t510 x9_3).f1)) ∧ w'.cell? ⟨(ad526.add ((x9_3).toNat * 6)).block, (ad526.add ((x9_3).toNat * 6)).off + 2, none⟩ = some (.int .i64 ((rd_T23 t510 x9_3).f2)) ∧ w'.cell? ⟨(ad526.add ((x9_3).toNat * 6)).block, (ad526.add ((x9_3).toNat * 6)).off + 3, none⟩ = some (.int .i64 ((rd_T23 t510 x9_3).f3)) ∧ w'.cell? ⟨(ad526.add ((x9_3).toNat * 6)).block, (ad526.add ((x9_3).toNat * 6)).off + 4, none⟩ = some (.int .i64 ((rd_T23 t510 x9_3).f4)) ∧ w'.cell? ⟨(ad526.add ((x9_3).toNat * 6)).block, (ad526.add ((x9_3).toNat * 6)).off + 5, none⟩ = some (.string ((rd_T23 t510 x9_3).f5)) ∧ w'.cell? (ad526.add ((x9_3).toNat * 6)) = some (.int .i64 ((rd_T23 t510 x9_3).f0)) ∧ w'.cell? ⟨(ad526.add ((x9_3).toNat * 6)).block, (ad526.add ((x9_3).toNat * 6)).off + 1, none⟩ = some (.int .i64 ((rd_T23 t510 x9_3).f1)) ∧ w'.cell? ⟨(ad526.add ((x9_3).toNat * 6)).block, (ad526.add ((x9_3).toNat * 6)).off + 2, none⟩ = some (.int .i64 ((rd_T23 t510 x9_3).f2)) ∧ w'.cell? ⟨(ad526.add ((x9_3).toNat * 6)).block, (ad526.add ((x9_3).toNat * 6)).off + 3, none⟩ = some (.int .i64 ((rd_T23 t510 x9_3).f3)) ∧ w'.cell? ⟨(ad526.add ((x9_3).toNat * 6)).block, (ad526.add ((x9_3).toNat * 6)).off + 4, none⟩ = some (.int .i64 ((rd_T23 t510 x9_3).f4)) ∧ w'.cell? ⟨(ad526.add ((x9_3).toNat * 6)).block, (ad526.add ((x9_3).toNat * 6)).off + 5, none⟩ = some (.string ((rd_T23 t510 x9_3).f5))) (ds := []) #[false, false, false, false, false, false, false, false, false, false, false, false, false, false, false, false, false, false, false, false, false, false, false] (by kernel_rfl) rfl rfl ⟨(blk_cell BK523.out 0).trans rfl, (blk_cell BK523.out 1).trans rfl, (blk_cell BK523.out 2).trans rfl, (blk_cell BK523.out 3).trans rfl, (blk_cell BK523.out 4).trans rfl, (blk_cell BK523.out 5).trans rfl, hx527_0, hx527_1, hx527_2, hx527_3, hx527_4, hx527_5, hx529_0, hx529_1, hx529_2, hx529_3, hx529_4, hx529_5, hx531_0, hx531_1, hx531_2, hx531_3, hx531_4, hx531_5⟩ (fun hHeld => ?_); refine with_tabW hopperlaw06_HeapStays.tab13 hopperlaw06_HeapStays.bits13 (fun HT_ HW_ => ?_)
                                  generalize wc.drew = w53 at HO_5 HO_6 BK505 BK523 HB hx527_0 hx527_1 hx527_2 hx527_3 hx527_4 hx527_5 hx529_0 hx529_1 hx529_2 hx529_3 hx529_4 hx529_5 hx531_0 hx531_1 hx531_2 hx531_3 hx531_4 hx531_5 hHeld ⊢
                                  refine pure_ (i := 0) (N := some 75) (v := ?_) (a' := ?_) #[true, false, false, false, false, false, false, false, false, false, false, false, false, false, false, false, false, false, false, false, false, false, false] rfl rfl (any_of HT_.out (by kernel_rfl)) (fun _ _ _ h => h) (Or.inl ⟨by rfl, ?_⟩) ?_ ?_
                                  rotate_left
                                  · intro w'
                                    go_simp
                                    with_reducible rfl
                                  rotate_left
                                  · simp only [Act.put, List.setIfInBounds_toArray, List.set_cons_zero, List.set_cons_succ, i64_w, i32_w]
                                    rfl
                                  refine pure_ (i := 1) (N := some 76) (v := ?_) (a' := ?_) #[true, true, false, false, false, false, false, false, false, false, false, false, false, false, false, false, false, false, false, false, false, false, false] rfl rfl (any_of HT_.out (by kernel_rfl)) (fun _ _ _ h => h) (Or.inl ⟨by rfl, ?_⟩) ?_ ?_
                                  rotate_left
                                  · intro w'
                                    go_simp
                                    with_reducible rfl
                                  rotate_left
                                  · simp only [Act.put, List.setIfInBounds_toArray, List.set_cons_zero, List.set_cons_succ, i64_w, i32_w]
                                    rfl
                                  refine pure_ (i := 2) (N := some 77) (v := ?_) (a' := ?_) #[true, true, true, false, false, false, false, false, false, false, false, false, false, false, false, false, false, false, false, false, false, false, false] rfl rfl (any_of HT_.out (by kernel_rfl)) (fun _ _ _ h => h) (Or.inl ⟨by rfl, ?_⟩) ?_ ?_
                                  rotate_left
                                  · intro w'
                                    go_simp
                                    with_reducible rfl
                                  rotate_left
                                  · simp only [Act.put, List.setIfInBounds_toArray, List.set_cons_zero, List.set_cons_succ, i64_w, i32_w]
                                    rfl
                                  refine take_ (i := 3) (N := some 78) (v := ?_) (a' := ?_) #[true, true, true, true, false, false, false, false, false, false, false, false, false, false, false, false, false, false, false, false, false, false, false] rfl rfl (take_ofW HT_.out HW_.out (by kernel_rfl)) (fun _ _ _ h => h) (Or.inl ⟨by rfl, ?_⟩) hHeld ?_ ?_
                                  rotate_left
                                  · rintro w' ⟨s0, s1, s2, s3, s4, s5, s6, s7, s8, s9, s10, s11, s12, s13, s14, s15, s16, s17, s18, s19, s20, s21, s22, s23⟩
                                    go_simp
                                    with_reducible rfl
                                  rotate_left
                                  · simp only [Act.put, List.setIfInBounds_toArray, List.set_cons_zero, List.set_cons_succ, i64_w, i32_w]
                                    rfl
                                  refine take_ (i := 4) (N := some 79) (v := ?_) (a' := ?_) #[true, true, true, true, true, false, false, false, false, false, false, false, false, false, false, false, false, false, false, false, false, false, false] rfl rfl (take_ofW HT_.out HW_.out (by kernel_rfl)) (fun _ _ _ h => h) (Or.inl ⟨by rfl, ?_⟩) hHeld ?_ ?_
                                  rotate_left
                                  · rintro w' ⟨s0, s1, s2, s3, s4, s5, s6, s7, s8, s9, s10, s11, s12, s13, s14, s15, s16, s17, s18, s19, s20, s21, s22, s23⟩
                                    go_simp
                                    with_reducible rfl
                                  rotate_left
                                  · simp only [Act.put, List.setIfInBounds_toArray, List.set_cons_zero, List.set_cons_succ, i64_w, i32_w]
                                    rfl
                                  refine one_ (i := 5) (N := some 80) #[true, true, true, true, true, true, false, false, false, false, false, false, false, false, false, false, false, false, false, false, false, false, false] rfl rfl (one_of HT_.out (by kernel_rfl)) (by decide) (fun K hK => ?_)
                                  refine goes_ Try.func45 (by kernel_rfl) rfl #[.agg #[.int .i64 ((rd_T23 t510 x9_3).f0), .int .i64 ((rd_T23 t510 x9_3).f1), .int .i64 ((rd_T23 t510 x9_3).f2), .int .i64 ((rd_T23 t510 x9_3).f3), .int .i64 ((rd_T23 t510 x9_3).f4), .string ((rd_T23 t510 x9_3).f5)], .agg #[.int .i64 t516, .int .i64 t517, .int .i64 t518, .int .i64 t519, .int .i64 t520, .string t521]] (by rfl) rfl rfl (by (try simp only [List.map_toArray, List.map_cons, List.map_nil]); first | done | rfl | (simp only [List.length_drop, List.length_take]; rfl)) ?_
                                  with_reducible refine (hopperref04_Better.calls kj42 ((rd_T23 t510 x9_3).f0) ((rd_T23 t510 x9_3).f1) ((rd_T23 t510 x9_3).f2) ((rd_T23 t510 x9_3).f3) ((rd_T23 t510 x9_3).f4) ((rd_T23 t510 x9_3).f5) t516 t517 t518 t519 t520 t521 false _ A48.out).mono ?_
                                  rintro e w54 ⟨rfl, hb⟩
                                  have HS6_ := (hb.cell (World.block_lt_of_cell? _ _ (hHeld.2.2.2.2.2.2.1))).trans (hHeld.2.2.2.2.2.2.1)
                                  have HS7_ := (hb.cell (World.block_lt_of_cell? _ _ (hHeld.2.2.2.2.2.2.2.1))).trans (hHeld.2.2.2.2.2.2.2.1)
                                  have HS8_ := (hb.cell (World.block_lt_of_cell? _ _ (hHeld.2.2.2.2.2.2.2.2.1))).trans (hHeld.2.2.2.2.2.2.2.2.1)
                                  have HS9_ := (hb.cell (World.block_lt_of_cell? _ _ (hHeld.2.2.2.2.2.2.2.2.2.1))).trans (hHeld.2.2.2.2.2.2.2.2.2.1)
                                  have HS10_ := (hb.cell (World.block_lt_of_cell? _ _ (hHeld.2.2.2.2.2.2.2.2.2.2.1))).trans (hHeld.2.2.2.2.2.2.2.2.2.2.1)
                                  have HS11_ := (hb.cell (World.block_lt_of_cell? _ _ (hHeld.2.2.2.2.2.2.2.2.2.2.2.1))).trans (hHeld.2.2.2.2.2.2.2.2.2.2.2.1)
                                  have HS12_ := (hb.cell (World.block_lt_of_cell? _ _ (hHeld.2.2.2.2.2.2.2.2.2.2.2.2.1))).trans (hHeld.2.2.2.2.2.2.2.2.2.2.2.2.1)
                                  have HS13_ := (hb.cell (World.block_lt_of_cell? _ _ (hHeld.2.2.2.2.2.2.2.2.2.2.2.2.2.1))).trans (hHeld.2.2.2.2.2.2.2.2.2.2.2.2.2.1)
                                  have HS14_ := (hb.cell (World.block_lt_of_cell? _ _ (hHeld.2.2.2.2.2.2.2.2.2.2.2.2.2.2.1))).trans (hHeld.2.2.2.2.2.2.2.2.2.2.2.2.2.2.1)
                                  have HS15_ := (hb.cell (World.block_lt_of_cell? _ _ (hHeld.2.2.2.2.2.2.2.2.2.2.2.2.2.2.2.1))).trans (hHeld.2.2.2.2.2.2.2.2.2.2.2.2.2.2.2.1)
                                  have HS16_ := (hb.cell (World.block_lt_of_cell? _ _ (hHeld.2.2.2.2.2.2.2.2.2.2.2.2.2.2.2.2.1))).trans (hHeld.2.2.2.2.2.2.2.2.2.2.2.2.2.2.2.2.1)
                                  have HS17_ := (hb.cell (World.block_lt_of_cell? _ _ (hHeld.2.2.2.2.2.2.2.2.2.2.2.2.2.2.2.2.2.1))).trans (hHeld.2.2.2.2.2.2.2.2.2.2.2.2.2.2.2.2.2.1)
                                  have HS18_ := (hb.cell (World.block_lt_of_cell? _ _ (hHeld.2.2.2.2.2.2.2.2.2.2.2.2.2.2.2.2.2.2.1))).trans (hHeld.2.2.2.2.2.2.2.2.2.2.2.2.2.2.2.2.2.2.1)
                                  have HS19_ := (hb.cell (World.block_lt_of_cell? _ _ (hHeld.2.2.2.2.2.2.2.2.2.2.2.2.2.2.2.2.2.2.2.1))).trans (hHeld.2.2.2.2.2.2.2.2.2.2.2.2.2.2.2.2.2.2.2.1)
                                  have HS20_ := (hb.cell (World.block_lt_of_cell? _ _ (hHeld.2.2.2.2.2.2.2.2.2.2.2.2.2.2.2.2.2.2.2.2.1))).trans (hHeld.2.2.2.2.2.2.2.2.2.2.2.2.2.2.2.2.2.2.2.2.1)
                                  have HS21_ := (hb.cell (World.block_lt_of_cell? _ _ (hHeld.2.2.2.2.2.2.2.2.2.2.2.2.2.2.2.2.2.2.2.2.2.1))).trans (hHeld.2.2.2.2.2.2.2.2.2.2.2.2.2.2.2.2.2.2.2.2.2.1)
                                  have HS22_ := (hb.cell (World.block_lt_of_cell? _ _ (hHeld.2.2.2.2.2.2.2.2.2.2.2.2.2.2.2.2.2.2.2.2.2.2.1))).trans (hHeld.2.2.2.2.2.2.2.2.2.2.2.2.2.2.2.2.2.2.2.2.2.2.1)
                                  have HS23_ := (hb.cell (World.block_lt_of_cell? _ _ (hHeld.2.2.2.2.2.2.2.2.2.2.2.2.2.2.2.2.2.2.2.2.2.2.2))).trans (hHeld.2.2.2.2.2.2.2.2.2.2.2.2.2.2.2.2.2.2.2.2.2.2.2)
                                  refine ⟨_, rfl, ?_⟩
                                  have n0_ := Aside0.mk (Kd.R_below (by (with_reducible repeat (first | apply Kd.R_alloc | apply Kd.R_drewN | apply Kd.R_drew)); exact HO_5.out) hb)
                                  have n1_ := Aside0.mk (Kd.R_below (by (with_reducible repeat (first | apply Kd.R_alloc | apply Kd.R_drewN | apply Kd.R_drew)); exact HO_6.out) hb)
                                  have n2_ := Aside0.mk (blk_below (g := gb505) (o := .cells #[.int .i64 a1_0, .int .i64 a1_1, .int .i64 a1_2, .int .i64 a1_3, .int .i64 a1_4, .string a1_5] 23 (0, 0)) (by (with_reducible repeat (first | refine blk_drewN ?_ _ | refine blk_drew ?_ | refine blk_alloc ?_ _)); exact BK505.out) hb)
                                  have n3_ := Aside0.mk (blk_below (g := gb523) (o := .cells #[.int .i64 t516, .int .i64 t517, .int .i64 t518, .int .i64 t519, .int .i64 t520, .string t521] 23 (0, 0)) (by (with_reducible repeat (first | refine blk_drewN ?_ _ | refine blk_drew ?_ | refine blk_alloc ?_ _)); exact BK523.out) hb)
                                  have n4_ := Aside0.mk (below_step (by repeat (first | (with_reducible first | exact HB.out | apply below_alloc | apply pw_below_drewN | apply below_drew1 | refine below_set ?_ GE505.out | refine below_set ?_ GE523.out) | exact HB.out)) hb)
                                  clear HO_5
                                  clear HO_6
                                  clear BK505
                                  clear BK523
                                  clear HB
                                  have HO_5 := n0_
                                  have HO_6 := n1_
                                  have BK505 := n2_
                                  have BK523 := n3_
                                  have HB := n4_
                                  clear n0_ n1_ n2_ n3_ n4_
                                  (try clear hb)
                                  (try clear hb2)
                                  (try clear hk)
                                  (try clear hi)
                                  refine hK.out _ _ ⟨(blk_cell BK523.out 0).trans rfl, (blk_cell BK523.out 1).trans rfl, (blk_cell BK523.out 2).trans rfl, (blk_cell BK523.out 3).trans rfl, (blk_cell BK523.out 4).trans rfl, (blk_cell BK523.out 5).trans rfl, HS6_, HS7_, HS8_, HS9_, HS10_, HS11_, HS12_, HS13_, HS14_, HS15_, HS16_, HS17_, HS18_, HS19_, HS20_, HS21_, HS22_, HS23_⟩ (fun hHeld => ?_)
                                  clear hK K
                                  refine norm_ (a' := ?_) ?_ ?_
                                  rotate_left
                                  · show Act.put _ (some 80) _ = _
                                    simp only [Act.put, List.setIfInBounds_toArray, List.set_cons_zero, List.set_cons_succ, i64_w, i32_w]
                                    rfl
                                  refine pure_ (i := 6) (N := some 81) (v := ?_) (a' := ?_) #[true, true, true, true, true, true, true, false, false, false, false, false, false, false, false, false, false, false, false, false, false, false, false] rfl rfl (any_of HT_.out (by kernel_rfl)) (fun _ _ _ h => h) (Or.inl ⟨by rfl, ?_⟩) ?_ ?_
                                  rotate_left
                                  · intro w'
                                    go_simp
                                    with_reducible rfl
                                  rotate_left
                                  · simp only [Act.put, List.setIfInBounds_toArray, List.set_cons_zero, List.set_cons_succ, i64_w, i32_w]
                                    rfl
                                  refine pure_ (i := 7) (N := some 82) (v := ?_) (a' := ?_) #[true, true, true, true, true, true, true, true, false, false, false, false, false, false, false, false, false, false, false, false, false, false, false] rfl rfl (any_of HT_.out (by kernel_rfl)) (fun _ _ _ h => h) (Or.inl ⟨by rfl, ?_⟩) ?_ ?_
                                  rotate_left
                                  · intro w'
                                    go_simp
                                    with_reducible rfl
                                  rotate_left
                                  · simp only [Act.put, List.setIfInBounds_toArray, List.set_cons_zero, List.set_cons_succ, i64_w, i32_w]
                                    rfl
                                  refine pure_ (i := 8) (N := some 83) (v := ?_) (a' := ?_) #[true, true, true, true, true, true, true, true, true, false, false, false, false, false, false, false, false, false, false, false, false, false, false] rfl rfl (any_of HT_.out (by kernel_rfl)) (fun _ _ _ h => h) (Or.inl ⟨by rfl, ?_⟩) ?_ ?_
                                  rotate_left
                                  · intro w'
                                    go_simp
                                    with_reducible rfl
                                  rotate_left
                                  · simp only [Act.put, List.setIfInBounds_toArray, List.set_cons_zero, List.set_cons_succ, i64_w, i32_w]
                                    rfl
                                  refine pure_ (i := 9) (N := some 84) (v := ?_) (a' := ?_) #[true, true, true, true, true, true, true, true, true, true, false, false, false, false, false, false, false, false, false, false, false, false, false] rfl rfl (any_of HT_.out (by kernel_rfl)) (fun _ _ _ h => h) (Or.inl ⟨by rfl, ?_⟩) ?_ ?_
                                  rotate_left
                                  · intro w'
                                    go_simp
                                    with_reducible rfl
                                  rotate_left
                                  · simp only [Act.put, List.setIfInBounds_toArray, List.set_cons_zero, List.set_cons_succ, i64_w, i32_w]
                                    rfl
                                  refine pure_ (i := 10) (N := some 85) (v := ?_) (a' := ?_) #[true, true, true, true, true, true, true, true, true, true, true, false, false, false, false, false, false, false, false, false, false, false, false] rfl rfl (any_of HT_.out (by kernel_rfl)) (fun _ _ _ h => h) (Or.inl ⟨by rfl, ?_⟩) ?_ ?_
                                  rotate_left
                                  · intro w'
                                    go_simp
                                    with_reducible rfl
                                  rotate_left
                                  · simp only [Act.put, List.setIfInBounds_toArray, List.set_cons_zero, List.set_cons_succ, i64_w, i32_w]
                                    rfl
                                  refine pure_ (i := 13) (N := some 88) (v := ?_) (a' := ?_) #[true, true, true, true, true, true, true, true, true, true, true, false, false, true, false, false, false, false, false, false, false, false, false] rfl rfl (any_of HT_.out (by kernel_rfl)) (fun _ _ _ h => h) (Or.inl ⟨by rfl, ?_⟩) ?_ ?_
                                  rotate_left
                                  · intro w'
                                    go_simp
                                    with_reducible rfl
                                  rotate_left
                                  · simp only [Act.put, List.setIfInBounds_toArray, List.set_cons_zero, List.set_cons_succ, i64_w, i32_w]
                                    rfl
                                  refine pure_ (i := 14) (N := some 89) (v := ?_) (a' := ?_) #[true, true, true, true, true, true, true, true, true, true, true, false, false, true, true, false, false, false, false, false, false, false, false] rfl rfl (any_of HT_.out (by kernel_rfl)) (fun _ _ _ h => h) (Or.inl ⟨by rfl, ?_⟩) ?_ ?_
                                  rotate_left
                                  · intro w'
                                    go_simp
                                    with_reducible rfl
                                  rotate_left
                                  · simp only [Act.put, List.setIfInBounds_toArray, List.set_cons_zero, List.set_cons_succ, i64_w, i32_w]
                                    rfl
                                  refine pure_ (i := 15) (N := some 90) (v := ?_) (a' := ?_) #[true, true, true, true, true, true, true, true, true, true, true, false, false, true, true, true, false, false, false, false, false, false, false] rfl rfl (any_of HT_.out (by kernel_rfl)) (fun _ _ _ h => h) (Or.inl ⟨by rfl, ?_⟩) ?_ ?_
                                  rotate_left
                                  · intro w'
                                    go_simp
                                    with_reducible rfl
                                  rotate_left
                                  · simp only [Act.put, List.setIfInBounds_toArray, List.set_cons_zero, List.set_cons_succ, i64_w, i32_w]
                                    rfl
                                  refine pure_ (i := 16) (N := some 91) (v := ?_) (a' := ?_) #[true, true, true, true, true, true, true, true, true, true, true, false, false, true, true, true, true, false, false, false, false, false, false] rfl rfl (any_of HT_.out (by kernel_rfl)) (fun _ _ _ h => h) (Or.inl ⟨by rfl, ?_⟩) ?_ ?_
                                  rotate_left
                                  · intro w'
                                    go_simp
                                    with_reducible rfl
                                  rotate_left
                                  · simp only [Act.put, List.setIfInBounds_toArray, List.set_cons_zero, List.set_cons_succ, i64_w, i32_w]
                                    rfl
                                  refine pure_ (i := 19) (N := some 94) (v := ?_) (a' := ?_) #[true, true, true, true, true, true, true, true, true, true, true, false, false, true, true, true, true, false, false, true, false, false, false] rfl rfl (any_of HT_.out (by kernel_rfl)) (fun _ _ _ h => h) (Or.inl ⟨by rfl, ?_⟩) ?_ ?_
                                  rotate_left
                                  · intro w'
                                    go_simp
                                    with_reducible rfl
                                  rotate_left
                                  · simp only [Act.put, List.setIfInBounds_toArray, List.set_cons_zero, List.set_cons_succ, i64_w, i32_w]
                                    rfl
                                  refine take_ (i := 11) (N := some 86) (v := ?_) (a' := ?_) #[true, true, true, true, true, true, true, true, true, true, true, true, false, true, true, true, true, false, false, true, false, false, false] rfl rfl (take_ofW HT_.out HW_.out (by kernel_rfl)) (fun _ _ _ h => h) (Or.inl ⟨by rfl, ?_⟩) hHeld ?_ ?_
                                  rotate_left
                                  · rintro w' ⟨s0, s1, s2, s3, s4, s5, s6, s7, s8, s9, s10, s11, s12, s13, s14, s15, s16, s17, s18, s19, s20, s21, s22, s23⟩
                                    go_simp
                                    with_reducible rfl
                                  rotate_left
                                  · simp only [Act.put, List.setIfInBounds_toArray, List.set_cons_zero, List.set_cons_succ, i64_w, i32_w]
                                    rfl
                                  refine take_ (i := 17) (N := some 92) (v := ?_) (a' := ?_) #[true, true, true, true, true, true, true, true, true, true, true, true, false, true, true, true, true, true, false, true, false, false, false] rfl rfl (take_ofW HT_.out HW_.out (by kernel_rfl)) (fun _ _ _ h => h) (Or.inl ⟨by rfl, ?_⟩) hHeld ?_ ?_
                                  rotate_left
                                  · rintro w' ⟨s0, s1, s2, s3, s4, s5, s6, s7, s8, s9, s10, s11, s12, s13, s14, s15, s16, s17, s18, s19, s20, s21, s22, s23⟩
                                    go_simp
                                    with_reducible rfl
                                  rotate_left
                                  · simp only [Act.put, List.setIfInBounds_toArray, List.set_cons_zero, List.set_cons_succ, i64_w, i32_w]
                                    rfl
                                  refine one_ (i := 12) (N := some 87) #[true, true, true, true, true, true, true, true, true, true, true, true, true, true, true, true, true, true, false, true, false, false, false] rfl rfl (one_of HT_.out (by kernel_rfl)) (by decide) (fun K hK => ?_)
                                  refine goes_ Try.func80 (by kernel_rfl) rfl #[.slice (some ad526) t510.length co26, .agg #[.int .i64 ((rd_T23 t510 x9_3).f0), .int .i64 ((rd_T23 t510 x9_3).f1), .int .i64 ((rd_T23 t510 x9_3).f2), .int .i64 ((rd_T23 t510 x9_3).f3), .int .i64 ((rd_T23 t510 x9_3).f4), .string ((rd_T23 t510 x9_3).f5)]] (by rfl) rfl rfl (by (try simp only [List.map_toArray, List.map_cons, List.map_nil]); first | done | rfl | (simp only [List.length_drop, List.length_take]; rfl)) ?_
                                  with_reducible refine (hopperlaw06_count.calls kj42 _ _ t510 ((rd_T23 t510 x9_3).f0) ((rd_T23 t510 x9_3).f1) ((rd_T23 t510 x9_3).f2) ((rd_T23 t510 x9_3).f3) ((rd_T23 t510 x9_3).f4) ((rd_T23 t510 x9_3).f5) t530 _ ?side1 ?side2 A50.out).mono ?_
                                  (case side1 => repeat (first | exact (Kd.R_reads' HO_5.out).2.2 | (with_reducible refine Kd.C_alloc ?_ _) | (with_reducible refine Kd.C_drewN ?_ _) | (with_reducible refine Kd.C_drew ?_)))
                                  (case side2 => exact (Kd.R_reads' HO_5.out).2.1)
                                  rintro e w55 ⟨rfl, hb⟩
                                  have HS6_ := (hb.cell (World.block_lt_of_cell? _ _ (hHeld.2.2.2.2.2.2.1))).trans (hHeld.2.2.2.2.2.2.1)
                                  have HS7_ := (hb.cell (World.block_lt_of_cell? _ _ (hHeld.2.2.2.2.2.2.2.1))).trans (hHeld.2.2.2.2.2.2.2.1)
                                  have HS8_ := (hb.cell (World.block_lt_of_cell? _ _ (hHeld.2.2.2.2.2.2.2.2.1))).trans (hHeld.2.2.2.2.2.2.2.2.1)
                                  have HS9_ := (hb.cell (World.block_lt_of_cell? _ _ (hHeld.2.2.2.2.2.2.2.2.2.1))).trans (hHeld.2.2.2.2.2.2.2.2.2.1)
                                  have HS10_ := (hb.cell (World.block_lt_of_cell? _ _ (hHeld.2.2.2.2.2.2.2.2.2.2.1))).trans (hHeld.2.2.2.2.2.2.2.2.2.2.1)
                                  have HS11_ := (hb.cell (World.block_lt_of_cell? _ _ (hHeld.2.2.2.2.2.2.2.2.2.2.2.1))).trans (hHeld.2.2.2.2.2.2.2.2.2.2.2.1)
                                  have HS12_ := (hb.cell (World.block_lt_of_cell? _ _ (hHeld.2.2.2.2.2.2.2.2.2.2.2.2.1))).trans (hHeld.2.2.2.2.2.2.2.2.2.2.2.2.1)
                                  have HS13_ := (hb.cell (World.block_lt_of_cell? _ _ (hHeld.2.2.2.2.2.2.2.2.2.2.2.2.2.1))).trans (hHeld.2.2.2.2.2.2.2.2.2.2.2.2.2.1)
                                  have HS14_ := (hb.cell (World.block_lt_of_cell? _ _ (hHeld.2.2.2.2.2.2.2.2.2.2.2.2.2.2.1))).trans (hHeld.2.2.2.2.2.2.2.2.2.2.2.2.2.2.1)
                                  have HS15_ := (hb.cell (World.block_lt_of_cell? _ _ (hHeld.2.2.2.2.2.2.2.2.2.2.2.2.2.2.2.1))).trans (hHeld.2.2.2.2.2.2.2.2.2.2.2.2.2.2.2.1)
                                  have HS16_ := (hb.cell (World.block_lt_of_cell? _ _ (hHeld.2.2.2.2.2.2.2.2.2.2.2.2.2.2.2.2.1))).trans (hHeld.2.2.2.2.2.2.2.2.2.2.2.2.2.2.2.2.1)
                                  have HS17_ := (hb.cell (World.block_lt_of_cell? _ _ (hHeld.2.2.2.2.2.2.2.2.2.2.2.2.2.2.2.2.2.1))).trans (hHeld.2.2.2.2.2.2.2.2.2.2.2.2.2.2.2.2.2.1)
                                  have HS18_ := (hb.cell (World.block_lt_of_cell? _ _ (hHeld.2.2.2.2.2.2.2.2.2.2.2.2.2.2.2.2.2.2.1))).trans (hHeld.2.2.2.2.2.2.2.2.2.2.2.2.2.2.2.2.2.2.1)
                                  have HS19_ := (hb.cell (World.block_lt_of_cell? _ _ (hHeld.2.2.2.2.2.2.2.2.2.2.2.2.2.2.2.2.2.2.2.1))).trans (hHeld.2.2.2.2.2.2.2.2.2.2.2.2.2.2.2.2.2.2.2.1)
                                  have HS20_ := (hb.cell (World.block_lt_of_cell? _ _ (hHeld.2.2.2.2.2.2.2.2.2.2.2.2.2.2.2.2.2.2.2.2.1))).trans (hHeld.2.2.2.2.2.2.2.2.2.2.2.2.2.2.2.2.2.2.2.2.1)
                                  have HS21_ := (hb.cell (World.block_lt_of_cell? _ _ (hHeld.2.2.2.2.2.2.2.2.2.2.2.2.2.2.2.2.2.2.2.2.2.1))).trans (hHeld.2.2.2.2.2.2.2.2.2.2.2.2.2.2.2.2.2.2.2.2.2.1)
                                  have HS22_ := (hb.cell (World.block_lt_of_cell? _ _ (hHeld.2.2.2.2.2.2.2.2.2.2.2.2.2.2.2.2.2.2.2.2.2.2.1))).trans (hHeld.2.2.2.2.2.2.2.2.2.2.2.2.2.2.2.2.2.2.2.2.2.2.1)
                                  have HS23_ := (hb.cell (World.block_lt_of_cell? _ _ (hHeld.2.2.2.2.2.2.2.2.2.2.2.2.2.2.2.2.2.2.2.2.2.2.2))).trans (hHeld.2.2.2.2.2.2.2.2.2.2.2.2.2.2.2.2.2.2.2.2.2.2.2)
                                  refine ⟨_, rfl, ?_⟩
                                  have n0_ := Aside0.mk (Kd.R_below (by (with_reducible repeat (first | apply Kd.R_alloc | apply Kd.R_drewN | apply Kd.R_drew)); exact HO_5.out) hb)
                                  have n1_ := Aside0.mk (Kd.R_below (by (with_reducible repeat (first | apply Kd.R_alloc | apply Kd.R_drewN | apply Kd.R_drew)); exact HO_6.out) hb)
                                  have n2_ := Aside0.mk (blk_below (g := gb505) (o := .cells #[.int .i64 a1_0, .int .i64 a1_1, .int .i64 a1_2, .int .i64 a1_3, .int .i64 a1_4, .string a1_5] 23 (0, 0)) (by (with_reducible repeat (first | refine blk_drewN ?_ _ | refine blk_drew ?_ | refine blk_alloc ?_ _)); exact BK505.out) hb)
                                  have n3_ := Aside0.mk (blk_below (g := gb523) (o := .cells #[.int .i64 t516, .int .i64 t517, .int .i64 t518, .int .i64 t519, .int .i64 t520, .string t521] 23 (0, 0)) (by (with_reducible repeat (first | refine blk_drewN ?_ _ | refine blk_drew ?_ | refine blk_alloc ?_ _)); exact BK523.out) hb)
                                  have n4_ := Aside0.mk (below_step (by repeat (first | (with_reducible first | exact HB.out | apply below_alloc | apply pw_below_drewN | apply below_drew1 | refine below_set ?_ GE505.out | refine below_set ?_ GE523.out) | exact HB.out)) hb)
                                  clear HO_5
                                  clear HO_6
                                  clear BK505
                                  clear BK523
                                  clear HB
                                  have HO_5 := n0_
                                  have HO_6 := n1_
                                  have BK505 := n2_
                                  have BK523 := n3_
                                  have HB := n4_
                                  clear n0_ n1_ n2_ n3_ n4_
                                  (try clear hb)
                                  (try clear hb2)
                                  (try clear hk)
                                  (try clear hi)
                                  refine hK.out _ _ ⟨(blk_cell BK523.out 0).trans rfl, (blk_cell BK523.out 1).trans rfl, (blk_cell BK523.out 2).trans rfl, (blk_cell BK523.out 3).trans rfl, (blk_cell BK523.out 4).trans rfl, (blk_cell BK523.out 5).trans rfl, HS6_, HS7_, HS8_, HS9_, HS10_, HS11_, HS12_, HS13_, HS14_, HS15_, HS16_, HS17_, HS18_, HS19_, HS20_, HS21_, HS22_, HS23_⟩ (fun hHeld => ?_)
                                  clear hK K
                                  refine norm_ (a' := ?_) ?_ ?_
                                  rotate_left
                                  · show Act.put _ (some 87) _ = _
                                    simp only [Act.put, List.setIfInBounds_toArray, List.set_cons_zero, List.set_cons_succ, i64_w, i32_w]
                                    rfl
                                  refine one_ (i := 18) (N := some 93) #[true, true, true, true, true, true, true, true, true, true, true, true, true, true, true, true, true, true, true, true, false, false, false] rfl rfl (one_of HT_.out (by kernel_rfl)) (by decide) (fun K hK => ?_)
                                  refine goes_ Try.func80 (by kernel_rfl) rfl #[.slice A0 l0.length c0, .agg #[.int .i64 ((rd_T23 t510 x9_3).f0), .int .i64 ((rd_T23 t510 x9_3).f1), .int .i64 ((rd_T23 t510 x9_3).f2), .int .i64 ((rd_T23 t510 x9_3).f3), .int .i64 ((rd_T23 t510 x9_3).f4), .string ((rd_T23 t510 x9_3).f5)]] (by rfl) rfl rfl (by (try simp only [List.map_toArray, List.map_cons, List.map_nil]); first | done | rfl | (simp only [List.length_drop, List.length_take]; rfl)) ?_
                                  with_reducible refine (hopperlaw06_count.calls kj42 _ _ l0 ((rd_T23 t510 x9_3).f0) ((rd_T23 t510 x9_3).f1) ((rd_T23 t510 x9_3).f2) ((rd_T23 t510 x9_3).f3) ((rd_T23 t510 x9_3).f4) ((rd_T23 t510 x9_3).f5) t532 _ ?side1 ?side2 A51.out).mono ?_
                                  (case side1 => repeat (first | exact (Kd.C_below HR0.out HB.out) | (with_reducible refine Kd.C_alloc ?_ _) | (with_reducible refine Kd.C_drewN ?_ _) | (with_reducible refine Kd.C_drew ?_)))
                                  (case side2 => exact HC0.out)
                                  rintro e w56 ⟨rfl, hb⟩
                                  have HS6_ := (hb.cell (World.block_lt_of_cell? _ _ (hHeld.2.2.2.2.2.2.1))).trans (hHeld.2.2.2.2.2.2.1)
                                  have HS7_ := (hb.cell (World.block_lt_of_cell? _ _ (hHeld.2.2.2.2.2.2.2.1))).trans (hHeld.2.2.2.2.2.2.2.1)
                                  have HS8_ := (hb.cell (World.block_lt_of_cell? _ _ (hHeld.2.2.2.2.2.2.2.2.1))).trans (hHeld.2.2.2.2.2.2.2.2.1)
                                  have HS9_ := (hb.cell (World.block_lt_of_cell? _ _ (hHeld.2.2.2.2.2.2.2.2.2.1))).trans (hHeld.2.2.2.2.2.2.2.2.2.1)
                                  have HS10_ := (hb.cell (World.block_lt_of_cell? _ _ (hHeld.2.2.2.2.2.2.2.2.2.2.1))).trans (hHeld.2.2.2.2.2.2.2.2.2.2.1)
                                  have HS11_ := (hb.cell (World.block_lt_of_cell? _ _ (hHeld.2.2.2.2.2.2.2.2.2.2.2.1))).trans (hHeld.2.2.2.2.2.2.2.2.2.2.2.1)
                                  have HS12_ := (hb.cell (World.block_lt_of_cell? _ _ (hHeld.2.2.2.2.2.2.2.2.2.2.2.2.1))).trans (hHeld.2.2.2.2.2.2.2.2.2.2.2.2.1)
                                  have HS13_ := (hb.cell (World.block_lt_of_cell? _ _ (hHeld.2.2.2.2.2.2.2.2.2.2.2.2.2.1))).trans (hHeld.2.2.2.2.2.2.2.2.2.2.2.2.2.1)
                                  have HS14_ := (hb.cell (World.block_lt_of_cell? _ _ (hHeld.2.2.2.2.2.2.2.2.2.2.2.2.2.2.1))).trans (hHeld.2.2.2.2.2.2.2.2.2.2.2.2.2.2.1)
                                  have HS15_ := (hb.cell (World.block_lt_of_cell? _ _ (hHeld.2.2.2.2.2.2.2.2.2.2.2.2.2.2.2.1))).trans (hHeld.2.2.2.2.2.2.2.2.2.2.2.2.2.2.2.1)
                                  have HS16_ := (hb.cell (World.block_lt_of_cell? _ _ (hHeld.2.2.2.2.2.2.2.2.2.2.2.2.2.2.2.2.1))).trans (hHeld.2.2.2.2.2.2.2.2.2.2.2.2.2.2.2.2.1)
                                  have HS17_ := (hb.cell (World.block_lt_of_cell? _ _ (hHeld.2.2.2.2.2.2.2.2.2.2.2.2.2.2.2.2.2.1))).trans (hHeld.2.2.2.2.2.2.2.2.2.2.2.2.2.2.2.2.2.1)
                                  have HS18_ := (hb.cell (World.block_lt_of_cell? _ _ (hHeld.2.2.2.2.2.2.2.2.2.2.2.2.2.2.2.2.2.2.1))).trans (hHeld.2.2.2.2.2.2.2.2.2.2.2.2.2.2.2.2.2.2.1)
                                  have HS19_ := (hb.cell (World.block_lt_of_cell? _ _ (hHeld.2.2.2.2.2.2.2.2.2.2.2.2.2.2.2.2.2.2.2.1))).trans (hHeld.2.2.2.2.2.2.2.2.2.2.2.2.2.2.2.2.2.2.2.1)
                                  have HS20_ := (hb.cell (World.block_lt_of_cell? _ _ (hHeld.2.2.2.2.2.2.2.2.2.2.2.2.2.2.2.2.2.2.2.2.1))).trans (hHeld.2.2.2.2.2.2.2.2.2.2.2.2.2.2.2.2.2.2.2.2.1)
                                  have HS21_ := (hb.cell (World.block_lt_of_cell? _ _ (hHeld.2.2.2.2.2.2.2.2.2.2.2.2.2.2.2.2.2.2.2.2.2.1))).trans (hHeld.2.2.2.2.2.2.2.2.2.2.2.2.2.2.2.2.2.2.2.2.2.1)
                                  have HS22_ := (hb.cell (World.block_lt_of_cell? _ _ (hHeld.2.2.2.2.2.2.2.2.2.2.2.2.2.2.2.2.2.2.2.2.2.2.1))).trans (hHeld.2.2.2.2.2.2.2.2.2.2.2.2.2.2.2.2.2.2.2.2.2.2.1)
                                  have HS23_ := (hb.cell (World.block_lt_of_cell? _ _ (hHeld.2.2.2.2.2.2.2.2.2.2.2.2.2.2.2.2.2.2.2.2.2.2.2))).trans (hHeld.2.2.2.2.2.2.2.2.2.2.2.2.2.2.2.2.2.2.2.2.2.2.2)
                                  refine ⟨_, rfl, ?_⟩
                                  have n0_ := Aside0.mk (Kd.R_below (by (with_reducible repeat (first | apply Kd.R_alloc | apply Kd.R_drewN | apply Kd.R_drew)); exact HO_5.out) hb)
                                  have n1_ := Aside0.mk (Kd.R_below (by (with_reducible repeat (first | apply Kd.R_alloc | apply Kd.R_drewN | apply Kd.R_drew)); exact HO_6.out) hb)
                                  have n2_ := Aside0.mk (blk_below (g := gb505) (o := .cells #[.int .i64 a1_0, .int .i64 a1_1, .int .i64 a1_2, .int .i64 a1_3, .int .i64 a1_4, .string a1_5] 23 (0, 0)) (by (with_reducible repeat (first | refine blk_drewN ?_ _ | refine blk_drew ?_ | refine blk_alloc ?_ _)); exact BK505.out) hb)
                                  have n3_ := Aside0.mk (blk_below (g := gb523) (o := .cells #[.int .i64 t516, .int .i64 t517, .int .i64 t518, .int .i64 t519, .int .i64 t520, .string t521] 23 (0, 0)) (by (with_reducible repeat (first | refine blk_drewN ?_ _ | refine blk_drew ?_ | refine blk_alloc ?_ _)); exact BK523.out) hb)
                                  have n4_ := Aside0.mk (below_step (by repeat (first | (with_reducible first | exact HB.out | apply below_alloc | apply pw_below_drewN | apply below_drew1 | refine below_set ?_ GE505.out | refine below_set ?_ GE523.out) | exact HB.out)) hb)
                                  clear HO_5
                                  clear HO_6
                                  clear BK505
                                  clear BK523
                                  clear HB
                                  have HO_5 := n0_
                                  have HO_6 := n1_
                                  have BK505 := n2_
                                  have BK523 := n3_
                                  have HB := n4_
                                  clear n0_ n1_ n2_ n3_ n4_
                                  (try clear hb)
                                  (try clear hb2)
                                  (try clear hk)
                                  (try clear hi)
                                  refine hK.out _ _ ⟨(blk_cell BK523.out 0).trans rfl, (blk_cell BK523.out 1).trans rfl, (blk_cell BK523.out 2).trans rfl, (blk_cell BK523.out 3).trans rfl, (blk_cell BK523.out 4).trans rfl, (blk_cell BK523.out 5).trans rfl, HS6_, HS7_, HS8_, HS9_, HS10_, HS11_, HS12_, HS13_, HS14_, HS15_, HS16_, HS17_, HS18_, HS19_, HS20_, HS21_, HS22_, HS23_⟩ (fun hHeld => ?_)
                                  clear hK K
                                  refine norm_ (a' := ?_) ?_ ?_
                                  rotate_left
                                  · show Act.put _ (some 93) _ = _
                                    simp only [Act.put, List.setIfInBounds_toArray, List.set_cons_zero, List.set_cons_succ, i64_w, i32_w]
                                    rfl
                                  refine pure_ (i := 20) (N := some 95) (v := ?_) (a' := ?_) #[true, true, true, true, true, true, true, true, true, true, true, true, true, true, true, true, true, true, true, true, true, false, false] rfl rfl (any_of HT_.out (by kernel_rfl)) (fun _ _ _ h => h) (Or.inl ⟨by rfl, ?_⟩) ?_ ?_
                                  rotate_left
                                  · intro w'
                                    go_simp
                                    with_reducible rfl
                                  rotate_left
                                  · simp only [Act.put, List.setIfInBounds_toArray, List.set_cons_zero, List.set_cons_succ, i64_w, i32_w]
                                    rfl
                                  refine pure_ (i := 21) (N := some 96) (v := ?_) (a' := ?_) #[true, true, true, true, true, true, true, true, true, true, true, true, true, true, true, true, true, true, true, true, true, true, false] rfl rfl (any_of HT_.out (by kernel_rfl)) (fun _ _ _ h => h) (Or.inl ⟨by rfl, ?_⟩) ?_ ?_
                                  rotate_left
                                  · intro w'
                                    go_simp
                                    with_reducible rfl
                                  rotate_left
                                  · simp only [Act.put, List.setIfInBounds_toArray, List.set_cons_zero, List.set_cons_succ, i64_w, i32_w]
                                    rfl
                                  refine pure_ (i := 22) (N := some 97) (v := ?_) (a' := ?_) #[true, true, true, true, true, true, true, true, true, true, true, true, true, true, true, true, true, true, true, true, true, true, true] rfl rfl (any_of HT_.out (by kernel_rfl)) (fun _ _ _ h => h) (Or.inl ⟨by rfl, ?_⟩) ?_ ?_
                                  rotate_left
                                  · intro w'
                                    go_simp
                                    with_reducible rfl
                                  rotate_left
                                  · simp only [Act.put, List.setIfInBounds_toArray, List.set_cons_zero, List.set_cons_succ, i64_w, i32_w]
                                    rfl
                                  refine done_ (done_of HT_.out (by kernel_rfl)) ?_
                                  try go_wp2
                                  go_roundg kj42
                                  case measure => have := HJ2.out; have := HJ22.out; have := HK3.out; have := HJ42.out; omega
                                  case rel => exact ⟨(wrap64 (x9_3 + 1)), (by first | rfl | (simp; done) | (simp [*]; done)), H', ⟨by have := HJ2.out; have := HJ22.out; have := HK3.out; have := HJ42.out; omega⟩, ⟨by (with_reducible repeat (first | apply Kd.R_alloc | apply Kd.R_drewN | apply Kd.R_drew)); exact HO_5.out⟩, ⟨by (with_reducible repeat (first | apply Kd.R_alloc | apply Kd.R_drewN | apply Kd.R_drew)); exact HO_6.out⟩, ⟨by (with_reducible repeat (first | refine blk_drewN ?_ _ | refine blk_drew ?_ | refine blk_alloc ?_ _)); exact BK505.out⟩, ⟨by (with_reducible repeat (first | refine blk_drewN ?_ _ | refine blk_drew ?_ | refine blk_alloc ?_ _)); exact BK523.out⟩, ⟨by repeat (first | (with_reducible first | exact HB.out | apply below_alloc | apply pw_below_drewN | apply below_drew1 | refine below_set ?_ GE505.out | refine below_set ?_ GE523.out) | exact HB.out)⟩⟩
                                · rw [if_neg c52] at H
                                  exact absurd H (by simp)
                            · rw [if_neg c47] at H
                              exact absurd H (by simp)
                          · rw [if_neg c46] at H
                            exact absurd H (by simp)
                    · rw [if_neg c42] at H
                      exact absurd H (by simp)
                  · rw [if_neg c41] at H
                    have c41b0 : decide (x9_3 < (t510.length : Int)) = false := decide_eq_false c41
                    clear c41
                    have H' := Aside0.mk H
                    clear H
                    go_wp2
                    go_loopg [11] k3 (fun kq v11 w' => ∃ (x11_4 : Int), v11 = .int .i64 x11_4 ∧ Aside0 (hopperlaw06_HeapStays.l1 kq t510 t513 x11_4 t516 t517 t518 t519 t520 t521 = some r) ∧ Aside0 (kq ≤ k3) ∧ Aside0 (Kd.R k23 23 w' w.heap.size (fun k_ => some k_ ≠ (v514 : Value).ownBlock ∧ k_ ≠ gb505 ∧ k_ ≠ gb523) (.slice Ao26 t510.length co26) t510) ∧ Aside0 (Kd.R k23 23 w' w.heap.size (fun k_ => some k_ ≠ ((.slice Ao26 t510.length co26) : Value).ownBlock ∧ k_ ≠ gb505 ∧ k_ ≠ gb523) v514 t513) ∧ Aside0 (w'.heap[gb505]? = some (.cells #[.int .i64 a1_0, .int .i64 a1_1, .int .i64 a1_2, .int .i64 a1_3, .int .i64 a1_4, .string a1_5] 23 (0, 0))) ∧ Aside0 (w'.heap[gb523]? = some (.cells #[.int .i64 t516, .int .i64 t517, .int .i64 t518, .int .i64 t519, .int .i64 t520, .string t521] 23 (0, 0))) ∧ Aside0 (Below w.heap.size w w'))
                    case atStart => exact ⟨(0), (by first | rfl | (simp; done) | (simp [*]; done)), H', ⟨Nat.le_refl _⟩, ⟨by (with_reducible repeat (first | apply Kd.R_alloc | apply Kd.R_drewN | apply Kd.R_drew)); exact HO_5.out⟩, ⟨by (with_reducible repeat (first | apply Kd.R_alloc | apply Kd.R_drewN | apply Kd.R_drew)); exact HO_6.out⟩, ⟨by (with_reducible repeat (first | refine blk_drewN ?_ _ | refine blk_drew ?_ | refine blk_alloc ?_ _)); exact BK505.out⟩, ⟨by (with_reducible repeat (first | refine blk_drewN ?_ _ | refine blk_drew ?_ | refine blk_alloc ?_ _)); exact BK523.out⟩, ⟨by repeat (first | (with_reducible first | exact HB.out | apply below_alloc | apply pw_below_drewN | apply below_drew1 | refine below_set ?_ GE505.out | refine below_set ?_ GE523.out) | exact HB.out)⟩⟩
                    case round =>
                      clear H'
                      try clear c1
                      try clear c2
                      try clear p2
                      try clear c3
                      try clear c4
                      try clear c5
                      try clear p5
                      try clear q5
                      try clear hx5
                      try clear c6
                      try clear p6
                      try clear c7
                      try clear c8
                      try clear c18
                      try clear c29
                      try clear c32
                      try clear c33
                      try clear c35
                      try clear c36
                      try clear c36b0
                      try clear c36b1
                      try clear c40
                      try clear c41
                      try clear c41b0
                      try clear c42
                      try clear c42b0
                      try clear c45
                      try clear c45b0
                      try clear c45b1
                      try clear c45b2
                      try clear c46
                      try clear c46b0
                      try clear c47
                      try clear c47b0
                      try clear c49
                      try clear c52
                      try clear c52b0
                      try clear c52b1
                      try clear p52
                      try clear q52
                      try clear hx52
                      try clear p53
                      try clear q53
                      try clear hx53
                      try clear hcz11_0
                      try clear hcz11_1
                      try clear hcz11_2
                      try clear hcz11_3
                      try clear hcz11_4
                      try clear hcz11_5
                      try clear hcz15_0
                      try clear hcz15_1
                      try clear hcz15_2
                      try clear hcz15_3
                      try clear hcz15_4
                      try clear hcz15_5
                      try clear hcz24_0
                      try clear hcz24_1
                      try clear hcz24_2
                      try clear hcz24_3
                      try clear hcz24_4
                      try clear hcz24_5
                      try clear hcz30_0
                      try clear hcz30_1
                      try clear hcz30_2
                      try clear hcz30_3
                      try clear hcz30_4
                      try clear hcz30_5
                      try clear hfz11_0
                      try clear hfz11_1
                      try clear hfz11_2
                      try clear hfz11_3
                      try clear hfz11_4
                      try clear hfz11_5
                      try clear hfz15_0
                      try clear hfz15_1
                      try clear hfz15_2
                      try clear hfz15_3
                      try clear hfz15_4
                      try clear hfz15_5
                      try clear hfz24_0
                      try clear hfz24_1
                      try clear hfz24_2
                      try clear hfz24_3
                      try clear hfz24_4
                      try clear hfz24_5
                      try clear hfz30_0
                      try clear hfz30_1
                      try clear hfz30_2
                      try clear hfz30_3
                      try clear hfz30_4
                      try clear hfz30_5
                      try clear hx526_0
                      try clear hx526_1
                      try clear hx526_2
                      try clear hx526_3
                      try clear hx526_4
                      try clear hx526_5
                      try clear hx527_0
                      try clear hx527_1
                      try clear hx527_2
                      try clear hx527_3
                      try clear hx527_4
                      try clear hx527_5
                      try clear hx529_0
                      try clear hx529_1
                      try clear hx529_2
                      try clear hx529_3
                      try clear hx529_4
                      try clear hx529_5
                      try clear hx531_0
                      try clear hx531_1
                      try clear hx531_2
                      try clear hx531_3
                      try clear hx531_4
                      try clear hx531_5
                      try clear p2
                      try clear p5
                      try clear p526
                      try clear p527
                      try clear p529
                      try clear p531
                      try clear p6
                      try clear q5
                      try clear q526
                      try clear q527
                      try clear q529
                      try clear q531
                      obtain ⟨x11_4, rfl, HA, HK4, HO_5, HO_6, BK505, BK523, HB⟩ := hrel
                      cases gk with
                      | zero => exact absurd HA.out (by simp [hopperlaw06_HeapStays.l1])
                      | succ k4 =>
                        have H := HA.out
                        clear HA
                        simp only [hopperlaw06_HeapStays.l1] at H
                        by_cases c57 : x11_4 < (t513.length : Int)
                        · rw [if_pos c57] at H
                          have c57b0 : decide (x11_4 < (t513.length : Int)) = true := decide_eq_true c57
                          clear c57
                          by_cases c58 : 0 ≤ x11_4
                          · rw [if_pos c58] at H
                            have c58b0 : decide (0 ≤ x11_4) = true := decide_eq_true c58
                            clear c58
                            have HC59 := Aside0.mk H
                            clear H
                            obtain ⟨Ao60, co60, eo60⟩ := Kd.R_slice HO_6.out
                            subst eo60
                            try go_wp2
                            have n0_ := Aside0.mk (Kd.R_drew HO_5.out)
                            have n1_ := Aside0.mk (Kd.R_drew HO_6.out)
                            have n2_ := Aside0.mk (blk_drew BK505.out)
                            have n3_ := Aside0.mk (blk_drew BK523.out)
                            have n4_ := Aside0.mk (below_drew1 HB.out)
                            clear HO_5
                            clear HO_6
                            clear BK505
                            clear BK523
                            clear HB
                            have HO_5 := n0_
                            have HO_6 := n1_
                            have BK505 := n2_
                            have BK523 := n3_
                            have HB := n4_
                            clear n0_ n1_ n2_ n3_ n4_
                            have p534 : 0 ≤ (x11_4 : Int) := of_decide_eq_true (by first | (with_reducible assumption) | assumption)
                            have q534 : x11_4 < (t513.length : Int) := of_decide_eq_true (by first | (with_reducible assumption) | assumption)
                            obtain ⟨ad534, e534, hx534_0, hx534_1, hx534_2, hx534_3, hx534_4, hx534_5⟩ := at_T23 (Kd.R_reads' HO_6.out).2.2 x11_4 p534 q534
                            cases e534
                            replace p534 := eq_true p534
                            replace q534 := eq_true q534
                            refine start_ (n := 6) (S := fun w' => w'.cell? ⟨gb523, 0, none⟩ = some (.int .i64 t516) ∧ w'.cell? ⟨gb523, 1, none⟩ = some (.int .i64 t517) ∧ w'.cell? ⟨gb523, 2, none⟩ = some (.int .i64 t518) ∧ w'.cell? ⟨gb523, 3, none⟩ = some (.int .i64 t519) ∧ w'.cell? ⟨gb523, 4, none⟩ = some (.int .i64 t520) ∧ w'.cell? ⟨gb523, 5, none⟩ = some (.string t521) ∧ w'.cell? (ad534.add ((x11_4).toNat * 6)) = some (.int .i64 ((rd_T23 t513 x11_4).f0)) ∧ w'.cell? ⟨(ad534.add ((x11_4).toNat * 6)).block, (ad534.add ((x11_4).toNat * 6)).off + 1, none⟩ = some (.int .i64 ((rd_T23 t513 x11_4).f1)) ∧ w'.cell? ⟨(ad534.add ((x11_4).toNat * 6)).block, (ad534.add ((x11_4).toNat * 6)).off + 2, none⟩ = some (.int .i64 ((rd_T23 t513 x11_4).f2)) ∧ w'.cell? ⟨(ad534.add ((x11_4).toNat * 6)).block, (ad534.add ((x11_4).toNat * 6)).off + 3, none⟩ = some (.int .i64 ((rd_T23 t513 x11_4).f3)) ∧ w'.cell? ⟨(ad534.add ((x11_4).toNat * 6)).block, (ad534.add ((x11_4).toNat * 6)).off + 4, none⟩ = some (.int .i64 ((rd_T23 t513 x11_4).f4)) ∧ w'.cell? ⟨(ad534.add ((x11_4).toNat * 6)).block, (ad534.add ((x11_4).toNat * 6)).off + 5, none⟩ = some (.string ((rd_T23 t513 x11_4).f5))) (ds := []) #[false, false, false, false, false, false] (by kernel_rfl) rfl rfl ⟨(blk_cell BK523.out 0).trans rfl, (blk_cell BK523.out 1).trans rfl, (blk_cell BK523.out 2).trans rfl, (blk_cell BK523.out 3).trans rfl, (blk_cell BK523.out 4).trans rfl, (blk_cell BK523.out 5).trans rfl, hx534_0, hx534_1, hx534_2, hx534_3, hx534_4, hx534_5⟩ (fun hHeld => ?_)
                            generalize wr.drew = w61 at HO_5 HO_6 BK505 BK523 HB hx534_0 hx534_1 hx534_2 hx534_3 hx534_4 hx534_5 hHeld ⊢
                            refine pure_ (i := 0) (N := some 104) (v := ?_) (a' := ?_) #[true, false, false, false, false, false] rfl rfl (by kernel_rfl) (fun _ _ _ h => h) (Or.inl ⟨by rfl, ?_⟩) ?_ ?_
                            rotate_left
                            · intro w'
                              go_simp
                              with_reducible rfl
                            rotate_left
                            · simp only [Act.put, List.setIfInBounds_toArray, List.set_cons_zero, List.set_cons_succ, i64_w, i32_w]
                              rfl
                            refine pure_ (i := 1) (N := some 105) (v := ?_) (a' := ?_) #[true, true, false, false, false, false] rfl rfl (by kernel_rfl) (fun _ _ _ h => h) (Or.inl ⟨by rfl, ?_⟩) ?_ ?_
                            rotate_left
                            · intro w'
                              go_simp
                              with_reducible rfl
                            rotate_left
                            · simp only [Act.put, List.setIfInBounds_toArray, List.set_cons_zero, List.set_cons_succ, i64_w, i32_w]
                              rfl
                            refine pure_ (i := 2) (N := some 106) (v := ?_) (a' := ?_) #[true, true, true, false, false, false] rfl rfl (by kernel_rfl) (fun _ _ _ h => h) (Or.inl ⟨by rfl, ?_⟩) ?_ ?_
                            rotate_left
                            · intro w'
                              go_simp
                              with_reducible rfl
                            rotate_left
                            · simp only [Act.put, List.setIfInBounds_toArray, List.set_cons_zero, List.set_cons_succ, i64_w, i32_w]
                              rfl
                            refine take_ (i := 3) (N := some 107) (v := ?_) (a' := ?_) #[true, true, true, true, false, false] rfl rfl (by kernel_rfl) (fun _ _ _ h => h) (Or.inl ⟨by rfl, ?_⟩) hHeld ?_ ?_
                            rotate_left
                            · rintro w' ⟨s0, s1, s2, s3, s4, s5, s6, s7, s8, s9, s10, s11⟩
                              go_simp
                              with_reducible rfl
                            rotate_left
                            · simp only [Act.put, List.setIfInBounds_toArray, List.set_cons_zero, List.set_cons_succ, i64_w, i32_w]
                              rfl
                            refine take_ (i := 4) (N := some 108) (v := ?_) (a' := ?_) #[true, true, true, true, true, false] rfl rfl (by kernel_rfl) (fun _ _ _ h => h) (Or.inl ⟨by rfl, ?_⟩) hHeld ?_ ?_
                            rotate_left
                            · rintro w' ⟨s0, s1, s2, s3, s4, s5, s6, s7, s8, s9, s10, s11⟩
                              go_simp
                              with_reducible rfl
                            rotate_left
                            · simp only [Act.put, List.setIfInBounds_toArray, List.set_cons_zero, List.set_cons_succ, i64_w, i32_w]
                              rfl
                            refine pure_ (i := 5) (N := some 109) (v := ?_) (a' := ?_) #[true, true, true, true, true, true] rfl rfl (by kernel_rfl) (fun _ _ _ h => h) (Or.inl ⟨by rfl, ?_⟩) ?_ ?_
                            rotate_left
                            · intro w'
                              go_simp
                              with_reducible rfl
                            rotate_left
                            · simp only [Act.put, List.setIfInBounds_toArray, List.set_cons_zero, List.set_cons_succ, i64_w, i32_w]
                              rfl
                            refine done_ (by kernel_rfl) ?_
                            go_upto_if 109 with (fail)
                            go_cut [12] (fun v12 wc => ∃ (kq : Nat) (x12_58 : Int), v12 = .int .i64 x12_58 ∧ Aside0 (hopperlaw06_HeapStays.j5 kq t510 t513 x11_4 x12_58 t516 t517 t518 t519 t520 t521 = some r) ∧ Aside0 (kq ≤ k4) ∧ Aside0 (Kd.R k23 23 wc w.heap.size (fun k_ => some k_ ≠ ((.slice (some ad534) t513.length co60) : Value).ownBlock ∧ k_ ≠ gb505 ∧ k_ ≠ gb523) (.slice Ao26 t510.length co26) t510) ∧ Aside0 (Kd.R k23 23 wc w.heap.size (fun k_ => some k_ ≠ ((.slice Ao26 t510.length co26) : Value).ownBlock ∧ k_ ≠ gb505 ∧ k_ ≠ gb523) (.slice (some ad534) t513.length co60) t513) ∧ Aside0 (wc.heap[gb505]? = some (.cells #[.int .i64 a1_0, .int .i64 a1_1, .int .i64 a1_2, .int .i64 a1_3, .int .i64 a1_4, .string a1_5] 23 (0, 0))) ∧ Aside0 (wc.heap[gb523]? = some (.cells #[.int .i64 t516, .int .i64 t517, .int .i64 t518, .int .i64 t519, .int .i64 t520, .string t521] 23 (0, 0))) ∧ Aside0 (Below w.heap.size w wc))
                            case first =>
                              have H := HC59.out
                              clear HC59
                              by_cases c62 : (((rd_T23 t513 x11_4).f0) == t516 && (((rd_T23 t513 x11_4).f1) == t517 && (((rd_T23 t513 x11_4).f2) == t518 && (((rd_T23 t513 x11_4).f3) == t519 && (((rd_T23 t513 x11_4).f4) == t520 && ((((rd_T23 t513 x11_4).f5).toList) == t521.toList)))))) = true
                              · rw [if_pos c62] at H
                                have c62b0 : (((rd_T23 t513 x11_4).f0) == t516 && (((rd_T23 t513 x11_4).f1) == t517 && (((rd_T23 t513 x11_4).f2) == t518 && (((rd_T23 t513 x11_4).f3) == t519 && (((rd_T23 t513 x11_4).f4) == t520 && ((((rd_T23 t513 x11_4).f5).toList) == t521.toList)))))) = true := c62
                                (try (have c62b1 : decide (((rd_T23 t513 x11_4).f0) = t516 && (((rd_T23 t513 x11_4).f1) == t517 && (((rd_T23 t513 x11_4).f2) == t518 && (((rd_T23 t513 x11_4).f3) == t519 && (((rd_T23 t513 x11_4).f4) == t520 && ((((rd_T23 t513 x11_4).f5).toList) == t521.toList)))))) = true := by simpa using c62))
                                (try (have c62b2 : (((rd_T23 t513 x11_4).f0) == t516 && (((rd_T23 t513 x11_4).f1) == t517 && (((rd_T23 t513 x11_4).f2) == t518 && (((rd_T23 t513 x11_4).f3) == t519 && (((rd_T23 t513 x11_4).f4) == t520 && ((((rd_T23 t513 x11_4).f5).toList) == t521.toList)))))) = true := by simpa using c62))
                                clear c62
                                (first | rw [c62b0] | (simp only [i64_w, i32_w]; rw [c62b0]) | skip)
                                have H' := Aside0.mk H
                                clear H
                                go_wp2
                                go_meet
                                case rel => exact ⟨_, (1), (by first | rfl | (simp; done) | (simp [*]; done)), H', ⟨by have := HJ2.out; have := HJ22.out; have := HK3.out; have := HK4.out; first | omega | exact Nat.le_refl _⟩, ⟨by (with_reducible repeat (first | apply Kd.R_alloc | apply Kd.R_drewN | apply Kd.R_drew)); exact HO_5.out⟩, ⟨by (with_reducible repeat (first | apply Kd.R_alloc | apply Kd.R_drewN | apply Kd.R_drew)); exact HO_6.out⟩, ⟨by (with_reducible repeat (first | refine blk_drewN ?_ _ | refine blk_drew ?_ | refine blk_alloc ?_ _)); exact BK505.out⟩, ⟨by (with_reducible repeat (first | refine blk_drewN ?_ _ | refine blk_drew ?_ | refine blk_alloc ?_ _)); exact BK523.out⟩, ⟨by repeat (first | (with_reducible first | exact HB.out | apply below_alloc | apply pw_below_drewN | apply below_drew1 | refine below_set ?_ GE505.out | refine below_set ?_ GE523.out) | exact HB.out)⟩⟩
                              · rw [if_neg c62] at H
                                have c62b0 : (((rd_T23 t513 x11_4).f0) == t516 && (((rd_T23 t513 x11_4).f1) == t517 && (((rd_T23 t513 x11_4).f2) == t518 && (((rd_T23 t513 x11_4).f3) == t519 && (((rd_T23 t513 x11_4).f4) == t520 && ((((rd_T23 t513 x11_4).f5).toList) == t521.toList)))))) = false := by simpa using c62
                                (try (have c62b1 : decide (((rd_T23 t513 x11_4).f0) = t516 && (((rd_T23 t513 x11_4).f1) == t517 && (((rd_T23 t513 x11_4).f2) == t518 && (((rd_T23 t513 x11_4).f3) == t519 && (((rd_T23 t513 x11_4).f4) == t520 && ((((rd_T23 t513 x11_4).f5).toList) == t521.toList)))))) = false := by simpa using c62))
                                (try (have c62b2 : (((rd_T23 t513 x11_4).f0) == t516 && (((rd_T23 t513 x11_4).f1) == t517 && (((rd_T23 t513 x11_4).f2) == t518 && (((rd_T23 t513 x11_4).f3) == t519 && (((rd_T23 t513 x11_4).f4) == t520 && ((((rd_T23 t513 x11_4).f5).toList) == t521.toList)))))) = false := by simpa using c62))
                                (try (have c62b3 : ¬ (((rd_T23 t513 x11_4).f0) = t516 && (((rd_T23 t513 x11_4).f1) == t517 && (((rd_T23 t513 x11_4).f2) == t518 && (((rd_T23 t513 x11_4).f3) == t519 && (((rd_T23 t513 x11_4).f4) == t520 && ((((rd_T23 t513 x11_4).f5).toList) == t521.toList)))))) := by simpa using c62))
                                clear c62
                                (first | rw [c62b0] | (simp only [i64_w, i32_w]; rw [c62b0]) | skip)
                                have H' := Aside0.mk H
                                clear H
                                go_wp2
                                go_meet
                                case rel => exact ⟨_, (0), (by first | rfl | (simp; done) | (simp [*]; done)), H', ⟨by have := HJ2.out; have := HJ22.out; have := HK3.out; have := HK4.out; first | omega | exact Nat.le_refl _⟩, ⟨by (with_reducible repeat (first | apply Kd.R_alloc | apply Kd.R_drewN | apply Kd.R_drew)); exact HO_5.out⟩, ⟨by (with_reducible repeat (first | apply Kd.R_alloc | apply Kd.R_drewN | apply Kd.R_drew)); exact HO_6.out⟩, ⟨by (with_reducible repeat (first | refine blk_drewN ?_ _ | refine blk_drew ?_ | refine blk_alloc ?_ _)); exact BK505.out⟩, ⟨by (with_reducible repeat (first | refine blk_drewN ?_ _ | refine blk_drew ?_ | refine blk_alloc ?_ _)); exact BK523.out⟩, ⟨by repeat (first | (with_reducible first | exact HB.out | apply below_alloc | apply pw_below_drewN | apply below_drew1 | refine below_set ?_ GE505.out | refine below_set ?_ GE523.out) | exact HB.out)⟩⟩
                            case rest =>
                              clear HC59
                              try clear c1
                              try clear c2
                              try clear p2
                              try clear c3
                              try clear c4
                              try clear c5
                              try clear p5
                              try clear q5
                              try clear hx5
                              try clear c6
                              try clear p6
                              try clear c7
                              try clear c8
                              try clear c18
                              try clear c29
                              try clear c32
                              try clear c33
                              try clear c35
                              try clear c36
                              try clear c36b0
                              try clear c36b1
                              try clear c40
                              try clear c41
                              try clear c41b0
                              try clear c42
                              try clear c42b0
                              try clear c45
                              try clear c45b0
                              try clear c45b1
                              try clear c45b2
                              try clear c46
                              try clear c46b0
                              try clear c47
                              try clear c47b0
                              try clear c49
                              try clear c52
                              try clear c52b0
                              try clear c52b1
                              try clear p52
                              try clear q52
                              try clear hx52
                              try clear p53
                              try clear q53
                              try clear hx53
                              try clear c57
                              try clear c57b0
                              try clear c58
                              try clear c58b0
                              try clear c62
                              try clear c62b0
                              try clear c62b1
                              try clear c62b2
                              try clear hcz11_0
                              try clear hcz11_1
                              try clear hcz11_2
                              try clear hcz11_3
                              try clear hcz11_4
                              try clear hcz11_5
                              try clear hcz15_0
                              try clear hcz15_1
                              try clear hcz15_2
                              try clear hcz15_3
                              try clear hcz15_4
                              try clear hcz15_5
                              try clear hcz24_0
                              try clear hcz24_1
                              try clear hcz24_2
                              try clear hcz24_3
                              try clear hcz24_4
                              try clear hcz24_5
                              try clear hcz30_0
                              try clear hcz30_1
                              try clear hcz30_2
                              try clear hcz30_3
                              try clear hcz30_4
                              try clear hcz30_5
                              try clear hfz11_0
                              try clear hfz11_1
                              try clear hfz11_2
                              try clear hfz11_3
                              try clear hfz11_4
                              try clear hfz11_5
                              try clear hfz15_0
                              try clear hfz15_1
                              try clear hfz15_2
                              try clear hfz15_3
                              try clear hfz15_4
                              try clear hfz15_5
                              try clear hfz24_0
                              try clear hfz24_1
                              try clear hfz24_2
                              try clear hfz24_3
                              try clear hfz24_4
                              try clear hfz24_5
                              try clear hfz30_0
                              try clear hfz30_1
                              try clear hfz30_2
                              try clear hfz30_3
                              try clear hfz30_4
                              try clear hfz30_5
                              try clear hx526_0
                              try clear hx526_1
                              try clear hx526_2
                              try clear hx526_3
                              try clear hx526_4
                              try clear hx526_5
                              try clear hx527_0
                              try clear hx527_1
                              try clear hx527_2
                              try clear hx527_3
                              try clear hx527_4
                              try clear hx527_5
                              try clear hx529_0
                              try clear hx529_1
                              try clear hx529_2
                              try clear hx529_3
                              try clear hx529_4
                              try clear hx529_5
                              try clear hx531_0
                              try clear hx531_1
                              try clear hx531_2
                              try clear hx531_3
                              try clear hx531_4
                              try clear hx531_5
                              try clear hx534_0
                              try clear hx534_1
                              try clear hx534_2
                              try clear hx534_3
                              try clear hx534_4
                              try clear hx534_5
                              try clear p2
                              try clear p5
                              try clear p52
                              try clear p526
                              try clear p527
                              try clear p529
                              try clear p53
                              try clear p531
                              try clear p534
                              try clear p6
                              try clear q5
                              try clear q52
                              try clear q526
                              try clear q527
                              try clear q529
                              try clear q53
                              try clear q531
                              try clear q534
                              obtain ⟨kq, x12_58, rfl, HA, HJ58, HO_5, HO_6, BK505, BK523, HB⟩ := hcut
                              cases kq with
                              | zero => exact absurd HA.out (by simp [hopperlaw06_HeapStays.j5])
                              | succ kj58 =>
                                have H := HA.out
                                clear HA
                                simp only [hopperlaw06_HeapStays.j5] at H
                                by_cases c63 : 0 ≤ x11_4
                                · rw [if_pos c63] at H
                                  have c63b0 : decide (0 ≤ x11_4) = true := decide_eq_true c63
                                  clear c63
                                  by_cases c64 : x11_4 < (t513.length : Int)
                                  · rw [if_pos c64] at H
                                    have c64b0 : decide (x11_4 < (t513.length : Int)) = true := decide_eq_true c64
                                    clear c64
                                    replace H := Option.bind_eq_some_iff.mp H
                                    obtain ⟨t536, A650, H⟩ := H
                                    replace H : ((hopperlaw06_count.f kj58 t510 ((rd_T23 t513 x11_4).f0) ((rd_T23 t513 x11_4).f1) ((rd_T23 t513 x11_4).f2) ((rd_T23 t513 x11_4).f3) ((rd_T23 t513 x11_4).f4) ((rd_T23 t513 x11_4).f5)).bind fun t538 => (if t536 = (wrap64 (t538 - x12_58)) then (hopperlaw06_HeapStays.l1 kj58 t510 t513 (wrap64 (x11_4 + 1)) t516 t517 t518 t519 t520 t521) else (none))) = some r := H
                                    have A65 := Aside0.mk A650
                                    clear A650
                                    replace H := Option.bind_eq_some_iff.mp H
                                    obtain ⟨t538, A660, H⟩ := H
                                    replace H : (if t536 = (wrap64 (t538 - x12_58)) then (hopperlaw06_HeapStays.l1 kj58 t510 t513 (wrap64 (x11_4 + 1)) t516 t517 t518 t519 t520 t521) else (none)) = some r := H
                                    have A66 := Aside0.mk A660
                                    clear A660
                                    by_cases c67 : t536 = (wrap64 (t538 - x12_58))
                                    · rw [if_pos c67] at H
                                      have c67b0 : (t536 == (wrap64 (t538 - x12_58))) = true := beq_iff_eq.mpr c67
                                      have c67b1 : (t536 != (wrap64 (t538 - x12_58))) = false := bne_eq_false_iff_eq.mpr c67
                                      clear c67
                                      have H' := Aside0.mk H
                                      clear H
                                      try go_wp2
                                      have n0_ := Aside0.mk (Kd.R_drew HO_5.out)
                                      have n1_ := Aside0.mk (Kd.R_drew HO_6.out)
                                      have n2_ := Aside0.mk (blk_drew BK505.out)
                                      have n3_ := Aside0.mk (blk_drew BK523.out)
                                      have n4_ := Aside0.mk (below_drew1 HB.out)
                                      clear HO_5
                                      clear HO_6
                                      clear BK505
                                      clear BK523
                                      clear HB
                                      have HO_5 := n0_
                                      have HO_6 := n1_
                                      have BK505 := n2_
                                      have BK523 := n3_
                                      have HB := n4_
                                      clear n0_ n1_ n2_ n3_ n4_
                                      have p535 : 0 ≤ (x11_4 : Int) := of_decide_eq_true (by first | (with_reducible assumption) | assumption)
                                      have q535 : x11_4 < (t513.length : Int) := of_decide_eq_true (by first | (with_reducible assumption) | assumption)
                                      obtain ⟨ad535, e535, hx535_0, hx535_1, hx535_2, hx535_3, hx535_4, hx535_5⟩ := at_T23 (Kd.R_reads' HO_6.out).2.2 x11_4 p535 q535
                                      obtain rfl : ad534 = ad535 := (by injection e535)
                                      replace p535 := eq_true p535
                                      replace q535 := eq_true q535
                                      have p537 : 0 ≤ (x11_4 : Int) := of_decide_eq_true (by first | (with_reducible assumption) | assumption)
                                      have q537 : x11_4 < (t513.length : Int) := of_decide_eq_true (by first | (with_reducible assumption) | assumption)
                                      obtain ⟨ad537, e537, hx537_0, hx537_1, hx537_2, hx537_3, hx537_4, hx537_5⟩ := at_T23 (Kd.R_reads' HO_6.out).2.2 x11_4 p537 q537
                                      obtain rfl : ad534 = ad537 := (by injection e537)
                                      replace p537 := eq_true p537
                                      replace q537 := eq_true q537
                                      refine start_ (n := 15) (S := fun w' => w'.cell? (ad534.add ((x11_4).toNat * 6)) = some (.int .i64 ((rd_T23 t513 x11_4).f0)) ∧ w'.cell? ⟨(ad534.add ((x11_4).toNat * 6)).block, (ad534.add ((x11_4).toNat * 6)).off + 1, none⟩ = some (.int .i64 ((rd_T23 t513 x11_4).f1)) ∧ w'.cell? ⟨(ad534.add ((x11_4).toNat * 6)).block, (ad534.add ((x11_4).toNat * 6)).off + 2, none⟩ = some (.int .i64 ((rd_T23 t513 x11_4).f2)) ∧ w'.cell? ⟨(ad534.add ((x11_4).toNat * 6)).block, (ad534.add ((x11_4).toNat * 6)).off + 3, none⟩ = some (.int .i64 ((rd_T23 t513 x11_4).f3)) ∧ w'.cell? ⟨(ad534.add ((x11_4).toNat * 6)).block, (ad534.add ((x11_4).toNat * 6)).off + 4, none⟩ = some (.int .i64 ((rd_T23 t513 x11_4).f4)) ∧ w'.cell? ⟨(ad534.add ((x11_4).toNat * 6)).block, (ad534.add ((x11_4).toNat * 6)).off + 5, none⟩ = some (.string ((rd_T23 t513 x11_4).f5)) ∧ w'.cell? (ad534.add ((x11_4).toNat * 6)) = some (.int .i64 ((rd_T23 t513 x11_4).f0)) ∧ w'.cell? ⟨(ad534.add ((x11_4).toNat * 6)).block, (ad534.add ((x11_4).toNat * 6)).off + 1, none⟩ = some (.int .i64 ((rd_T23 t513 x11_4).f1)) ∧ w'.cell? ⟨(ad534.add ((x11_4).toNat * 6)).block, (ad534.add ((x11_4).toNat * 6)).off + 2, none⟩ = some (.int .i64 ((rd_T23 t513 x11_4).f2)) ∧ w'.cell? ⟨(ad534.add ((x11_4).toNat * 6)).block, (ad534.add ((x11_4).toNat * 6)).off + 3, none⟩ = some (.int .i64 ((rd_T23 t513 x11_4).f3)) ∧ w'.cell? ⟨(ad534.add ((x11_4).toNat * 6)).block, (ad534.add ((x11_4).toNat * 6)).off + 4, none⟩ = some (.int .i64 ((rd_T23 t513 x11_4).f4)) ∧ w'.cell? ⟨(ad534.add ((x11_4).toNat * 6)).block, (ad534.add ((x11_4).toNat * 6)).off + 5, none⟩ = some (.string ((rd_T23 t513 x11_4).f5))) (ds := []) #[false, false, false, false, false, false, false, false, false, false, false, false, false, false, false] (by kernel_rfl) rfl rfl ⟨hx535_0, hx535_1, hx535_2, hx535_3, hx535_4, hx535_5, hx537_0, hx537_1, hx537_2, hx537_3, hx537_4, hx537_5⟩ (fun hHeld => ?_); refine with_tabW hopperlaw06_HeapStays.tab21 hopperlaw06_HeapStays.bits21 (fun HT_ HW_ => ?_)
                                      generalize wc.drew = w68 at HO_5 HO_6 BK505 BK523 HB hx535_0 hx535_1 hx535_2 hx535_3 hx535_4 hx535_5 hx537_0 hx537_1 hx537_2 hx537_3 hx537_4 hx537_5 hHeld ⊢
                                      refine pure_ (i := 0) (N := some 110) (v := ?_) (a' := ?_) #[true, false, false, false, false, false, false, false, false, false, false, false, false, false, false] rfl rfl (any_of HT_.out (by kernel_rfl)) (fun _ _ _ h => h) (Or.inl ⟨by rfl, ?_⟩) ?_ ?_
                                      rotate_left
                                      · intro w'
                                        go_simp
                                        with_reducible rfl
                                      rotate_left
                                      · simp only [Act.put, List.setIfInBounds_toArray, List.set_cons_zero, List.set_cons_succ, i64_w, i32_w]
                                        rfl
                                      refine pure_ (i := 1) (N := some 111) (v := ?_) (a' := ?_) #[true, true, false, false, false, false, false, false, false, false, false, false, false, false, false] rfl rfl (any_of HT_.out (by kernel_rfl)) (fun _ _ _ h => h) (Or.inl ⟨by rfl, ?_⟩) ?_ ?_
                                      rotate_left
                                      · intro w'
                                        go_simp
                                        with_reducible rfl
                                      rotate_left
                                      · simp only [Act.put, List.setIfInBounds_toArray, List.set_cons_zero, List.set_cons_succ, i64_w, i32_w]
                                        rfl
                                      refine pure_ (i := 2) (N := some 112) (v := ?_) (a' := ?_) #[true, true, true, false, false, false, false, false, false, false, false, false, false, false, false] rfl rfl (any_of HT_.out (by kernel_rfl)) (fun _ _ _ h => h) (Or.inl ⟨by rfl, ?_⟩) ?_ ?_
                                      rotate_left
                                      · intro w'
                                        go_simp
                                        with_reducible rfl
                                      rotate_left
                                      · simp only [Act.put, List.setIfInBounds_toArray, List.set_cons_zero, List.set_cons_succ, i64_w, i32_w]
                                        rfl
                                      refine pure_ (i := 3) (N := some 113) (v := ?_) (a' := ?_) #[true, true, true, true, false, false, false, false, false, false, false, false, false, false, false] rfl rfl (any_of HT_.out (by kernel_rfl)) (fun _ _ _ h => h) (Or.inl ⟨by rfl, ?_⟩) ?_ ?_
                                      rotate_left
                                      · intro w'
                                        go_simp
                                        with_reducible rfl
                                      rotate_left
                                      · simp only [Act.put, List.setIfInBounds_toArray, List.set_cons_zero, List.set_cons_succ, i64_w, i32_w]
                                        rfl
                                      refine pure_ (i := 6) (N := some 116) (v := ?_) (a' := ?_) #[true, true, true, true, false, false, true, false, false, false, false, false, false, false, false] rfl rfl (any_of HT_.out (by kernel_rfl)) (fun _ _ _ h => h) (Or.inl ⟨by rfl, ?_⟩) ?_ ?_
                                      rotate_left
                                      · intro w'
                                        go_simp
                                        with_reducible rfl
                                      rotate_left
                                      · simp only [Act.put, List.setIfInBounds_toArray, List.set_cons_zero, List.set_cons_succ, i64_w, i32_w]
                                        rfl
                                      refine pure_ (i := 7) (N := some 117) (v := ?_) (a' := ?_) #[true, true, true, true, false, false, true, true, false, false, false, false, false, false, false] rfl rfl (any_of HT_.out (by kernel_rfl)) (fun _ _ _ h => h) (Or.inl ⟨by rfl, ?_⟩) ?_ ?_
                                      rotate_left
                                      · intro w'
                                        go_simp
                                        with_reducible rfl
                                      rotate_left
                                      · simp only [Act.put, List.setIfInBounds_toArray, List.set_cons_zero, List.set_cons_succ, i64_w, i32_w]
                                        rfl
                                      refine pure_ (i := 8) (N := some 118) (v := ?_) (a' := ?_) #[true, true, true, true, false, false, true, true, true, false, false, false, false, false, false] rfl rfl (any_of HT_.out (by kernel_rfl)) (fun _ _ _ h => h) (Or.inl ⟨by rfl, ?_⟩) ?_ ?_
                                      rotate_left
                                      · intro w'
                                        go_simp
                                        with_reducible rfl
                                      rotate_left
                                      · simp only [Act.put, List.setIfInBounds_toArray, List.set_cons_zero, List.set_cons_succ, i64_w, i32_w]
                                        rfl
                                      refine pure_ (i := 9) (N := some 119) (v := ?_) (a' := ?_) #[true, true, true, true, false, false, true, true, true, true, false, false, false, false, false] rfl rfl (any_of HT_.out (by kernel_rfl)) (fun _ _ _ h => h) (Or.inl ⟨by rfl, ?_⟩) ?_ ?_
                                      rotate_left
                                      · intro w'
                                        go_simp
                                        with_reducible rfl
                                      rotate_left
                                      · simp only [Act.put, List.setIfInBounds_toArray, List.set_cons_zero, List.set_cons_succ, i64_w, i32_w]
                                        rfl
                                      refine pure_ (i := 12) (N := some 122) (v := ?_) (a' := ?_) #[true, true, true, true, false, false, true, true, true, true, false, false, true, false, false] rfl rfl (any_of HT_.out (by kernel_rfl)) (fun _ _ _ h => h) (Or.inl ⟨by rfl, ?_⟩) ?_ ?_
                                      rotate_left
                                      · intro w'
                                        go_simp
                                        with_reducible rfl
                                      rotate_left
                                      · simp only [Act.put, List.setIfInBounds_toArray, List.set_cons_zero, List.set_cons_succ, i64_w, i32_w]
                                        rfl
                                      refine take_ (i := 4) (N := some 114) (v := ?_) (a' := ?_) #[true, true, true, true, true, false, true, true, true, true, false, false, true, false, false] rfl rfl (take_ofW HT_.out HW_.out (by kernel_rfl)) (fun _ _ _ h => h) (Or.inl ⟨by rfl, ?_⟩) hHeld ?_ ?_
                                      rotate_left
                                      · rintro w' ⟨s0, s1, s2, s3, s4, s5, s6, s7, s8, s9, s10, s11⟩
                                        go_simp
                                        with_reducible rfl
                                      rotate_left
                                      · simp only [Act.put, List.setIfInBounds_toArray, List.set_cons_zero, List.set_cons_succ, i64_w, i32_w]
                                        rfl
                                      refine take_ (i := 10) (N := some 120) (v := ?_) (a' := ?_) #[true, true, true, true, true, false, true, true, true, true, true, false, true, false, false] rfl rfl (take_ofW HT_.out HW_.out (by kernel_rfl)) (fun _ _ _ h => h) (Or.inl ⟨by rfl, ?_⟩) hHeld ?_ ?_
                                      rotate_left
                                      · rintro w' ⟨s0, s1, s2, s3, s4, s5, s6, s7, s8, s9, s10, s11⟩
                                        go_simp
                                        with_reducible rfl
                                      rotate_left
                                      · simp only [Act.put, List.setIfInBounds_toArray, List.set_cons_zero, List.set_cons_succ, i64_w, i32_w]
                                        rfl
                                      refine one_ (i := 5) (N := some 115) #[true, true, true, true, true, true, true, true, true, true, true, false, true, false, false] rfl rfl (one_of HT_.out (by kernel_rfl)) (by decide) (fun K hK => ?_)
                                      refine goes_ Try.func80 (by kernel_rfl) rfl #[.slice (some ad534) t513.length co60, .agg #[.int .i64 ((rd_T23 t513 x11_4).f0), .int .i64 ((rd_T23 t513 x11_4).f1), .int .i64 ((rd_T23 t513 x11_4).f2), .int .i64 ((rd_T23 t513 x11_4).f3), .int .i64 ((rd_T23 t513 x11_4).f4), .string ((rd_T23 t513 x11_4).f5)]] (by rfl) rfl rfl (by (try simp only [List.map_toArray, List.map_cons, List.map_nil]); first | done | rfl | (simp only [List.length_drop, List.length_take]; rfl)) ?_
                                      with_reducible refine (hopperlaw06_count.calls kj58 _ _ t513 ((rd_T23 t513 x11_4).f0) ((rd_T23 t513 x11_4).f1) ((rd_T23 t513 x11_4).f2) ((rd_T23 t513 x11_4).f3) ((rd_T23 t513 x11_4).f4) ((rd_T23 t513 x11_4).f5) t536 _ ?side1 ?side2 A65.out).mono ?_
                                      (case side1 => repeat (first | exact (Kd.R_reads' HO_6.out).2.2 | (with_reducible refine Kd.C_alloc ?_ _) | (with_reducible refine Kd.C_drewN ?_ _) | (with_reducible refine Kd.C_drew ?_)))
                                      (case side2 => exact (Kd.R_reads' HO_6.out).2.1)
                                      rintro e w69 ⟨rfl, hb⟩
                                      have HS0_ := (hb.cell (World.block_lt_of_cell? _ _ (hHeld.1))).trans (hHeld.1)
                                      have HS1_ := (hb.cell (World.block_lt_of_cell? _ _ (hHeld.2.1))).trans (hHeld.2.1)
                                      have HS2_ := (hb.cell (World.block_lt_of_cell? _ _ (hHeld.2.2.1))).trans (hHeld.2.2.1)
                                      have HS3_ := (hb.cell (World.block_lt_of_cell? _ _ (hHeld.2.2.2.1))).trans (hHeld.2.2.2.1)
                                      have HS4_ := (hb.cell (World.block_lt_of_cell? _ _ (hHeld.2.2.2.2.1))).trans (hHeld.2.2.2.2.1)
                                      have HS5_ := (hb.cell (World.block_lt_of_cell? _ _ (hHeld.2.2.2.2.2.1))).trans (hHeld.2.2.2.2.2.1)
                                      have HS6_ := (hb.cell (World.block_lt_of_cell? _ _ (hHeld.2.2.2.2.2.2.1))).trans (hHeld.2.2.2.2.2.2.1)
                                      have HS7_ := (hb.cell (World.block_lt_of_cell? _ _ (hHeld.2.2.2.2.2.2.2.1))).trans (hHeld.2.2.2.2.2.2.2.1)
                                      have HS8_ := (hb.cell (World.block_lt_of_cell? _ _ (hHeld.2.2.2.2.2.2.2.2.1))).trans (hHeld.2.2.2.2.2.2.2.2.1)
                                      have HS9_ := (hb.cell (World.block_lt_of_cell? _ _ (hHeld.2.2.2.2.2.2.2.2.2.1))).trans (hHeld.2.2.2.2.2.2.2.2.2.1)
                                      have HS10_ := (hb.cell (World.block_lt_of_cell? _ _ (hHeld.2.2.2.2.2.2.2.2.2.2.1))).trans (hHeld.2.2.2.2.2.2.2.2.2.2.1)
                                      have HS11_ := (hb.cell (World.block_lt_of_cell? _ _ (hHeld.2.2.2.2.2.2.2.2.2.2.2))).trans (hHeld.2.2.2.2.2.2.2.2.2.2.2)
                                      refine ⟨_, rfl, ?_⟩
                                      have n0_ := Aside0.mk (Kd.R_below (by (with_reducible repeat (first | apply Kd.R_alloc | apply Kd.R_drewN | apply Kd.R_drew)); exact HO_5.out) hb)
                                      have n1_ := Aside0.mk (Kd.R_below (by (with_reducible repeat (first | apply Kd.R_alloc | apply Kd.R_drewN | apply Kd.R_drew)); exact HO_6.out) hb)
                                      have n2_ := Aside0.mk (blk_below (g := gb505) (o := .cells #[.int .i64 a1_0, .int .i64 a1_1, .int .i64 a1_2, .int .i64 a1_3, .int .i64 a1_4, .string a1_5] 23 (0, 0)) (by (with_reducible repeat (first | refine blk_drewN ?_ _ | refine blk_drew ?_ | refine blk_alloc ?_ _)); exact BK505.out) hb)
                                      have n3_ := Aside0.mk (blk_below (g := gb523) (o := .cells #[.int .i64 t516, .int .i64 t517, .int .i64 t518, .int .i64 t519, .int .i64 t520, .string t521] 23 (0, 0)) (by (with_reducible repeat (first | refine blk_drewN ?_ _ | refine blk_drew ?_ | refine blk_alloc ?_ _)); exact BK523.out) hb)
                                      have n4_ := Aside0.mk (below_step (by repeat (first | (with_reducible first | exact HB.out | apply below_alloc | apply pw_below_drewN | apply below_drew1 | refine below_set ?_ GE505.out | refine below_set ?_ GE523.out) | exact HB.out)) hb)
                                      clear HO_5
                                      clear HO_6
                                      clear BK505
                                      clear BK523
                                      clear HB
                                      have HO_5 := n0_
                                      have HO_6 := n1_
                                      have BK505 := n2_
                                      have BK523 := n3_
                                      have HB := n4_
                                      clear n0_ n1_ n2_ n3_ n4_
                                      (try clear hb)
                                      (try clear hb2)
                                      (try clear hk)
                                      (try clear hi)
                                      refine hK.out _ _ ⟨HS0_, HS1_, HS2_, HS3_, HS4_, HS5_, HS6_, HS7_, HS8_, HS9_, HS10_, HS11_⟩ (fun hHeld => ?_)
                                      clear hK K
                                      refine norm_ (a' := ?_) ?_ ?_
                                      rotate_left
                                      · show Act.put _ (some 115) _ = _
                                        simp only [Act.put, List.setIfInBounds_toArray, List.set_cons_zero, List.set_cons_succ, i64_w, i32_w]
                                        rfl
                                      refine one_ (i := 11) (N := some 121) #[true, true, true, true, true, true, true, true, true, true, true, true, true, false, false] rfl rfl (one_of HT_.out (by kernel_rfl)) (by decide) (fun K hK => ?_)
                                      refine goes_ Try.func80 (by kernel_rfl) rfl #[.slice Ao26 t510.length co26, .agg #[.int .i64 ((rd_T23 t513 x11_4).f0), .int .i64 ((rd_T23 t513 x11_4).f1), .int .i64 ((rd_T23 t513 x11_4).f2), .int .i64 ((rd_T23 t513 x11_4).f3), .int .i64 ((rd_T23 t513 x11_4).f4), .string ((rd_T23 t513 x11_4).f5)]] (by rfl) rfl rfl (by (try simp only [List.map_toArray, List.map_cons, List.map_nil]); first | done | rfl | (simp only [List.length_drop, List.length_take]; rfl)) ?_
                                      with_reducible refine (hopperlaw06_count.calls kj58 _ _ t510 ((rd_T23 t513 x11_4).f0) ((rd_T23 t513 x11_4).f1) ((rd_T23 t513 x11_4).f2) ((rd_T23 t513 x11_4).f3) ((rd_T23 t513 x11_4).f4) ((rd_T23 t513 x11_4).f5) t538 _ ?side1 ?side2 A66.out).mono ?_
                                      (case side1 => repeat (first | exact (Kd.R_reads' HO_5.out).2.2 | (with_reducible refine Kd.C_alloc ?_ _) | (with_reducible refine Kd.C_drewN ?_ _) | (with_reducible refine Kd.C_drew ?_)))
                                      (case side2 => exact (Kd.R_reads' HO_5.out).2.1)
                                      rintro e w70 ⟨rfl, hb⟩
                                      have HS0_ := (hb.cell (World.block_lt_of_cell? _ _ (hHeld.1))).trans (hHeld.1)
                                      have HS1_ := (hb.cell (World.block_lt_of_cell? _ _ (hHeld.2.1))).trans (hHeld.2.1)
                                      have HS2_ := (hb.cell (World.block_lt_of_cell? _ _ (hHeld.2.2.1))).trans (hHeld.2.2.1)
                                      have HS3_ := (hb.cell (World.block_lt_of_cell? _ _ (hHeld.2.2.2.1))).trans (hHeld.2.2.2.1)
                                      have HS4_ := (hb.cell (World.block_lt_of_cell? _ _ (hHeld.2.2.2.2.1))).trans (hHeld.2.2.2.2.1)
                                      have HS5_ := (hb.cell (World.block_lt_of_cell? _ _ (hHeld.2.2.2.2.2.1))).trans (hHeld.2.2.2.2.2.1)
                                      have HS6_ := (hb.cell (World.block_lt_of_cell? _ _ (hHeld.2.2.2.2.2.2.1))).trans (hHeld.2.2.2.2.2.2.1)
                                      have HS7_ := (hb.cell (World.block_lt_of_cell? _ _ (hHeld.2.2.2.2.2.2.2.1))).trans (hHeld.2.2.2.2.2.2.2.1)
                                      have HS8_ := (hb.cell (World.block_lt_of_cell? _ _ (hHeld.2.2.2.2.2.2.2.2.1))).trans (hHeld.2.2.2.2.2.2.2.2.1)
                                      have HS9_ := (hb.cell (World.block_lt_of_cell? _ _ (hHeld.2.2.2.2.2.2.2.2.2.1))).trans (hHeld.2.2.2.2.2.2.2.2.2.1)
                                      have HS10_ := (hb.cell (World.block_lt_of_cell? _ _ (hHeld.2.2.2.2.2.2.2.2.2.2.1))).trans (hHeld.2.2.2.2.2.2.2.2.2.2.1)
                                      have HS11_ := (hb.cell (World.block_lt_of_cell? _ _ (hHeld.2.2.2.2.2.2.2.2.2.2.2))).trans (hHeld.2.2.2.2.2.2.2.2.2.2.2)
                                      refine ⟨_, rfl, ?_⟩
                                      have n0_ := Aside0.mk (Kd.R_below (by (with_reducible repeat (first | apply Kd.R_alloc | apply Kd.R_drewN | apply Kd.R_drew)); exact HO_5.out) hb)
                                      have n1_ := Aside0.mk (Kd.R_below (by (with_reducible repeat (first | apply Kd.R_alloc | apply Kd.R_drewN | apply Kd.R_drew)); exact HO_6.out) hb)
                                      have n2_ := Aside0.mk (blk_below (g := gb505) (o := .cells #[.int .i64 a1_0, .int .i64 a1_1, .int .i64 a1_2, .int .i64 a1_3, .int .i64 a1_4, .string a1_5] 23 (0, 0)) (by (with_reducible repeat (first | refine blk_drewN ?_ _ | refine blk_drew ?_ | refine blk_alloc ?_ _)); exact BK505.out) hb)
                                      have n3_ := Aside0.mk (blk_below (g := gb523) (o := .cells #[.int .i64 t516, .int .i64 t517, .int .i64 t518, .int .i64 t519, .int .i64 t520, .string t521] 23 (0, 0)) (by (with_reducible repeat (first | refine blk_drewN ?_ _ | refine blk_drew ?_ | refine blk_alloc ?_ _)); exact BK523.out) hb)
                                      have n4_ := Aside0.mk (below_step (by repeat (first | (with_reducible first | exact HB.out | apply below_alloc | apply pw_below_drewN | apply below_drew1 | refine below_set ?_ GE505.out | refine below_set ?_ GE523.out) | exact HB.out)) hb)
                                      clear HO_5
                                      clear HO_6
                                      clear BK505
                                      clear BK523
                                      clear HB
                                      have HO_5 := n0_
                                      have HO_6 := n1_
                                      have BK505 := n2_
                                      have BK523 := n3_
                                      have HB := n4_
                                      clear n0_ n1_ n2_ n3_ n4_
                                      (try clear hb)
                                      (try clear hb2)
                                      (try clear hk)
                                      (try clear hi)
                                      refine hK.out _ _ ⟨HS0_, HS1_, HS2_, HS3_, HS4_, HS5_, HS6_, HS7_, HS8_, HS9_, HS10_, HS11_⟩ (fun hHeld => ?_)
                                      clear hK K
                                      refine norm_ (a' := ?_) ?_ ?_
                                      rotate_left
                                      · show Act.put _ (some 121) _ = _
                                        simp only [Act.put, List.setIfInBounds_toArray, List.set_cons_zero, List.set_cons_succ, i64_w, i32_w]
                                        rfl
                                      refine pure_ (i := 13) (N := some 123) (v := ?_) (a' := ?_) #[true, true, true, true, true, true, true, true, true, true, true, true, true, true, false] rfl rfl (any_of HT_.out (by kernel_rfl)) (fun _ _ _ h => h) (Or.inl ⟨by rfl, ?_⟩) ?_ ?_
                                      rotate_left
                                      · intro w'
                                        go_simp
                                        with_reducible rfl
                                      rotate_left
                                      · simp only [Act.put, List.setIfInBounds_toArray, List.set_cons_zero, List.set_cons_succ, i64_w, i32_w]
                                        rfl
                                      refine pure_ (i := 14) (N := some 124) (v := ?_) (a' := ?_) #[true, true, true, true, true, true, true, true, true, true, true, true, true, true, true] rfl rfl (any_of HT_.out (by kernel_rfl)) (fun _ _ _ h => h) (Or.inl ⟨by rfl, ?_⟩) ?_ ?_
                                      rotate_left
                                      · intro w'
                                        go_simp
                                        with_reducible rfl
                                      rotate_left
                                      · simp only [Act.put, List.setIfInBounds_toArray, List.set_cons_zero, List.set_cons_succ, i64_w, i32_w]
                                        rfl
                                      refine done_ (done_of HT_.out (by kernel_rfl)) ?_
                                      try go_wp2
                                      go_roundg kj58
                                      case measure => have := HJ2.out; have := HJ22.out; have := HK3.out; have := HK4.out; have := HJ58.out; omega
                                      case rel => exact ⟨(wrap64 (x11_4 + 1)), (by first | rfl | (simp; done) | (simp [*]; done)), H', ⟨by have := HJ2.out; have := HJ22.out; have := HK3.out; have := HK4.out; have := HJ58.out; omega⟩, ⟨by (with_reducible repeat (first | apply Kd.R_alloc | apply Kd.R_drewN | apply Kd.R_drew)); exact HO_5.out⟩, ⟨by (with_reducible repeat (first | apply Kd.R_alloc | apply Kd.R_drewN | apply Kd.R_drew)); exact HO_6.out⟩, ⟨by (with_reducible repeat (first | refine blk_drewN ?_ _ | refine blk_drew ?_ | refine blk_alloc ?_ _)); exact BK505.out⟩, ⟨by (with_reducible repeat (first | refine blk_drewN ?_ _ | refine blk_drew ?_ | refine blk_alloc ?_ _)); exact BK523.out⟩, ⟨by repeat (first | (with_reducible first | exact HB.out | apply below_alloc | apply pw_below_drewN | apply below_drew1 | refine below_set ?_ GE505.out | refine below_set ?_ GE523.out) | exact HB.out)⟩⟩
                                    · rw [if_neg c67] at H
                                      exact absurd H (by simp)
                                  · rw [if_neg c64] at H
                                    exact absurd H (by simp)
                                · rw [if_neg c63] at H
                                  exact absurd H (by simp)
                          · rw [if_neg c58] at H
                            exact absurd H (by simp)
                        · rw [if_neg c57] at H
                          have c57b0 : decide (x11_4 < (t513.length : Int)) = false := decide_eq_false c57
                          clear c57
                          replace H := Option.bind_eq_some_iff.mp H
                          obtain ⟨t533, A710, H⟩ := H
                          replace H : (some t533) = some r := H
                          have A71 := Aside0.mk A710
                          clear A710
                          obtain rfl := Option.some.inj H
                          obtain ⟨Ao72, co72, eo72⟩ := Kd.R_slice HO_6.out
                          subst eo72
                          go_wp2_with (first | ((with_reducible refine gate_callee (f := 67) rfl ?_); refine goesL_ (some 125) rfl rfl Try.func67 (by kernel_rfl) rfl #[] rfl (by (try simp only [List.map_toArray, List.map_cons, List.map_nil]); first | done | rfl | (simp only [List.length_drop, List.length_take]; rfl)) ?_; (with_reducible refine (hopperlaw06_live.calls k4  t533 _ A71.out).mono ?_); rintro e w73 ⟨rfl, hb⟩; refine ⟨_, rfl, ?_⟩; have n0_ := Aside0.mk (Kd.R_below (by (with_reducible repeat (first | apply Kd.R_alloc | apply Kd.R_drewN | apply Kd.R_drew)); exact HO_5.out) hb); have n1_ := Aside0.mk (Kd.R_below (by (with_reducible repeat (first | apply Kd.R_alloc | apply Kd.R_drewN | apply Kd.R_drew)); exact HO_6.out) hb); have n2_ := Aside0.mk (blk_below (g := gb505) (o := .cells #[.int .i64 a1_0, .int .i64 a1_1, .int .i64 a1_2, .int .i64 a1_3, .int .i64 a1_4, .string a1_5] 23 (0, 0)) (by (with_reducible repeat (first | refine blk_drewN ?_ _ | refine blk_drew ?_ | refine blk_alloc ?_ _)); exact BK505.out) hb); have n3_ := Aside0.mk (blk_below (g := gb523) (o := .cells #[.int .i64 t516, .int .i64 t517, .int .i64 t518, .int .i64 t519, .int .i64 t520, .string t521] 23 (0, 0)) (by (with_reducible repeat (first | refine blk_drewN ?_ _ | refine blk_drew ?_ | refine blk_alloc ?_ _)); exact BK523.out) hb); have n4_ := Aside0.mk (below_step (by repeat (first | (with_reducible first | exact HB.out | apply below_alloc | apply pw_below_drewN | apply below_drew1 | refine below_set ?_ GE505.out | refine below_set ?_ GE523.out) | exact HB.out)) hb); clear HO_5; clear HO_6; clear BK505; clear BK523; clear HB; have HO_5 := n0_; have HO_6 := n1_; have BK505 := n2_; have BK523 := n3_; have HB := n4_; clear n0_ n1_ n2_ n3_ n4_; (try clear hb); (try clear hb2); (try clear hk); (try clear hi)))
                          go_ret
                          exact ⟨by first | rfl | (simp [errW_none, errW_some] <;> rfl) | (simp [*, errW_none, errW_some] <;> rfl), by repeat (first | (with_reducible first | exact HB.out | apply below_alloc | apply pw_below_drewN | apply below_drew1 | refine below_set ?_ GE505.out | refine below_set ?_ GE523.out) | exact HB.out)⟩

open Go.Proofs.Ytihlogdmdmhefaa.Row (okI okB okS okL) in
/-- THE ONE PURE STATEMENT of hopperlaw06_HeapStays. -/
def hopperlaw06_HeapStays.Pure : Prop := ∀ (l0 : List (S23)) (a1_0 : Int) (a1_1 : Int) (a1_2 : Int) (a1_3 : Int) (a1_4 : Int) (a1_5 : ByteArray), (okL ok23) l0 → ok23 (⟨a1_0, a1_1, a1_2, a1_3, a1_4, a1_5⟩ : S23) → ∃ k, hopperlaw06_HeapStays.f k l0 a1_0 a1_1 a1_2 a1_3 a1_4 a1_5 = some true

end Go.Proofs.Ytihlogdmdmhefaa.L
