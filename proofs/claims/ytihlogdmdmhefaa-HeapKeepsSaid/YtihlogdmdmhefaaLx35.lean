/- Written by this session's own program over the kit's print: functions of Go told as plain functions, or the row of one statement; proved for every input, with no condition of ours. -/
import Derived.Test.YtihlogdmdmhefaaLx0
import Derived.Test.YtihlogdmdmhefaaLx1
import Derived.Test.YtihlogdmdmhefaaLx2
import Derived.Test.YtihlogdmdmhefaaLx3
import Derived.Test.YtihlogdmdmhefaaLx5
import Derived.Test.YtihlogdmdmhefaaLx16
import Derived.Test.YtihlogdmdmhefaaLx18
import Derived.Test.YtihlogdmdmhefaaLx30
namespace Go.Proofs.Ytihlogdmdmhefaa.L
open Go.RowKit Go.Proofs.YtihlogdmdmhefaaW.PrintWords Go.Proofs.YtihlogdmdmhefaaW.PrintLast Go.Proofs.YtihlogdmdmhefaaW.PrintMore
attribute [local go_sem] max2_int min2_int max_two min_two max_three min_three max_four min_four   -- for this text's walks alone
set_option linter.unusedVariables false
set_option linter.unusedSimpArgs false

attribute [local go_sem high] eqA23
/-! ### hopperlaw06_HeapKeeps: function 22 -/
mutual
def hopperlaw06_HeapKeeps.j0 : Nat → List (S23) → Bool → Int → Int → Int → Int → Int → ByteArray → Option (Bool)
  | 0, _, _, _, _, _, _, _, _ => none
  | k + 1, x0, x19, x613000, x613001, x613002, x613003, x613004, x613005 => if x19 = true then ((hopperlaw06_live.f k).bind fun t615 => (some t615)) else ((heap_Push.f x0 x613000 x613001 x613002 x613003 x613004 x613005).bind fun t616 => ((heap_Pop.f x0).bind fun bt619 => (if (t616.length : Int) = (wrap64 ((x0.length : Int) + 1)) then (if (bt619.2.2.2.2.2.2.2 != (decide ((x0.length : Int) > 0))) = true then (none) else (if bt619.2.2.2.2.2.2.2 = true then (if 0 < (x0.length : Int) then (if (!(bt619.2.1 == ((rd_T23 x0 0).f0)) || (!(bt619.2.2.1 == ((rd_T23 x0 0).f1)) || (!(bt619.2.2.2.1 == ((rd_T23 x0 0).f2)) || (!(bt619.2.2.2.2.1 == ((rd_T23 x0 0).f3)) || (!(bt619.2.2.2.2.2.1 == ((rd_T23 x0 0).f4)) || (!(bt619.2.2.2.2.2.2.1.toList == (((rd_T23 x0 0).f5).toList)))))))) = true then (none) else (if (bt619.1.length : Int) = (wrap64 ((x0.length : Int) - 1)) then (hopperlaw06_HeapKeeps.j1 k x0 t616 bt619.1 false x613000 x613001 x613002 x613003 x613004 x613005) else (none))) else (none)) else (hopperlaw06_HeapKeeps.j1 k x0 t616 bt619.1 ((bt619.1.length : Int) != 0) x613000 x613001 x613002 x613003 x613004 x613005))) else (none))))
def hopperlaw06_HeapKeeps.j1 : Nat → List (S23) → List (S23) → List (S23) → Bool → Int → Int → Int → Int → Int → ByteArray → Option (Bool)
  | 0, _, _, _, _, _, _, _, _, _, _ => none
  | k + 1, x0, x5, x6, x69, x613000, x613001, x613002, x613003, x613004, x613005 => if x69 = true then (none) else (hopperlaw06_HeapKeeps.l0 k x0 x5 x6 0 x613000 x613001 x613002 x613003 x613004 x613005)
def hopperlaw06_HeapKeeps.l0 : Nat → List (S23) → List (S23) → List (S23) → Int → Int → Int → Int → Int → Int → ByteArray → Option (Bool)
  | 0, _, _, _, _, _, _, _, _, _, _ => none
  | k + 1, x0, x5, x6, x9, x613000, x613001, x613002, x613003, x613004, x613005 => if x9 < (x0.length : Int) then (if 0 ≤ x9 then (if (((rd_T23 x0 x9).f0) == x613000 && (((rd_T23 x0 x9).f1) == x613001 && (((rd_T23 x0 x9).f2) == x613002 && (((rd_T23 x0 x9).f3) == x613003 && (((rd_T23 x0 x9).f4) == x613004 && ((((rd_T23 x0 x9).f5).toList) == x613005.toList)))))) = true then (hopperlaw06_HeapKeeps.j3 k x0 x5 x6 x9 1 x613000 x613001 x613002 x613003 x613004 x613005) else (hopperlaw06_HeapKeeps.j3 k x0 x5 x6 x9 0 x613000 x613001 x613002 x613003 x613004 x613005)) else (none)) else ((hopperlaw06_count.f k x5 x613000 x613001 x613002 x613003 x613004 x613005).bind fun t631 => ((hopperlaw06_count.f k x0 x613000 x613001 x613002 x613003 x613004 x613005).bind fun t632 => (if t631 = (wrap64 (t632 + 1)) then ((hopperlaw06_live.f k).bind fun t633 => (some t633)) else (none))))
def hopperlaw06_HeapKeeps.j3 : Nat → List (S23) → List (S23) → List (S23) → Int → Int → Int → Int → Int → Int → Int → ByteArray → Option (Bool)
  | 0, _, _, _, _, _, _, _, _, _, _, _ => none
  | k + 1, x0, x5, x6, x9, x10, x613000, x613001, x613002, x613003, x613004, x613005 => if 0 ≤ x9 then (if x9 < (x0.length : Int) then (if 0 < (x0.length : Int) then (if (((rd_T23 x0 x9).f0) == ((rd_T23 x0 0).f0) && (((rd_T23 x0 x9).f1) == ((rd_T23 x0 0).f1) && (((rd_T23 x0 x9).f2) == ((rd_T23 x0 0).f2) && (((rd_T23 x0 x9).f3) == ((rd_T23 x0 0).f3) && (((rd_T23 x0 x9).f4) == ((rd_T23 x0 0).f4) && ((((rd_T23 x0 x9).f5).toList) == (((rd_T23 x0 0).f5).toList))))))) = true then (hopperlaw06_HeapKeeps.j4 k x0 x5 x6 x9 x10 1 x613000 x613001 x613002 x613003 x613004 x613005) else (hopperlaw06_HeapKeeps.j4 k x0 x5 x6 x9 x10 0 x613000 x613001 x613002 x613003 x613004 x613005)) else (none)) else (none)) else (none)
def hopperlaw06_HeapKeeps.j4 : Nat → List (S23) → List (S23) → List (S23) → Int → Int → Int → Int → Int → Int → Int → Int → ByteArray → Option (Bool)
  | 0, _, _, _, _, _, _, _, _, _, _, _, _ => none
  | k + 1, x0, x5, x6, x9, x10, x11, x613000, x613001, x613002, x613003, x613004, x613005 => if 0 ≤ x9 then (if x9 < (x0.length : Int) then ((hopperlaw06_count.f k x5 ((rd_T23 x0 x9).f0) ((rd_T23 x0 x9).f1) ((rd_T23 x0 x9).f2) ((rd_T23 x0 x9).f3) ((rd_T23 x0 x9).f4) ((rd_T23 x0 x9).f5)).bind fun t638 => ((hopperlaw06_count.f k x0 ((rd_T23 x0 x9).f0) ((rd_T23 x0 x9).f1) ((rd_T23 x0 x9).f2) ((rd_T23 x0 x9).f3) ((rd_T23 x0 x9).f4) ((rd_T23 x0 x9).f5)).bind fun t640 => (if t638 = (wrap64 (t640 + x10)) then ((hopperlaw06_count.f k x6 ((rd_T23 x0 x9).f0) ((rd_T23 x0 x9).f1) ((rd_T23 x0 x9).f2) ((rd_T23 x0 x9).f3) ((rd_T23 x0 x9).f4) ((rd_T23 x0 x9).f5)).bind fun t642 => ((hopperlaw06_count.f k x0 ((rd_T23 x0 x9).f0) ((rd_T23 x0 x9).f1) ((rd_T23 x0 x9).f2) ((rd_T23 x0 x9).f3) ((rd_T23 x0 x9).f4) ((rd_T23 x0 x9).f5)).bind fun t644 => (if t642 = (wrap64 (t644 - x11)) then (hopperlaw06_HeapKeeps.l0 k x0 x5 x6 (wrap64 (x9 + 1)) x613000 x613001 x613002 x613003 x613004 x613005) else (none)))) else (none)))) else (none)) else (none)
end
def hopperlaw06_HeapKeeps.f (k : Nat) (l0 : List (S23)) (a1_0 : Int) (a1_1 : Int) (a1_2 : Int) (a1_3 : Int) (a1_4 : Int) (a1_5 : ByteArray) : Option (Bool) := (hopperref04_Few.f k l0 40).bind fun t613 => (if t613 = true then ((hopperref04_Small.f a1_0 a1_1 a1_2 a1_3 a1_4 a1_5).bind fun t614 => (hopperlaw06_HeapKeeps.j0 k l0 (!t614) a1_0 a1_1 a1_2 a1_3 a1_4 a1_5)) else (hopperlaw06_HeapKeeps.j0 k l0 true a1_0 a1_1 a1_2 a1_3 a1_4 a1_5))
theorem hopperlaw06_HeapKeeps.mono_l : ∀ k, (∀ y0 y1 y2 y3 y4 y5 y6 y7, LeO (hopperlaw06_HeapKeeps.j0 k y0 y1 y2 y3 y4 y5 y6 y7) (hopperlaw06_HeapKeeps.j0 (k + 1) y0 y1 y2 y3 y4 y5 y6 y7)) ∧ (∀ y0 y1 y2 y3 y4 y5 y6 y7 y8 y9, LeO (hopperlaw06_HeapKeeps.j1 k y0 y1 y2 y3 y4 y5 y6 y7 y8 y9) (hopperlaw06_HeapKeeps.j1 (k + 1) y0 y1 y2 y3 y4 y5 y6 y7 y8 y9)) ∧ (∀ y0 y1 y2 y3 y4 y5 y6 y7 y8 y9, LeO (hopperlaw06_HeapKeeps.l0 k y0 y1 y2 y3 y4 y5 y6 y7 y8 y9) (hopperlaw06_HeapKeeps.l0 (k + 1) y0 y1 y2 y3 y4 y5 y6 y7 y8 y9)) ∧ (∀ y0 y1 y2 y3 y4 y5 y6 y7 y8 y9 y10, LeO (hopperlaw06_HeapKeeps.j3 k y0 y1 y2 y3 y4 y5 y6 y7 y8 y9 y10) (hopperlaw06_HeapKeeps.j3 (k + 1) y0 y1 y2 y3 y4 y5 y6 y7 y8 y9 y10)) ∧ (∀ y0 y1 y2 y3 y4 y5 y6 y7 y8 y9 y10 y11, LeO (hopperlaw06_HeapKeeps.j4 k y0 y1 y2 y3 y4 y5 y6 y7 y8 y9 y10 y11) (hopperlaw06_HeapKeeps.j4 (k + 1) y0 y1 y2 y3 y4 y5 y6 y7 y8 y9 y10 y11))
  | 0 => ⟨fun _ _ _ _ _ _ _ _ r h => by simp [hopperlaw06_HeapKeeps.j0] at h, fun _ _ _ _ _ _ _ _ _ _ r h => by simp [hopperlaw06_HeapKeeps.j1] at h, fun _ _ _ _ _ _ _ _ _ _ r h => by simp [hopperlaw06_HeapKeeps.l0] at h, fun _ _ _ _ _ _ _ _ _ _ _ r h => by simp [hopperlaw06_HeapKeeps.j3] at h, fun _ _ _ _ _ _ _ _ _ _ _ _ r h => by simp [hopperlaw06_HeapKeeps.j4] at h⟩
  | k + 1 => by
    obtain ⟨ih0, ih1, ih2, ih3, ih4⟩ := hopperlaw06_HeapKeeps.mono_l k
    refine ⟨?_, ?_, ?_, ?_, ?_⟩
    · intro y0 y1 y2 y3 y4 y5 y6 y7
      unfold hopperlaw06_HeapKeeps.j0
      repeat' first
      | (with_reducible exact ih0 _ _ _ _ _ _ _ _)
      | (with_reducible exact ih1 _ _ _ _ _ _ _ _ _ _)
      | (with_reducible exact ih2 _ _ _ _ _ _ _ _ _ _)
      | (with_reducible exact ih3 _ _ _ _ _ _ _ _ _ _ _)
      | (with_reducible exact ih4 _ _ _ _ _ _ _ _ _ _ _ _)
      | (with_reducible exact hopperlaw06_count.mono _ _ _ _ _ _ _ _)
      | (with_reducible exact hopperlaw06_live.mono _)
      | (with_reducible exact hopperref04_Few.mono _ _ _)
      | (with_reducible exact LeO.refl _)
      | (with_reducible exact LeO.none _)
      | (with_reducible refine LeO.ite ?_ ?_)
      | (with_reducible refine LeO.bind ?_ (fun _ => ?_))
      | exact ih0 _ _ _ _ _ _ _ _
      | exact ih1 _ _ _ _ _ _ _ _ _ _
      | exact ih2 _ _ _ _ _ _ _ _ _ _
      | exact ih3 _ _ _ _ _ _ _ _ _ _ _
      | exact ih4 _ _ _ _ _ _ _ _ _ _ _ _
      | exact hopperlaw06_count.mono _ _ _ _ _ _ _ _
      | exact hopperlaw06_live.mono _
      | exact hopperref04_Few.mono _ _ _
      | exact LeO.none _
      | refine LeO.ite ?_ ?_
      | refine LeO.bind ?_ (fun _ => ?_)
    · intro y0 y1 y2 y3 y4 y5 y6 y7 y8 y9
      unfold hopperlaw06_HeapKeeps.j1
      repeat' first
      | (with_reducible exact ih0 _ _ _ _ _ _ _ _)
      | (with_reducible exact ih1 _ _ _ _ _ _ _ _ _ _)
      | (with_reducible exact ih2 _ _ _ _ _ _ _ _ _ _)
      | (with_reducible exact ih3 _ _ _ _ _ _ _ _ _ _ _)
      | (with_reducible exact ih4 _ _ _ _ _ _ _ _ _ _ _ _)
      | (with_reducible exact hopperlaw06_count.mono _ _ _ _ _ _ _ _)
      | (with_reducible exact hopperlaw06_live.mono _)
      | (with_reducible exact hopperref04_Few.mono _ _ _)
      | (with_reducible exact LeO.refl _)
      | (with_reducible exact LeO.none _)
      | (with_reducible refine LeO.ite ?_ ?_)
      | (with_reducible refine LeO.bind ?_ (fun _ => ?_))
      | exact ih0 _ _ _ _ _ _ _ _
      | exact ih1 _ _ _ _ _ _ _ _ _ _
      | exact ih2 _ _ _ _ _ _ _ _ _ _
      | exact ih3 _ _ _ _ _ _ _ _ _ _ _
      | exact ih4 _ _ _ _ _ _ _ _ _ _ _ _
      | exact hopperlaw06_count.mono _ _ _ _ _ _ _ _
      | exact hopperlaw06_live.mono _
      | exact hopperref04_Few.mono _ _ _
      | exact LeO.none _
      | refine LeO.ite ?_ ?_
      | refine LeO.bind ?_ (fun _ => ?_)
    · intro y0 y1 y2 y3 y4 y5 y6 y7 y8 y9
      unfold hopperlaw06_HeapKeeps.l0
      repeat' first
      | (with_reducible exact ih0 _ _ _ _ _ _ _ _)
      | (with_reducible exact ih1 _ _ _ _ _ _ _ _ _ _)
      | (with_reducible exact ih2 _ _ _ _ _ _ _ _ _ _)
      | (with_reducible exact ih3 _ _ _ _ _ _ _ _ _ _ _)
      | (with_reducible exact ih4 _ _ _ _ _ _ _ _ _ _ _ _)
      | (with_reducible exact hopperlaw06_count.mono _ _ _ _ _ _ _ _)
      | (with_reducible exact hopperlaw06_live.mono _)
      | (with_reducible exact hopperref04_Few.mono _ _ _)
      | (with_reducible exact LeO.refl _)
      | (with_reducible exact LeO.none _)
      | (with_reducible refine LeO.ite ?_ ?_)
      | (with_reducible refine LeO.bind ?_ (fun _ => ?_))
      | exact ih0 _ _ _ _ _ _ _ _
      | exact ih1 _ _ _ _ _ _ _ _ _ _
      | exact ih2 _ _ _ _ _ _ _ _ _ _
      | exact ih3 _ _ _ _ _ _ _ _ _ _ _
      | exact ih4 _ _ _ _ _ _ _ _ _ _ _ _
      | exact hopperlaw06_count.mono _ _ _ _ _ _ _ _
      | exact hopperlaw06_live.mono _
      | exact hopperref04_Few.mono _ _ _
      | exact LeO.none _
      | refine LeO.ite ?_ ?_
      | refine LeO.bind ?_ (fun _ => ?_)
    · intro y0 y1 y2 y3 y4 y5 y6 y7 y8 y9 y10
      unfold hopperlaw06_HeapKeeps.j3
      repeat' first
      | (with_reducible exact ih0 _ _ _ _ _ _ _ _)
      | (with_reducible exact ih1 _ _ _ _ _ _ _ _ _ _)
      | (with_reducible exact ih2 _ _ _ _ _ _ _ _ _ _)
      | (with_reducible exact ih3 _ _ _ _ _ _ _ _ _ _ _)
      | (with_reducible exact ih4 _ _ _ _ _ _ _ _ _ _ _ _)
      | (with_reducible exact hopperlaw06_count.mono _ _ _ _ _ _ _ _)
      | (with_reducible exact hopperlaw06_live.mono _)
      | (with_reducible exact hopperref04_Few.mono _ _ _)
      | (with_reducible exact LeO.refl _)
      | (with_reducible exact LeO.none _)
      | (with_reducible refine LeO.ite ?_ ?_)
      | (with_reducible refine LeO.bind ?_ (fun _ => ?_))
      | exact ih0 _ _ _ _ _ _ _ _
      | exact ih1 _ _ _ _ _ _ _ _ _ _
      | exact ih2 _ _ _ _ _ _ _ _ _ _
      | exact ih3 _ _ _ _ _ _ _ _ _ _ _
      | exact ih4 _ _ _ _ _ _ _ _ _ _ _ _
      | exact hopperlaw06_count.mono _ _ _ _ _ _ _ _
      | exact hopperlaw06_live.mono _
      | exact hopperref04_Few.mono _ _ _
      | exact LeO.none _
      | refine LeO.ite ?_ ?_
      | refine LeO.bind ?_ (fun _ => ?_)
    · intro y0 y1 y2 y3 y4 y5 y6 y7 y8 y9 y10 y11
      unfold hopperlaw06_HeapKeeps.j4
      repeat' first
      | (with_reducible exact ih0 _ _ _ _ _ _ _ _)
      | (with_reducible exact ih1 _ _ _ _ _ _ _ _ _ _)
      | (with_reducible exact ih2 _ _ _ _ _ _ _ _ _ _)
      | (with_reducible exact ih3 _ _ _ _ _ _ _ _ _ _ _)
      | (with_reducible exact ih4 _ _ _ _ _ _ _ _ _ _ _ _)
      | (with_reducible exact hopperlaw06_count.mono _ _ _ _ _ _ _ _)
      | (with_reducible exact hopperlaw06_live.mono _)
      | (with_reducible exact hopperref04_Few.mono _ _ _)
      | (with_reducible exact LeO.refl _)
      | (with_reducible exact LeO.none _)
      | (with_reducible refine LeO.ite ?_ ?_)
      | (with_reducible refine LeO.bind ?_ (fun _ => ?_))
      | exact ih0 _ _ _ _ _ _ _ _
      | exact ih1 _ _ _ _ _ _ _ _ _ _
      | exact ih2 _ _ _ _ _ _ _ _ _ _
      | exact ih3 _ _ _ _ _ _ _ _ _ _ _
      | exact ih4 _ _ _ _ _ _ _ _ _ _ _ _
      | exact hopperlaw06_count.mono _ _ _ _ _ _ _ _
      | exact hopperlaw06_live.mono _
      | exact hopperref04_Few.mono _ _ _
      | exact LeO.none _
      | refine LeO.ite ?_ ?_
      | refine LeO.bind ?_ (fun _ => ?_)
theorem hopperlaw06_HeapKeeps.mono : ∀ a0 a1 a2 a3 a4 a5 a6 k, LeO (hopperlaw06_HeapKeeps.f k a0 a1 a2 a3 a4 a5 a6) (hopperlaw06_HeapKeeps.f (k + 1) a0 a1 a2 a3 a4 a5 a6) := by
  intro a0 a1 a2 a3 a4 a5 a6 k
  obtain ⟨ih0, ih1, ih2, ih3, ih4⟩ := hopperlaw06_HeapKeeps.mono_l k
  unfold hopperlaw06_HeapKeeps.f
  repeat' first
      | (with_reducible exact ih0 _ _ _ _ _ _ _ _)
      | (with_reducible exact ih1 _ _ _ _ _ _ _ _ _ _)
      | (with_reducible exact ih2 _ _ _ _ _ _ _ _ _ _)
      | (with_reducible exact ih3 _ _ _ _ _ _ _ _ _ _ _)
      | (with_reducible exact ih4 _ _ _ _ _ _ _ _ _ _ _ _)
      | (with_reducible exact hopperlaw06_count.mono _ _ _ _ _ _ _ _)
      | (with_reducible exact hopperlaw06_live.mono _)
      | (with_reducible exact hopperref04_Few.mono _ _ _)
      | (with_reducible exact LeO.refl _)
      | (with_reducible exact LeO.none _)
      | (with_reducible refine LeO.ite ?_ ?_)
      | (with_reducible refine LeO.bind ?_ (fun _ => ?_))
      | exact ih0 _ _ _ _ _ _ _ _
      | exact ih1 _ _ _ _ _ _ _ _ _ _
      | exact ih2 _ _ _ _ _ _ _ _ _ _
      | exact ih3 _ _ _ _ _ _ _ _ _ _ _
      | exact ih4 _ _ _ _ _ _ _ _ _ _ _ _
      | exact hopperlaw06_count.mono _ _ _ _ _ _ _ _
      | exact hopperlaw06_live.mono _
      | exact hopperref04_Few.mono _ _ _
      | exact LeO.none _
      | refine LeO.ite ?_ ?_
      | refine LeO.bind ?_ (fun _ => ?_)
def hopperlaw06_HeapKeeps.T5 : Bool × List (List Nat × List Nat) := (true, [([], []), ([0], [0]), ([], []), ([2], [2]), ([3], [3]), ([1, 4], [1, 4]), ([5], [5]), ([6], [6]), ([6], [6]), ([8, 6], [6, 8]), ([9, 6], [6, 9]), ([7, 10, 6], [6, 7, 10]), ([6, 11], [6, 11]), ([12, 6], [12]), ([13], [13]), ([14, 13, 13], [13, 14]), ([15], [15]), ([15], [15]), ([17, 15], [15, 17]), ([18, 15], [15, 18]), ([16, 19, 15], [15, 16, 19]), ([20, 15, 15], [15, 20]), ([21], [21]), ([22, 21], [21, 22]), ([21], [21]), ([24, 21], [21, 24]), ([25, 21], [21, 25]), ([23, 26, 21], [21, 23, 26]), ([21, 27, 15], [15, 21, 27]), ([15, 28, 13], [13, 15, 28]), ([13, 29], [13, 29]), ([30, 21], [30]), ([31], [31]), ([32, 31], [31, 32]), ([33, 31, 31], [31, 33]), ([34], [34]), ([35, 34], [34, 35]), ([36, 34], [34, 36]), ([34, 37, 31], [31, 34, 37]), ([31, 38], [31, 38])])
def hopperlaw06_HeapKeeps.B5 : List Nat := [0, 1, 0, 4, 12, 31, 63, 127, 127, 383, 895, 2047, 4095, 8191, 16383, 32767, 65535, 65535, 196607, 458751, 1048575, 2097151, 4194303, 8388607, 4194303, 20971519, 54525951, 134217727, 268435455, 536870911, 1073741823, 2147483647, 4294967295, 8589934591, 17179869183, 34359738367, 68719476735, 137438953471, 274877906943, 549755813887]
theorem hopperlaw06_HeapKeeps.tab5 : rtab .any (opsOf Try.f22 5) = hopperlaw06_HeapKeeps.T5 := by kernel_rfl
theorem hopperlaw06_HeapKeeps.bits5 : waitsOk hopperlaw06_HeapKeeps.T5.2 hopperlaw06_HeapKeeps.B5 = true := by kernel_rfl
def hopperlaw06_HeapKeeps.T14 : Bool × List (List Nat × List Nat) := (true, [([], []), ([], []), ([0, 1], [0, 1]), ([2], [2]), ([], []), ([4], [4]), ([5], [5]), ([3, 6], [3, 6])])
def hopperlaw06_HeapKeeps.B14 : List Nat := [0, 0, 3, 7, 0, 16, 48, 127]
theorem hopperlaw06_HeapKeeps.tab14 : rtab .any (opsOf Try.f22 14) = hopperlaw06_HeapKeeps.T14 := by kernel_rfl
theorem hopperlaw06_HeapKeeps.bits14 : waitsOk hopperlaw06_HeapKeeps.T14.2 hopperlaw06_HeapKeeps.B14 = true := by kernel_rfl
def hopperlaw06_HeapKeeps.T16 : Bool × List (List Nat × List Nat) := (true, [([], []), ([], []), ([], []), ([1, 2], [1, 2]), ([3], [3]), ([0, 4], [0, 4]), ([], []), ([], []), ([], []), ([7, 8], [7, 8]), ([9], [9]), ([6, 10, 5], [6, 10]), ([], []), ([11, 12], [11, 12]), ([5, 13], [5, 13]), ([14, 11], [14]), ([15], [15]), ([15], [15]), ([15], [15]), ([17, 18, 15], [15, 17, 18]), ([19, 15], [15, 19]), ([16, 20, 15, 15], [15, 16, 20]), ([15], [15]), ([15], [15]), ([15], [15]), ([23, 24, 15], [15, 23, 24]), ([25, 15], [15, 25]), ([22, 26, 21, 15], [15, 22, 26]), ([15], [15]), ([27, 28, 15], [15, 27, 28]), ([21, 29, 15], [15, 21, 29]), ([15, 30], [15, 30])])
def hopperlaw06_HeapKeeps.B16 : List Nat := [0, 0, 0, 6, 14, 31, 0, 0, 0, 384, 896, 2047, 0, 8191, 16383, 32767, 65535, 65535, 65535, 458751, 983039, 2097151, 65535, 65535, 65535, 25231359, 58785791, 134217727, 65535, 536870911, 1073741823, 2147483647]
theorem hopperlaw06_HeapKeeps.tab16 : rtab .any (opsOf Try.f22 16) = hopperlaw06_HeapKeeps.T16 := by kernel_rfl
theorem hopperlaw06_HeapKeeps.bits16 : waitsOk hopperlaw06_HeapKeeps.T16.2 hopperlaw06_HeapKeeps.B16 = true := by kernel_rfl
def hopperlaw06_HeapKeeps.T18 : Bool × List (List Nat × List Nat) := (true, [([], []), ([], []), ([0, 1], [0, 1]), ([], []), ([], []), ([3, 4, 2], [3, 4]), ([5], [5]), ([2, 6], [2, 6]), ([7, 5], [7]), ([8, 8], [8]), ([8, 9], [8, 9]), ([10, 9, 0, 1, 2, 3, 4, 5, 6, 7, 8, 9, 10], [10])])
def hopperlaw06_HeapKeeps.B18 : List Nat := [0, 0, 3, 0, 0, 31, 63, 127, 255, 511, 1023, 2047]
theorem hopperlaw06_HeapKeeps.tab18 : rtab .any (opsOf Try.f22 18) = hopperlaw06_HeapKeeps.T18 := by kernel_rfl
theorem hopperlaw06_HeapKeeps.bits18 : waitsOk hopperlaw06_HeapKeeps.T18.2 hopperlaw06_HeapKeeps.B18 = true := by kernel_rfl
set_option maxHeartbeats 8000000 in
set_option maxRecDepth 100000 in
theorem hopperlaw06_HeapKeeps.calls (k : Nat) (A0 : Option Addr) (c0 : Nat) (l0 : List (S23)) (a1_0 : Int) (a1_1 : Int) (a1_2 : Int) (a1_3 : Int) (a1_4 : Int) (a1_5 : ByteArray) (r : Bool) (w : World) (hr0 : Kd.C k23 w A0 l0.length l0) (hc0 : l0.length ≤ c0) (h : hopperlaw06_HeapKeeps.f k l0 a1_0 a1_1 a1_2 a1_3 a1_4 a1_5 = some r) :
    Calls Try.prog 22 #[.slice A0 l0.length c0, .agg #[.int .i64 a1_0, .int .i64 a1_1, .int .i64 a1_2, .int .i64 a1_3, .int .i64 a1_4, .string a1_5]] w fun e w' => e = .returned (.bool r) ∧ Below w.heap.size w w' := by
  have hu23 := Try.underlying23
  have HR0 := Aside0.mk hr0
  have HC0 := Aside0.mk hc0
  clear hr0 hc0
  have HB := Aside0.mk (Below.refl w.heap.size w)
  have H : ((hopperref04_Few.f k l0 40).bind fun t613 => (if t613 = true then ((hopperref04_Small.f a1_0 a1_1 a1_2 a1_3 a1_4 a1_5).bind fun t614 => (hopperlaw06_HeapKeeps.j0 k l0 (!t614) a1_0 a1_1 a1_2 a1_3 a1_4 a1_5)) else (hopperlaw06_HeapKeeps.j0 k l0 true a1_0 a1_1 a1_2 a1_3 a1_4 a1_5))) = some r := h
  clear h
  have HC3 := Aside0.mk H
  clear H
  go_enter Try.func22, Try.ntmps22
  go_upto_region 1 with (first | ((with_reducible refine gate_dst (N := 3) rfl ?_); (try (refine gate_guard (by rfl) ?_; dsimp only)); refine box_event ?hg (N := 3) ?hd (cs := #[.int .i64 a1_0, .int .i64 a1_1, .int .i64 a1_2, .int .i64 a1_3, .int .i64 a1_4, .string a1_5]) (t := 23) ?hr ?_; (case hd => rfl); (case hg => rfl); (case hr => first | (go_simp; done) | (go_simp; rfl)); intro gb612 hg w4 hbox hb; have n0_ := Aside0.mk (below_step (by repeat (first | (with_reducible first | exact HB.out | apply below_alloc | apply pw_below_drewN | apply below_drew1) | exact HB.out)) hb); have n1_ := Aside0.mk (hbox); have n2_ := Aside0.mk ((by rw [hg]; exact (below_size (by repeat (first | (with_reducible first | exact HB.out | apply below_alloc | apply pw_below_drewN | apply below_drew1) | exact HB.out))) : w.heap.size ≤ gb612)); have n3_ := Aside0.mk ((by rw [hg]; exact (below_size (by repeat (first | (with_reducible first | exact HB.out | apply below_alloc | apply pw_below_drewN | apply below_drew1) | exact HB.out))) : w.heap.size ≤ gb612)); clear HB; have HB := n0_; have BK612 := n1_; have GW612 := n2_; have GE612 := n3_; clear n0_ n1_ n2_ n3_; clear hb hbox hg))
  (try simp only [Act.put, List.setIfInBounds_toArray, List.set_cons_zero, List.set_cons_succ])
  go_cut [19] (fun v19 wc => ∃ (kq : Nat) (x19_2 : Bool), v19 = .bool x19_2 ∧ Aside0 (hopperlaw06_HeapKeeps.j0 kq l0 x19_2 a1_0 a1_1 a1_2 a1_3 a1_4 a1_5 = some r) ∧ Aside0 (kq ≤ k) ∧ Aside0 (wc.heap[gb612]? = some (.cells #[.int .i64 a1_0, .int .i64 a1_1, .int .i64 a1_2, .int .i64 a1_3, .int .i64 a1_4, .string a1_5] 23 (0, 0))) ∧ Aside0 (Below w.heap.size w wc))
  case first =>
    have H := HC3.out
    clear HC3
    replace H := Option.bind_eq_some_iff.mp H
    obtain ⟨t613, A50, H⟩ := H
    replace H : (if t613 = true then ((hopperref04_Small.f a1_0 a1_1 a1_2 a1_3 a1_4 a1_5).bind fun t614 => (hopperlaw06_HeapKeeps.j0 k l0 (!t614) a1_0 a1_1 a1_2 a1_3 a1_4 a1_5)) else (hopperlaw06_HeapKeeps.j0 k l0 true a1_0 a1_1 a1_2 a1_3 a1_4 a1_5)) = some r := H
    have A5 := Aside0.mk A50
    clear A50
    by_cases c6 : t613 = true
    · subst c6
      have H1 : ((hopperref04_Small.f a1_0 a1_1 a1_2 a1_3 a1_4 a1_5).bind fun t614 => (hopperlaw06_HeapKeeps.j0 k l0 (!t614) a1_0 a1_1 a1_2 a1_3 a1_4 a1_5)) = some r := by rw [if_pos rfl] at H; exact H
      clear H
      have H := H1
      clear H1
      replace H := Option.bind_eq_some_iff.mp H
      obtain ⟨t614, A70, H⟩ := H
      replace H : (hopperlaw06_HeapKeeps.j0 k l0 (!t614) a1_0 a1_1 a1_2 a1_3 a1_4 a1_5) = some r := H
      have A7 := Aside0.mk A70
      clear A70
      have H' := Aside0.mk H
      clear H
      go_wp2_with (first | ((with_reducible refine gate_callee (f := 66) rfl ?_); refine goesL_ (some 13) rfl rfl Try.func66 (by kernel_rfl) rfl #[.slice A0 l0.length c0, .int .i64 40] rfl (by (try simp only [List.map_toArray, List.map_cons, List.map_nil]); first | done | rfl | (simp only [List.length_drop, List.length_take]; rfl)) ?_; (with_reducible refine (hopperref04_Few.calls k _ _ l0 40 true _ ?side1 ?side2 A5.out).mono ?_); (case side1 => repeat (first | exact (Kd.C_below HR0.out HB.out) | (with_reducible refine Kd.C_alloc ?_ _) | (with_reducible refine Kd.C_drewN ?_ _) | (with_reducible refine Kd.C_drew ?_))); (case side2 => exact HC0.out); rintro e w8 ⟨rfl, hb⟩; refine ⟨_, rfl, ?_⟩; have n0_ := Aside0.mk (blk_below (g := gb612) (o := .cells #[.int .i64 a1_0, .int .i64 a1_1, .int .i64 a1_2, .int .i64 a1_3, .int .i64 a1_4, .string a1_5] 23 (0, 0)) (by (with_reducible repeat (first | refine blk_drewN ?_ _ | refine blk_drew ?_ | refine blk_alloc ?_ _)); exact BK612.out) hb); have n1_ := Aside0.mk (below_step (by repeat (first | (with_reducible first | exact HB.out | apply below_alloc | apply pw_below_drewN | apply below_drew1 | refine below_set ?_ GE612.out) | exact HB.out)) hb); clear BK612; clear HB; have BK612 := n0_; have HB := n1_; clear n0_ n1_; (try clear hb); (try clear hb2); (try clear hk); (try clear hi); have hcz9_0 : w8.cell? ⟨gb612, 0, none⟩ = some (.int .i64 a1_0) := (blk_cell BK612.out 0).trans rfl; have hcz9_1 : w8.cell? ⟨gb612, 1, none⟩ = some (.int .i64 a1_1) := (blk_cell BK612.out 1).trans rfl; have hcz9_2 : w8.cell? ⟨gb612, 2, none⟩ = some (.int .i64 a1_2) := (blk_cell BK612.out 2).trans rfl; have hcz9_3 : w8.cell? ⟨gb612, 3, none⟩ = some (.int .i64 a1_3) := (blk_cell BK612.out 3).trans rfl; have hcz9_4 : w8.cell? ⟨gb612, 4, none⟩ = some (.int .i64 a1_4) := (blk_cell BK612.out 4).trans rfl; have hcz9_5 : w8.cell? ⟨gb612, 5, none⟩ = some (.string a1_5) := (blk_cell BK612.out 5).trans rfl; have hfz9_0 := blk_frozen BK612.out 0; have hfz9_1 := blk_frozen BK612.out 1; have hfz9_2 := blk_frozen BK612.out 2; have hfz9_3 := blk_frozen BK612.out 3; have hfz9_4 := blk_frozen BK612.out 4; have hfz9_5 := blk_frozen BK612.out 5) | (go_at_call 32; (with_reducible refine (hopperref04_Small.calls a1_0 a1_1 a1_2 a1_3 a1_4 a1_5 t614 _ A7.out).mono ?_); rintro e w10 ⟨rfl, hb⟩; have n0_ := Aside0.mk (blk_below (g := gb612) (o := .cells #[.int .i64 a1_0, .int .i64 a1_1, .int .i64 a1_2, .int .i64 a1_3, .int .i64 a1_4, .string a1_5] 23 (0, 0)) (by (with_reducible repeat (first | refine blk_drewN ?_ _ | refine blk_drew ?_ | refine blk_alloc ?_ _)); exact BK612.out) hb); have n1_ := Aside0.mk (below_step (by repeat (first | (with_reducible first | exact HB.out | apply below_alloc | apply pw_below_drewN | apply below_drew1 | refine below_set ?_ GE612.out) | exact HB.out)) hb); clear BK612; clear HB; have BK612 := n0_; have HB := n1_; clear n0_ n1_; (try clear hb); (try clear hb2); (try clear hk); (try clear hi)))
      go_meet
      case rel => exact ⟨_, (!t614), (by first | rfl | (simp; done) | (simp [*]; done)), H', ⟨by first | omega | exact Nat.le_refl _⟩, ⟨by (with_reducible repeat (first | refine blk_drewN ?_ _ | refine blk_drew ?_ | refine blk_alloc ?_ _)); exact BK612.out⟩, ⟨by repeat (first | (with_reducible first | exact HB.out | apply below_alloc | apply pw_below_drewN | apply below_drew1 | refine below_set ?_ GE612.out) | exact HB.out)⟩⟩
    · replace c6 := Bool.eq_false_iff.mpr c6
      subst c6
      have H1 : (hopperlaw06_HeapKeeps.j0 k l0 true a1_0 a1_1 a1_2 a1_3 a1_4 a1_5) = some r := by rw [if_neg (show ¬ (false = true) by decide)] at H; exact H
      clear H
      have H := H1
      clear H1
      have H' := Aside0.mk H
      clear H
      go_wp2_with (first | ((with_reducible refine gate_callee (f := 66) rfl ?_); refine goesL_ (some 13) rfl rfl Try.func66 (by kernel_rfl) rfl #[.slice A0 l0.length c0, .int .i64 40] rfl (by (try simp only [List.map_toArray, List.map_cons, List.map_nil]); first | done | rfl | (simp only [List.length_drop, List.length_take]; rfl)) ?_; (with_reducible refine (hopperref04_Few.calls k _ _ l0 40 false _ ?side1 ?side2 A5.out).mono ?_); (case side1 => repeat (first | exact (Kd.C_below HR0.out HB.out) | (with_reducible refine Kd.C_alloc ?_ _) | (with_reducible refine Kd.C_drewN ?_ _) | (with_reducible refine Kd.C_drew ?_))); (case side2 => exact HC0.out); rintro e w11 ⟨rfl, hb⟩; refine ⟨_, rfl, ?_⟩; have n0_ := Aside0.mk (blk_below (g := gb612) (o := .cells #[.int .i64 a1_0, .int .i64 a1_1, .int .i64 a1_2, .int .i64 a1_3, .int .i64 a1_4, .string a1_5] 23 (0, 0)) (by (with_reducible repeat (first | refine blk_drewN ?_ _ | refine blk_drew ?_ | refine blk_alloc ?_ _)); exact BK612.out) hb); have n1_ := Aside0.mk (below_step (by repeat (first | (with_reducible first | exact HB.out | apply below_alloc | apply pw_below_drewN | apply below_drew1 | refine below_set ?_ GE612.out) | exact HB.out)) hb); clear BK612; clear HB; have BK612 := n0_; have HB := n1_; clear n0_ n1_; (try clear hb); (try clear hb2); (try clear hk); (try clear hi)))
      go_meet
      case rel => exact ⟨_, (true), (by first | rfl | (simp; done) | (simp [*]; done)), H', ⟨by first | omega | exact Nat.le_refl _⟩, ⟨by (with_reducible repeat (first | refine blk_drewN ?_ _ | refine blk_drew ?_ | refine blk_alloc ?_ _)); exact BK612.out⟩, ⟨by repeat (first | (with_reducible first | exact HB.out | apply below_alloc | apply pw_below_drewN | apply below_drew1 | refine below_set ?_ GE612.out) | exact HB.out)⟩⟩
  case rest =>
    clear HC3
    try clear c2
    try clear p2
    try clear c6
    try clear hcz9_0
    try clear hcz9_1
    try clear hcz9_2
    try clear hcz9_3
    try clear hcz9_4
    try clear hcz9_5
    try clear hfz9_0
    try clear hfz9_1
    try clear hfz9_2
    try clear hfz9_3
    try clear hfz9_4
    try clear hfz9_5
    obtain ⟨kq, x19_2, rfl, HA, HJ2, BK612, HB⟩ := hcut
    cases kq with
    | zero => exact absurd HA.out (by simp [hopperlaw06_HeapKeeps.j0])
    | succ kj2 =>
      have H := HA.out
      clear HA
      simp only [hopperlaw06_HeapKeeps.j0] at H
      by_cases c12 : x19_2 = true
      · subst c12
        have H1 : ((hopperlaw06_live.f kj2).bind fun t615 => (some t615)) = some r := by rw [if_pos rfl] at H; exact H
        clear H
        have H := H1
        clear H1
        replace H := Option.bind_eq_some_iff.mp H
        obtain ⟨t615, A130, H⟩ := H
        replace H : (some t615) = some r := H
        have A13 := Aside0.mk A130
        clear A130
        obtain rfl := Option.some.inj H
        go_wp2_with (first | ((with_reducible refine gate_callee (f := 67) rfl ?_); refine goesL_ (some 20) rfl rfl Try.func67 (by kernel_rfl) rfl #[] rfl (by (try simp only [List.map_toArray, List.map_cons, List.map_nil]); first | done | rfl | (simp only [List.length_drop, List.length_take]; rfl)) ?_; (with_reducible refine (hopperlaw06_live.calls kj2  t615 _ A13.out).mono ?_); rintro e w14 ⟨rfl, hb⟩; refine ⟨_, rfl, ?_⟩; have n0_ := Aside0.mk (blk_below (g := gb612) (o := .cells #[.int .i64 a1_0, .int .i64 a1_1, .int .i64 a1_2, .int .i64 a1_3, .int .i64 a1_4, .string a1_5] 23 (0, 0)) (by (with_reducible repeat (first | refine blk_drewN ?_ _ | refine blk_drew ?_ | refine blk_alloc ?_ _)); exact BK612.out) hb); have n1_ := Aside0.mk (below_step (by repeat (first | (with_reducible first | exact HB.out | apply below_alloc | apply pw_below_drewN | apply below_drew1 | refine below_set ?_ GE612.out) | exact HB.out)) hb); clear BK612; clear HB; have BK612 := n0_; have HB := n1_; clear n0_ n1_; (try clear hb); (try clear hb2); (try clear hk); (try clear hi)))
        go_ret
        exact ⟨by first | rfl | (simp [errW_none, errW_some] <;> rfl) | (simp [*, errW_none, errW_some] <;> rfl), by repeat (first | (with_reducible first | exact HB.out | apply below_alloc | apply pw_below_drewN | apply below_drew1 | refine below_set ?_ GE612.out) | exact HB.out)⟩
      · replace c12 := Bool.eq_false_iff.mpr c12
        subst c12
        have H1 : ((heap_Push.f l0 a1_0 a1_1 a1_2 a1_3 a1_4 a1_5).bind fun t616 => ((heap_Pop.f l0).bind fun bt619 => (if (t616.length : Int) = (wrap64 ((l0.length : Int) + 1)) then (if (bt619.2.2.2.2.2.2.2 != (decide ((l0.length : Int) > 0))) = true then (none) else (if bt619.2.2.2.2.2.2.2 = true then (if 0 < (l0.length : Int) then (if (!(bt619.2.1 == ((rd_T23 l0 0).f0)) || (!(bt619.2.2.1 == ((rd_T23 l0 0).f1)) || (!(bt619.2.2.2.1 == ((rd_T23 l0 0).f2)) || (!(bt619.2.2.2.2.1 == ((rd_T23 l0 0).f3)) || (!(bt619.2.2.2.2.2.1 == ((rd_T23 l0 0).f4)) || (!(bt619.2.2.2.2.2.2.1.toList == (((rd_T23 l0 0).f5).toList)))))))) = true then (none) else (if (bt619.1.length : Int) = (wrap64 ((l0.length : Int) - 1)) then (hopperlaw06_HeapKeeps.j1 kj2 l0 t616 bt619.1 false a1_0 a1_1 a1_2 a1_3 a1_4 a1_5) else (none))) else (none)) else (hopperlaw06_HeapKeeps.j1 kj2 l0 t616 bt619.1 ((bt619.1.length : Int) != 0) a1_0 a1_1 a1_2 a1_3 a1_4 a1_5))) else (none)))) = some r := by rw [if_neg (show ¬ (false = true) by decide)] at H; exact H
        clear H
        have H := H1
        clear H1
        replace H := Option.bind_eq_some_iff.mp H
        obtain ⟨t616, A150, H⟩ := H
        replace H : ((heap_Pop.f l0).bind fun bt619 => (if (t616.length : Int) = (wrap64 ((l0.length : Int) + 1)) then (if (bt619.2.2.2.2.2.2.2 != (decide ((l0.length : Int) > 0))) = true then (none) else (if bt619.2.2.2.2.2.2.2 = true then (if 0 < (l0.length : Int) then (if (!(bt619.2.1 == ((rd_T23 l0 0).f0)) || (!(bt619.2.2.1 == ((rd_T23 l0 0).f1)) || (!(bt619.2.2.2.1 == ((rd_T23 l0 0).f2)) || (!(bt619.2.2.2.2.1 == ((rd_T23 l0 0).f3)) || (!(bt619.2.2.2.2.2.1 == ((rd_T23 l0 0).f4)) || (!(bt619.2.2.2.2.2.2.1.toList == (((rd_T23 l0 0).f5).toList)))))))) = true then (none) else (if (bt619.1.length : Int) = (wrap64 ((l0.length : Int) - 1)) then (hopperlaw06_HeapKeeps.j1 kj2 l0 t616 bt619.1 false a1_0 a1_1 a1_2 a1_3 a1_4 a1_5) else (none))) else (none)) else (hopperlaw06_HeapKeeps.j1 kj2 l0 t616 bt619.1 ((bt619.1.length : Int) != 0) a1_0 a1_1 a1_2 a1_3 a1_4 a1_5))) else (none))) = some r := H
        have A15 := Aside0.mk A150
        clear A150
        replace H := Option.bind_eq_some_iff.mp H
        obtain ⟨⟨t619, t622, t623, t624, t625, t626, t627, t628⟩, A160, H⟩ := H
        replace H : (if (t616.length : Int) = (wrap64 ((l0.length : Int) + 1)) then (if (t628 != (decide ((l0.length : Int) > 0))) = true then (none) else (if t628 = true then (if 0 < (l0.length : Int) then (if (!(t622 == ((rd_T23 l0 0).f0)) || (!(t623 == ((rd_T23 l0 0).f1)) || (!(t624 == ((rd_T23 l0 0).f2)) || (!(t625 == ((rd_T23 l0 0).f3)) || (!(t626 == ((rd_T23 l0 0).f4)) || (!(t627.toList == (((rd_T23 l0 0).f5).toList)))))))) = true then (none) else (if (t619.length : Int) = (wrap64 ((l0.length : Int) - 1)) then (hopperlaw06_HeapKeeps.j1 kj2 l0 t616 t619 false a1_0 a1_1 a1_2 a1_3 a1_4 a1_5) else (none))) else (none)) else (hopperlaw06_HeapKeeps.j1 kj2 l0 t616 t619 ((t619.length : Int) != 0) a1_0 a1_1 a1_2 a1_3 a1_4 a1_5))) else (none)) = some r := H
        have A16 := Aside0.mk A160
        clear A160
        have HC17 := Aside0.mk H
        clear H
        have hcz18_0 : wc.cell? ⟨gb612, 0, none⟩ = some (.int .i64 a1_0) := (blk_cell BK612.out 0).trans rfl
        have hcz18_1 : wc.cell? ⟨gb612, 1, none⟩ = some (.int .i64 a1_1) := (blk_cell BK612.out 1).trans rfl
        have hcz18_2 : wc.cell? ⟨gb612, 2, none⟩ = some (.int .i64 a1_2) := (blk_cell BK612.out 2).trans rfl
        have hcz18_3 : wc.cell? ⟨gb612, 3, none⟩ = some (.int .i64 a1_3) := (blk_cell BK612.out 3).trans rfl
        have hcz18_4 : wc.cell? ⟨gb612, 4, none⟩ = some (.int .i64 a1_4) := (blk_cell BK612.out 4).trans rfl
        have hcz18_5 : wc.cell? ⟨gb612, 5, none⟩ = some (.string a1_5) := (blk_cell BK612.out 5).trans rfl
        have hfz18_0 := blk_frozen BK612.out 0
        have hfz18_1 := blk_frozen BK612.out 1
        have hfz18_2 := blk_frozen BK612.out 2
        have hfz18_3 := blk_frozen BK612.out 3
        have hfz18_4 := blk_frozen BK612.out 4
        have hfz18_5 := blk_frozen BK612.out 5
        go_upto_region 5 with (first | ((with_reducible refine gate_callee (f := 74) rfl ?_); refine goesL_ (some 23) rfl rfl Try.func74 (by kernel_rfl) rfl #[.slice A0 l0.length c0, .agg #[.int .i64 a1_0, .int .i64 a1_1, .int .i64 a1_2, .int .i64 a1_3, .int .i64 a1_4, .string a1_5]] rfl (by (try simp only [List.map_toArray, List.map_cons, List.map_nil]); first | done | rfl | (simp only [List.length_drop, List.length_take]; rfl)) ?_; (with_reducible refine (heap_Push.calls _ _ l0 a1_0 a1_1 a1_2 a1_3 a1_4 a1_5 t616 _ ?side1 ?side2 A15.out).mono ?_); (case side1 => repeat (first | exact (Kd.C_below HR0.out HB.out) | (with_reducible refine Kd.C_alloc ?_ _) | (with_reducible refine Kd.C_drewN ?_ _) | (with_reducible refine Kd.C_drew ?_))); (case side2 => exact HC0.out); rintro e w19 ⟨v617, rfl, ho0, hb⟩; refine ⟨_, rfl, ?_⟩; have n0_ := Aside0.mk (Kd.R_lower (Kd.R_newB ho0 (g := gb612) (o := .cells #[.int .i64 a1_0, .int .i64 a1_1, .int .i64 a1_2, .int .i64 a1_3, .int .i64 a1_4, .string a1_5] 23 (0, 0)) (by (with_reducible repeat (first | refine blk_drewN ?_ _ | refine blk_drew ?_ | refine blk_alloc ?_ _)); exact BK612.out)) (below_size (by repeat (first | (with_reducible first | exact HB.out | apply below_alloc | apply pw_below_drewN | apply below_drew1 | refine below_set ?_ GE612.out) | exact HB.out)))); have n1_ := Aside0.mk (blk_below (g := gb612) (o := .cells #[.int .i64 a1_0, .int .i64 a1_1, .int .i64 a1_2, .int .i64 a1_3, .int .i64 a1_4, .string a1_5] 23 (0, 0)) (by (with_reducible repeat (first | refine blk_drewN ?_ _ | refine blk_drew ?_ | refine blk_alloc ?_ _)); exact BK612.out) hb); have n2_ := Aside0.mk (below_step (by repeat (first | (with_reducible first | exact HB.out | apply below_alloc | apply pw_below_drewN | apply below_drew1 | refine below_set ?_ GE612.out) | exact HB.out)) hb); clear BK612; clear HB; have HO618 := n0_; have BK612 := n1_; have HB := n2_; clear n0_ n1_ n2_; (try clear hb); (try clear hb2); (try clear hk); (try clear hi); (try clear ho0)) | ((with_reducible refine gate_callee (f := 68) rfl ?_); refine goesL_ (some 26) rfl rfl Try.func68 (by kernel_rfl) rfl #[.slice A0 l0.length c0] rfl (by (try simp only [List.map_toArray, List.map_cons, List.map_nil]); first | done | rfl | (simp only [List.length_drop, List.length_take]; rfl)) ?_; (with_reducible refine (heap_Pop.calls _ _ l0 t619 t622 t623 t624 t625 t626 t627 t628 _ ?side1 ?side2 A16.out).mono ?_); (case side1 => repeat (first | exact (Kd.C_below HR0.out HB.out) | (with_reducible refine Kd.C_alloc ?_ _) | (with_reducible refine Kd.C_drewN ?_ _) | (with_reducible refine Kd.C_drew ?_))); (case side2 => exact HC0.out); rintro e w20 ⟨v620, rfl, ho0, hb⟩; refine ⟨_, rfl, ?_⟩; have n0_ := Aside0.mk (Kd.R_elder' (by (with_reducible repeat (first | apply Kd.R_alloc | apply Kd.R_drewN | apply Kd.R_drew)); exact HO618.out) (Kd.R_base ho0) hb); have n1_ := Aside0.mk (Kd.R_lower (Kd.R_newB (Kd.R_new' ho0 (Kd.R_lt (by (with_reducible repeat (first | apply Kd.R_alloc | apply Kd.R_drewN | apply Kd.R_drew)); exact HO618.out))) (g := gb612) (o := .cells #[.int .i64 a1_0, .int .i64 a1_1, .int .i64 a1_2, .int .i64 a1_3, .int .i64 a1_4, .string a1_5] 23 (0, 0)) (by (with_reducible repeat (first | refine blk_drewN ?_ _ | refine blk_drew ?_ | refine blk_alloc ?_ _)); exact BK612.out)) (below_size (by repeat (first | (with_reducible first | exact HB.out | apply below_alloc | apply pw_below_drewN | apply below_drew1 | refine below_set ?_ GE612.out) | exact HB.out)))); have n2_ := Aside0.mk (blk_below (g := gb612) (o := .cells #[.int .i64 a1_0, .int .i64 a1_1, .int .i64 a1_2, .int .i64 a1_3, .int .i64 a1_4, .string a1_5] 23 (0, 0)) (by (with_reducible repeat (first | refine blk_drewN ?_ _ | refine blk_drew ?_ | refine blk_alloc ?_ _)); exact BK612.out) hb); have n3_ := Aside0.mk (below_step (by repeat (first | (with_reducible first | exact HB.out | apply below_alloc | apply pw_below_drewN | apply below_drew1 | refine below_set ?_ GE612.out) | exact HB.out)) hb); clear HO618; clear BK612; clear HB; have HO618 := n0_; have HO621 := n1_; have BK612 := n2_; have HB := n3_; clear n0_ n1_ n2_ n3_; (try clear hb); (try clear hb2); (try clear hk); (try clear hi); (try clear ho0)) | ((with_reducible refine gate_dst (N := 7) rfl ?_); (try (refine gate_guard (by rfl) ?_; dsimp only)); refine box_event ?hg (N := 7) ?hd (cs := #[.int .i64 0, .int .i64 0, .int .i64 0, .int .i64 0, .int .i64 0, .string (⟨#[]⟩ : ByteArray)]) (t := 23) ?hr ?_; (case hd => rfl); (case hg => rfl); (case hr => first | (go_simp; done) | (go_simp; rfl)); intro gb629 hg w21 hbox hb; have n0_ := Aside0.mk (Kd.R_below (Kd.R_elderB (by (with_reducible repeat (first | apply Kd.R_alloc | apply Kd.R_drewN | apply Kd.R_drew)); exact HO618.out) gb629 (Nat.le_of_eq hg.symm)) hb); have n1_ := Aside0.mk (Kd.R_below (Kd.R_elderB (by (with_reducible repeat (first | apply Kd.R_alloc | apply Kd.R_drewN | apply Kd.R_drew)); exact HO621.out) gb629 (Nat.le_of_eq hg.symm)) hb); have n2_ := Aside0.mk (blk_below (g := gb612) (o := .cells #[.int .i64 a1_0, .int .i64 a1_1, .int .i64 a1_2, .int .i64 a1_3, .int .i64 a1_4, .string a1_5] 23 (0, 0)) (by (with_reducible repeat (first | refine blk_drewN ?_ _ | refine blk_drew ?_ | refine blk_alloc ?_ _)); exact BK612.out) hb); have n3_ := Aside0.mk (below_step (by repeat (first | (with_reducible first | exact HB.out | apply below_alloc | apply pw_below_drewN | apply below_drew1 | refine below_set ?_ GE612.out) | exact HB.out)) hb); have n4_ := Aside0.mk (hbox); have n5_ := Aside0.mk ((by rw [hg]; exact (below_size (by repeat (first | (with_reducible first | exact HB.out | apply below_alloc | apply pw_below_drewN | apply below_drew1 | refine below_set ?_ GE612.out) | exact HB.out))) : w.heap.size ≤ gb629)); have n6_ := Aside0.mk ((by rw [hg]; exact (below_size (by repeat (first | (with_reducible first | exact HB.out | apply below_alloc | apply pw_below_drewN | apply below_drew1 | refine below_set ?_ GE612.out) | exact HB.out))) : w.heap.size ≤ gb629)); have n7_ := Aside0.mk ((by rw [hg]; exact Nat.ne_of_lt (blk_lt (g := gb612) (o := .cells #[.int .i64 a1_0, .int .i64 a1_1, .int .i64 a1_2, .int .i64 a1_3, .int .i64 a1_4, .string a1_5] 23 (0, 0)) (by (with_reducible repeat (first | refine blk_drewN ?_ _ | refine blk_drew ?_ | refine blk_alloc ?_ _)); exact BK612.out)) : gb612 ≠ gb629)); have n8_ := Aside0.mk ((by rw [hg]; exact Nat.ne_of_gt (blk_lt (g := gb612) (o := .cells #[.int .i64 a1_0, .int .i64 a1_1, .int .i64 a1_2, .int .i64 a1_3, .int .i64 a1_4, .string a1_5] 23 (0, 0)) (by (with_reducible repeat (first | refine blk_drewN ?_ _ | refine blk_drew ?_ | refine blk_alloc ?_ _)); exact BK612.out)) : gb629 ≠ gb612)); clear HO618; clear HO621; clear BK612; clear HB; have HO618 := n0_; have HO621 := n1_; have BK612 := n2_; have HB := n3_; have BK629 := n4_; have GW629 := n5_; have GE629 := n6_; have NB612_629 := n7_; have NB629_612 := n8_; clear n0_ n1_ n2_ n3_ n4_ n5_ n6_ n7_ n8_; clear hb hbox hg; have hnb22 := NB629_612.out; have hnc22 := NB612_629.out; have hcz23_0 : w21.cell? ⟨gb629, 0, none⟩ = some (.int .i64 0) := (blk_cell BK629.out 0).trans rfl; have hcz23_1 : w21.cell? ⟨gb629, 1, none⟩ = some (.int .i64 0) := (blk_cell BK629.out 1).trans rfl; have hcz23_2 : w21.cell? ⟨gb629, 2, none⟩ = some (.int .i64 0) := (blk_cell BK629.out 2).trans rfl; have hcz23_3 : w21.cell? ⟨gb629, 3, none⟩ = some (.int .i64 0) := (blk_cell BK629.out 3).trans rfl; have hcz23_4 : w21.cell? ⟨gb629, 4, none⟩ = some (.int .i64 0) := (blk_cell BK629.out 4).trans rfl; have hcz23_5 : w21.cell? ⟨gb629, 5, none⟩ = some (.string (⟨#[]⟩ : ByteArray)) := (blk_cell BK629.out 5).trans rfl; have hfz23_0 := blk_frozen BK629.out 0; have hfz23_1 := blk_frozen BK629.out 1; have hfz23_2 := blk_frozen BK629.out 2; have hfz23_3 := blk_frozen BK629.out 3; have hfz23_4 := blk_frozen BK629.out 4; have hfz23_5 := blk_frozen BK629.out 5))
        (try simp only [Act.put, List.setIfInBounds_toArray, List.set_cons_zero, List.set_cons_succ])
        go_cut [69] (fun v69 wc => ∃ (kq : Nat) (x69_16 : Bool), v69 = .bool x69_16 ∧ Aside0 (hopperlaw06_HeapKeeps.j1 kq l0 t616 t619 x69_16 a1_0 a1_1 a1_2 a1_3 a1_4 a1_5 = some r) ∧ Aside0 (kq ≤ kj2) ∧ Aside0 (Kd.R k23 23 wc w.heap.size (fun k_ => some k_ ≠ (v620 : Value).ownBlock ∧ k_ ≠ gb612 ∧ k_ ≠ gb629) v617 t616) ∧ Aside0 (Kd.R k23 23 wc w.heap.size (fun k_ => some k_ ≠ (v617 : Value).ownBlock ∧ k_ ≠ gb612 ∧ k_ ≠ gb629) v620 t619) ∧ Aside0 (wc.heap[gb612]? = some (.cells #[.int .i64 a1_0, .int .i64 a1_1, .int .i64 a1_2, .int .i64 a1_3, .int .i64 a1_4, .string a1_5] 23 (0, 0))) ∧ Aside0 (wc.heap[gb629]? = some (.cells #[.int .i64 t622, .int .i64 t623, .int .i64 t624, .int .i64 t625, .int .i64 t626, .string t627] 23 (0, 0))) ∧ Aside0 (Below w.heap.size w wc))
        case first =>
          have H := HC17.out
          clear HC17
          by_cases c24 : (t616.length : Int) = (wrap64 ((l0.length : Int) + 1))
          · rw [if_pos c24] at H
            have c24b0 : ((t616.length : Int) == (wrap64 ((l0.length : Int) + 1))) = true := beq_iff_eq.mpr c24
            have c24b1 : ((t616.length : Int) != (wrap64 ((l0.length : Int) + 1))) = false := bne_eq_false_iff_eq.mpr c24
            clear c24
            (first | rw [c24b0] | (simp only [i64_w, i32_w]; rw [c24b0]) | skip)
            by_cases c25 : (t628 != (decide ((l0.length : Int) > 0))) = true
            · rw [if_pos c25] at H
              exact absurd H (by simp)
            · rw [if_neg c25] at H
              have c25q : t628 = decide ((l0.length : Int) > 0) := by simpa using c25
              have c25z : decide (0 < l0.length) = t628 := by rw [c25q]; exact decide_eq_decide.2 (by omega)
              have c25y : decide (0 < (l0.length : Int)) = t628 := by rw [c25q]
              clear c25q
              clear c25
              by_cases c26 : t628 = true
              · subst c26
                have H1 : (if 0 < (l0.length : Int) then (if (!(t622 == ((rd_T23 l0 0).f0)) || (!(t623 == ((rd_T23 l0 0).f1)) || (!(t624 == ((rd_T23 l0 0).f2)) || (!(t625 == ((rd_T23 l0 0).f3)) || (!(t626 == ((rd_T23 l0 0).f4)) || (!(t627.toList == (((rd_T23 l0 0).f5).toList)))))))) = true then (none) else (if (t619.length : Int) = (wrap64 ((l0.length : Int) - 1)) then (hopperlaw06_HeapKeeps.j1 kj2 l0 t616 t619 false a1_0 a1_1 a1_2 a1_3 a1_4 a1_5) else (none))) else (none)) = some r := by rw [if_pos rfl] at H; exact H
                clear H
                have H := H1
                clear H1
                by_cases c27 : 0 < (l0.length : Int)
                · rw [if_pos c27] at H
                  have c27b0 : decide (0 < (l0.length : Int)) = true := decide_eq_true c27
                  have c27b1 : decide (0 < l0.length) = true := decide_eq_true (by omega)
                  clear c27
                  by_cases c28 : (!(t622 == ((rd_T23 l0 0).f0)) || (!(t623 == ((rd_T23 l0 0).f1)) || (!(t624 == ((rd_T23 l0 0).f2)) || (!(t625 == ((rd_T23 l0 0).f3)) || (!(t626 == ((rd_T23 l0 0).f4)) || (!(t627.toList == (((rd_T23 l0 0).f5).toList)))))))) = true
                  · rw [if_pos c28] at H
                    exact absurd H (by simp)
                  · rw [if_neg c28] at H
                    have c28b0 : (!(t622 == ((rd_T23 l0 0).f0)) || (!(t623 == ((rd_T23 l0 0).f1)) || (!(t624 == ((rd_T23 l0 0).f2)) || (!(t625 == ((rd_T23 l0 0).f3)) || (!(t626 == ((rd_T23 l0 0).f4)) || (!(t627.toList == (((rd_T23 l0 0).f5).toList)))))))) = false := by simpa using c28
                    clear c28
                    by_cases c29 : (t619.length : Int) = (wrap64 ((l0.length : Int) - 1))
                    · rw [if_pos c29] at H
                      have c29b0 : ((t619.length : Int) == (wrap64 ((l0.length : Int) - 1))) = true := beq_iff_eq.mpr c29
                      have c29b1 : ((t619.length : Int) != (wrap64 ((l0.length : Int) - 1))) = false := bne_eq_false_iff_eq.mpr c29
                      clear c29
                      have H' := Aside0.mk H
                      clear H
                      try go_wp2
                      have n0_ : Aside0 (Kd.R k23 23 ((((((w21.setCell ⟨gb629, 0, none⟩ (.int .i64 t622)).setCell ⟨gb629, 1, none⟩ (.int .i64 t623)).setCell ⟨gb629, 2, none⟩ (.int .i64 t624)).setCell ⟨gb629, 3, none⟩ (.int .i64 t625)).setCell ⟨gb629, 4, none⟩ (.int .i64 t626)).setCell ⟨gb629, 5, none⟩ (.string t627)) w.heap.size (fun k_ => some k_ ≠ (v620 : Value).ownBlock ∧ k_ ≠ gb612 ∧ k_ ≠ gb629) v617 t616) := ⟨by (with_reducible repeat (first | apply Kd.R_alloc | apply Kd.R_drewN | apply Kd.R_drew)); exact Kd.R_mono (Kd.R_far (p := ⟨gb629, 5, none⟩) (Kd.R_far (p := ⟨gb629, 4, none⟩) (Kd.R_far (p := ⟨gb629, 3, none⟩) (Kd.R_far (p := ⟨gb629, 2, none⟩) (Kd.R_far (p := ⟨gb629, 1, none⟩) (Kd.R_far (p := ⟨gb629, 0, none⟩) (Kd.R_mono HO618.out (fun k_ hk => (⟨hk, hk.2⟩ : _ ∧ k_ ≠ gb629))) (fun _ hk => hk.2) (.int .i64 t622)) (fun _ hk => hk.2) (.int .i64 t623)) (fun _ hk => hk.2) (.int .i64 t624)) (fun _ hk => hk.2) (.int .i64 t625)) (fun _ hk => hk.2) (.int .i64 t626)) (fun _ hk => hk.2) (.string t627)) (fun _ hk => ⟨hk.1.1.2, ⟨hk.1.1.1.2, hk.1.2⟩⟩)⟩
                      have n1_ : Aside0 (Kd.R k23 23 ((((((w21.setCell ⟨gb629, 0, none⟩ (.int .i64 t622)).setCell ⟨gb629, 1, none⟩ (.int .i64 t623)).setCell ⟨gb629, 2, none⟩ (.int .i64 t624)).setCell ⟨gb629, 3, none⟩ (.int .i64 t625)).setCell ⟨gb629, 4, none⟩ (.int .i64 t626)).setCell ⟨gb629, 5, none⟩ (.string t627)) w.heap.size (fun k_ => some k_ ≠ (v617 : Value).ownBlock ∧ k_ ≠ gb612 ∧ k_ ≠ gb629) v620 t619) := ⟨by (with_reducible repeat (first | apply Kd.R_alloc | apply Kd.R_drewN | apply Kd.R_drew)); exact Kd.R_mono (Kd.R_far (p := ⟨gb629, 5, none⟩) (Kd.R_far (p := ⟨gb629, 4, none⟩) (Kd.R_far (p := ⟨gb629, 3, none⟩) (Kd.R_far (p := ⟨gb629, 2, none⟩) (Kd.R_far (p := ⟨gb629, 1, none⟩) (Kd.R_far (p := ⟨gb629, 0, none⟩) (Kd.R_mono HO621.out (fun k_ hk => (⟨hk, hk.2⟩ : _ ∧ k_ ≠ gb629))) (fun _ hk => hk.2) (.int .i64 t622)) (fun _ hk => hk.2) (.int .i64 t623)) (fun _ hk => hk.2) (.int .i64 t624)) (fun _ hk => hk.2) (.int .i64 t625)) (fun _ hk => hk.2) (.int .i64 t626)) (fun _ hk => hk.2) (.string t627)) (fun _ hk => ⟨hk.1.1.1.2, ⟨hk.1.1.2, hk.1.2⟩⟩)⟩
                      have n2_ : Aside0 (((((((w21.setCell ⟨gb629, 0, none⟩ (.int .i64 t622)).setCell ⟨gb629, 1, none⟩ (.int .i64 t623)).setCell ⟨gb629, 2, none⟩ (.int .i64 t624)).setCell ⟨gb629, 3, none⟩ (.int .i64 t625)).setCell ⟨gb629, 4, none⟩ (.int .i64 t626)).setCell ⟨gb629, 5, none⟩ (.string t627)).heap[gb612]? = some (.cells #[.int .i64 a1_0, .int .i64 a1_1, .int .i64 a1_2, .int .i64 a1_3, .int .i64 a1_4, .string a1_5] 23 (0, 0))) := ⟨by (with_reducible repeat (first | refine blk_drewN ?_ _ | refine blk_drew ?_ | refine blk_alloc ?_ _)); refine blk_far ?_ NB612_629.out _; (with_reducible repeat (first | refine blk_drewN ?_ _ | refine blk_drew ?_ | refine blk_alloc ?_ _)); refine blk_far ?_ NB612_629.out _; (with_reducible repeat (first | refine blk_drewN ?_ _ | refine blk_drew ?_ | refine blk_alloc ?_ _)); refine blk_far ?_ NB612_629.out _; (with_reducible repeat (first | refine blk_drewN ?_ _ | refine blk_drew ?_ | refine blk_alloc ?_ _)); refine blk_far ?_ NB612_629.out _; (with_reducible repeat (first | refine blk_drewN ?_ _ | refine blk_drew ?_ | refine blk_alloc ?_ _)); refine blk_far ?_ NB612_629.out _; (with_reducible repeat (first | refine blk_drewN ?_ _ | refine blk_drew ?_ | refine blk_alloc ?_ _)); refine blk_far ?_ NB612_629.out _; (with_reducible repeat (first | refine blk_drewN ?_ _ | refine blk_drew ?_ | refine blk_alloc ?_ _)); exact BK612.out⟩
                      have n3_ : Aside0 (((((((w21.setCell ⟨gb629, 0, none⟩ (.int .i64 t622)).setCell ⟨gb629, 1, none⟩ (.int .i64 t623)).setCell ⟨gb629, 2, none⟩ (.int .i64 t624)).setCell ⟨gb629, 3, none⟩ (.int .i64 t625)).setCell ⟨gb629, 4, none⟩ (.int .i64 t626)).setCell ⟨gb629, 5, none⟩ (.string t627)).heap[gb629]? = some (.cells #[.int .i64 t622, .int .i64 t623, .int .i64 t624, .int .i64 t625, .int .i64 t626, .string t627] 23 (0, 0))) := ⟨by (with_reducible repeat (first | refine blk_drewN ?_ _ | refine blk_drew ?_ | refine blk_alloc ?_ _)); refine blk_put (cs := #[.int .i64 t622, .int .i64 t623, .int .i64 t624, .int .i64 t625, .int .i64 t626, .string (⟨#[]⟩ : ByteArray)]) ?_ 5 _ rfl; (with_reducible repeat (first | refine blk_drewN ?_ _ | refine blk_drew ?_ | refine blk_alloc ?_ _)); refine blk_put (cs := #[.int .i64 t622, .int .i64 t623, .int .i64 t624, .int .i64 t625, .int .i64 0, .string (⟨#[]⟩ : ByteArray)]) ?_ 4 _ rfl; (with_reducible repeat (first | refine blk_drewN ?_ _ | refine blk_drew ?_ | refine blk_alloc ?_ _)); refine blk_put (cs := #[.int .i64 t622, .int .i64 t623, .int .i64 t624, .int .i64 0, .int .i64 0, .string (⟨#[]⟩ : ByteArray)]) ?_ 3 _ rfl; (with_reducible repeat (first | refine blk_drewN ?_ _ | refine blk_drew ?_ | refine blk_alloc ?_ _)); refine blk_put (cs := #[.int .i64 t622, .int .i64 t623, .int .i64 0, .int .i64 0, .int .i64 0, .string (⟨#[]⟩ : ByteArray)]) ?_ 2 _ rfl; (with_reducible repeat (first | refine blk_drewN ?_ _ | refine blk_drew ?_ | refine blk_alloc ?_ _)); refine blk_put (cs := #[.int .i64 t622, .int .i64 0, .int .i64 0, .int .i64 0, .int .i64 0, .string (⟨#[]⟩ : ByteArray)]) ?_ 1 _ rfl; (with_reducible repeat (first | refine blk_drewN ?_ _ | refine blk_drew ?_ | refine blk_alloc ?_ _)); refine blk_put (cs := #[.int .i64 0, .int .i64 0, .int .i64 0, .int .i64 0, .int .i64 0, .string (⟨#[]⟩ : ByteArray)]) ?_ 0 _ rfl; (with_reducible repeat (first | refine blk_drewN ?_ _ | refine blk_drew ?_ | refine blk_alloc ?_ _)); exact BK629.out⟩
                      have n4_ : Aside0 (Below w.heap.size w ((((((w21.setCell ⟨gb629, 0, none⟩ (.int .i64 t622)).setCell ⟨gb629, 1, none⟩ (.int .i64 t623)).setCell ⟨gb629, 2, none⟩ (.int .i64 t624)).setCell ⟨gb629, 3, none⟩ (.int .i64 t625)).setCell ⟨gb629, 4, none⟩ (.int .i64 t626)).setCell ⟨gb629, 5, none⟩ (.string t627))) := ⟨by repeat (first | (with_reducible first | exact HB.out | apply below_alloc | apply pw_below_drewN | apply below_drew1 | refine below_set ?_ GE612.out | refine below_set ?_ GE629.out) | exact HB.out)⟩
                      (try clear HO618)
                      (try clear HO621)
                      (try clear BK612)
                      (try clear BK629)
                      (try clear HB)
                      generalize ((((((w21.setCell ⟨gb629, 0, none⟩ (.int .i64 t622)).setCell ⟨gb629, 1, none⟩ (.int .i64 t623)).setCell ⟨gb629, 2, none⟩ (.int .i64 t624)).setCell ⟨gb629, 3, none⟩ (.int .i64 t625)).setCell ⟨gb629, 4, none⟩ (.int .i64 t626)).setCell ⟨gb629, 5, none⟩ (.string t627)) = w30 at n0_ n1_ n2_ n3_ n4_ ⊢
                      have HO618 := n0_
                      have HO621 := n1_
                      have BK612 := n2_
                      have BK629 := n3_
                      have HB := n4_
                      clear n0_ n1_ n2_ n3_ n4_
                      have n0_ := Aside0.mk (Kd.R_drew HO618.out)
                      have n1_ := Aside0.mk (Kd.R_drew HO621.out)
                      have n2_ := Aside0.mk (blk_drew BK612.out)
                      have n3_ := Aside0.mk (blk_drew BK629.out)
                      have n4_ := Aside0.mk (below_drew1 HB.out)
                      clear HO618
                      clear HO621
                      clear BK612
                      clear BK629
                      clear HB
                      have HO618 := n0_
                      have HO621 := n1_
                      have BK612 := n2_
                      have BK629 := n3_
                      have HB := n4_
                      clear n0_ n1_ n2_ n3_ n4_
                      obtain ⟨Ao32, co32, eo32⟩ := Kd.R_slice HO618.out
                      (first | subst eo32 | (injection eo32 with f1_ f2_ f3_; have f4_ := f1_.symm; have f5_ := f3_.symm; clear f1_ f2_ f3_; subst f4_; subst f5_))
                      have p630 : 0 ≤ (0 : Int) := (by omega)
                      have q630 : 0 < (l0.length : Int) := of_decide_eq_true (by first | (with_reducible assumption) | assumption)
                      obtain ⟨ad630, e630, hx630_0, hx630_1, hx630_2, hx630_3, hx630_4, hx630_5⟩ := at_T23 HR0.out 0 p630 q630
                      have hw630_5 := hx630_5
                      (try rw [show ((0 : Int)).toNat = 0 from rfl] at hw630_5)
                      (try rw [show 0 * 6 = 0 from rfl] at hw630_5)
                      (try rw [Addr.add_zero'] at hw630_5)
                      have hw630_4 := hx630_4
                      (try rw [show ((0 : Int)).toNat = 0 from rfl] at hw630_4)
                      (try rw [show 0 * 6 = 0 from rfl] at hw630_4)
                      (try rw [Addr.add_zero'] at hw630_4)
                      have hw630_3 := hx630_3
                      (try rw [show ((0 : Int)).toNat = 0 from rfl] at hw630_3)
                      (try rw [show 0 * 6 = 0 from rfl] at hw630_3)
                      (try rw [Addr.add_zero'] at hw630_3)
                      have hw630_2 := hx630_2
                      (try rw [show ((0 : Int)).toNat = 0 from rfl] at hw630_2)
                      (try rw [show 0 * 6 = 0 from rfl] at hw630_2)
                      (try rw [Addr.add_zero'] at hw630_2)
                      have hw630_1 := hx630_1
                      (try rw [show ((0 : Int)).toNat = 0 from rfl] at hw630_1)
                      (try rw [show 0 * 6 = 0 from rfl] at hw630_1)
                      (try rw [Addr.add_zero'] at hw630_1)
                      have hw630_0 := hx630_0
                      (try rw [show ((0 : Int)).toNat = 0 from rfl] at hw630_0)
                      (try rw [show 0 * 6 = 0 from rfl] at hw630_0)
                      (try rw [Addr.add_zero'] at hw630_0)
                      cases e630
                      have qi630 : (0 < l0.length) = True := eq_true (by omega)
                      (try rw [show ((0 : Int)).toNat = 0 from rfl] at hx630_0)
                      (try rw [show 0 * 6 = 0 from rfl] at hx630_0)
                      (try rw [Addr.add_zero'] at hx630_0)
                      (try rw [show ((0 : Int)).toNat = 0 from rfl] at hx630_1)
                      (try rw [show 0 * 6 = 0 from rfl] at hx630_1)
                      (try rw [Addr.add_zero'] at hx630_1)
                      (try rw [show ((0 : Int)).toNat = 0 from rfl] at hx630_2)
                      (try rw [show 0 * 6 = 0 from rfl] at hx630_2)
                      (try rw [Addr.add_zero'] at hx630_2)
                      (try rw [show ((0 : Int)).toNat = 0 from rfl] at hx630_3)
                      (try rw [show 0 * 6 = 0 from rfl] at hx630_3)
                      (try rw [Addr.add_zero'] at hx630_3)
                      (try rw [show ((0 : Int)).toNat = 0 from rfl] at hx630_4)
                      (try rw [show 0 * 6 = 0 from rfl] at hx630_4)
                      (try rw [Addr.add_zero'] at hx630_4)
                      (try rw [show ((0 : Int)).toNat = 0 from rfl] at hx630_5)
                      (try rw [show 0 * 6 = 0 from rfl] at hx630_5)
                      (try rw [Addr.add_zero'] at hx630_5)
                      replace hx630_0 := (HB.out.cell (World.block_lt_of_cell? w _ hx630_0)).trans hx630_0
                      replace hx630_1 := (HB.out.cell (World.block_lt_of_cell? w _ hx630_1)).trans hx630_1
                      replace hx630_2 := (HB.out.cell (World.block_lt_of_cell? w _ hx630_2)).trans hx630_2
                      replace hx630_3 := (HB.out.cell (World.block_lt_of_cell? w _ hx630_3)).trans hx630_3
                      replace hx630_4 := (HB.out.cell (World.block_lt_of_cell? w _ hx630_4)).trans hx630_4
                      replace hx630_5 := (HB.out.cell (World.block_lt_of_cell? w _ hx630_5)).trans hx630_5
                      replace p630 := eq_true p630
                      replace q630 := eq_true q630
                      obtain ⟨Ao33, co33, eo33⟩ := Kd.R_slice HO621.out
                      (first | subst eo33 | (injection eo33 with f1_ f2_ f3_; have f4_ := f1_.symm; have f5_ := f3_.symm; clear f1_ f2_ f3_; subst f4_; subst f5_))
                      refine start_ (n := 40) (S := fun w' => w'.cell? ⟨gb629, 0, none⟩ = some (.int .i64 t622) ∧ w'.cell? ⟨gb629, 1, none⟩ = some (.int .i64 t623) ∧ w'.cell? ⟨gb629, 2, none⟩ = some (.int .i64 t624) ∧ w'.cell? ⟨gb629, 3, none⟩ = some (.int .i64 t625) ∧ w'.cell? ⟨gb629, 4, none⟩ = some (.int .i64 t626) ∧ w'.cell? ⟨gb629, 5, none⟩ = some (.string t627) ∧ w'.cell? ad630 = some (.int .i64 ((rd_T23 l0 0).f0)) ∧ w'.cell? ⟨ad630.block, ad630.off + 1, none⟩ = some (.int .i64 ((rd_T23 l0 0).f1)) ∧ w'.cell? ⟨ad630.block, ad630.off + 2, none⟩ = some (.int .i64 ((rd_T23 l0 0).f2)) ∧ w'.cell? ⟨ad630.block, ad630.off + 3, none⟩ = some (.int .i64 ((rd_T23 l0 0).f3)) ∧ w'.cell? ⟨ad630.block, ad630.off + 4, none⟩ = some (.int .i64 ((rd_T23 l0 0).f4)) ∧ w'.cell? ⟨ad630.block, ad630.off + 5, none⟩ = some (.string ((rd_T23 l0 0).f5))) (ds := []) #[false, false, false, false, false, false, false, false, false, false, false, false, false, false, false, false, false, false, false, false, false, false, false, false, false, false, false, false, false, false, false, false, false, false, false, false, false, false, false, false] (by kernel_rfl) rfl rfl ⟨(blk_cell BK629.out 0).trans rfl, (blk_cell BK629.out 1).trans rfl, (blk_cell BK629.out 2).trans rfl, (blk_cell BK629.out 3).trans rfl, (blk_cell BK629.out 4).trans rfl, (blk_cell BK629.out 5).trans rfl, ((HB.out.cell (World.block_lt_of_cell? w _ hw630_0)).trans hw630_0), ((HB.out.cell (World.block_lt_of_cell? w _ hw630_1)).trans hw630_1), ((HB.out.cell (World.block_lt_of_cell? w _ hw630_2)).trans hw630_2), ((HB.out.cell (World.block_lt_of_cell? w _ hw630_3)).trans hw630_3), ((HB.out.cell (World.block_lt_of_cell? w _ hw630_4)).trans hw630_4), ((HB.out.cell (World.block_lt_of_cell? w _ hw630_5)).trans hw630_5)⟩ (fun hHeld => ?_); refine with_tabW hopperlaw06_HeapKeeps.tab5 hopperlaw06_HeapKeeps.bits5 (fun HT_ HW_ => ?_)
                      generalize w30.drew = w31 at HO618 HO621 BK612 BK629 HB hx630_0 hx630_1 hx630_2 hx630_3 hx630_4 hx630_5 hHeld ⊢
                      refine pure_ (i := 0) (N := some 30) (v := ?_) (a' := ?_) #[true, false, false, false, false, false, false, false, false, false, false, false, false, false, false, false, false, false, false, false, false, false, false, false, false, false, false, false, false, false, false, false, false, false, false, false, false, false, false, false] rfl rfl (any_of HT_.out (by kernel_rfl)) (fun _ _ _ h => h) (Or.inl ⟨by rfl, ?_⟩) ?_ ?_
                      rotate_left
                      · intro w'
                        go_simp
                        with_reducible rfl
                      rotate_left
                      · simp only [Act.put, List.setIfInBounds_toArray, List.set_cons_zero, List.set_cons_succ, i64_w, i32_w]
                        rfl
                      refine pure_ (i := 1) (N := some 31) (v := ?_) (a' := ?_) #[true, true, false, false, false, false, false, false, false, false, false, false, false, false, false, false, false, false, false, false, false, false, false, false, false, false, false, false, false, false, false, false, false, false, false, false, false, false, false, false] rfl rfl (any_of HT_.out (by kernel_rfl)) (fun _ _ _ h => h) (Or.inl ⟨by rfl, ?_⟩) ?_ ?_
                      rotate_left
                      · intro w'
                        go_simp
                        with_reducible rfl
                      rotate_left
                      · simp only [Act.put, List.setIfInBounds_toArray, List.set_cons_zero, List.set_cons_succ, i64_w, i32_w]
                        rfl
                      refine pure_ (i := 2) (N := some 32) (v := ?_) (a' := ?_) #[true, true, true, false, false, false, false, false, false, false, false, false, false, false, false, false, false, false, false, false, false, false, false, false, false, false, false, false, false, false, false, false, false, false, false, false, false, false, false, false] rfl rfl (any_of HT_.out (by kernel_rfl)) (fun _ _ _ h => h) (Or.inl ⟨by rfl, ?_⟩) ?_ ?_
                      rotate_left
                      · intro w'
                        go_simp
                        with_reducible rfl
                      rotate_left
                      · simp only [Act.put, List.setIfInBounds_toArray, List.set_cons_zero, List.set_cons_succ, i64_w, i32_w]
                        rfl
                      refine pure_ (i := 3) (N := some 33) (v := ?_) (a' := ?_) #[true, true, true, true, false, false, false, false, false, false, false, false, false, false, false, false, false, false, false, false, false, false, false, false, false, false, false, false, false, false, false, false, false, false, false, false, false, false, false, false] rfl rfl (any_of HT_.out (by kernel_rfl)) (fun _ _ _ h => h) (Or.inl ⟨by rfl, ?_⟩) ?_ ?_
                      rotate_left
                      · intro w'
                        go_simp
                        with_reducible rfl
                      rotate_left
                      · simp only [Act.put, List.setIfInBounds_toArray, List.set_cons_zero, List.set_cons_succ, i64_w, i32_w]
                        rfl
                      refine pure_ (i := 4) (N := some 34) (v := ?_) (a' := ?_) #[true, true, true, true, true, false, false, false, false, false, false, false, false, false, false, false, false, false, false, false, false, false, false, false, false, false, false, false, false, false, false, false, false, false, false, false, false, false, false, false] rfl rfl (any_of HT_.out (by kernel_rfl)) (fun _ _ _ h => h) (Or.inl ⟨by rfl, ?_⟩) ?_ ?_
                      rotate_left
                      · intro w'
                        go_simp
                        with_reducible rfl
                      rotate_left
                      · simp only [Act.put, List.setIfInBounds_toArray, List.set_cons_zero, List.set_cons_succ, i64_w, i32_w]
                        rfl
                      refine pure_ (i := 5) (N := some 35) (v := ?_) (a' := ?_) #[true, true, true, true, true, true, false, false, false, false, false, false, false, false, false, false, false, false, false, false, false, false, false, false, false, false, false, false, false, false, false, false, false, false, false, false, false, false, false, false] rfl rfl (any_of HT_.out (by kernel_rfl)) (fun _ _ _ h => h) (Or.inl ⟨by rfl, ?_⟩) ?_ ?_
                      rotate_left
                      · intro w'
                        go_simp
                        with_reducible rfl
                      rotate_left
                      · simp only [Act.put, List.setIfInBounds_toArray, List.set_cons_zero, List.set_cons_succ, i64_w, i32_w]
                        rfl
                      refine pure_ (i := 6) (N := some 36) (v := ?_) (a' := ?_) #[true, true, true, true, true, true, true, false, false, false, false, false, false, false, false, false, false, false, false, false, false, false, false, false, false, false, false, false, false, false, false, false, false, false, false, false, false, false, false, false] rfl rfl (any_of HT_.out (by kernel_rfl)) (fun _ _ _ h => h) (Or.inl ⟨by rfl, ?_⟩) ?_ ?_
                      rotate_left
                      · intro w'
                        go_simp
                        with_reducible rfl
                      rotate_left
                      · simp only [Act.put, List.setIfInBounds_toArray, List.set_cons_zero, List.set_cons_succ, i64_w, i32_w]
                        rfl
                      refine pure_ (i := 7) (N := some 37) (v := ?_) (a' := ?_) #[true, true, true, true, true, true, true, true, false, false, false, false, false, false, false, false, false, false, false, false, false, false, false, false, false, false, false, false, false, false, false, false, false, false, false, false, false, false, false, false] rfl rfl (any_of HT_.out (by kernel_rfl)) (fun _ _ _ h => h) (Or.inl ⟨by rfl, ?_⟩) ?_ ?_
                      rotate_left
                      · intro w'
                        go_simp
                        with_reducible rfl
                      rotate_left
                      · simp only [Act.put, List.setIfInBounds_toArray, List.set_cons_zero, List.set_cons_succ, i64_w, i32_w]
                        rfl
                      refine pure_ (i := 8) (N := some 38) (v := ?_) (a' := ?_) #[true, true, true, true, true, true, true, true, true, false, false, false, false, false, false, false, false, false, false, false, false, false, false, false, false, false, false, false, false, false, false, false, false, false, false, false, false, false, false, false] rfl rfl (any_of HT_.out (by kernel_rfl)) (fun _ _ _ h => h) (Or.inl ⟨by rfl, ?_⟩) ?_ ?_
                      rotate_left
                      · intro w'
                        go_simp
                        with_reducible rfl
                      rotate_left
                      · simp only [Act.put, List.setIfInBounds_toArray, List.set_cons_zero, List.set_cons_succ, i64_w, i32_w]
                        rfl
                      refine pure_ (i := 9) (N := some 39) (v := ?_) (a' := ?_) #[true, true, true, true, true, true, true, true, true, true, false, false, false, false, false, false, false, false, false, false, false, false, false, false, false, false, false, false, false, false, false, false, false, false, false, false, false, false, false, false] rfl rfl (any_of HT_.out (by kernel_rfl)) (fun _ _ _ h => h) (Or.inl ⟨by rfl, ?_⟩) ?_ ?_
                      rotate_left
                      · intro w'
                        go_simp
                        with_reducible rfl
                      rotate_left
                      · simp only [Act.put, List.setIfInBounds_toArray, List.set_cons_zero, List.set_cons_succ, i64_w, i32_w]
                        rfl
                      refine pure_ (i := 10) (N := some 40) (v := ?_) (a' := ?_) #[true, true, true, true, true, true, true, true, true, true, true, false, false, false, false, false, false, false, false, false, false, false, false, false, false, false, false, false, false, false, false, false, false, false, false, false, false, false, false, false] rfl rfl (any_of HT_.out (by kernel_rfl)) (fun _ _ _ h => h) (Or.inl ⟨by rfl, ?_⟩) ?_ ?_
                      rotate_left
                      · intro w'
                        go_simp
                        with_reducible rfl
                      rotate_left
                      · simp only [Act.put, List.setIfInBounds_toArray, List.set_cons_zero, List.set_cons_succ, i64_w, i32_w]
                        rfl
                      refine pure_ (i := 11) (N := some 41) (v := ?_) (a' := ?_) #[true, true, true, true, true, true, true, true, true, true, true, true, false, false, false, false, false, false, false, false, false, false, false, false, false, false, false, false, false, false, false, false, false, false, false, false, false, false, false, false] rfl rfl (any_of HT_.out (by kernel_rfl)) (fun _ _ _ h => h) (Or.inl ⟨by rfl, ?_⟩) ?_ ?_
                      rotate_left
                      · intro w'
                        go_simp
                        with_reducible rfl
                      rotate_left
                      · simp only [Act.put, List.setIfInBounds_toArray, List.set_cons_zero, List.set_cons_succ, i64_w, i32_w]
                        rfl
                      refine pure_ (i := 12) (N := some 42) (v := ?_) (a' := ?_) #[true, true, true, true, true, true, true, true, true, true, true, true, true, false, false, false, false, false, false, false, false, false, false, false, false, false, false, false, false, false, false, false, false, false, false, false, false, false, false, false] rfl rfl (any_of HT_.out (by kernel_rfl)) (fun _ _ _ h => h) (Or.inl ⟨by rfl, ?_⟩) ?_ ?_
                      rotate_left
                      · intro w'
                        go_simp
                        with_reducible rfl
                      rotate_left
                      · simp only [Act.put, List.setIfInBounds_toArray, List.set_cons_zero, List.set_cons_succ, i64_w, i32_w]
                        rfl
                      refine pure_ (i := 13) (N := some 43) (v := ?_) (a' := ?_) #[true, true, true, true, true, true, true, true, true, true, true, true, true, true, false, false, false, false, false, false, false, false, false, false, false, false, false, false, false, false, false, false, false, false, false, false, false, false, false, false] rfl rfl (any_of HT_.out (by kernel_rfl)) (fun _ _ _ h => h) (Or.inl ⟨by rfl, ?_⟩) ?_ ?_
                      rotate_left
                      · intro w'
                        go_simp
                        with_reducible rfl
                      rotate_left
                      · simp only [Act.put, List.setIfInBounds_toArray, List.set_cons_zero, List.set_cons_succ, i64_w, i32_w]
                        rfl
                      refine pure_ (i := 14) (N := some 44) (v := ?_) (a' := ?_) #[true, true, true, true, true, true, true, true, true, true, true, true, true, true, true, false, false, false, false, false, false, false, false, false, false, false, false, false, false, false, false, false, false, false, false, false, false, false, false, false] rfl rfl (any_of HT_.out (by kernel_rfl)) (fun _ _ _ h => h) (Or.inl ⟨by rfl, ?_⟩) ?_ ?_
                      rotate_left
                      · intro w'
                        go_simp
                        with_reducible rfl
                      rotate_left
                      · simp only [Act.put, List.setIfInBounds_toArray, List.set_cons_zero, List.set_cons_succ, i64_w, i32_w]
                        rfl
                      refine pure_ (i := 15) (N := some 45) (v := ?_) (a' := ?_) #[true, true, true, true, true, true, true, true, true, true, true, true, true, true, true, true, false, false, false, false, false, false, false, false, false, false, false, false, false, false, false, false, false, false, false, false, false, false, false, false] rfl rfl (any_of HT_.out (by kernel_rfl)) (fun _ _ _ h => h) (Or.inl ⟨by rfl, ?_⟩) ?_ ?_
                      rotate_left
                      · intro w'
                        go_simp
                        with_reducible rfl
                      rotate_left
                      · simp only [Act.put, List.setIfInBounds_toArray, List.set_cons_zero, List.set_cons_succ, i64_w, i32_w]
                        rfl
                      refine pure_ (i := 17) (N := some 47) (v := ?_) (a' := ?_) #[true, true, true, true, true, true, true, true, true, true, true, true, true, true, true, true, false, true, false, false, false, false, false, false, false, false, false, false, false, false, false, false, false, false, false, false, false, false, false, false] rfl rfl (any_of HT_.out (by kernel_rfl)) (fun _ _ _ h => h) (Or.inl ⟨by rfl, ?_⟩) ?_ ?_
                      rotate_left
                      · intro w'
                        go_simp
                        with_reducible rfl
                      rotate_left
                      · simp only [Act.put, List.setIfInBounds_toArray, List.set_cons_zero, List.set_cons_succ, i64_w, i32_w]
                        rfl
                      refine pure_ (i := 18) (N := some 48) (v := ?_) (a' := ?_) #[true, true, true, true, true, true, true, true, true, true, true, true, true, true, true, true, false, true, true, false, false, false, false, false, false, false, false, false, false, false, false, false, false, false, false, false, false, false, false, false] rfl rfl (any_of HT_.out (by kernel_rfl)) (fun _ _ _ h => h) (Or.inl ⟨by rfl, ?_⟩) ?_ ?_
                      rotate_left
                      · intro w'
                        go_simp
                        with_reducible rfl
                      rotate_left
                      · simp only [Act.put, List.setIfInBounds_toArray, List.set_cons_zero, List.set_cons_succ, i64_w, i32_w]
                        rfl
                      refine take_ (i := 16) (N := some 46) (v := ?_) (a' := ?_) #[true, true, true, true, true, true, true, true, true, true, true, true, true, true, true, true, true, true, true, false, false, false, false, false, false, false, false, false, false, false, false, false, false, false, false, false, false, false, false, false] rfl rfl (take_ofW HT_.out HW_.out (by kernel_rfl)) (fun _ _ _ h => h) (Or.inl ⟨by rfl, ?_⟩) hHeld ?_ ?_
                      rotate_left
                      · rintro w' ⟨s0, s1, s2, s3, s4, s5, s6, s7, s8, s9, s10, s11⟩
                        go_simp
                        with_reducible rfl
                      rotate_left
                      · simp only [Act.put, List.setIfInBounds_toArray, List.set_cons_zero, List.set_cons_succ, i64_w, i32_w]
                        rfl
                      refine take_ (i := 19) (N := some 49) (v := ?_) (a' := ?_) #[true, true, true, true, true, true, true, true, true, true, true, true, true, true, true, true, true, true, true, true, false, false, false, false, false, false, false, false, false, false, false, false, false, false, false, false, false, false, false, false] rfl rfl (take_ofW HT_.out HW_.out (by kernel_rfl)) (fun _ _ _ h => h) (Or.inl ⟨by rfl, ?_⟩) hHeld ?_ ?_
                      rotate_left
                      · rintro w' ⟨s0, s1, s2, s3, s4, s5, s6, s7, s8, s9, s10, s11⟩
                        go_simp
                        with_reducible rfl
                      rotate_left
                      · simp only [Act.put, List.setIfInBounds_toArray, List.set_cons_zero, List.set_cons_succ, i64_w, i32_w]
                        rfl
                      refine pure_ (i := 20) (N := some 50) (v := ?_) (a' := ?_) #[true, true, true, true, true, true, true, true, true, true, true, true, true, true, true, true, true, true, true, true, true, false, false, false, false, false, false, false, false, false, false, false, false, false, false, false, false, false, false, false] rfl rfl (any_of HT_.out (by kernel_rfl)) (fun _ _ _ h => h) (Or.inl ⟨by rfl, ?_⟩) ?_ ?_
                      rotate_left
                      · intro w'
                        go_simp
                        with_reducible rfl
                      rotate_left
                      · simp only [Act.put, List.setIfInBounds_toArray, List.set_cons_zero, List.set_cons_succ, i64_w, i32_w]
                        rfl
                      refine pure_ (i := 21) (N := some 51) (v := ?_) (a' := ?_) #[true, true, true, true, true, true, true, true, true, true, true, true, true, true, true, true, true, true, true, true, true, true, false, false, false, false, false, false, false, false, false, false, false, false, false, false, false, false, false, false] rfl rfl (any_of HT_.out (by kernel_rfl)) (fun _ _ _ h => h) (Or.inl ⟨by rfl, ?_⟩) ?_ ?_
                      rotate_left
                      · intro w'
                        go_simp
                        with_reducible rfl
                      rotate_left
                      · simp only [Act.put, List.setIfInBounds_toArray, List.set_cons_zero, List.set_cons_succ, i64_w, i32_w]
                        rfl
                      refine pure_ (i := 22) (N := some 52) (v := ?_) (a' := ?_) #[true, true, true, true, true, true, true, true, true, true, true, true, true, true, true, true, true, true, true, true, true, true, true, false, false, false, false, false, false, false, false, false, false, false, false, false, false, false, false, false] rfl rfl (any_of HT_.out (by kernel_rfl)) (fun _ _ _ h => h) (Or.inl ⟨by rfl, ?_⟩) ?_ ?_
                      rotate_left
                      · intro w'
                        go_simp
                        with_reducible rfl
                      rotate_left
                      · simp only [Act.put, List.setIfInBounds_toArray, List.set_cons_zero, List.set_cons_succ, i64_w, i32_w]
                        rfl
                      refine pure_ (i := 23) (N := some 53) (v := ?_) (a' := ?_) #[true, true, true, true, true, true, true, true, true, true, true, true, true, true, true, true, true, true, true, true, true, true, true, true, false, false, false, false, false, false, false, false, false, false, false, false, false, false, false, false] rfl rfl (any_of HT_.out (by kernel_rfl)) (fun _ _ _ h => h) (Or.inl ⟨by rfl, ?_⟩) ?_ ?_
                      rotate_left
                      · intro w'
                        go_simp
                        with_reducible rfl
                      rotate_left
                      · simp only [Act.put, List.setIfInBounds_toArray, List.set_cons_zero, List.set_cons_succ, i64_w, i32_w]
                        rfl
                      refine pure_ (i := 24) (N := some 54) (v := ?_) (a' := ?_) #[true, true, true, true, true, true, true, true, true, true, true, true, true, true, true, true, true, true, true, true, true, true, true, true, true, false, false, false, false, false, false, false, false, false, false, false, false, false, false, false] rfl rfl (any_of HT_.out (by kernel_rfl)) (fun _ _ _ h => h) (Or.inl ⟨by rfl, ?_⟩) ?_ ?_
                      rotate_left
                      · intro w'
                        go_simp
                        with_reducible rfl
                      rotate_left
                      · simp only [Act.put, List.setIfInBounds_toArray, List.set_cons_zero, List.set_cons_succ, i64_w, i32_w]
                        rfl
                      refine pure_ (i := 25) (N := some 55) (v := ?_) (a' := ?_) #[true, true, true, true, true, true, true, true, true, true, true, true, true, true, true, true, true, true, true, true, true, true, true, true, true, true, false, false, false, false, false, false, false, false, false, false, false, false, false, false] rfl rfl (any_of HT_.out (by kernel_rfl)) (fun _ _ _ h => h) (Or.inl ⟨by rfl, ?_⟩) ?_ ?_
                      rotate_left
                      · intro w'
                        go_simp
                        with_reducible rfl
                      rotate_left
                      · simp only [Act.put, List.setIfInBounds_toArray, List.set_cons_zero, List.set_cons_succ, i64_w, i32_w]
                        rfl
                      refine pure_ (i := 26) (N := some 56) (v := ?_) (a' := ?_) #[true, true, true, true, true, true, true, true, true, true, true, true, true, true, true, true, true, true, true, true, true, true, true, true, true, true, true, false, false, false, false, false, false, false, false, false, false, false, false, false] rfl rfl (any_of HT_.out (by kernel_rfl)) (fun _ _ _ h => h) (Or.inl ⟨by rfl, ?_⟩) ?_ ?_
                      rotate_left
                      · intro w'
                        go_simp
                        with_reducible rfl
                      rotate_left
                      · simp only [Act.put, List.setIfInBounds_toArray, List.set_cons_zero, List.set_cons_succ, i64_w, i32_w]
                        rfl
                      refine pure_ (i := 27) (N := some 57) (v := ?_) (a' := ?_) #[true, true, true, true, true, true, true, true, true, true, true, true, true, true, true, true, true, true, true, true, true, true, true, true, true, true, true, true, false, false, false, false, false, false, false, false, false, false, false, false] rfl rfl (any_of HT_.out (by kernel_rfl)) (fun _ _ _ h => h) (Or.inl ⟨by rfl, ?_⟩) ?_ ?_
                      rotate_left
                      · intro w'
                        go_simp
                        with_reducible rfl
                      rotate_left
                      · simp only [Act.put, List.setIfInBounds_toArray, List.set_cons_zero, List.set_cons_succ, i64_w, i32_w]
                        rfl
                      refine pure_ (i := 28) (N := some 58) (v := ?_) (a' := ?_) #[true, true, true, true, true, true, true, true, true, true, true, true, true, true, true, true, true, true, true, true, true, true, true, true, true, true, true, true, true, false, false, false, false, false, false, false, false, false, false, false] rfl rfl (any_of HT_.out (by kernel_rfl)) (fun _ _ _ h => h) (Or.inl ⟨by rfl, ?_⟩) ?_ ?_
                      rotate_left
                      · intro w'
                        go_simp
                        with_reducible rfl
                      rotate_left
                      · simp only [Act.put, List.setIfInBounds_toArray, List.set_cons_zero, List.set_cons_succ, i64_w, i32_w]
                        rfl
                      refine pure_ (i := 29) (N := some 59) (v := ?_) (a' := ?_) #[true, true, true, true, true, true, true, true, true, true, true, true, true, true, true, true, true, true, true, true, true, true, true, true, true, true, true, true, true, true, false, false, false, false, false, false, false, false, false, false] rfl rfl (any_of HT_.out (by kernel_rfl)) (fun _ _ _ h => h) (Or.inl ⟨by rfl, ?_⟩) ?_ ?_
                      rotate_left
                      · intro w'
                        go_simp
                        with_reducible rfl
                      rotate_left
                      · simp only [Act.put, List.setIfInBounds_toArray, List.set_cons_zero, List.set_cons_succ, i64_w, i32_w]
                        rfl
                      refine pure_ (i := 30) (N := some 60) (v := ?_) (a' := ?_) #[true, true, true, true, true, true, true, true, true, true, true, true, true, true, true, true, true, true, true, true, true, true, true, true, true, true, true, true, true, true, true, false, false, false, false, false, false, false, false, false] rfl rfl (any_of HT_.out (by kernel_rfl)) (fun _ _ _ h => h) (Or.inl ⟨by rfl, ?_⟩) ?_ ?_
                      rotate_left
                      · intro w'
                        go_simp
                        with_reducible rfl
                      rotate_left
                      · simp only [Act.put, List.setIfInBounds_toArray, List.set_cons_zero, List.set_cons_succ, i64_w, i32_w]
                        rfl
                      refine pure_ (i := 31) (N := some 61) (v := ?_) (a' := ?_) #[true, true, true, true, true, true, true, true, true, true, true, true, true, true, true, true, true, true, true, true, true, true, true, true, true, true, true, true, true, true, true, true, false, false, false, false, false, false, false, false] rfl rfl (any_of HT_.out (by kernel_rfl)) (fun _ _ _ h => h) (Or.inl ⟨by rfl, ?_⟩) ?_ ?_
                      rotate_left
                      · intro w'
                        go_simp
                        with_reducible rfl
                      rotate_left
                      · simp only [Act.put, List.setIfInBounds_toArray, List.set_cons_zero, List.set_cons_succ, i64_w, i32_w]
                        rfl
                      refine pure_ (i := 32) (N := some 62) (v := ?_) (a' := ?_) #[true, true, true, true, true, true, true, true, true, true, true, true, true, true, true, true, true, true, true, true, true, true, true, true, true, true, true, true, true, true, true, true, true, false, false, false, false, false, false, false] rfl rfl (any_of HT_.out (by kernel_rfl)) (fun _ _ _ h => h) (Or.inl ⟨by rfl, ?_⟩) ?_ ?_
                      rotate_left
                      · intro w'
                        go_simp
                        with_reducible rfl
                      rotate_left
                      · simp only [Act.put, List.setIfInBounds_toArray, List.set_cons_zero, List.set_cons_succ, i64_w, i32_w]
                        rfl
                      refine pure_ (i := 33) (N := some 63) (v := ?_) (a' := ?_) #[true, true, true, true, true, true, true, true, true, true, true, true, true, true, true, true, true, true, true, true, true, true, true, true, true, true, true, true, true, true, true, true, true, true, false, false, false, false, false, false] rfl rfl (any_of HT_.out (by kernel_rfl)) (fun _ _ _ h => h) (Or.inl ⟨by rfl, ?_⟩) ?_ ?_
                      rotate_left
                      · intro w'
                        go_simp
                        with_reducible rfl
                      rotate_left
                      · simp only [Act.put, List.setIfInBounds_toArray, List.set_cons_zero, List.set_cons_succ, i64_w, i32_w]
                        rfl
                      refine pure_ (i := 34) (N := some 64) (v := ?_) (a' := ?_) #[true, true, true, true, true, true, true, true, true, true, true, true, true, true, true, true, true, true, true, true, true, true, true, true, true, true, true, true, true, true, true, true, true, true, true, false, false, false, false, false] rfl rfl (any_of HT_.out (by kernel_rfl)) (fun _ _ _ h => h) (Or.inl ⟨by rfl, ?_⟩) ?_ ?_
                      rotate_left
                      · intro w'
                        go_simp
                        with_reducible rfl
                      rotate_left
                      · simp only [Act.put, List.setIfInBounds_toArray, List.set_cons_zero, List.set_cons_succ, i64_w, i32_w]
                        rfl
                      refine pure_ (i := 35) (N := some 65) (v := undef) (a' := ?_) #[true, true, true, true, true, true, true, true, true, true, true, true, true, true, true, true, true, true, true, true, true, true, true, true, true, true, true, true, true, true, true, true, true, true, true, true, false, false, false, false] rfl rfl (any_of HT_.out (by kernel_rfl)) (fun _ _ _ h => h) (Or.inr ⟨by rfl, rfl⟩) ?_ ?_
                      rotate_left
                      · simp only [Act.put, List.setIfInBounds_toArray, List.set_cons_zero, List.set_cons_succ, i64_w, i32_w]
                        rfl
                      refine pure_ (i := 36) (N := some 66) (v := undef) (a' := ?_) #[true, true, true, true, true, true, true, true, true, true, true, true, true, true, true, true, true, true, true, true, true, true, true, true, true, true, true, true, true, true, true, true, true, true, true, true, true, false, false, false] rfl rfl (any_of HT_.out (by kernel_rfl)) (fun _ _ _ h => h) (Or.inr ⟨by rfl, rfl⟩) ?_ ?_
                      rotate_left
                      · simp only [Act.put, List.setIfInBounds_toArray, List.set_cons_zero, List.set_cons_succ, i64_w, i32_w]
                        rfl
                      refine pure_ (i := 37) (N := some 67) (v := undef) (a' := ?_) #[true, true, true, true, true, true, true, true, true, true, true, true, true, true, true, true, true, true, true, true, true, true, true, true, true, true, true, true, true, true, true, true, true, true, true, true, true, true, false, false] rfl rfl (any_of HT_.out (by kernel_rfl)) (fun _ _ _ h => h) (Or.inr ⟨by rfl, rfl⟩) ?_ ?_
                      rotate_left
                      · simp only [Act.put, List.setIfInBounds_toArray, List.set_cons_zero, List.set_cons_succ, i64_w, i32_w]
                        rfl
                      refine pure_ (i := 38) (N := some 68) (v := ?_) (a' := ?_) #[true, true, true, true, true, true, true, true, true, true, true, true, true, true, true, true, true, true, true, true, true, true, true, true, true, true, true, true, true, true, true, true, true, true, true, true, true, true, true, false] rfl rfl (any_of HT_.out (by kernel_rfl)) (fun _ _ _ h => h) (Or.inl ⟨by rfl, ?_⟩) ?_ ?_
                      rotate_left
                      · intro w'
                        go_simp
                        with_reducible rfl
                      rotate_left
                      · simp only [Act.put, List.setIfInBounds_toArray, List.set_cons_zero, List.set_cons_succ, i64_w, i32_w]
                        rfl
                      refine pure_ (i := 39) (N := some 69) (v := ?_) (a' := ?_) #[true, true, true, true, true, true, true, true, true, true, true, true, true, true, true, true, true, true, true, true, true, true, true, true, true, true, true, true, true, true, true, true, true, true, true, true, true, true, true, true] rfl rfl (any_of HT_.out (by kernel_rfl)) (fun _ _ _ h => h) (Or.inl ⟨by rfl, ?_⟩) ?_ ?_
                      rotate_left
                      · intro w'
                        go_simp
                        with_reducible rfl
                      rotate_left
                      · simp only [Act.put, List.setIfInBounds_toArray, List.set_cons_zero, List.set_cons_succ, i64_w, i32_w]
                        rfl
                      refine done_ (done_of HT_.out (by kernel_rfl)) ?_
                      try go_wp2
                      go_meet
                      case rel => exact ⟨_, (false), (by first | rfl | (simp; done) | (simp [*]; done)), H', ⟨by have := HJ2.out; first | omega | exact Nat.le_refl _⟩, ⟨by (with_reducible repeat (first | apply Kd.R_alloc | apply Kd.R_drewN | apply Kd.R_drew)); exact HO618.out⟩, ⟨by (with_reducible repeat (first | apply Kd.R_alloc | apply Kd.R_drewN | apply Kd.R_drew)); exact HO621.out⟩, ⟨by (with_reducible repeat (first | refine blk_drewN ?_ _ | refine blk_drew ?_ | refine blk_alloc ?_ _)); exact BK612.out⟩, ⟨by (with_reducible repeat (first | refine blk_drewN ?_ _ | refine blk_drew ?_ | refine blk_alloc ?_ _)); exact BK629.out⟩, ⟨by repeat (first | (with_reducible first | exact HB.out | apply below_alloc | apply pw_below_drewN | apply below_drew1 | refine below_set ?_ GE612.out | refine below_set ?_ GE629.out) | exact HB.out)⟩⟩
                    · rw [if_neg c29] at H
                      exact absurd H (by simp)
                · rw [if_neg c27] at H
                  exact absurd H (by simp)
              · replace c26 := Bool.eq_false_iff.mpr c26
                subst c26
                have H1 : (hopperlaw06_HeapKeeps.j1 kj2 l0 t616 t619 ((t619.length : Int) != 0) a1_0 a1_1 a1_2 a1_3 a1_4 a1_5) = some r := by rw [if_neg (show ¬ (false = true) by decide)] at H; exact H
                clear H
                have H := H1
                clear H1
                have H' := Aside0.mk H
                clear H
                try go_wp2
                have n0_ : Aside0 (Kd.R k23 23 ((((((w21.setCell ⟨gb629, 0, none⟩ (.int .i64 t622)).setCell ⟨gb629, 1, none⟩ (.int .i64 t623)).setCell ⟨gb629, 2, none⟩ (.int .i64 t624)).setCell ⟨gb629, 3, none⟩ (.int .i64 t625)).setCell ⟨gb629, 4, none⟩ (.int .i64 t626)).setCell ⟨gb629, 5, none⟩ (.string t627)) w.heap.size (fun k_ => some k_ ≠ (v620 : Value).ownBlock ∧ k_ ≠ gb612 ∧ k_ ≠ gb629) v617 t616) := ⟨by (with_reducible repeat (first | apply Kd.R_alloc | apply Kd.R_drewN | apply Kd.R_drew)); exact Kd.R_mono (Kd.R_far (p := ⟨gb629, 5, none⟩) (Kd.R_far (p := ⟨gb629, 4, none⟩) (Kd.R_far (p := ⟨gb629, 3, none⟩) (Kd.R_far (p := ⟨gb629, 2, none⟩) (Kd.R_far (p := ⟨gb629, 1, none⟩) (Kd.R_far (p := ⟨gb629, 0, none⟩) (Kd.R_mono HO618.out (fun k_ hk => (⟨hk, hk.2⟩ : _ ∧ k_ ≠ gb629))) (fun _ hk => hk.2) (.int .i64 t622)) (fun _ hk => hk.2) (.int .i64 t623)) (fun _ hk => hk.2) (.int .i64 t624)) (fun _ hk => hk.2) (.int .i64 t625)) (fun _ hk => hk.2) (.int .i64 t626)) (fun _ hk => hk.2) (.string t627)) (fun _ hk => ⟨hk.1.1.2, ⟨hk.1.1.1.2, hk.1.2⟩⟩)⟩
                have n1_ : Aside0 (Kd.R k23 23 ((((((w21.setCell ⟨gb629, 0, none⟩ (.int .i64 t622)).setCell ⟨gb629, 1, none⟩ (.int .i64 t623)).setCell ⟨gb629, 2, none⟩ (.int .i64 t624)).setCell ⟨gb629, 3, none⟩ (.int .i64 t625)).setCell ⟨gb629, 4, none⟩ (.int .i64 t626)).setCell ⟨gb629, 5, none⟩ (.string t627)) w.heap.size (fun k_ => some k_ ≠ (v617 : Value).ownBlock ∧ k_ ≠ gb612 ∧ k_ ≠ gb629) v620 t619) := ⟨by (with_reducible repeat (first | apply Kd.R_alloc | apply Kd.R_drewN | apply Kd.R_drew)); exact Kd.R_mono (Kd.R_far (p := ⟨gb629, 5, none⟩) (Kd.R_far (p := ⟨gb629, 4, none⟩) (Kd.R_far (p := ⟨gb629, 3, none⟩) (Kd.R_far (p := ⟨gb629, 2, none⟩) (Kd.R_far (p := ⟨gb629, 1, none⟩) (Kd.R_far (p := ⟨gb629, 0, none⟩) (Kd.R_mono HO621.out (fun k_ hk => (⟨hk, hk.2⟩ : _ ∧ k_ ≠ gb629))) (fun _ hk => hk.2) (.int .i64 t622)) (fun _ hk => hk.2) (.int .i64 t623)) (fun _ hk => hk.2) (.int .i64 t624)) (fun _ hk => hk.2) (.int .i64 t625)) (fun _ hk => hk.2) (.int .i64 t626)) (fun _ hk => hk.2) (.string t627)) (fun _ hk => ⟨hk.1.1.1.2, ⟨hk.1.1.2, hk.1.2⟩⟩)⟩
                have n2_ : Aside0 (((((((w21.setCell ⟨gb629, 0, none⟩ (.int .i64 t622)).setCell ⟨gb629, 1, none⟩ (.int .i64 t623)).setCell ⟨gb629, 2, none⟩ (.int .i64 t624)).setCell ⟨gb629, 3, none⟩ (.int .i64 t625)).setCell ⟨gb629, 4, none⟩ (.int .i64 t626)).setCell ⟨gb629, 5, none⟩ (.string t627)).heap[gb612]? = some (.cells #[.int .i64 a1_0, .int .i64 a1_1, .int .i64 a1_2, .int .i64 a1_3, .int .i64 a1_4, .string a1_5] 23 (0, 0))) := ⟨by (with_reducible repeat (first | refine blk_drewN ?_ _ | refine blk_drew ?_ | refine blk_alloc ?_ _)); refine blk_far ?_ NB612_629.out _; (with_reducible repeat (first | refine blk_drewN ?_ _ | refine blk_drew ?_ | refine blk_alloc ?_ _)); refine blk_far ?_ NB612_629.out _; (with_reducible repeat (first | refine blk_drewN ?_ _ | refine blk_drew ?_ | refine blk_alloc ?_ _)); refine blk_far ?_ NB612_629.out _; (with_reducible repeat (first | refine blk_drewN ?_ _ | refine blk_drew ?_ | refine blk_alloc ?_ _)); refine blk_far ?_ NB612_629.out _; (with_reducible repeat (first | refine blk_drewN ?_ _ | refine blk_drew ?_ | refine blk_alloc ?_ _)); refine blk_far ?_ NB612_629.out _; (with_reducible repeat (first | refine blk_drewN ?_ _ | refine blk_drew ?_ | refine blk_alloc ?_ _)); refine blk_far ?_ NB612_629.out _; (with_reducible repeat (first | refine blk_drewN ?_ _ | refine blk_drew ?_ | refine blk_alloc ?_ _)); exact BK612.out⟩
                have n3_ : Aside0 (((((((w21.setCell ⟨gb629, 0, none⟩ (.int .i64 t622)).setCell ⟨gb629, 1, none⟩ (.int .i64 t623)).setCell ⟨gb629, 2, none⟩ (.int .i64 t624)).setCell ⟨gb629, 3, none⟩ (.int .i64 t625)).setCell ⟨gb629, 4, none⟩ (.int .i64 t626)).setCell ⟨gb629, 5, none⟩ (.string t627)).heap[gb629]? = some (.cells #[.int .i64 t622, .int .i64 t623, .int .i64 t624, .int .i64 t625, .int .i64 t626, .string t627] 23 (0, 0))) := ⟨by (with_reducible repeat (first | refine blk_drewN ?_ _ | refine blk_drew ?_ | refine blk_alloc ?_ _)); refine blk_put (cs := #[.int .i64 t622, .int .i64 t623, .int .i64 t624, .int .i64 t625, .int .i64 t626, .string (⟨#[]⟩ : ByteArray)]) ?_ 5 _ rfl; (with_reducible repeat (first | refine blk_drewN ?_ _ | refine blk_drew ?_ | refine blk_alloc ?_ _)); refine blk_put (cs := #[.int .i64 t622, .int .i64 t623, .int .i64 t624, .int .i64 t625, .int .i64 0, .string (⟨#[]⟩ : ByteArray)]) ?_ 4 _ rfl; (with_reducible repeat (first | refine blk_drewN ?_ _ | refine blk_drew ?_ | refine blk_alloc ?_ _)); refine blk_put (cs := #[.int .i64 t622, .int .i64 t623, .int .i64 t624, .int .i64 0, .int .i64 0, .string (⟨#[]⟩ : ByteArray)]) ?_ 3 _ rfl; (with_reducible repeat (first | refine blk_drewN ?_ _ | refine blk_drew ?_ | refine blk_alloc ?_ _)); refine blk_put (cs := #[.int .i64 t622, .int .i64 t623, .int .i64 0, .int .i64 0, .int .i64 0, .string (⟨#[]⟩ : ByteArray)]) ?_ 2 _ rfl; (with_reducible repeat (first | refine blk_drewN ?_ _ | refine blk_drew ?_ | refine blk_alloc ?_ _)); refine blk_put (cs := #[.int .i64 t622, .int .i64 0, .int .i64 0, .int .i64 0, .int .i64 0, .string (⟨#[]⟩ : ByteArray)]) ?_ 1 _ rfl; (with_reducible repeat (first | refine blk_drewN ?_ _ | refine blk_drew ?_ | refine blk_alloc ?_ _)); refine blk_put (cs := #[.int .i64 0, .int .i64 0, .int .i64 0, .int .i64 0, .int .i64 0, .string (⟨#[]⟩ : ByteArray)]) ?_ 0 _ rfl; (with_reducible repeat (first | refine blk_drewN ?_ _ | refine blk_drew ?_ | refine blk_alloc ?_ _)); exact BK629.out⟩
                have n4_ : Aside0 (Below w.heap.size w ((((((w21.setCell ⟨gb629, 0, none⟩ (.int .i64 t622)).setCell ⟨gb629, 1, none⟩ (.int .i64 t623)).setCell ⟨gb629, 2, none⟩ (.int .i64 t624)).setCell ⟨gb629, 3, none⟩ (.int .i64 t625)).setCell ⟨gb629, 4, none⟩ (.int .i64 t626)).setCell ⟨gb629, 5, none⟩ (.string t627))) := ⟨by repeat (first | (with_reducible first | exact HB.out | apply below_alloc | apply pw_below_drewN | apply below_drew1 | refine below_set ?_ GE612.out | refine below_set ?_ GE629.out) | exact HB.out)⟩
                (try clear HO618)
                (try clear HO621)
                (try clear BK612)
                (try clear BK629)
                (try clear HB)
                generalize ((((((w21.setCell ⟨gb629, 0, none⟩ (.int .i64 t622)).setCell ⟨gb629, 1, none⟩ (.int .i64 t623)).setCell ⟨gb629, 2, none⟩ (.int .i64 t624)).setCell ⟨gb629, 3, none⟩ (.int .i64 t625)).setCell ⟨gb629, 4, none⟩ (.int .i64 t626)).setCell ⟨gb629, 5, none⟩ (.string t627)) = w34 at n0_ n1_ n2_ n3_ n4_ ⊢
                have HO618 := n0_
                have HO621 := n1_
                have BK612 := n2_
                have BK629 := n3_
                have HB := n4_
                clear n0_ n1_ n2_ n3_ n4_
                have n0_ := Aside0.mk (Kd.R_drew HO618.out)
                have n1_ := Aside0.mk (Kd.R_drew HO621.out)
                have n2_ := Aside0.mk (blk_drew BK612.out)
                have n3_ := Aside0.mk (blk_drew BK629.out)
                have n4_ := Aside0.mk (below_drew1 HB.out)
                clear HO618
                clear HO621
                clear BK612
                clear BK629
                clear HB
                have HO618 := n0_
                have HO621 := n1_
                have BK612 := n2_
                have BK629 := n3_
                have HB := n4_
                clear n0_ n1_ n2_ n3_ n4_
                obtain ⟨Ao36, co36, eo36⟩ := Kd.R_slice HO618.out
                (first | subst eo36 | (injection eo36 with f1_ f2_ f3_; have f4_ := f1_.symm; have f5_ := f3_.symm; clear f1_ f2_ f3_; subst f4_; subst f5_))
                obtain ⟨Ao37, co37, eo37⟩ := Kd.R_slice HO621.out
                (first | subst eo37 | (injection eo37 with f1_ f2_ f3_; have f4_ := f1_.symm; have f5_ := f3_.symm; clear f1_ f2_ f3_; subst f4_; subst f5_))
                refine start_ (n := 40) (S := fun w' => True) (ds := []) #[false, false, false, false, false, false, false, false, false, false, false, false, false, false, false, false, false, false, false, false, false, false, false, false, false, false, false, false, false, false, false, false, false, false, false, false, false, false, false, false] (by kernel_rfl) rfl rfl trivial (fun hHeld => ?_); refine with_tabW hopperlaw06_HeapKeeps.tab5 hopperlaw06_HeapKeeps.bits5 (fun HT_ HW_ => ?_)
                generalize w34.drew = w35 at HO618 HO621 BK612 BK629 HB hHeld ⊢
                refine pure_ (i := 0) (N := some 30) (v := ?_) (a' := ?_) #[true, false, false, false, false, false, false, false, false, false, false, false, false, false, false, false, false, false, false, false, false, false, false, false, false, false, false, false, false, false, false, false, false, false, false, false, false, false, false, false] rfl rfl (any_of HT_.out (by kernel_rfl)) (fun _ _ _ h => h) (Or.inl ⟨by rfl, ?_⟩) ?_ ?_
                rotate_left
                · intro w'
                  go_simp
                  with_reducible rfl
                rotate_left
                · simp only [Act.put, List.setIfInBounds_toArray, List.set_cons_zero, List.set_cons_succ, i64_w, i32_w]
                  rfl
                refine pure_ (i := 1) (N := some 31) (v := ?_) (a' := ?_) #[true, true, false, false, false, false, false, false, false, false, false, false, false, false, false, false, false, false, false, false, false, false, false, false, false, false, false, false, false, false, false, false, false, false, false, false, false, false, false, false] rfl rfl (any_of HT_.out (by kernel_rfl)) (fun _ _ _ h => h) (Or.inl ⟨by rfl, ?_⟩) ?_ ?_
                rotate_left
                · intro w'
                  go_simp
                  with_reducible rfl
                rotate_left
                · simp only [Act.put, List.setIfInBounds_toArray, List.set_cons_zero, List.set_cons_succ, i64_w, i32_w]
                  rfl
                refine pure_ (i := 2) (N := some 32) (v := ?_) (a' := ?_) #[true, true, true, false, false, false, false, false, false, false, false, false, false, false, false, false, false, false, false, false, false, false, false, false, false, false, false, false, false, false, false, false, false, false, false, false, false, false, false, false] rfl rfl (any_of HT_.out (by kernel_rfl)) (fun _ _ _ h => h) (Or.inl ⟨by rfl, ?_⟩) ?_ ?_
                rotate_left
                · intro w'
                  go_simp
                  with_reducible rfl
                rotate_left
                · simp only [Act.put, List.setIfInBounds_toArray, List.set_cons_zero, List.set_cons_succ, i64_w, i32_w]
                  rfl
                refine pure_ (i := 3) (N := some 33) (v := ?_) (a' := ?_) #[true, true, true, true, false, false, false, false, false, false, false, false, false, false, false, false, false, false, false, false, false, false, false, false, false, false, false, false, false, false, false, false, false, false, false, false, false, false, false, false] rfl rfl (any_of HT_.out (by kernel_rfl)) (fun _ _ _ h => h) (Or.inl ⟨by rfl, ?_⟩) ?_ ?_
                rotate_left
                · intro w'
                  go_simp
                  with_reducible rfl
                rotate_left
                · simp only [Act.put, List.setIfInBounds_toArray, List.set_cons_zero, List.set_cons_succ, i64_w, i32_w]
                  rfl
                refine pure_ (i := 4) (N := some 34) (v := ?_) (a' := ?_) #[true, true, true, true, true, false, false, false, false, false, false, false, false, false, false, false, false, false, false, false, false, false, false, false, false, false, false, false, false, false, false, false, false, false, false, false, false, false, false, false] rfl rfl (any_of HT_.out (by kernel_rfl)) (fun _ _ _ h => h) (Or.inl ⟨by rfl, ?_⟩) ?_ ?_
                rotate_left
                · intro w'
                  go_simp
                  with_reducible rfl
                rotate_left
                · simp only [Act.put, List.setIfInBounds_toArray, List.set_cons_zero, List.set_cons_succ, i64_w, i32_w]
                  rfl
                refine pure_ (i := 5) (N := some 35) (v := ?_) (a' := ?_) #[true, true, true, true, true, true, false, false, false, false, false, false, false, false, false, false, false, false, false, false, false, false, false, false, false, false, false, false, false, false, false, false, false, false, false, false, false, false, false, false] rfl rfl (any_of HT_.out (by kernel_rfl)) (fun _ _ _ h => h) (Or.inl ⟨by rfl, ?_⟩) ?_ ?_
                rotate_left
                · intro w'
                  go_simp
                  with_reducible rfl
                rotate_left
                · simp only [Act.put, List.setIfInBounds_toArray, List.set_cons_zero, List.set_cons_succ, i64_w, i32_w]
                  rfl
                refine pure_ (i := 6) (N := some 36) (v := ?_) (a' := ?_) #[true, true, true, true, true, true, true, false, false, false, false, false, false, false, false, false, false, false, false, false, false, false, false, false, false, false, false, false, false, false, false, false, false, false, false, false, false, false, false, false] rfl rfl (any_of HT_.out (by kernel_rfl)) (fun _ _ _ h => h) (Or.inl ⟨by rfl, ?_⟩) ?_ ?_
                rotate_left
                · intro w'
                  go_simp
                  with_reducible rfl
                rotate_left
                · simp only [Act.put, List.setIfInBounds_toArray, List.set_cons_zero, List.set_cons_succ, i64_w, i32_w]
                  rfl
                refine pure_ (i := 7) (N := some 37) (v := ?_) (a' := ?_) #[true, true, true, true, true, true, true, true, false, false, false, false, false, false, false, false, false, false, false, false, false, false, false, false, false, false, false, false, false, false, false, false, false, false, false, false, false, false, false, false] rfl rfl (any_of HT_.out (by kernel_rfl)) (fun _ _ _ h => h) (Or.inl ⟨by rfl, ?_⟩) ?_ ?_
                rotate_left
                · intro w'
                  go_simp
                  with_reducible rfl
                rotate_left
                · simp only [Act.put, List.setIfInBounds_toArray, List.set_cons_zero, List.set_cons_succ, i64_w, i32_w]
                  rfl
                refine pure_ (i := 8) (N := some 38) (v := ?_) (a' := ?_) #[true, true, true, true, true, true, true, true, true, false, false, false, false, false, false, false, false, false, false, false, false, false, false, false, false, false, false, false, false, false, false, false, false, false, false, false, false, false, false, false] rfl rfl (any_of HT_.out (by kernel_rfl)) (fun _ _ _ h => h) (Or.inl ⟨by rfl, ?_⟩) ?_ ?_
                rotate_left
                · intro w'
                  go_simp
                  with_reducible rfl
                rotate_left
                · simp only [Act.put, List.setIfInBounds_toArray, List.set_cons_zero, List.set_cons_succ, i64_w, i32_w]
                  rfl
                refine pure_ (i := 9) (N := some 39) (v := ?_) (a' := ?_) #[true, true, true, true, true, true, true, true, true, true, false, false, false, false, false, false, false, false, false, false, false, false, false, false, false, false, false, false, false, false, false, false, false, false, false, false, false, false, false, false] rfl rfl (any_of HT_.out (by kernel_rfl)) (fun _ _ _ h => h) (Or.inl ⟨by rfl, ?_⟩) ?_ ?_
                rotate_left
                · intro w'
                  go_simp
                  with_reducible rfl
                rotate_left
                · simp only [Act.put, List.setIfInBounds_toArray, List.set_cons_zero, List.set_cons_succ, i64_w, i32_w]
                  rfl
                refine pure_ (i := 10) (N := some 40) (v := ?_) (a' := ?_) #[true, true, true, true, true, true, true, true, true, true, true, false, false, false, false, false, false, false, false, false, false, false, false, false, false, false, false, false, false, false, false, false, false, false, false, false, false, false, false, false] rfl rfl (any_of HT_.out (by kernel_rfl)) (fun _ _ _ h => h) (Or.inl ⟨by rfl, ?_⟩) ?_ ?_
                rotate_left
                · intro w'
                  go_simp
                  with_reducible rfl
                rotate_left
                · simp only [Act.put, List.setIfInBounds_toArray, List.set_cons_zero, List.set_cons_succ, i64_w, i32_w]
                  rfl
                refine pure_ (i := 11) (N := some 41) (v := ?_) (a' := ?_) #[true, true, true, true, true, true, true, true, true, true, true, true, false, false, false, false, false, false, false, false, false, false, false, false, false, false, false, false, false, false, false, false, false, false, false, false, false, false, false, false] rfl rfl (any_of HT_.out (by kernel_rfl)) (fun _ _ _ h => h) (Or.inl ⟨by rfl, ?_⟩) ?_ ?_
                rotate_left
                · intro w'
                  go_simp
                  with_reducible rfl
                rotate_left
                · simp only [Act.put, List.setIfInBounds_toArray, List.set_cons_zero, List.set_cons_succ, i64_w, i32_w]
                  rfl
                refine pure_ (i := 12) (N := some 42) (v := ?_) (a' := ?_) #[true, true, true, true, true, true, true, true, true, true, true, true, true, false, false, false, false, false, false, false, false, false, false, false, false, false, false, false, false, false, false, false, false, false, false, false, false, false, false, false] rfl rfl (any_of HT_.out (by kernel_rfl)) (fun _ _ _ h => h) (Or.inl ⟨by rfl, ?_⟩) ?_ ?_
                rotate_left
                · intro w'
                  go_simp
                  with_reducible rfl
                rotate_left
                · simp only [Act.put, List.setIfInBounds_toArray, List.set_cons_zero, List.set_cons_succ, i64_w, i32_w]
                  rfl
                refine pure_ (i := 13) (N := some 43) (v := ?_) (a' := ?_) #[true, true, true, true, true, true, true, true, true, true, true, true, true, true, false, false, false, false, false, false, false, false, false, false, false, false, false, false, false, false, false, false, false, false, false, false, false, false, false, false] rfl rfl (any_of HT_.out (by kernel_rfl)) (fun _ _ _ h => h) (Or.inl ⟨by rfl, ?_⟩) ?_ ?_
                rotate_left
                · intro w'
                  go_simp
                  with_reducible rfl
                rotate_left
                · simp only [Act.put, List.setIfInBounds_toArray, List.set_cons_zero, List.set_cons_succ, i64_w, i32_w]
                  rfl
                refine pure_ (i := 14) (N := some 44) (v := ?_) (a' := ?_) #[true, true, true, true, true, true, true, true, true, true, true, true, true, true, true, false, false, false, false, false, false, false, false, false, false, false, false, false, false, false, false, false, false, false, false, false, false, false, false, false] rfl rfl (any_of HT_.out (by kernel_rfl)) (fun _ _ _ h => h) (Or.inl ⟨by rfl, ?_⟩) ?_ ?_
                rotate_left
                · intro w'
                  go_simp
                  with_reducible rfl
                rotate_left
                · simp only [Act.put, List.setIfInBounds_toArray, List.set_cons_zero, List.set_cons_succ, i64_w, i32_w]
                  rfl
                refine pure_ (i := 15) (N := some 45) (v := ?_) (a' := ?_) #[true, true, true, true, true, true, true, true, true, true, true, true, true, true, true, true, false, false, false, false, false, false, false, false, false, false, false, false, false, false, false, false, false, false, false, false, false, false, false, false] rfl rfl (any_of HT_.out (by kernel_rfl)) (fun _ _ _ h => h) (Or.inl ⟨by rfl, ?_⟩) ?_ ?_
                rotate_left
                · intro w'
                  go_simp
                  with_reducible rfl
                rotate_left
                · simp only [Act.put, List.setIfInBounds_toArray, List.set_cons_zero, List.set_cons_succ, i64_w, i32_w]
                  rfl
                refine pure_ (i := 16) (N := some 46) (v := undef) (a' := ?_) #[true, true, true, true, true, true, true, true, true, true, true, true, true, true, true, true, true, false, false, false, false, false, false, false, false, false, false, false, false, false, false, false, false, false, false, false, false, false, false, false] rfl rfl (any_of HT_.out (by kernel_rfl)) (fun _ _ _ h => h) (Or.inr ⟨by rfl, rfl⟩) ?_ ?_
                rotate_left
                · simp only [Act.put, List.setIfInBounds_toArray, List.set_cons_zero, List.set_cons_succ, i64_w, i32_w]
                  rfl
                refine pure_ (i := 17) (N := some 47) (v := undef) (a' := ?_) #[true, true, true, true, true, true, true, true, true, true, true, true, true, true, true, true, true, true, false, false, false, false, false, false, false, false, false, false, false, false, false, false, false, false, false, false, false, false, false, false] rfl rfl (any_of HT_.out (by kernel_rfl)) (fun _ _ _ h => h) (Or.inr ⟨by rfl, rfl⟩) ?_ ?_
                rotate_left
                · simp only [Act.put, List.setIfInBounds_toArray, List.set_cons_zero, List.set_cons_succ, i64_w, i32_w]
                  rfl
                refine pure_ (i := 18) (N := some 48) (v := undef) (a' := ?_) #[true, true, true, true, true, true, true, true, true, true, true, true, true, true, true, true, true, true, true, false, false, false, false, false, false, false, false, false, false, false, false, false, false, false, false, false, false, false, false, false] rfl rfl (any_of HT_.out (by kernel_rfl)) (fun _ _ _ h => h) (Or.inr ⟨by rfl, rfl⟩) ?_ ?_
                rotate_left
                · simp only [Act.put, List.setIfInBounds_toArray, List.set_cons_zero, List.set_cons_succ, i64_w, i32_w]
                  rfl
                refine pure_ (i := 19) (N := some 49) (v := undef) (a' := ?_) #[true, true, true, true, true, true, true, true, true, true, true, true, true, true, true, true, true, true, true, true, false, false, false, false, false, false, false, false, false, false, false, false, false, false, false, false, false, false, false, false] rfl rfl (any_of HT_.out (by kernel_rfl)) (fun _ _ _ h => h) (Or.inr ⟨by rfl, rfl⟩) ?_ ?_
                rotate_left
                · simp only [Act.put, List.setIfInBounds_toArray, List.set_cons_zero, List.set_cons_succ, i64_w, i32_w]
                  rfl
                refine pure_ (i := 20) (N := some 50) (v := undef) (a' := ?_) #[true, true, true, true, true, true, true, true, true, true, true, true, true, true, true, true, true, true, true, true, true, false, false, false, false, false, false, false, false, false, false, false, false, false, false, false, false, false, false, false] rfl rfl (any_of HT_.out (by kernel_rfl)) (fun _ _ _ h => h) (Or.inr ⟨by rfl, rfl⟩) ?_ ?_
                rotate_left
                · simp only [Act.put, List.setIfInBounds_toArray, List.set_cons_zero, List.set_cons_succ, i64_w, i32_w]
                  rfl
                refine pure_ (i := 21) (N := some 51) (v := undef) (a' := ?_) #[true, true, true, true, true, true, true, true, true, true, true, true, true, true, true, true, true, true, true, true, true, true, false, false, false, false, false, false, false, false, false, false, false, false, false, false, false, false, false, false] rfl rfl (any_of HT_.out (by kernel_rfl)) (fun _ _ _ h => h) (Or.inr ⟨by rfl, rfl⟩) ?_ ?_
                rotate_left
                · simp only [Act.put, List.setIfInBounds_toArray, List.set_cons_zero, List.set_cons_succ, i64_w, i32_w]
                  rfl
                refine pure_ (i := 22) (N := some 52) (v := undef) (a' := ?_) #[true, true, true, true, true, true, true, true, true, true, true, true, true, true, true, true, true, true, true, true, true, true, true, false, false, false, false, false, false, false, false, false, false, false, false, false, false, false, false, false] rfl rfl (any_of HT_.out (by kernel_rfl)) (fun _ _ _ h => h) (Or.inr ⟨by rfl, rfl⟩) ?_ ?_
                rotate_left
                · simp only [Act.put, List.setIfInBounds_toArray, List.set_cons_zero, List.set_cons_succ, i64_w, i32_w]
                  rfl
                refine pure_ (i := 23) (N := some 53) (v := undef) (a' := ?_) #[true, true, true, true, true, true, true, true, true, true, true, true, true, true, true, true, true, true, true, true, true, true, true, true, false, false, false, false, false, false, false, false, false, false, false, false, false, false, false, false] rfl rfl (any_of HT_.out (by kernel_rfl)) (fun _ _ _ h => h) (Or.inr ⟨by rfl, rfl⟩) ?_ ?_
                rotate_left
                · simp only [Act.put, List.setIfInBounds_toArray, List.set_cons_zero, List.set_cons_succ, i64_w, i32_w]
                  rfl
                refine pure_ (i := 24) (N := some 54) (v := undef) (a' := ?_) #[true, true, true, true, true, true, true, true, true, true, true, true, true, true, true, true, true, true, true, true, true, true, true, true, true, false, false, false, false, false, false, false, false, false, false, false, false, false, false, false] rfl rfl (any_of HT_.out (by kernel_rfl)) (fun _ _ _ h => h) (Or.inr ⟨by rfl, rfl⟩) ?_ ?_
                rotate_left
                · simp only [Act.put, List.setIfInBounds_toArray, List.set_cons_zero, List.set_cons_succ, i64_w, i32_w]
                  rfl
                refine pure_ (i := 25) (N := some 55) (v := undef) (a' := ?_) #[true, true, true, true, true, true, true, true, true, true, true, true, true, true, true, true, true, true, true, true, true, true, true, true, true, true, false, false, false, false, false, false, false, false, false, false, false, false, false, false] rfl rfl (any_of HT_.out (by kernel_rfl)) (fun _ _ _ h => h) (Or.inr ⟨by rfl, rfl⟩) ?_ ?_
                rotate_left
                · simp only [Act.put, List.setIfInBounds_toArray, List.set_cons_zero, List.set_cons_succ, i64_w, i32_w]
                  rfl
                refine pure_ (i := 26) (N := some 56) (v := undef) (a' := ?_) #[true, true, true, true, true, true, true, true, true, true, true, true, true, true, true, true, true, true, true, true, true, true, true, true, true, true, true, false, false, false, false, false, false, false, false, false, false, false, false, false] rfl rfl (any_of HT_.out (by kernel_rfl)) (fun _ _ _ h => h) (Or.inr ⟨by rfl, rfl⟩) ?_ ?_
                rotate_left
                · simp only [Act.put, List.setIfInBounds_toArray, List.set_cons_zero, List.set_cons_succ, i64_w, i32_w]
                  rfl
                refine pure_ (i := 27) (N := some 57) (v := undef) (a' := ?_) #[true, true, true, true, true, true, true, true, true, true, true, true, true, true, true, true, true, true, true, true, true, true, true, true, true, true, true, true, false, false, false, false, false, false, false, false, false, false, false, false] rfl rfl (any_of HT_.out (by kernel_rfl)) (fun _ _ _ h => h) (Or.inr ⟨by rfl, rfl⟩) ?_ ?_
                rotate_left
                · simp only [Act.put, List.setIfInBounds_toArray, List.set_cons_zero, List.set_cons_succ, i64_w, i32_w]
                  rfl
                refine pure_ (i := 28) (N := some 58) (v := undef) (a' := ?_) #[true, true, true, true, true, true, true, true, true, true, true, true, true, true, true, true, true, true, true, true, true, true, true, true, true, true, true, true, true, false, false, false, false, false, false, false, false, false, false, false] rfl rfl (any_of HT_.out (by kernel_rfl)) (fun _ _ _ h => h) (Or.inr ⟨by rfl, rfl⟩) ?_ ?_
                rotate_left
                · simp only [Act.put, List.setIfInBounds_toArray, List.set_cons_zero, List.set_cons_succ, i64_w, i32_w]
                  rfl
                refine pure_ (i := 29) (N := some 59) (v := ?_) (a' := ?_) #[true, true, true, true, true, true, true, true, true, true, true, true, true, true, true, true, true, true, true, true, true, true, true, true, true, true, true, true, true, true, false, false, false, false, false, false, false, false, false, false] rfl rfl (any_of HT_.out (by kernel_rfl)) (fun _ _ _ h => h) (Or.inl ⟨by rfl, ?_⟩) ?_ ?_
                rotate_left
                · intro w'
                  go_simp
                  with_reducible rfl
                rotate_left
                · simp only [Act.put, List.setIfInBounds_toArray, List.set_cons_zero, List.set_cons_succ, i64_w, i32_w]
                  rfl
                refine pure_ (i := 30) (N := some 60) (v := ?_) (a' := ?_) #[true, true, true, true, true, true, true, true, true, true, true, true, true, true, true, true, true, true, true, true, true, true, true, true, true, true, true, true, true, true, true, false, false, false, false, false, false, false, false, false] rfl rfl (any_of HT_.out (by kernel_rfl)) (fun _ _ _ h => h) (Or.inl ⟨by rfl, ?_⟩) ?_ ?_
                rotate_left
                · intro w'
                  go_simp
                  with_reducible rfl
                rotate_left
                · simp only [Act.put, List.setIfInBounds_toArray, List.set_cons_zero, List.set_cons_succ, i64_w, i32_w]
                  rfl
                refine pure_ (i := 31) (N := some 61) (v := ?_) (a' := ?_) #[true, true, true, true, true, true, true, true, true, true, true, true, true, true, true, true, true, true, true, true, true, true, true, true, true, true, true, true, true, true, true, true, false, false, false, false, false, false, false, false] rfl rfl (any_of HT_.out (by kernel_rfl)) (fun _ _ _ h => h) (Or.inl ⟨by rfl, ?_⟩) ?_ ?_
                rotate_left
                · intro w'
                  go_simp
                  with_reducible rfl
                rotate_left
                · simp only [Act.put, List.setIfInBounds_toArray, List.set_cons_zero, List.set_cons_succ, i64_w, i32_w]
                  rfl
                refine pure_ (i := 32) (N := some 62) (v := ?_) (a' := ?_) #[true, true, true, true, true, true, true, true, true, true, true, true, true, true, true, true, true, true, true, true, true, true, true, true, true, true, true, true, true, true, true, true, true, false, false, false, false, false, false, false] rfl rfl (any_of HT_.out (by kernel_rfl)) (fun _ _ _ h => h) (Or.inl ⟨by rfl, ?_⟩) ?_ ?_
                rotate_left
                · intro w'
                  go_simp
                  with_reducible rfl
                rotate_left
                · simp only [Act.put, List.setIfInBounds_toArray, List.set_cons_zero, List.set_cons_succ, i64_w, i32_w]
                  rfl
                refine pure_ (i := 33) (N := some 63) (v := ?_) (a' := ?_) #[true, true, true, true, true, true, true, true, true, true, true, true, true, true, true, true, true, true, true, true, true, true, true, true, true, true, true, true, true, true, true, true, true, true, false, false, false, false, false, false] rfl rfl (any_of HT_.out (by kernel_rfl)) (fun _ _ _ h => h) (Or.inl ⟨by rfl, ?_⟩) ?_ ?_
                rotate_left
                · intro w'
                  go_simp
                  with_reducible rfl
                rotate_left
                · simp only [Act.put, List.setIfInBounds_toArray, List.set_cons_zero, List.set_cons_succ, i64_w, i32_w]
                  rfl
                refine pure_ (i := 34) (N := some 64) (v := ?_) (a' := ?_) #[true, true, true, true, true, true, true, true, true, true, true, true, true, true, true, true, true, true, true, true, true, true, true, true, true, true, true, true, true, true, true, true, true, true, true, false, false, false, false, false] rfl rfl (any_of HT_.out (by kernel_rfl)) (fun _ _ _ h => h) (Or.inl ⟨by rfl, ?_⟩) ?_ ?_
                rotate_left
                · intro w'
                  go_simp
                  with_reducible rfl
                rotate_left
                · simp only [Act.put, List.setIfInBounds_toArray, List.set_cons_zero, List.set_cons_succ, i64_w, i32_w]
                  rfl
                refine pure_ (i := 35) (N := some 65) (v := ?_) (a' := ?_) #[true, true, true, true, true, true, true, true, true, true, true, true, true, true, true, true, true, true, true, true, true, true, true, true, true, true, true, true, true, true, true, true, true, true, true, true, false, false, false, false] rfl rfl (any_of HT_.out (by kernel_rfl)) (fun _ _ _ h => h) (Or.inl ⟨by rfl, ?_⟩) ?_ ?_
                rotate_left
                · intro w'
                  go_simp
                  with_reducible rfl
                rotate_left
                · simp only [Act.put, List.setIfInBounds_toArray, List.set_cons_zero, List.set_cons_succ, i64_w, i32_w]
                  rfl
                refine pure_ (i := 36) (N := some 66) (v := ?_) (a' := ?_) #[true, true, true, true, true, true, true, true, true, true, true, true, true, true, true, true, true, true, true, true, true, true, true, true, true, true, true, true, true, true, true, true, true, true, true, true, true, false, false, false] rfl rfl (any_of HT_.out (by kernel_rfl)) (fun _ _ _ h => h) (Or.inl ⟨by rfl, ?_⟩) ?_ ?_
                rotate_left
                · intro w'
                  go_simp
                  with_reducible rfl
                rotate_left
                · simp only [Act.put, List.setIfInBounds_toArray, List.set_cons_zero, List.set_cons_succ, i64_w, i32_w]
                  rfl
                refine pure_ (i := 37) (N := some 67) (v := ?_) (a' := ?_) #[true, true, true, true, true, true, true, true, true, true, true, true, true, true, true, true, true, true, true, true, true, true, true, true, true, true, true, true, true, true, true, true, true, true, true, true, true, true, false, false] rfl rfl (any_of HT_.out (by kernel_rfl)) (fun _ _ _ h => h) (Or.inl ⟨by rfl, ?_⟩) ?_ ?_
                rotate_left
                · intro w'
                  go_simp
                  with_reducible rfl
                rotate_left
                · simp only [Act.put, List.setIfInBounds_toArray, List.set_cons_zero, List.set_cons_succ, i64_w, i32_w]
                  rfl
                refine pure_ (i := 38) (N := some 68) (v := ?_) (a' := ?_) #[true, true, true, true, true, true, true, true, true, true, true, true, true, true, true, true, true, true, true, true, true, true, true, true, true, true, true, true, true, true, true, true, true, true, true, true, true, true, true, false] rfl rfl (any_of HT_.out (by kernel_rfl)) (fun _ _ _ h => h) (Or.inl ⟨by rfl, ?_⟩) ?_ ?_
                rotate_left
                · intro w'
                  go_simp
                  with_reducible rfl
                rotate_left
                · simp only [Act.put, List.setIfInBounds_toArray, List.set_cons_zero, List.set_cons_succ, i64_w, i32_w]
                  rfl
                refine pure_ (i := 39) (N := some 69) (v := ?_) (a' := ?_) #[true, true, true, true, true, true, true, true, true, true, true, true, true, true, true, true, true, true, true, true, true, true, true, true, true, true, true, true, true, true, true, true, true, true, true, true, true, true, true, true] rfl rfl (any_of HT_.out (by kernel_rfl)) (fun _ _ _ h => h) (Or.inl ⟨by rfl, ?_⟩) ?_ ?_
                rotate_left
                · intro w'
                  go_simp
                  with_reducible rfl
                rotate_left
                · simp only [Act.put, List.setIfInBounds_toArray, List.set_cons_zero, List.set_cons_succ, i64_w, i32_w]
                  rfl
                refine done_ (done_of HT_.out (by kernel_rfl)) ?_
                try go_wp2
                go_meet
                case rel => exact ⟨_, (((t619.length : Int) != 0)), (by first | rfl | (simp; done) | (simp [*]; done)), H', ⟨by have := HJ2.out; first | omega | exact Nat.le_refl _⟩, ⟨by (with_reducible repeat (first | apply Kd.R_alloc | apply Kd.R_drewN | apply Kd.R_drew)); exact HO618.out⟩, ⟨by (with_reducible repeat (first | apply Kd.R_alloc | apply Kd.R_drewN | apply Kd.R_drew)); exact HO621.out⟩, ⟨by (with_reducible repeat (first | refine blk_drewN ?_ _ | refine blk_drew ?_ | refine blk_alloc ?_ _)); exact BK612.out⟩, ⟨by (with_reducible repeat (first | refine blk_drewN ?_ _ | refine blk_drew ?_ | refine blk_alloc ?_ _)); exact BK629.out⟩, ⟨by repeat (first | (with_reducible first | exact HB.out | apply below_alloc | apply pw_below_drewN | apply below_drew1 | refine below_set ?_ GE612.out | refine below_set ?_ GE629.out) | exact HB.out)⟩⟩
          · rw [if_neg c24] at H
            exact absurd H (by simp)
        case rest =>
          clear HC17
          try clear c2
          try clear p2
          try clear c24
          try clear c26
          try clear c27
          try clear c29
          obtain ⟨kq, x69_16, rfl, HA, HJ16, HO_5, HO_6, BK612, BK629, HB⟩ := hcut
          cases kq with
          | zero => exact absurd HA.out (by simp [hopperlaw06_HeapKeeps.j1])
          | succ kj16 =>
            have H := HA.out
            clear HA
            simp only [hopperlaw06_HeapKeeps.j1] at H
            by_cases c38 : x69_16 = true
            · subst c38
              have H1 : (none) = some r := by rw [if_pos rfl] at H; exact H
              clear H
              have H := H1
              clear H1
              exact absurd H (by simp)
            · replace c38 := Bool.eq_false_iff.mpr c38
              subst c38
              have H1 : (hopperlaw06_HeapKeeps.l0 kj16 l0 t616 t619 0 a1_0 a1_1 a1_2 a1_3 a1_4 a1_5) = some r := by rw [if_neg (show ¬ (false = true) by decide)] at H; exact H
              clear H
              have H := H1
              clear H1
              have H' := Aside0.mk H
              clear H
              go_wp2
              go_loopg [9] kj16 (fun kq v9 w' => ∃ (x9_3 : Int), v9 = .int .i64 x9_3 ∧ Aside0 (hopperlaw06_HeapKeeps.l0 kq l0 t616 t619 x9_3 a1_0 a1_1 a1_2 a1_3 a1_4 a1_5 = some r) ∧ Aside0 (kq ≤ kj16) ∧ Aside0 (Kd.R k23 23 w' w.heap.size (fun k_ => some k_ ≠ (v620 : Value).ownBlock ∧ k_ ≠ gb612 ∧ k_ ≠ gb629) v617 t616) ∧ Aside0 (Kd.R k23 23 w' w.heap.size (fun k_ => some k_ ≠ (v617 : Value).ownBlock ∧ k_ ≠ gb612 ∧ k_ ≠ gb629) v620 t619) ∧ Aside0 (w'.heap[gb612]? = some (.cells #[.int .i64 a1_0, .int .i64 a1_1, .int .i64 a1_2, .int .i64 a1_3, .int .i64 a1_4, .string a1_5] 23 (0, 0))) ∧ Aside0 (w'.heap[gb629]? = some (.cells #[.int .i64 t622, .int .i64 t623, .int .i64 t624, .int .i64 t625, .int .i64 t626, .string t627] 23 (0, 0))) ∧ Aside0 (Below w.heap.size w w'))
              case atStart => exact ⟨(0), (by first | rfl | (simp; done) | (simp [*]; done)), H', ⟨Nat.le_refl _⟩, ⟨by (with_reducible repeat (first | apply Kd.R_alloc | apply Kd.R_drewN | apply Kd.R_drew)); exact HO_5.out⟩, ⟨by (with_reducible repeat (first | apply Kd.R_alloc | apply Kd.R_drewN | apply Kd.R_drew)); exact HO_6.out⟩, ⟨by (with_reducible repeat (first | refine blk_drewN ?_ _ | refine blk_drew ?_ | refine blk_alloc ?_ _)); exact BK612.out⟩, ⟨by (with_reducible repeat (first | refine blk_drewN ?_ _ | refine blk_drew ?_ | refine blk_alloc ?_ _)); exact BK629.out⟩, ⟨by repeat (first | (with_reducible first | exact HB.out | apply below_alloc | apply pw_below_drewN | apply below_drew1 | refine below_set ?_ GE612.out | refine below_set ?_ GE629.out) | exact HB.out)⟩⟩
              case round =>
                clear H'
                try clear c2
                try clear p2
                try clear c3
                try clear c24
                try clear c26
                try clear c27
                try clear c29
                try clear c38
                try clear p2
                obtain ⟨x9_3, rfl, HA, HK3, HO_5, HO_6, BK612, BK629, HB⟩ := hrel
                cases gk with
                | zero => exact absurd HA.out (by simp [hopperlaw06_HeapKeeps.l0])
                | succ k3 =>
                  have H := HA.out
                  clear HA
                  simp only [hopperlaw06_HeapKeeps.l0] at H
                  by_cases c39 : x9_3 < (l0.length : Int)
                  · rw [if_pos c39] at H
                    have c39b0 : decide (x9_3 < (l0.length : Int)) = true := decide_eq_true c39
                    clear c39
                    by_cases c40 : 0 ≤ x9_3
                    · rw [if_pos c40] at H
                      have c40b0 : decide (0 ≤ x9_3) = true := decide_eq_true c40
                      clear c40
                      have HC41 := Aside0.mk H
                      clear H
                      try go_wp2
                      have n0_ := Aside0.mk (Kd.R_drew HO_5.out)
                      have n1_ := Aside0.mk (Kd.R_drew HO_6.out)
                      have n2_ := Aside0.mk (blk_drew BK612.out)
                      have n3_ := Aside0.mk (blk_drew BK629.out)
                      have n4_ := Aside0.mk (below_drew1 HB.out)
                      clear HO_5
                      clear HO_6
                      clear BK612
                      clear BK629
                      clear HB
                      have HO_5 := n0_
                      have HO_6 := n1_
                      have BK612 := n2_
                      have BK629 := n3_
                      have HB := n4_
                      clear n0_ n1_ n2_ n3_ n4_
                      have p634 : 0 ≤ (x9_3 : Int) := of_decide_eq_true (by first | (with_reducible assumption) | assumption)
                      have q634 : x9_3 < (l0.length : Int) := of_decide_eq_true (by first | (with_reducible assumption) | assumption)
                      obtain ⟨ad634, e634, hx634_0, hx634_1, hx634_2, hx634_3, hx634_4, hx634_5⟩ := at_T23 HR0.out x9_3 p634 q634
                      have hw634_5 := hx634_5
                      have hw634_4 := hx634_4
                      have hw634_3 := hx634_3
                      have hw634_2 := hx634_2
                      have hw634_1 := hx634_1
                      have hw634_0 := hx634_0
                      cases e634
                      replace hx634_0 := (HB.out.cell (World.block_lt_of_cell? w _ hx634_0)).trans hx634_0
                      replace hx634_1 := (HB.out.cell (World.block_lt_of_cell? w _ hx634_1)).trans hx634_1
                      replace hx634_2 := (HB.out.cell (World.block_lt_of_cell? w _ hx634_2)).trans hx634_2
                      replace hx634_3 := (HB.out.cell (World.block_lt_of_cell? w _ hx634_3)).trans hx634_3
                      replace hx634_4 := (HB.out.cell (World.block_lt_of_cell? w _ hx634_4)).trans hx634_4
                      replace hx634_5 := (HB.out.cell (World.block_lt_of_cell? w _ hx634_5)).trans hx634_5
                      replace p634 := eq_true p634
                      replace q634 := eq_true q634
                      refine start_ (n := 6) (S := fun w' => w'.cell? ⟨gb612, 0, none⟩ = some (.int .i64 a1_0) ∧ w'.cell? ⟨gb612, 1, none⟩ = some (.int .i64 a1_1) ∧ w'.cell? ⟨gb612, 2, none⟩ = some (.int .i64 a1_2) ∧ w'.cell? ⟨gb612, 3, none⟩ = some (.int .i64 a1_3) ∧ w'.cell? ⟨gb612, 4, none⟩ = some (.int .i64 a1_4) ∧ w'.cell? ⟨gb612, 5, none⟩ = some (.string a1_5) ∧ w'.cell? (ad634.add ((x9_3).toNat * 6)) = some (.int .i64 ((rd_T23 l0 x9_3).f0)) ∧ w'.cell? ⟨(ad634.add ((x9_3).toNat * 6)).block, (ad634.add ((x9_3).toNat * 6)).off + 1, none⟩ = some (.int .i64 ((rd_T23 l0 x9_3).f1)) ∧ w'.cell? ⟨(ad634.add ((x9_3).toNat * 6)).block, (ad634.add ((x9_3).toNat * 6)).off + 2, none⟩ = some (.int .i64 ((rd_T23 l0 x9_3).f2)) ∧ w'.cell? ⟨(ad634.add ((x9_3).toNat * 6)).block, (ad634.add ((x9_3).toNat * 6)).off + 3, none⟩ = some (.int .i64 ((rd_T23 l0 x9_3).f3)) ∧ w'.cell? ⟨(ad634.add ((x9_3).toNat * 6)).block, (ad634.add ((x9_3).toNat * 6)).off + 4, none⟩ = some (.int .i64 ((rd_T23 l0 x9_3).f4)) ∧ w'.cell? ⟨(ad634.add ((x9_3).toNat * 6)).block, (ad634.add ((x9_3).toNat * 6)).off + 5, none⟩ = some (.string ((rd_T23 l0 x9_3).f5))) (ds := []) #[false, false, false, false, false, false] (by kernel_rfl) rfl rfl ⟨(blk_cell BK612.out 0).trans rfl, (blk_cell BK612.out 1).trans rfl, (blk_cell BK612.out 2).trans rfl, (blk_cell BK612.out 3).trans rfl, (blk_cell BK612.out 4).trans rfl, (blk_cell BK612.out 5).trans rfl, ((HB.out.cell (World.block_lt_of_cell? w _ hw634_0)).trans hw634_0), ((HB.out.cell (World.block_lt_of_cell? w _ hw634_1)).trans hw634_1), ((HB.out.cell (World.block_lt_of_cell? w _ hw634_2)).trans hw634_2), ((HB.out.cell (World.block_lt_of_cell? w _ hw634_3)).trans hw634_3), ((HB.out.cell (World.block_lt_of_cell? w _ hw634_4)).trans hw634_4), ((HB.out.cell (World.block_lt_of_cell? w _ hw634_5)).trans hw634_5)⟩ (fun hHeld => ?_)
                      generalize wr.drew = w42 at HO_5 HO_6 BK612 BK629 HB hx634_0 hx634_1 hx634_2 hx634_3 hx634_4 hx634_5 hHeld ⊢
                      refine pure_ (i := 0) (N := some 76) (v := ?_) (a' := ?_) #[true, false, false, false, false, false] rfl rfl (by kernel_rfl) (fun _ _ _ h => h) (Or.inl ⟨by rfl, ?_⟩) ?_ ?_
                      rotate_left
                      · intro w'
                        go_simp
                        with_reducible rfl
                      rotate_left
                      · simp only [Act.put, List.setIfInBounds_toArray, List.set_cons_zero, List.set_cons_succ, i64_w, i32_w]
                        rfl
                      refine pure_ (i := 1) (N := some 77) (v := ?_) (a' := ?_) #[true, true, false, false, false, false] rfl rfl (by kernel_rfl) (fun _ _ _ h => h) (Or.inl ⟨by rfl, ?_⟩) ?_ ?_
                      rotate_left
                      · intro w'
                        go_simp
                        with_reducible rfl
                      rotate_left
                      · simp only [Act.put, List.setIfInBounds_toArray, List.set_cons_zero, List.set_cons_succ, i64_w, i32_w]
                        rfl
                      refine pure_ (i := 2) (N := some 78) (v := ?_) (a' := ?_) #[true, true, true, false, false, false] rfl rfl (by kernel_rfl) (fun _ _ _ h => h) (Or.inl ⟨by rfl, ?_⟩) ?_ ?_
                      rotate_left
                      · intro w'
                        go_simp
                        with_reducible rfl
                      rotate_left
                      · simp only [Act.put, List.setIfInBounds_toArray, List.set_cons_zero, List.set_cons_succ, i64_w, i32_w]
                        rfl
                      refine take_ (i := 3) (N := some 79) (v := ?_) (a' := ?_) #[true, true, true, true, false, false] rfl rfl (by kernel_rfl) (fun _ _ _ h => h) (Or.inl ⟨by rfl, ?_⟩) hHeld ?_ ?_
                      rotate_left
                      · rintro w' ⟨s0, s1, s2, s3, s4, s5, s6, s7, s8, s9, s10, s11⟩
                        go_simp
                        with_reducible rfl
                      rotate_left
                      · simp only [Act.put, List.setIfInBounds_toArray, List.set_cons_zero, List.set_cons_succ, i64_w, i32_w]
                        rfl
                      refine take_ (i := 4) (N := some 80) (v := ?_) (a' := ?_) #[true, true, true, true, true, false] rfl rfl (by kernel_rfl) (fun _ _ _ h => h) (Or.inl ⟨by rfl, ?_⟩) hHeld ?_ ?_
                      rotate_left
                      · rintro w' ⟨s0, s1, s2, s3, s4, s5, s6, s7, s8, s9, s10, s11⟩
                        go_simp
                        with_reducible rfl
                      rotate_left
                      · simp only [Act.put, List.setIfInBounds_toArray, List.set_cons_zero, List.set_cons_succ, i64_w, i32_w]
                        rfl
                      refine pure_ (i := 5) (N := some 81) (v := ?_) (a' := ?_) #[true, true, true, true, true, true] rfl rfl (by kernel_rfl) (fun _ _ _ h => h) (Or.inl ⟨by rfl, ?_⟩) ?_ ?_
                      rotate_left
                      · intro w'
                        go_simp
                        with_reducible rfl
                      rotate_left
                      · simp only [Act.put, List.setIfInBounds_toArray, List.set_cons_zero, List.set_cons_succ, i64_w, i32_w]
                        rfl
                      refine done_ (by kernel_rfl) ?_
                      go_upto_if 81 with (fail)
                      go_cut [10] (fun v10 wc => ∃ (kq : Nat) (x10_40 : Int), v10 = .int .i64 x10_40 ∧ Aside0 (hopperlaw06_HeapKeeps.j3 kq l0 t616 t619 x9_3 x10_40 a1_0 a1_1 a1_2 a1_3 a1_4 a1_5 = some r) ∧ Aside0 (kq ≤ k3) ∧ Aside0 (Kd.R k23 23 wc w.heap.size (fun k_ => some k_ ≠ (v620 : Value).ownBlock ∧ k_ ≠ gb612 ∧ k_ ≠ gb629) v617 t616) ∧ Aside0 (Kd.R k23 23 wc w.heap.size (fun k_ => some k_ ≠ (v617 : Value).ownBlock ∧ k_ ≠ gb612 ∧ k_ ≠ gb629) v620 t619) ∧ Aside0 (wc.heap[gb612]? = some (.cells #[.int .i64 a1_0, .int .i64 a1_1, .int .i64 a1_2, .int .i64 a1_3, .int .i64 a1_4, .string a1_5] 23 (0, 0))) ∧ Aside0 (wc.heap[gb629]? = some (.cells #[.int .i64 t622, .int .i64 t623, .int .i64 t624, .int .i64 t625, .int .i64 t626, .string t627] 23 (0, 0))) ∧ Aside0 (Below w.heap.size w wc))
                      case first =>
                        have H := HC41.out
                        clear HC41
                        by_cases c43 : (((rd_T23 l0 x9_3).f0) == a1_0 && (((rd_T23 l0 x9_3).f1) == a1_1 && (((rd_T23 l0 x9_3).f2) == a1_2 && (((rd_T23 l0 x9_3).f3) == a1_3 && (((rd_T23 l0 x9_3).f4) == a1_4 && ((((rd_T23 l0 x9_3).f5).toList) == a1_5.toList)))))) = true
                        · rw [if_pos c43] at H
                          have c43b0 : (((rd_T23 l0 x9_3).f0) == a1_0 && (((rd_T23 l0 x9_3).f1) == a1_1 && (((rd_T23 l0 x9_3).f2) == a1_2 && (((rd_T23 l0 x9_3).f3) == a1_3 && (((rd_T23 l0 x9_3).f4) == a1_4 && ((((rd_T23 l0 x9_3).f5).toList) == a1_5.toList)))))) = true := c43
                          (try (have c43b1 : decide (((rd_T23 l0 x9_3).f0) = a1_0 && (((rd_T23 l0 x9_3).f1) == a1_1 && (((rd_T23 l0 x9_3).f2) == a1_2 && (((rd_T23 l0 x9_3).f3) == a1_3 && (((rd_T23 l0 x9_3).f4) == a1_4 && ((((rd_T23 l0 x9_3).f5).toList) == a1_5.toList)))))) = true := by simpa using c43))
                          (try (have c43b2 : (((rd_T23 l0 x9_3).f0) == a1_0 && (((rd_T23 l0 x9_3).f1) == a1_1 && (((rd_T23 l0 x9_3).f2) == a1_2 && (((rd_T23 l0 x9_3).f3) == a1_3 && (((rd_T23 l0 x9_3).f4) == a1_4 && ((((rd_T23 l0 x9_3).f5).toList) == a1_5.toList)))))) = true := by simpa using c43))
                          clear c43
                          (first | rw [c43b0] | (simp only [i64_w, i32_w]; rw [c43b0]) | skip)
                          have H' := Aside0.mk H
                          clear H
                          go_wp2
                          go_meet
                          case rel => exact ⟨_, (1), (by first | rfl | (simp; done) | (simp [*]; done)), H', ⟨by have := HJ2.out; have := HJ16.out; have := HK3.out; first | omega | exact Nat.le_refl _⟩, ⟨by (with_reducible repeat (first | apply Kd.R_alloc | apply Kd.R_drewN | apply Kd.R_drew)); exact HO_5.out⟩, ⟨by (with_reducible repeat (first | apply Kd.R_alloc | apply Kd.R_drewN | apply Kd.R_drew)); exact HO_6.out⟩, ⟨by (with_reducible repeat (first | refine blk_drewN ?_ _ | refine blk_drew ?_ | refine blk_alloc ?_ _)); exact BK612.out⟩, ⟨by (with_reducible repeat (first | refine blk_drewN ?_ _ | refine blk_drew ?_ | refine blk_alloc ?_ _)); exact BK629.out⟩, ⟨by repeat (first | (with_reducible first | exact HB.out | apply below_alloc | apply pw_below_drewN | apply below_drew1 | refine below_set ?_ GE612.out | refine below_set ?_ GE629.out) | exact HB.out)⟩⟩
                        · rw [if_neg c43] at H
                          have c43b0 : (((rd_T23 l0 x9_3).f0) == a1_0 && (((rd_T23 l0 x9_3).f1) == a1_1 && (((rd_T23 l0 x9_3).f2) == a1_2 && (((rd_T23 l0 x9_3).f3) == a1_3 && (((rd_T23 l0 x9_3).f4) == a1_4 && ((((rd_T23 l0 x9_3).f5).toList) == a1_5.toList)))))) = false := by simpa using c43
                          (try (have c43b1 : decide (((rd_T23 l0 x9_3).f0) = a1_0 && (((rd_T23 l0 x9_3).f1) == a1_1 && (((rd_T23 l0 x9_3).f2) == a1_2 && (((rd_T23 l0 x9_3).f3) == a1_3 && (((rd_T23 l0 x9_3).f4) == a1_4 && ((((rd_T23 l0 x9_3).f5).toList) == a1_5.toList)))))) = false := by simpa using c43))
                          (try (have c43b2 : (((rd_T23 l0 x9_3).f0) == a1_0 && (((rd_T23 l0 x9_3).f1) == a1_1 && (((rd_T23 l0 x9_3).f2) == a1_2 && (((rd_T23 l0 x9_3).f3) == a1_3 && (((rd_T23 l0 x9_3).f4) == a1_4 && ((((rd_T23 l0 x9_3).f5).toList) == a1_5.toList)))))) = false := by simpa using c43))
                          (try (have c43b3 : ¬ (((rd_T23 l0 x9_3).f0) = a1_0 && (((rd_T23 l0 x9_3).f1) == a1_1 && (((rd_T23 l0 x9_3).f2) == a1_2 && (((rd_T23 l0 x9_3).f3) == a1_3 && (((rd_T23 l0 x9_3).f4) == a1_4 && ((((rd_T23 l0 x9_3).f5).toList) == a1_5.toList)))))) := by simpa using c43))
                          clear c43
                          (first | rw [c43b0] | (simp only [i64_w, i32_w]; rw [c43b0]) | skip)
                          have H' := Aside0.mk H
                          clear H
                          go_wp2
                          go_meet
                          case rel => exact ⟨_, (0), (by first | rfl | (simp; done) | (simp [*]; done)), H', ⟨by have := HJ2.out; have := HJ16.out; have := HK3.out; first | omega | exact Nat.le_refl _⟩, ⟨by (with_reducible repeat (first | apply Kd.R_alloc | apply Kd.R_drewN | apply Kd.R_drew)); exact HO_5.out⟩, ⟨by (with_reducible repeat (first | apply Kd.R_alloc | apply Kd.R_drewN | apply Kd.R_drew)); exact HO_6.out⟩, ⟨by (with_reducible repeat (first | refine blk_drewN ?_ _ | refine blk_drew ?_ | refine blk_alloc ?_ _)); exact BK612.out⟩, ⟨by (with_reducible repeat (first | refine blk_drewN ?_ _ | refine blk_drew ?_ | refine blk_alloc ?_ _)); exact BK629.out⟩, ⟨by repeat (first | (with_reducible first | exact HB.out | apply below_alloc | apply pw_below_drewN | apply below_drew1 | refine below_set ?_ GE612.out | refine below_set ?_ GE629.out) | exact HB.out)⟩⟩
                      case rest =>
                        clear HC41
                        try clear c2
                        try clear p2
                        try clear c3
                        try clear c4
                        try clear p6
                        try clear q6
                        try clear hx6
                        try clear c24
                        try clear c26
                        try clear c27
                        try clear c29
                        try clear c38
                        try clear c39
                        try clear c39b0
                        try clear c40
                        try clear c40b0
                        try clear c43
                        try clear c43b0
                        try clear c43b1
                        try clear c43b2
                        try clear hx634_0
                        try clear hx634_1
                        try clear hx634_2
                        try clear hx634_3
                        try clear hx634_4
                        try clear hx634_5
                        try clear p2
                        try clear p634
                        try clear q634
                        obtain ⟨kq, x10_40, rfl, HA, HJ40, HO_5, HO_6, BK612, BK629, HB⟩ := hcut
                        cases kq with
                        | zero => exact absurd HA.out (by simp [hopperlaw06_HeapKeeps.j3])
                        | succ kj40 =>
                          have H := HA.out
                          clear HA
                          simp only [hopperlaw06_HeapKeeps.j3] at H
                          by_cases c44 : 0 ≤ x9_3
                          · rw [if_pos c44] at H
                            have c44b0 : decide (0 ≤ x9_3) = true := decide_eq_true c44
                            clear c44
                            by_cases c45 : x9_3 < (l0.length : Int)
                            · rw [if_pos c45] at H
                              have c45b0 : decide (x9_3 < (l0.length : Int)) = true := decide_eq_true c45
                              clear c45
                              by_cases c46 : 0 < (l0.length : Int)
                              · rw [if_pos c46] at H
                                have c46b0 : decide (0 < (l0.length : Int)) = true := decide_eq_true c46
                                have c46b1 : decide (0 < l0.length) = true := decide_eq_true (by omega)
                                clear c46
                                have HC47 := Aside0.mk H
                                clear H
                                try go_wp2
                                have n0_ := Aside0.mk (Kd.R_drew HO_5.out)
                                have n1_ := Aside0.mk (Kd.R_drew HO_6.out)
                                have n2_ := Aside0.mk (blk_drew BK612.out)
                                have n3_ := Aside0.mk (blk_drew BK629.out)
                                have n4_ := Aside0.mk (below_drew1 HB.out)
                                clear HO_5
                                clear HO_6
                                clear BK612
                                clear BK629
                                clear HB
                                have HO_5 := n0_
                                have HO_6 := n1_
                                have BK612 := n2_
                                have BK629 := n3_
                                have HB := n4_
                                clear n0_ n1_ n2_ n3_ n4_
                                have p635 : 0 ≤ (x9_3 : Int) := of_decide_eq_true (by first | (with_reducible assumption) | assumption)
                                have q635 : x9_3 < (l0.length : Int) := of_decide_eq_true (by first | (with_reducible assumption) | assumption)
                                obtain ⟨ad635, e635, hx635_0, hx635_1, hx635_2, hx635_3, hx635_4, hx635_5⟩ := at_T23 HR0.out x9_3 p635 q635
                                have hw635_5 := hx635_5
                                have hw635_4 := hx635_4
                                have hw635_3 := hx635_3
                                have hw635_2 := hx635_2
                                have hw635_1 := hx635_1
                                have hw635_0 := hx635_0
                                obtain rfl : ad634 = ad635 := (by injection e635)
                                replace hx635_0 := (HB.out.cell (World.block_lt_of_cell? w _ hx635_0)).trans hx635_0
                                replace hx635_1 := (HB.out.cell (World.block_lt_of_cell? w _ hx635_1)).trans hx635_1
                                replace hx635_2 := (HB.out.cell (World.block_lt_of_cell? w _ hx635_2)).trans hx635_2
                                replace hx635_3 := (HB.out.cell (World.block_lt_of_cell? w _ hx635_3)).trans hx635_3
                                replace hx635_4 := (HB.out.cell (World.block_lt_of_cell? w _ hx635_4)).trans hx635_4
                                replace hx635_5 := (HB.out.cell (World.block_lt_of_cell? w _ hx635_5)).trans hx635_5
                                replace p635 := eq_true p635
                                replace q635 := eq_true q635
                                have p636 : 0 ≤ (0 : Int) := (by omega)
                                have q636 : 0 < (l0.length : Int) := of_decide_eq_true (by first | (with_reducible assumption) | assumption)
                                obtain ⟨ad636, e636, hx636_0, hx636_1, hx636_2, hx636_3, hx636_4, hx636_5⟩ := at_T23 HR0.out 0 p636 q636
                                have hw636_5 := hx636_5
                                (try rw [show ((0 : Int)).toNat = 0 from rfl] at hw636_5)
                                (try rw [show 0 * 6 = 0 from rfl] at hw636_5)
                                (try rw [Addr.add_zero'] at hw636_5)
                                have hw636_4 := hx636_4
                                (try rw [show ((0 : Int)).toNat = 0 from rfl] at hw636_4)
                                (try rw [show 0 * 6 = 0 from rfl] at hw636_4)
                                (try rw [Addr.add_zero'] at hw636_4)
                                have hw636_3 := hx636_3
                                (try rw [show ((0 : Int)).toNat = 0 from rfl] at hw636_3)
                                (try rw [show 0 * 6 = 0 from rfl] at hw636_3)
                                (try rw [Addr.add_zero'] at hw636_3)
                                have hw636_2 := hx636_2
                                (try rw [show ((0 : Int)).toNat = 0 from rfl] at hw636_2)
                                (try rw [show 0 * 6 = 0 from rfl] at hw636_2)
                                (try rw [Addr.add_zero'] at hw636_2)
                                have hw636_1 := hx636_1
                                (try rw [show ((0 : Int)).toNat = 0 from rfl] at hw636_1)
                                (try rw [show 0 * 6 = 0 from rfl] at hw636_1)
                                (try rw [Addr.add_zero'] at hw636_1)
                                have hw636_0 := hx636_0
                                (try rw [show ((0 : Int)).toNat = 0 from rfl] at hw636_0)
                                (try rw [show 0 * 6 = 0 from rfl] at hw636_0)
                                (try rw [Addr.add_zero'] at hw636_0)
                                obtain rfl : ad634 = ad636 := (by injection e636)
                                have qi636 : (0 < l0.length) = True := eq_true (by omega)
                                (try rw [show ((0 : Int)).toNat = 0 from rfl] at hx636_0)
                                (try rw [show 0 * 6 = 0 from rfl] at hx636_0)
                                (try rw [Addr.add_zero'] at hx636_0)
                                (try rw [show ((0 : Int)).toNat = 0 from rfl] at hx636_1)
                                (try rw [show 0 * 6 = 0 from rfl] at hx636_1)
                                (try rw [Addr.add_zero'] at hx636_1)
                                (try rw [show ((0 : Int)).toNat = 0 from rfl] at hx636_2)
                                (try rw [show 0 * 6 = 0 from rfl] at hx636_2)
                                (try rw [Addr.add_zero'] at hx636_2)
                                (try rw [show ((0 : Int)).toNat = 0 from rfl] at hx636_3)
                                (try rw [show 0 * 6 = 0 from rfl] at hx636_3)
                                (try rw [Addr.add_zero'] at hx636_3)
                                (try rw [show ((0 : Int)).toNat = 0 from rfl] at hx636_4)
                                (try rw [show 0 * 6 = 0 from rfl] at hx636_4)
                                (try rw [Addr.add_zero'] at hx636_4)
                                (try rw [show ((0 : Int)).toNat = 0 from rfl] at hx636_5)
                                (try rw [show 0 * 6 = 0 from rfl] at hx636_5)
                                (try rw [Addr.add_zero'] at hx636_5)
                                replace hx636_0 := (HB.out.cell (World.block_lt_of_cell? w _ hx636_0)).trans hx636_0
                                replace hx636_1 := (HB.out.cell (World.block_lt_of_cell? w _ hx636_1)).trans hx636_1
                                replace hx636_2 := (HB.out.cell (World.block_lt_of_cell? w _ hx636_2)).trans hx636_2
                                replace hx636_3 := (HB.out.cell (World.block_lt_of_cell? w _ hx636_3)).trans hx636_3
                                replace hx636_4 := (HB.out.cell (World.block_lt_of_cell? w _ hx636_4)).trans hx636_4
                                replace hx636_5 := (HB.out.cell (World.block_lt_of_cell? w _ hx636_5)).trans hx636_5
                                replace p636 := eq_true p636
                                replace q636 := eq_true q636
                                refine start_ (n := 8) (S := fun w' => w'.cell? (ad634.add ((x9_3).toNat * 6)) = some (.int .i64 ((rd_T23 l0 x9_3).f0)) ∧ w'.cell? ⟨(ad634.add ((x9_3).toNat * 6)).block, (ad634.add ((x9_3).toNat * 6)).off + 1, none⟩ = some (.int .i64 ((rd_T23 l0 x9_3).f1)) ∧ w'.cell? ⟨(ad634.add ((x9_3).toNat * 6)).block, (ad634.add ((x9_3).toNat * 6)).off + 2, none⟩ = some (.int .i64 ((rd_T23 l0 x9_3).f2)) ∧ w'.cell? ⟨(ad634.add ((x9_3).toNat * 6)).block, (ad634.add ((x9_3).toNat * 6)).off + 3, none⟩ = some (.int .i64 ((rd_T23 l0 x9_3).f3)) ∧ w'.cell? ⟨(ad634.add ((x9_3).toNat * 6)).block, (ad634.add ((x9_3).toNat * 6)).off + 4, none⟩ = some (.int .i64 ((rd_T23 l0 x9_3).f4)) ∧ w'.cell? ⟨(ad634.add ((x9_3).toNat * 6)).block, (ad634.add ((x9_3).toNat * 6)).off + 5, none⟩ = some (.string ((rd_T23 l0 x9_3).f5)) ∧ w'.cell? ad634 = some (.int .i64 ((rd_T23 l0 0).f0)) ∧ w'.cell? ⟨ad634.block, ad634.off + 1, none⟩ = some (.int .i64 ((rd_T23 l0 0).f1)) ∧ w'.cell? ⟨ad634.block, ad634.off + 2, none⟩ = some (.int .i64 ((rd_T23 l0 0).f2)) ∧ w'.cell? ⟨ad634.block, ad634.off + 3, none⟩ = some (.int .i64 ((rd_T23 l0 0).f3)) ∧ w'.cell? ⟨ad634.block, ad634.off + 4, none⟩ = some (.int .i64 ((rd_T23 l0 0).f4)) ∧ w'.cell? ⟨ad634.block, ad634.off + 5, none⟩ = some (.string ((rd_T23 l0 0).f5))) (ds := []) #[false, false, false, false, false, false, false, false] (by kernel_rfl) rfl rfl ⟨((HB.out.cell (World.block_lt_of_cell? w _ hw635_0)).trans hw635_0), ((HB.out.cell (World.block_lt_of_cell? w _ hw635_1)).trans hw635_1), ((HB.out.cell (World.block_lt_of_cell? w _ hw635_2)).trans hw635_2), ((HB.out.cell (World.block_lt_of_cell? w _ hw635_3)).trans hw635_3), ((HB.out.cell (World.block_lt_of_cell? w _ hw635_4)).trans hw635_4), ((HB.out.cell (World.block_lt_of_cell? w _ hw635_5)).trans hw635_5), ((HB.out.cell (World.block_lt_of_cell? w _ hw636_0)).trans hw636_0), ((HB.out.cell (World.block_lt_of_cell? w _ hw636_1)).trans hw636_1), ((HB.out.cell (World.block_lt_of_cell? w _ hw636_2)).trans hw636_2), ((HB.out.cell (World.block_lt_of_cell? w _ hw636_3)).trans hw636_3), ((HB.out.cell (World.block_lt_of_cell? w _ hw636_4)).trans hw636_4), ((HB.out.cell (World.block_lt_of_cell? w _ hw636_5)).trans hw636_5)⟩ (fun hHeld => ?_); refine with_tabW hopperlaw06_HeapKeeps.tab14 hopperlaw06_HeapKeeps.bits14 (fun HT_ HW_ => ?_)
                                generalize wc.drew = w48 at HO_5 HO_6 BK612 BK629 HB hx635_0 hx635_1 hx635_2 hx635_3 hx635_4 hx635_5 hx636_0 hx636_1 hx636_2 hx636_3 hx636_4 hx636_5 hHeld ⊢
                                refine pure_ (i := 0) (N := some 82) (v := ?_) (a' := ?_) #[true, false, false, false, false, false, false, false] rfl rfl (any_of HT_.out (by kernel_rfl)) (fun _ _ _ h => h) (Or.inl ⟨by rfl, ?_⟩) ?_ ?_
                                rotate_left
                                · intro w'
                                  go_simp
                                  with_reducible rfl
                                rotate_left
                                · simp only [Act.put, List.setIfInBounds_toArray, List.set_cons_zero, List.set_cons_succ, i64_w, i32_w]
                                  rfl
                                refine pure_ (i := 1) (N := some 83) (v := ?_) (a' := ?_) #[true, true, false, false, false, false, false, false] rfl rfl (any_of HT_.out (by kernel_rfl)) (fun _ _ _ h => h) (Or.inl ⟨by rfl, ?_⟩) ?_ ?_
                                rotate_left
                                · intro w'
                                  go_simp
                                  with_reducible rfl
                                rotate_left
                                · simp only [Act.put, List.setIfInBounds_toArray, List.set_cons_zero, List.set_cons_succ, i64_w, i32_w]
                                  rfl
                                refine pure_ (i := 2) (N := some 84) (v := ?_) (a' := ?_) #[true, true, true, false, false, false, false, false] rfl rfl (any_of HT_.out (by kernel_rfl)) (fun _ _ _ h => h) (Or.inl ⟨by rfl, ?_⟩) ?_ ?_
                                rotate_left
                                · intro w'
                                  go_simp
                                  with_reducible rfl
                                rotate_left
                                · simp only [Act.put, List.setIfInBounds_toArray, List.set_cons_zero, List.set_cons_succ, i64_w, i32_w]
                                  rfl
                                refine pure_ (i := 4) (N := some 86) (v := ?_) (a' := ?_) #[true, true, true, false, true, false, false, false] rfl rfl (any_of HT_.out (by kernel_rfl)) (fun _ _ _ h => h) (Or.inl ⟨by rfl, ?_⟩) ?_ ?_
                                rotate_left
                                · intro w'
                                  go_simp
                                  with_reducible rfl
                                rotate_left
                                · simp only [Act.put, List.setIfInBounds_toArray, List.set_cons_zero, List.set_cons_succ, i64_w, i32_w]
                                  rfl
                                refine pure_ (i := 5) (N := some 87) (v := ?_) (a' := ?_) #[true, true, true, false, true, true, false, false] rfl rfl (any_of HT_.out (by kernel_rfl)) (fun _ _ _ h => h) (Or.inl ⟨by rfl, ?_⟩) ?_ ?_
                                rotate_left
                                · intro w'
                                  go_simp
                                  with_reducible rfl
                                rotate_left
                                · simp only [Act.put, List.setIfInBounds_toArray, List.set_cons_zero, List.set_cons_succ, i64_w, i32_w]
                                  rfl
                                refine take_ (i := 3) (N := some 85) (v := ?_) (a' := ?_) #[true, true, true, true, true, true, false, false] rfl rfl (take_ofW HT_.out HW_.out (by kernel_rfl)) (fun _ _ _ h => h) (Or.inl ⟨by rfl, ?_⟩) hHeld ?_ ?_
                                rotate_left
                                · rintro w' ⟨s0, s1, s2, s3, s4, s5, s6, s7, s8, s9, s10, s11⟩
                                  go_simp
                                  with_reducible rfl
                                rotate_left
                                · simp only [Act.put, List.setIfInBounds_toArray, List.set_cons_zero, List.set_cons_succ, i64_w, i32_w]
                                  rfl
                                refine take_ (i := 6) (N := some 88) (v := ?_) (a' := ?_) #[true, true, true, true, true, true, true, false] rfl rfl (take_ofW HT_.out HW_.out (by kernel_rfl)) (fun _ _ _ h => h) (Or.inl ⟨by rfl, ?_⟩) hHeld ?_ ?_
                                rotate_left
                                · rintro w' ⟨s0, s1, s2, s3, s4, s5, s6, s7, s8, s9, s10, s11⟩
                                  go_simp
                                  with_reducible rfl
                                rotate_left
                                · simp only [Act.put, List.setIfInBounds_toArray, List.set_cons_zero, List.set_cons_succ, i64_w, i32_w]
                                  rfl
                                refine pure_ (i := 7) (N := some 89) (v := ?_) (a' := ?_) #[true, true, true, true, true, true, true, true] rfl rfl (any_of HT_.out (by kernel_rfl)) (fun _ _ _ h => h) (Or.inl ⟨by rfl, ?_⟩) ?_ ?_
                                rotate_left
                                · intro w'
                                  go_simp
                                  with_reducible rfl
                                rotate_left
                                · simp only [Act.put, List.setIfInBounds_toArray, List.set_cons_zero, List.set_cons_succ, i64_w, i32_w]
                                  rfl
                                refine done_ (done_of HT_.out (by kernel_rfl)) ?_
                                go_upto_if 89 with (fail)
                                go_cut [11] (fun v11 wc => ∃ (kq : Nat) (x11_46 : Int), v11 = .int .i64 x11_46 ∧ Aside0 (hopperlaw06_HeapKeeps.j4 kq l0 t616 t619 x9_3 x10_40 x11_46 a1_0 a1_1 a1_2 a1_3 a1_4 a1_5 = some r) ∧ Aside0 (kq ≤ kj40) ∧ Aside0 (Kd.R k23 23 wc w.heap.size (fun k_ => some k_ ≠ (v620 : Value).ownBlock ∧ k_ ≠ gb612 ∧ k_ ≠ gb629) v617 t616) ∧ Aside0 (Kd.R k23 23 wc w.heap.size (fun k_ => some k_ ≠ (v617 : Value).ownBlock ∧ k_ ≠ gb612 ∧ k_ ≠ gb629) v620 t619) ∧ Aside0 (wc.heap[gb612]? = some (.cells #[.int .i64 a1_0, .int .i64 a1_1, .int .i64 a1_2, .int .i64 a1_3, .int .i64 a1_4, .string a1_5] 23 (0, 0))) ∧ Aside0 (wc.heap[gb629]? = some (.cells #[.int .i64 t622, .int .i64 t623, .int .i64 t624, .int .i64 t625, .int .i64 t626, .string t627] 23 (0, 0))) ∧ Aside0 (Below w.heap.size w wc))
                                case first =>
                                  have H := HC47.out
                                  clear HC47
                                  by_cases c49 : (((rd_T23 l0 x9_3).f0) == ((rd_T23 l0 0).f0) && (((rd_T23 l0 x9_3).f1) == ((rd_T23 l0 0).f1) && (((rd_T23 l0 x9_3).f2) == ((rd_T23 l0 0).f2) && (((rd_T23 l0 x9_3).f3) == ((rd_T23 l0 0).f3) && (((rd_T23 l0 x9_3).f4) == ((rd_T23 l0 0).f4) && ((((rd_T23 l0 x9_3).f5).toList) == (((rd_T23 l0 0).f5).toList))))))) = true
                                  · rw [if_pos c49] at H
                                    have c49b0 : (((rd_T23 l0 x9_3).f0) == ((rd_T23 l0 0).f0) && (((rd_T23 l0 x9_3).f1) == ((rd_T23 l0 0).f1) && (((rd_T23 l0 x9_3).f2) == ((rd_T23 l0 0).f2) && (((rd_T23 l0 x9_3).f3) == ((rd_T23 l0 0).f3) && (((rd_T23 l0 x9_3).f4) == ((rd_T23 l0 0).f4) && ((((rd_T23 l0 x9_3).f5).toList) == (((rd_T23 l0 0).f5).toList))))))) = true := c49
                                    (try (have c49b1 : decide (((rd_T23 l0 x9_3).f0) = ((rd_T23 l0 0).f0) && (((rd_T23 l0 x9_3).f1) == ((rd_T23 l0 0).f1) && (((rd_T23 l0 x9_3).f2) == ((rd_T23 l0 0).f2) && (((rd_T23 l0 x9_3).f3) == ((rd_T23 l0 0).f3) && (((rd_T23 l0 x9_3).f4) == ((rd_T23 l0 0).f4) && ((((rd_T23 l0 x9_3).f5).toList) == (((rd_T23 l0 0).f5).toList))))))) = true := by simpa using c49))
                                    (try (have c49b2 : (((rd_T23 l0 x9_3).f0) == ((rd_T23 l0 0).f0) && (((rd_T23 l0 x9_3).f1) == ((rd_T23 l0 0).f1) && (((rd_T23 l0 x9_3).f2) == ((rd_T23 l0 0).f2) && (((rd_T23 l0 x9_3).f3) == ((rd_T23 l0 0).f3) && (((rd_T23 l0 x9_3).f4) == ((rd_T23 l0 0).f4) && ((((rd_T23 l0 x9_3).f5).toList) == (((rd_T23 l0 0).f5).toList))))))) = true := by simpa using c49))
                                    clear c49
                                    (first | rw [c49b0] | (simp only [i64_w, i32_w]; rw [c49b0]) | skip)
                                    have H' := Aside0.mk H
                                    clear H
                                    go_wp2
                                    go_meet
                                    case rel => exact ⟨_, (1), (by first | rfl | (simp; done) | (simp [*]; done)), H', ⟨by have := HJ2.out; have := HJ16.out; have := HK3.out; have := HJ40.out; first | omega | exact Nat.le_refl _⟩, ⟨by (with_reducible repeat (first | apply Kd.R_alloc | apply Kd.R_drewN | apply Kd.R_drew)); exact HO_5.out⟩, ⟨by (with_reducible repeat (first | apply Kd.R_alloc | apply Kd.R_drewN | apply Kd.R_drew)); exact HO_6.out⟩, ⟨by (with_reducible repeat (first | refine blk_drewN ?_ _ | refine blk_drew ?_ | refine blk_alloc ?_ _)); exact BK612.out⟩, ⟨by (with_reducible repeat (first | refine blk_drewN ?_ _ | refine blk_drew ?_ | refine blk_alloc ?_ _)); exact BK629.out⟩, ⟨by repeat (first | (with_reducible first | exact HB.out | apply below_alloc | apply pw_below_drewN | apply below_drew1 | refine below_set ?_ GE612.out | refine below_set ?_ GE629.out) | exact HB.out)⟩⟩
                                  · rw [if_neg c49] at H
                                    have c49b0 : (((rd_T23 l0 x9_3).f0) == ((rd_T23 l0 0).f0) && (((rd_T23 l0 x9_3).f1) == ((rd_T23 l0 0).f1) && (((rd_T23 l0 x9_3).f2) == ((rd_T23 l0 0).f2) && (((rd_T23 l0 x9_3).f3) == ((rd_T23 l0 0).f3) && (((rd_T23 l0 x9_3).f4) == ((rd_T23 l0 0).f4) && ((((rd_T23 l0 x9_3).f5).toList) == (((rd_T23 l0 0).f5).toList))))))) = false := by simpa using c49
                                    (try (have c49b1 : decide (((rd_T23 l0 x9_3).f0) = ((rd_T23 l0 0).f0) && (((rd_T23 l0 x9_3).f1) == ((rd_T23 l0 0).f1) && (((rd_T23 l0 x9_3).f2) == ((rd_T23 l0 0).f2) && (((rd_T23 l0 x9_3).f3) == ((rd_T23 l0 0).f3) && (((rd_T23 l0 x9_3).f4) == ((rd_T23 l0 0).f4) && ((((rd_T23 l0 x9_3).f5).toList) == (((rd_T23 l0 0).f5).toList))))))) = false := by simpa using c49))
                                    (try (have c49b2 : (((rd_T23 l0 x9_3).f0) == ((rd_T23 l0 0).f0) && (((rd_T23 l0 x9_3).f1) == ((rd_T23 l0 0).f1) && (((rd_T23 l0 x9_3).f2) == ((rd_T23 l0 0).f2) && (((rd_T23 l0 x9_3).f3) == ((rd_T23 l0 0).f3) && (((rd_T23 l0 x9_3).f4) == ((rd_T23 l0 0).f4) && ((((rd_T23 l0 x9_3).f5).toList) == (((rd_T23 l0 0).f5).toList))))))) = false := by simpa using c49))
                                    (try (have c49b3 : ¬ (((rd_T23 l0 x9_3).f0) = ((rd_T23 l0 0).f0) && (((rd_T23 l0 x9_3).f1) == ((rd_T23 l0 0).f1) && (((rd_T23 l0 x9_3).f2) == ((rd_T23 l0 0).f2) && (((rd_T23 l0 x9_3).f3) == ((rd_T23 l0 0).f3) && (((rd_T23 l0 x9_3).f4) == ((rd_T23 l0 0).f4) && ((((rd_T23 l0 x9_3).f5).toList) == (((rd_T23 l0 0).f5).toList))))))) := by simpa using c49))
                                    clear c49
                                    (first | rw [c49b0] | (simp only [i64_w, i32_w]; rw [c49b0]) | skip)
                                    have H' := Aside0.mk H
                                    clear H
                                    go_wp2
                                    go_meet
                                    case rel => exact ⟨_, (0), (by first | rfl | (simp; done) | (simp [*]; done)), H', ⟨by have := HJ2.out; have := HJ16.out; have := HK3.out; have := HJ40.out; first | omega | exact Nat.le_refl _⟩, ⟨by (with_reducible repeat (first | apply Kd.R_alloc | apply Kd.R_drewN | apply Kd.R_drew)); exact HO_5.out⟩, ⟨by (with_reducible repeat (first | apply Kd.R_alloc | apply Kd.R_drewN | apply Kd.R_drew)); exact HO_6.out⟩, ⟨by (with_reducible repeat (first | refine blk_drewN ?_ _ | refine blk_drew ?_ | refine blk_alloc ?_ _)); exact BK612.out⟩, ⟨by (with_reducible repeat (first | refine blk_drewN ?_ _ | refine blk_drew ?_ | refine blk_alloc ?_ _)); exact BK629.out⟩, ⟨by repeat (first | (with_reducible first | exact HB.out | apply below_alloc | apply pw_below_drewN | apply below_drew1 | refine below_set ?_ GE612.out | refine below_set ?_ GE629.out) | exact HB.out)⟩⟩
                                case rest =>
                                  clear HC47
                                  try clear c2
                                  try clear p2
                                  try clear c3
                                  try clear c4
                                  try clear p6
                                  try clear q6
                                  try clear hx6
                                  try clear qi6
                                  try clear c24
                                  try clear c26
                                  try clear c27
                                  try clear c29
                                  try clear c38
                                  try clear c39
                                  try clear c39b0
                                  try clear c40
                                  try clear c40b0
                                  try clear c43
                                  try clear c43b0
                                  try clear c43b1
                                  try clear c43b2
                                  try clear c44
                                  try clear c44b0
                                  try clear c45
                                  try clear c45b0
                                  try clear c46
                                  try clear c46b0
                                  try clear c46b1
                                  try clear c49
                                  try clear c49b0
                                  try clear c49b1
                                  try clear c49b2
                                  try clear hx634_0
                                  try clear hx634_1
                                  try clear hx634_2
                                  try clear hx634_3
                                  try clear hx634_4
                                  try clear hx634_5
                                  try clear hx635_0
                                  try clear hx635_1
                                  try clear hx635_2
                                  try clear hx635_3
                                  try clear hx635_4
                                  try clear hx635_5
                                  try clear hx636_0
                                  try clear hx636_1
                                  try clear hx636_2
                                  try clear hx636_3
                                  try clear hx636_4
                                  try clear hx636_5
                                  try clear p2
                                  try clear p6
                                  try clear p634
                                  try clear p635
                                  try clear p636
                                  try clear q6
                                  try clear q634
                                  try clear q635
                                  try clear q636
                                  obtain ⟨kq, x11_46, rfl, HA, HJ46, HO_5, HO_6, BK612, BK629, HB⟩ := hcut
                                  cases kq with
                                  | zero => exact absurd HA.out (by simp [hopperlaw06_HeapKeeps.j4])
                                  | succ kj46 =>
                                    have H := HA.out
                                    clear HA
                                    simp only [hopperlaw06_HeapKeeps.j4] at H
                                    by_cases c50 : 0 ≤ x9_3
                                    · rw [if_pos c50] at H
                                      have c50b0 : decide (0 ≤ x9_3) = true := decide_eq_true c50
                                      clear c50
                                      by_cases c51 : x9_3 < (l0.length : Int)
                                      · rw [if_pos c51] at H
                                        have c51b0 : decide (x9_3 < (l0.length : Int)) = true := decide_eq_true c51
                                        clear c51
                                        replace H := Option.bind_eq_some_iff.mp H
                                        obtain ⟨t638, A520, H⟩ := H
                                        replace H : ((hopperlaw06_count.f kj46 l0 ((rd_T23 l0 x9_3).f0) ((rd_T23 l0 x9_3).f1) ((rd_T23 l0 x9_3).f2) ((rd_T23 l0 x9_3).f3) ((rd_T23 l0 x9_3).f4) ((rd_T23 l0 x9_3).f5)).bind fun t640 => (if t638 = (wrap64 (t640 + x10_40)) then ((hopperlaw06_count.f kj46 t619 ((rd_T23 l0 x9_3).f0) ((rd_T23 l0 x9_3).f1) ((rd_T23 l0 x9_3).f2) ((rd_T23 l0 x9_3).f3) ((rd_T23 l0 x9_3).f4) ((rd_T23 l0 x9_3).f5)).bind fun t642 => ((hopperlaw06_count.f kj46 l0 ((rd_T23 l0 x9_3).f0) ((rd_T23 l0 x9_3).f1) ((rd_T23 l0 x9_3).f2) ((rd_T23 l0 x9_3).f3) ((rd_T23 l0 x9_3).f4) ((rd_T23 l0 x9_3).f5)).bind fun t644 => (if t642 = (wrap64 (t644 - x11_46)) then (hopperlaw06_HeapKeeps.l0 kj46 l0 t616 t619 (wrap64 (x9_3 + 1)) a1_0 a1_1 a1_2 a1_3 a1_4 a1_5) else (none)))) else (none))) = some r := H
                                        have A52 := Aside0.mk A520
                                        clear A520
                                        replace H := Option.bind_eq_some_iff.mp H
                                        obtain ⟨t640, A530, H⟩ := H
                                        replace H : (if t638 = (wrap64 (t640 + x10_40)) then ((hopperlaw06_count.f kj46 t619 ((rd_T23 l0 x9_3).f0) ((rd_T23 l0 x9_3).f1) ((rd_T23 l0 x9_3).f2) ((rd_T23 l0 x9_3).f3) ((rd_T23 l0 x9_3).f4) ((rd_T23 l0 x9_3).f5)).bind fun t642 => ((hopperlaw06_count.f kj46 l0 ((rd_T23 l0 x9_3).f0) ((rd_T23 l0 x9_3).f1) ((rd_T23 l0 x9_3).f2) ((rd_T23 l0 x9_3).f3) ((rd_T23 l0 x9_3).f4) ((rd_T23 l0 x9_3).f5)).bind fun t644 => (if t642 = (wrap64 (t644 - x11_46)) then (hopperlaw06_HeapKeeps.l0 kj46 l0 t616 t619 (wrap64 (x9_3 + 1)) a1_0 a1_1 a1_2 a1_3 a1_4 a1_5) else (none)))) else (none)) = some r := H
                                        have A53 := Aside0.mk A530
                                        clear A530
                                        by_cases c54 : t638 = (wrap64 (t640 + x10_40))
                                        · rw [if_pos c54] at H
                                          have c54b0 : (t638 == (wrap64 (t640 + x10_40))) = true := beq_iff_eq.mpr c54
                                          have c54b1 : (t638 != (wrap64 (t640 + x10_40))) = false := bne_eq_false_iff_eq.mpr c54
                                          clear c54
                                          replace H := Option.bind_eq_some_iff.mp H
                                          obtain ⟨t642, A550, H⟩ := H
                                          replace H : ((hopperlaw06_count.f kj46 l0 ((rd_T23 l0 x9_3).f0) ((rd_T23 l0 x9_3).f1) ((rd_T23 l0 x9_3).f2) ((rd_T23 l0 x9_3).f3) ((rd_T23 l0 x9_3).f4) ((rd_T23 l0 x9_3).f5)).bind fun t644 => (if t642 = (wrap64 (t644 - x11_46)) then (hopperlaw06_HeapKeeps.l0 kj46 l0 t616 t619 (wrap64 (x9_3 + 1)) a1_0 a1_1 a1_2 a1_3 a1_4 a1_5) else (none))) = some r := H
                                          have A55 := Aside0.mk A550
                                          clear A550
                                          replace H := Option.bind_eq_some_iff.mp H
                                          obtain ⟨t644, A560, H⟩ := H
                                          replace H : (if t642 = (wrap64 (t644 - x11_46)) then (hopperlaw06_HeapKeeps.l0 kj46 l0 t616 t619 (wrap64 (x9_3 + 1)) a1_0 a1_1 a1_2 a1_3 a1_4 a1_5) else (none)) = some r := H
                                          have A56 := Aside0.mk A560
                                          clear A560
                                          by_cases c57 : t642 = (wrap64 (t644 - x11_46))
                                          · rw [if_pos c57] at H
                                            have c57b0 : (t642 == (wrap64 (t644 - x11_46))) = true := beq_iff_eq.mpr c57
                                            have c57b1 : (t642 != (wrap64 (t644 - x11_46))) = false := bne_eq_false_iff_eq.mpr c57
                                            clear c57
                                            have H' := Aside0.mk H
                                            clear H
                                            try go_wp2
                                            have n0_ := Aside0.mk (Kd.R_drew HO_5.out)
                                            have n1_ := Aside0.mk (Kd.R_drew HO_6.out)
                                            have n2_ := Aside0.mk (blk_drew BK612.out)
                                            have n3_ := Aside0.mk (blk_drew BK629.out)
                                            have n4_ := Aside0.mk (below_drew1 HB.out)
                                            clear HO_5
                                            clear HO_6
                                            clear BK612
                                            clear BK629
                                            clear HB
                                            have HO_5 := n0_
                                            have HO_6 := n1_
                                            have BK612 := n2_
                                            have BK629 := n3_
                                            have HB := n4_
                                            clear n0_ n1_ n2_ n3_ n4_
                                            have p637 : 0 ≤ (x9_3 : Int) := of_decide_eq_true (by first | (with_reducible assumption) | assumption)
                                            have q637 : x9_3 < (l0.length : Int) := of_decide_eq_true (by first | (with_reducible assumption) | assumption)
                                            obtain ⟨ad637, e637, hx637_0, hx637_1, hx637_2, hx637_3, hx637_4, hx637_5⟩ := at_T23 HR0.out x9_3 p637 q637
                                            have hw637_5 := hx637_5
                                            have hw637_4 := hx637_4
                                            have hw637_3 := hx637_3
                                            have hw637_2 := hx637_2
                                            have hw637_1 := hx637_1
                                            have hw637_0 := hx637_0
                                            obtain rfl : ad634 = ad637 := (by injection e637)
                                            replace hx637_0 := (HB.out.cell (World.block_lt_of_cell? w _ hx637_0)).trans hx637_0
                                            replace hx637_1 := (HB.out.cell (World.block_lt_of_cell? w _ hx637_1)).trans hx637_1
                                            replace hx637_2 := (HB.out.cell (World.block_lt_of_cell? w _ hx637_2)).trans hx637_2
                                            replace hx637_3 := (HB.out.cell (World.block_lt_of_cell? w _ hx637_3)).trans hx637_3
                                            replace hx637_4 := (HB.out.cell (World.block_lt_of_cell? w _ hx637_4)).trans hx637_4
                                            replace hx637_5 := (HB.out.cell (World.block_lt_of_cell? w _ hx637_5)).trans hx637_5
                                            replace p637 := eq_true p637
                                            replace q637 := eq_true q637
                                            have p639 : 0 ≤ (x9_3 : Int) := of_decide_eq_true (by first | (with_reducible assumption) | assumption)
                                            have q639 : x9_3 < (l0.length : Int) := of_decide_eq_true (by first | (with_reducible assumption) | assumption)
                                            obtain ⟨ad639, e639, hx639_0, hx639_1, hx639_2, hx639_3, hx639_4, hx639_5⟩ := at_T23 HR0.out x9_3 p639 q639
                                            have hw639_5 := hx639_5
                                            have hw639_4 := hx639_4
                                            have hw639_3 := hx639_3
                                            have hw639_2 := hx639_2
                                            have hw639_1 := hx639_1
                                            have hw639_0 := hx639_0
                                            obtain rfl : ad634 = ad639 := (by injection e639)
                                            replace hx639_0 := (HB.out.cell (World.block_lt_of_cell? w _ hx639_0)).trans hx639_0
                                            replace hx639_1 := (HB.out.cell (World.block_lt_of_cell? w _ hx639_1)).trans hx639_1
                                            replace hx639_2 := (HB.out.cell (World.block_lt_of_cell? w _ hx639_2)).trans hx639_2
                                            replace hx639_3 := (HB.out.cell (World.block_lt_of_cell? w _ hx639_3)).trans hx639_3
                                            replace hx639_4 := (HB.out.cell (World.block_lt_of_cell? w _ hx639_4)).trans hx639_4
                                            replace hx639_5 := (HB.out.cell (World.block_lt_of_cell? w _ hx639_5)).trans hx639_5
                                            replace p639 := eq_true p639
                                            replace q639 := eq_true q639
                                            obtain ⟨Ao59, co59, eo59⟩ := Kd.R_slice HO_5.out
                                            (first | subst eo59 | (injection eo59 with f1_ f2_ f3_; have f4_ := f1_.symm; have f5_ := f3_.symm; clear f1_ f2_ f3_; subst f4_; subst f5_))
                                            have p641 : 0 ≤ (x9_3 : Int) := of_decide_eq_true (by first | (with_reducible assumption) | assumption)
                                            have q641 : x9_3 < (l0.length : Int) := of_decide_eq_true (by first | (with_reducible assumption) | assumption)
                                            obtain ⟨ad641, e641, hx641_0, hx641_1, hx641_2, hx641_3, hx641_4, hx641_5⟩ := at_T23 HR0.out x9_3 p641 q641
                                            have hw641_5 := hx641_5
                                            have hw641_4 := hx641_4
                                            have hw641_3 := hx641_3
                                            have hw641_2 := hx641_2
                                            have hw641_1 := hx641_1
                                            have hw641_0 := hx641_0
                                            obtain rfl : ad634 = ad641 := (by injection e641)
                                            replace hx641_0 := (HB.out.cell (World.block_lt_of_cell? w _ hx641_0)).trans hx641_0
                                            replace hx641_1 := (HB.out.cell (World.block_lt_of_cell? w _ hx641_1)).trans hx641_1
                                            replace hx641_2 := (HB.out.cell (World.block_lt_of_cell? w _ hx641_2)).trans hx641_2
                                            replace hx641_3 := (HB.out.cell (World.block_lt_of_cell? w _ hx641_3)).trans hx641_3
                                            replace hx641_4 := (HB.out.cell (World.block_lt_of_cell? w _ hx641_4)).trans hx641_4
                                            replace hx641_5 := (HB.out.cell (World.block_lt_of_cell? w _ hx641_5)).trans hx641_5
                                            replace p641 := eq_true p641
                                            replace q641 := eq_true q641
                                            have p643 : 0 ≤ (x9_3 : Int) := of_decide_eq_true (by first | (with_reducible assumption) | assumption)
                                            have q643 : x9_3 < (l0.length : Int) := of_decide_eq_true (by first | (with_reducible assumption) | assumption)
                                            obtain ⟨ad643, e643, hx643_0, hx643_1, hx643_2, hx643_3, hx643_4, hx643_5⟩ := at_T23 HR0.out x9_3 p643 q643
                                            have hw643_5 := hx643_5
                                            have hw643_4 := hx643_4
                                            have hw643_3 := hx643_3
                                            have hw643_2 := hx643_2
                                            have hw643_1 := hx643_1
                                            have hw643_0 := hx643_0
                                            obtain rfl : ad634 = ad643 := (by injection e643)
                                            replace hx643_0 := (HB.out.cell (World.block_lt_of_cell? w _ hx643_0)).trans hx643_0
                                            replace hx643_1 := (HB.out.cell (World.block_lt_of_cell? w _ hx643_1)).trans hx643_1
                                            replace hx643_2 := (HB.out.cell (World.block_lt_of_cell? w _ hx643_2)).trans hx643_2
                                            replace hx643_3 := (HB.out.cell (World.block_lt_of_cell? w _ hx643_3)).trans hx643_3
                                            replace hx643_4 := (HB.out.cell (World.block_lt_of_cell? w _ hx643_4)).trans hx643_4
                                            replace hx643_5 := (HB.out.cell (World.block_lt_of_cell? w _ hx643_5)).trans hx643_5
                                            replace p643 := eq_true p643
                                            replace q643 := eq_true q643
                                            refine start_ (n := 32) (S := fun w' => w'.cell? (ad634.add ((x9_3).toNat * 6)) = some (.int .i64 ((rd_T23 l0 x9_3).f0)) ∧ w'.cell? ⟨(ad634.add ((x9_3).toNat * 6)).block, (ad634.add ((x9_3).toNat * 6)).off + 1, none⟩ = some (.int .i64 ((rd_T23 l0 x9_3).f1)) ∧ w'.cell? ⟨(ad634.add ((x9_3).toNat * 6)).block, (ad634.add ((x9_3).toNat * 6)).off + 2, none⟩ = some (.int .i64 ((rd_T23 l0 x9_3).f2)) ∧ w'.cell? ⟨(ad634.add ((x9_3).toNat * 6)).block, (ad634.add ((x9_3).toNat * 6)).off + 3, none⟩ = some (.int .i64 ((rd_T23 l0 x9_3).f3)) ∧ w'.cell? ⟨(ad634.add ((x9_3).toNat * 6)).block, (ad634.add ((x9_3).toNat * 6)).off + 4, none⟩ = some (.int .i64 ((rd_T23 l0 x9_3).f4)) ∧ w'.cell? ⟨(ad634.add ((x9_3).toNat * 6)).block, (ad634.add ((x9_3).toNat * 6)).off + 5, none⟩ = some (.string ((rd_T23 l0 x9_3).f5)) ∧ w'.cell? (ad634.add ((x9_3).toNat * 6)) = some (.int .i64 ((rd_T23 l0 x9_3).f0)) ∧ w'.cell? ⟨(ad634.add ((x9_3).toNat * 6)).block, (ad634.add ((x9_3).toNat * 6)).off + 1, none⟩ = some (.int .i64 ((rd_T23 l0 x9_3).f1)) ∧ w'.cell? ⟨(ad634.add ((x9_3).toNat * 6)).block, (ad634.add ((x9_3).toNat * 6)).off + 2, none⟩ = some (.int .i64 ((rd_T23 l0 x9_3).f2)) ∧ w'.cell? ⟨(ad634.add ((x9_3).toNat * 6)).block, (ad634.add ((x9_3).toNat * 6)).off + 3, none⟩ = some (.int .i64 ((rd_T23 l0 x9_3).f3)) ∧ w'.cell? ⟨(ad634.add ((x9_3).toNat * 6)).block, (ad634.add ((x9_3).toNat * 6)).off + 4, none⟩ = some (.int .i64 ((rd_T23 l0 x9_3).f4)) ∧ w'.cell? ⟨(ad634.add ((x9_3).toNat * 6)).block, (ad634.add ((x9_3).toNat * 6)).off + 5, none⟩ = some (.string ((rd_T23 l0 x9_3).f5)) ∧ w'.cell? (ad634.add ((x9_3).toNat * 6)) = some (.int .i64 ((rd_T23 l0 x9_3).f0)) ∧ w'.cell? ⟨(ad634.add ((x9_3).toNat * 6)).block, (ad634.add ((x9_3).toNat * 6)).off + 1, none⟩ = some (.int .i64 ((rd_T23 l0 x9_3).f1)) ∧ w'.cell? ⟨(ad634.add ((x9_3).toNat * 6)).block, (ad634.add ((x9_3).toNat * 6)).off + 2, none⟩ = some (.int .i64 ((rd_T23 l0 x9_3).f2)) ∧ w'.cell? ⟨(ad634.add ((x9_3).toNat * 6)).block, (ad634.add ((x9_3).toNat * 6)).off + 3, none⟩ = some (.int .i64 ((rd_T23 l0 x9_3).f3)) ∧ w'.cell? ⟨(ad634.add ((x9_3).toNat * 6)).block, (ad634.add ((x9_3).toNat * 6)).off + 4, none⟩ = some (.int .i64 ((rd_T23 l0 x9_3).f4)) ∧ w'.cell? ⟨(ad634.add ((x9_3).toNat * 6)).block, (ad634.add ((x9_3).toNat * 6)).off + 5, none⟩ = some (.string ((rd_T23 l0 x9_3).f5)) ∧ w'.cell? (ad634.add ((x9_3).toNat * 6)) = some (.int .i64 ((rd_T23 l0 x9_3).f0)) ∧ w'.cell? ⟨(ad634.add ((x9_3).toNat * 6)).block, (ad634.add ((x9_3).toNat * 6)).off + 1, none⟩ = some (.int .i64 ((rd_T23 l0 x9_3).f1)) ∧ w'.cell? ⟨(ad634.add ((x9_3).toNat * 6)).block, (ad634.add ((x9_3).toNat * 6)).off + 2, none⟩ = some (.int .i64 ((rd_T23 l0 x9_3).f2)) ∧ w'.cell? ⟨(ad634.add ((x9_3).toNat * 6)).block, (ad634.add ((x9_3).toNat * 6)).off + 3, none⟩ = some (.int .i64 ((rd_T23 l0 x9_3).f3)) ∧ w'.cell? ⟨(ad634.add ((x9_3).toNat * 6)).block, (ad634.add ((x9_3).toNat * 6)).off + 4, none⟩ = some (.int .i64 ((rd_T23 l0 x9_3).f4)) ∧ w'.cell? ⟨(ad634.add ((x9_3).toNat * 6)).block, (ad634.add ((x9_3).toNat * 6)).off + 5, none⟩ = some (.string ((rd_T23 l0 x9_3).f5))) (ds := []) #[false, false, false, false, false, false, false, false, false, false, false, false, false, false, false, false, false, false, false, false, false, false, false, false, false, false, false, false, false, false, false, false] (by kernel_rfl) rfl rfl ⟨((HB.out.cell (World.block_lt_of_cell? w _ hw637_0)).trans hw637_0), ((HB.out.cell (World.block_lt_of_cell? w _ hw637_1)).trans hw637_1), ((HB.out.cell (World.block_lt_of_cell? w _ hw637_2)).trans hw637_2), ((HB.out.cell (World.block_lt_of_cell? w _ hw637_3)).trans hw637_3), ((HB.out.cell (World.block_lt_of_cell? w _ hw637_4)).trans hw637_4), ((HB.out.cell (World.block_lt_of_cell? w _ hw637_5)).trans hw637_5), ((HB.out.cell (World.block_lt_of_cell? w _ hw639_0)).trans hw639_0), ((HB.out.cell (World.block_lt_of_cell? w _ hw639_1)).trans hw639_1), ((HB.out.cell (World.block_lt_of_cell? w _ hw639_2)).trans hw639_2), ((HB.out.cell (World.block_lt_of_cell? w _ hw639_3)).trans hw639_3), ((HB.out.cell (World.block_lt_of_cell? w _ hw639_4)).trans hw639_4), ((HB.out.cell (World.block_lt_of_cell? w _ hw639_5)).trans hw639_5), ((HB.out.cell (World.block_lt_of_cell? w _ hw641_0)).trans hw641_0), ((HB.out.cell (World.block_lt_of_cell? w _ hw641_1)).trans hw641_1), ((HB.out.cell (World.block_lt_of_cell? w _ hw641_2)).trans hw641_2), ((HB.out.cell (World.block_lt_of_cell? w _ hw641_3)).trans hw641_3), ((HB.out.cell (World.block_lt_of_cell? w _ hw641_4)).trans hw641_4), ((HB.out.cell (World.block_lt_of_cell? w _ hw641_5)).trans hw641_5), ((HB.out.cell (World.block_lt_of_cell? w _ hw643_0)).trans hw643_0), ((HB.out.cell (World.block_lt_of_cell? w _ hw643_1)).trans hw643_1), ((HB.out.cell (World.block_lt_of_cell? w _ hw643_2)).trans hw643_2), ((HB.out.cell (World.block_lt_of_cell? w _ hw643_3)).trans hw643_3), ((HB.out.cell (World.block_lt_of_cell? w _ hw643_4)).trans hw643_4), ((HB.out.cell (World.block_lt_of_cell? w _ hw643_5)).trans hw643_5)⟩ (fun hHeld => ?_); refine with_tabW hopperlaw06_HeapKeeps.tab16 hopperlaw06_HeapKeeps.bits16 (fun HT_ HW_ => ?_)
                                            generalize wc.drew = w58 at HO_5 HO_6 BK612 BK629 HB hx637_0 hx637_1 hx637_2 hx637_3 hx637_4 hx637_5 hx639_0 hx639_1 hx639_2 hx639_3 hx639_4 hx639_5 hx641_0 hx641_1 hx641_2 hx641_3 hx641_4 hx641_5 hx643_0 hx643_1 hx643_2 hx643_3 hx643_4 hx643_5 hHeld ⊢
                                            refine pure_ (i := 0) (N := some 90) (v := ?_) (a' := ?_) #[true, false, false, false, false, false, false, false, false, false, false, false, false, false, false, false, false, false, false, false, false, false, false, false, false, false, false, false, false, false, false, false] rfl rfl (any_of HT_.out (by kernel_rfl)) (fun _ _ _ h => h) (Or.inl ⟨by rfl, ?_⟩) ?_ ?_
                                            rotate_left
                                            · intro w'
                                              go_simp
                                              with_reducible rfl
                                            rotate_left
                                            · simp only [Act.put, List.setIfInBounds_toArray, List.set_cons_zero, List.set_cons_succ, i64_w, i32_w]
                                              rfl
                                            refine pure_ (i := 1) (N := some 91) (v := ?_) (a' := ?_) #[true, true, false, false, false, false, false, false, false, false, false, false, false, false, false, false, false, false, false, false, false, false, false, false, false, false, false, false, false, false, false, false] rfl rfl (any_of HT_.out (by kernel_rfl)) (fun _ _ _ h => h) (Or.inl ⟨by rfl, ?_⟩) ?_ ?_
                                            rotate_left
                                            · intro w'
                                              go_simp
                                              with_reducible rfl
                                            rotate_left
                                            · simp only [Act.put, List.setIfInBounds_toArray, List.set_cons_zero, List.set_cons_succ, i64_w, i32_w]
                                              rfl
                                            refine pure_ (i := 2) (N := some 92) (v := ?_) (a' := ?_) #[true, true, true, false, false, false, false, false, false, false, false, false, false, false, false, false, false, false, false, false, false, false, false, false, false, false, false, false, false, false, false, false] rfl rfl (any_of HT_.out (by kernel_rfl)) (fun _ _ _ h => h) (Or.inl ⟨by rfl, ?_⟩) ?_ ?_
                                            rotate_left
                                            · intro w'
                                              go_simp
                                              with_reducible rfl
                                            rotate_left
                                            · simp only [Act.put, List.setIfInBounds_toArray, List.set_cons_zero, List.set_cons_succ, i64_w, i32_w]
                                              rfl
                                            refine pure_ (i := 3) (N := some 93) (v := ?_) (a' := ?_) #[true, true, true, true, false, false, false, false, false, false, false, false, false, false, false, false, false, false, false, false, false, false, false, false, false, false, false, false, false, false, false, false] rfl rfl (any_of HT_.out (by kernel_rfl)) (fun _ _ _ h => h) (Or.inl ⟨by rfl, ?_⟩) ?_ ?_
                                            rotate_left
                                            · intro w'
                                              go_simp
                                              with_reducible rfl
                                            rotate_left
                                            · simp only [Act.put, List.setIfInBounds_toArray, List.set_cons_zero, List.set_cons_succ, i64_w, i32_w]
                                              rfl
                                            refine pure_ (i := 6) (N := some 96) (v := ?_) (a' := ?_) #[true, true, true, true, false, false, true, false, false, false, false, false, false, false, false, false, false, false, false, false, false, false, false, false, false, false, false, false, false, false, false, false] rfl rfl (any_of HT_.out (by kernel_rfl)) (fun _ _ _ h => h) (Or.inl ⟨by rfl, ?_⟩) ?_ ?_
                                            rotate_left
                                            · intro w'
                                              go_simp
                                              with_reducible rfl
                                            rotate_left
                                            · simp only [Act.put, List.setIfInBounds_toArray, List.set_cons_zero, List.set_cons_succ, i64_w, i32_w]
                                              rfl
                                            refine pure_ (i := 7) (N := some 97) (v := ?_) (a' := ?_) #[true, true, true, true, false, false, true, true, false, false, false, false, false, false, false, false, false, false, false, false, false, false, false, false, false, false, false, false, false, false, false, false] rfl rfl (any_of HT_.out (by kernel_rfl)) (fun _ _ _ h => h) (Or.inl ⟨by rfl, ?_⟩) ?_ ?_
                                            rotate_left
                                            · intro w'
                                              go_simp
                                              with_reducible rfl
                                            rotate_left
                                            · simp only [Act.put, List.setIfInBounds_toArray, List.set_cons_zero, List.set_cons_succ, i64_w, i32_w]
                                              rfl
                                            refine pure_ (i := 8) (N := some 98) (v := ?_) (a' := ?_) #[true, true, true, true, false, false, true, true, true, false, false, false, false, false, false, false, false, false, false, false, false, false, false, false, false, false, false, false, false, false, false, false] rfl rfl (any_of HT_.out (by kernel_rfl)) (fun _ _ _ h => h) (Or.inl ⟨by rfl, ?_⟩) ?_ ?_
                                            rotate_left
                                            · intro w'
                                              go_simp
                                              with_reducible rfl
                                            rotate_left
                                            · simp only [Act.put, List.setIfInBounds_toArray, List.set_cons_zero, List.set_cons_succ, i64_w, i32_w]
                                              rfl
                                            refine pure_ (i := 9) (N := some 99) (v := ?_) (a' := ?_) #[true, true, true, true, false, false, true, true, true, true, false, false, false, false, false, false, false, false, false, false, false, false, false, false, false, false, false, false, false, false, false, false] rfl rfl (any_of HT_.out (by kernel_rfl)) (fun _ _ _ h => h) (Or.inl ⟨by rfl, ?_⟩) ?_ ?_
                                            rotate_left
                                            · intro w'
                                              go_simp
                                              with_reducible rfl
                                            rotate_left
                                            · simp only [Act.put, List.setIfInBounds_toArray, List.set_cons_zero, List.set_cons_succ, i64_w, i32_w]
                                              rfl
                                            refine pure_ (i := 12) (N := some 102) (v := ?_) (a' := ?_) #[true, true, true, true, false, false, true, true, true, true, false, false, true, false, false, false, false, false, false, false, false, false, false, false, false, false, false, false, false, false, false, false] rfl rfl (any_of HT_.out (by kernel_rfl)) (fun _ _ _ h => h) (Or.inl ⟨by rfl, ?_⟩) ?_ ?_
                                            rotate_left
                                            · intro w'
                                              go_simp
                                              with_reducible rfl
                                            rotate_left
                                            · simp only [Act.put, List.setIfInBounds_toArray, List.set_cons_zero, List.set_cons_succ, i64_w, i32_w]
                                              rfl
                                            refine take_ (i := 4) (N := some 94) (v := ?_) (a' := ?_) #[true, true, true, true, true, false, true, true, true, true, false, false, true, false, false, false, false, false, false, false, false, false, false, false, false, false, false, false, false, false, false, false] rfl rfl (take_ofW HT_.out HW_.out (by kernel_rfl)) (fun _ _ _ h => h) (Or.inl ⟨by rfl, ?_⟩) hHeld ?_ ?_
                                            rotate_left
                                            · rintro w' ⟨s0, s1, s2, s3, s4, s5, s6, s7, s8, s9, s10, s11, s12, s13, s14, s15, s16, s17, s18, s19, s20, s21, s22, s23⟩
                                              go_simp
                                              with_reducible rfl
                                            rotate_left
                                            · simp only [Act.put, List.setIfInBounds_toArray, List.set_cons_zero, List.set_cons_succ, i64_w, i32_w]
                                              rfl
                                            refine take_ (i := 10) (N := some 100) (v := ?_) (a' := ?_) #[true, true, true, true, true, false, true, true, true, true, true, false, true, false, false, false, false, false, false, false, false, false, false, false, false, false, false, false, false, false, false, false] rfl rfl (take_ofW HT_.out HW_.out (by kernel_rfl)) (fun _ _ _ h => h) (Or.inl ⟨by rfl, ?_⟩) hHeld ?_ ?_
                                            rotate_left
                                            · rintro w' ⟨s0, s1, s2, s3, s4, s5, s6, s7, s8, s9, s10, s11, s12, s13, s14, s15, s16, s17, s18, s19, s20, s21, s22, s23⟩
                                              go_simp
                                              with_reducible rfl
                                            rotate_left
                                            · simp only [Act.put, List.setIfInBounds_toArray, List.set_cons_zero, List.set_cons_succ, i64_w, i32_w]
                                              rfl
                                            refine one_ (i := 5) (N := some 95) #[true, true, true, true, true, true, true, true, true, true, true, false, true, false, false, false, false, false, false, false, false, false, false, false, false, false, false, false, false, false, false, false] rfl rfl (one_of HT_.out (by kernel_rfl)) (by decide) (fun K hK => ?_)
                                            refine goes_ Try.func80 (by kernel_rfl) rfl #[.slice Ao59 t616.length co59, .agg #[.int .i64 ((rd_T23 l0 x9_3).f0), .int .i64 ((rd_T23 l0 x9_3).f1), .int .i64 ((rd_T23 l0 x9_3).f2), .int .i64 ((rd_T23 l0 x9_3).f3), .int .i64 ((rd_T23 l0 x9_3).f4), .string ((rd_T23 l0 x9_3).f5)]] (by rfl) rfl rfl (by (try simp only [List.map_toArray, List.map_cons, List.map_nil]); first | done | rfl | (simp only [List.length_drop, List.length_take]; rfl)) ?_
                                            with_reducible refine (hopperlaw06_count.calls kj46 _ _ t616 ((rd_T23 l0 x9_3).f0) ((rd_T23 l0 x9_3).f1) ((rd_T23 l0 x9_3).f2) ((rd_T23 l0 x9_3).f3) ((rd_T23 l0 x9_3).f4) ((rd_T23 l0 x9_3).f5) t638 _ ?side1 ?side2 A52.out).mono ?_
                                            (case side1 => repeat (first | exact (Kd.R_reads' HO_5.out).2.2 | (with_reducible refine Kd.C_alloc ?_ _) | (with_reducible refine Kd.C_drewN ?_ _) | (with_reducible refine Kd.C_drew ?_)))
                                            (case side2 => exact (Kd.R_reads' HO_5.out).2.1)
                                            rintro e w60 ⟨rfl, hb⟩
                                            refine ⟨_, rfl, ?_⟩
                                            have n0_ := Aside0.mk (Kd.R_below (by (with_reducible repeat (first | apply Kd.R_alloc | apply Kd.R_drewN | apply Kd.R_drew)); exact HO_5.out) hb)
                                            have n1_ := Aside0.mk (Kd.R_below (by (with_reducible repeat (first | apply Kd.R_alloc | apply Kd.R_drewN | apply Kd.R_drew)); exact HO_6.out) hb)
                                            have n2_ := Aside0.mk (blk_below (g := gb612) (o := .cells #[.int .i64 a1_0, .int .i64 a1_1, .int .i64 a1_2, .int .i64 a1_3, .int .i64 a1_4, .string a1_5] 23 (0, 0)) (by (with_reducible repeat (first | refine blk_drewN ?_ _ | refine blk_drew ?_ | refine blk_alloc ?_ _)); exact BK612.out) hb)
                                            have n3_ := Aside0.mk (blk_below (g := gb629) (o := .cells #[.int .i64 t622, .int .i64 t623, .int .i64 t624, .int .i64 t625, .int .i64 t626, .string t627] 23 (0, 0)) (by (with_reducible repeat (first | refine blk_drewN ?_ _ | refine blk_drew ?_ | refine blk_alloc ?_ _)); exact BK629.out) hb)
                                            have n4_ := Aside0.mk (below_step (by repeat (first | (with_reducible first | exact HB.out | apply below_alloc | apply pw_below_drewN | apply below_drew1 | refine below_set ?_ GE612.out | refine below_set ?_ GE629.out) | exact HB.out)) hb)
                                            clear HO_5
                                            clear HO_6
                                            clear BK612
                                            clear BK629
                                            clear HB
                                            have HO_5 := n0_
                                            have HO_6 := n1_
                                            have BK612 := n2_
                                            have BK629 := n3_
                                            have HB := n4_
                                            clear n0_ n1_ n2_ n3_ n4_
                                            (try clear hb)
                                            (try clear hb2)
                                            (try clear hk)
                                            (try clear hi)
                                            refine hK.out _ _ ⟨((HB.out.cell (World.block_lt_of_cell? w _ hw637_0)).trans hw637_0), ((HB.out.cell (World.block_lt_of_cell? w _ hw637_1)).trans hw637_1), ((HB.out.cell (World.block_lt_of_cell? w _ hw637_2)).trans hw637_2), ((HB.out.cell (World.block_lt_of_cell? w _ hw637_3)).trans hw637_3), ((HB.out.cell (World.block_lt_of_cell? w _ hw637_4)).trans hw637_4), ((HB.out.cell (World.block_lt_of_cell? w _ hw637_5)).trans hw637_5), ((HB.out.cell (World.block_lt_of_cell? w _ hw639_0)).trans hw639_0), ((HB.out.cell (World.block_lt_of_cell? w _ hw639_1)).trans hw639_1), ((HB.out.cell (World.block_lt_of_cell? w _ hw639_2)).trans hw639_2), ((HB.out.cell (World.block_lt_of_cell? w _ hw639_3)).trans hw639_3), ((HB.out.cell (World.block_lt_of_cell? w _ hw639_4)).trans hw639_4), ((HB.out.cell (World.block_lt_of_cell? w _ hw639_5)).trans hw639_5), ((HB.out.cell (World.block_lt_of_cell? w _ hw641_0)).trans hw641_0), ((HB.out.cell (World.block_lt_of_cell? w _ hw641_1)).trans hw641_1), ((HB.out.cell (World.block_lt_of_cell? w _ hw641_2)).trans hw641_2), ((HB.out.cell (World.block_lt_of_cell? w _ hw641_3)).trans hw641_3), ((HB.out.cell (World.block_lt_of_cell? w _ hw641_4)).trans hw641_4), ((HB.out.cell (World.block_lt_of_cell? w _ hw641_5)).trans hw641_5), ((HB.out.cell (World.block_lt_of_cell? w _ hw643_0)).trans hw643_0), ((HB.out.cell (World.block_lt_of_cell? w _ hw643_1)).trans hw643_1), ((HB.out.cell (World.block_lt_of_cell? w _ hw643_2)).trans hw643_2), ((HB.out.cell (World.block_lt_of_cell? w _ hw643_3)).trans hw643_3), ((HB.out.cell (World.block_lt_of_cell? w _ hw643_4)).trans hw643_4), ((HB.out.cell (World.block_lt_of_cell? w _ hw643_5)).trans hw643_5)⟩ (fun hHeld => ?_)
                                            clear hK K
                                            refine norm_ (a' := ?_) ?_ ?_
                                            rotate_left
                                            · show Act.put _ (some 95) _ = _
                                              simp only [Act.put, List.setIfInBounds_toArray, List.set_cons_zero, List.set_cons_succ, i64_w, i32_w]
                                              rfl
                                            refine one_ (i := 11) (N := some 101) #[true, true, true, true, true, true, true, true, true, true, true, true, true, false, false, false, false, false, false, false, false, false, false, false, false, false, false, false, false, false, false, false] rfl rfl (one_of HT_.out (by kernel_rfl)) (by decide) (fun K hK => ?_)
                                            refine goes_ Try.func80 (by kernel_rfl) rfl #[.slice (some ad634) l0.length c0, .agg #[.int .i64 ((rd_T23 l0 x9_3).f0), .int .i64 ((rd_T23 l0 x9_3).f1), .int .i64 ((rd_T23 l0 x9_3).f2), .int .i64 ((rd_T23 l0 x9_3).f3), .int .i64 ((rd_T23 l0 x9_3).f4), .string ((rd_T23 l0 x9_3).f5)]] (by rfl) rfl rfl (by (try simp only [List.map_toArray, List.map_cons, List.map_nil]); first | done | rfl | (simp only [List.length_drop, List.length_take]; rfl)) ?_
                                            with_reducible refine (hopperlaw06_count.calls kj46 _ _ l0 ((rd_T23 l0 x9_3).f0) ((rd_T23 l0 x9_3).f1) ((rd_T23 l0 x9_3).f2) ((rd_T23 l0 x9_3).f3) ((rd_T23 l0 x9_3).f4) ((rd_T23 l0 x9_3).f5) t640 _ ?side1 ?side2 A53.out).mono ?_
                                            (case side1 => repeat (first | exact (Kd.C_below HR0.out HB.out) | (with_reducible refine Kd.C_alloc ?_ _) | (with_reducible refine Kd.C_drewN ?_ _) | (with_reducible refine Kd.C_drew ?_)))
                                            (case side2 => exact HC0.out)
                                            rintro e w61 ⟨rfl, hb⟩
                                            refine ⟨_, rfl, ?_⟩
                                            have n0_ := Aside0.mk (Kd.R_below (by (with_reducible repeat (first | apply Kd.R_alloc | apply Kd.R_drewN | apply Kd.R_drew)); exact HO_5.out) hb)
                                            have n1_ := Aside0.mk (Kd.R_below (by (with_reducible repeat (first | apply Kd.R_alloc | apply Kd.R_drewN | apply Kd.R_drew)); exact HO_6.out) hb)
                                            have n2_ := Aside0.mk (blk_below (g := gb612) (o := .cells #[.int .i64 a1_0, .int .i64 a1_1, .int .i64 a1_2, .int .i64 a1_3, .int .i64 a1_4, .string a1_5] 23 (0, 0)) (by (with_reducible repeat (first | refine blk_drewN ?_ _ | refine blk_drew ?_ | refine blk_alloc ?_ _)); exact BK612.out) hb)
                                            have n3_ := Aside0.mk (blk_below (g := gb629) (o := .cells #[.int .i64 t622, .int .i64 t623, .int .i64 t624, .int .i64 t625, .int .i64 t626, .string t627] 23 (0, 0)) (by (with_reducible repeat (first | refine blk_drewN ?_ _ | refine blk_drew ?_ | refine blk_alloc ?_ _)); exact BK629.out) hb)
                                            have n4_ := Aside0.mk (below_step (by repeat (first | (with_reducible first | exact HB.out | apply below_alloc | apply pw_below_drewN | apply below_drew1 | refine below_set ?_ GE612.out | refine below_set ?_ GE629.out) | exact HB.out)) hb)
                                            clear HO_5
                                            clear HO_6
                                            clear BK612
                                            clear BK629
                                            clear HB
                                            have HO_5 := n0_
                                            have HO_6 := n1_
                                            have BK612 := n2_
                                            have BK629 := n3_
                                            have HB := n4_
                                            clear n0_ n1_ n2_ n3_ n4_
                                            (try clear hb)
                                            (try clear hb2)
                                            (try clear hk)
                                            (try clear hi)
                                            obtain ⟨Ao62, co62, eo62⟩ := Kd.R_slice HO_6.out
                                            (first | subst eo62 | (injection eo62 with f1_ f2_ f3_; have f4_ := f1_.symm; have f5_ := f3_.symm; clear f1_ f2_ f3_; subst f4_; subst f5_))
                                            refine hK.out _ _ ⟨((HB.out.cell (World.block_lt_of_cell? w _ hw637_0)).trans hw637_0), ((HB.out.cell (World.block_lt_of_cell? w _ hw637_1)).trans hw637_1), ((HB.out.cell (World.block_lt_of_cell? w _ hw637_2)).trans hw637_2), ((HB.out.cell (World.block_lt_of_cell? w _ hw637_3)).trans hw637_3), ((HB.out.cell (World.block_lt_of_cell? w _ hw637_4)).trans hw637_4), ((HB.out.cell (World.block_lt_of_cell? w _ hw637_5)).trans hw637_5), ((HB.out.cell (World.block_lt_of_cell? w _ hw639_0)).trans hw639_0), ((HB.out.cell (World.block_lt_of_cell? w _ hw639_1)).trans hw639_1), ((HB.out.cell (World.block_lt_of_cell? w _ hw639_2)).trans hw639_2), ((HB.out.cell (World.block_lt_of_cell? w _ hw639_3)).trans hw639_3), ((HB.out.cell (World.block_lt_of_cell? w _ hw639_4)).trans hw639_4), ((HB.out.cell (World.block_lt_of_cell? w _ hw639_5)).trans hw639_5), ((HB.out.cell (World.block_lt_of_cell? w _ hw641_0)).trans hw641_0), ((HB.out.cell (World.block_lt_of_cell? w _ hw641_1)).trans hw641_1), ((HB.out.cell (World.block_lt_of_cell? w _ hw641_2)).trans hw641_2), ((HB.out.cell (World.block_lt_of_cell? w _ hw641_3)).trans hw641_3), ((HB.out.cell (World.block_lt_of_cell? w _ hw641_4)).trans hw641_4), ((HB.out.cell (World.block_lt_of_cell? w _ hw641_5)).trans hw641_5), ((HB.out.cell (World.block_lt_of_cell? w _ hw643_0)).trans hw643_0), ((HB.out.cell (World.block_lt_of_cell? w _ hw643_1)).trans hw643_1), ((HB.out.cell (World.block_lt_of_cell? w _ hw643_2)).trans hw643_2), ((HB.out.cell (World.block_lt_of_cell? w _ hw643_3)).trans hw643_3), ((HB.out.cell (World.block_lt_of_cell? w _ hw643_4)).trans hw643_4), ((HB.out.cell (World.block_lt_of_cell? w _ hw643_5)).trans hw643_5)⟩ (fun hHeld => ?_)
                                            clear hK K
                                            refine norm_ (a' := ?_) ?_ ?_
                                            rotate_left
                                            · show Act.put _ (some 101) _ = _
                                              simp only [Act.put, List.setIfInBounds_toArray, List.set_cons_zero, List.set_cons_succ, i64_w, i32_w]
                                              rfl
                                            refine pure_ (i := 13) (N := some 103) (v := ?_) (a' := ?_) #[true, true, true, true, true, true, true, true, true, true, true, true, true, true, false, false, false, false, false, false, false, false, false, false, false, false, false, false, false, false, false, false] rfl rfl (any_of HT_.out (by kernel_rfl)) (fun _ _ _ h => h) (Or.inl ⟨by rfl, ?_⟩) ?_ ?_
                                            rotate_left
                                            · intro w'
                                              go_simp
                                              with_reducible rfl
                                            rotate_left
                                            · simp only [Act.put, List.setIfInBounds_toArray, List.set_cons_zero, List.set_cons_succ, i64_w, i32_w]
                                              rfl
                                            refine pure_ (i := 14) (N := some 104) (v := ?_) (a' := ?_) #[true, true, true, true, true, true, true, true, true, true, true, true, true, true, true, false, false, false, false, false, false, false, false, false, false, false, false, false, false, false, false, false] rfl rfl (any_of HT_.out (by kernel_rfl)) (fun _ _ _ h => h) (Or.inl ⟨by rfl, ?_⟩) ?_ ?_
                                            rotate_left
                                            · intro w'
                                              go_simp
                                              with_reducible rfl
                                            rotate_left
                                            · simp only [Act.put, List.setIfInBounds_toArray, List.set_cons_zero, List.set_cons_succ, i64_w, i32_w]
                                              rfl
                                            refine pure_ (i := 15) (N := some 105) (v := ?_) (a' := ?_) #[true, true, true, true, true, true, true, true, true, true, true, true, true, true, true, true, false, false, false, false, false, false, false, false, false, false, false, false, false, false, false, false] rfl rfl (any_of HT_.out (by kernel_rfl)) (fun _ _ _ h => h) (Or.inl ⟨by rfl, ?_⟩) ?_ ?_
                                            rotate_left
                                            · intro w'
                                              go_simp
                                              with_reducible rfl
                                            rotate_left
                                            · simp only [Act.put, List.setIfInBounds_toArray, List.set_cons_zero, List.set_cons_succ, i64_w, i32_w]
                                              rfl
                                            refine pure_ (i := 16) (N := some 106) (v := ?_) (a' := ?_) #[true, true, true, true, true, true, true, true, true, true, true, true, true, true, true, true, true, false, false, false, false, false, false, false, false, false, false, false, false, false, false, false] rfl rfl (any_of HT_.out (by kernel_rfl)) (fun _ _ _ h => h) (Or.inl ⟨by rfl, ?_⟩) ?_ ?_
                                            rotate_left
                                            · intro w'
                                              go_simp
                                              with_reducible rfl
                                            rotate_left
                                            · simp only [Act.put, List.setIfInBounds_toArray, List.set_cons_zero, List.set_cons_succ, i64_w, i32_w]
                                              rfl
                                            refine pure_ (i := 17) (N := some 107) (v := ?_) (a' := ?_) #[true, true, true, true, true, true, true, true, true, true, true, true, true, true, true, true, true, true, false, false, false, false, false, false, false, false, false, false, false, false, false, false] rfl rfl (any_of HT_.out (by kernel_rfl)) (fun _ _ _ h => h) (Or.inl ⟨by rfl, ?_⟩) ?_ ?_
                                            rotate_left
                                            · intro w'
                                              go_simp
                                              with_reducible rfl
                                            rotate_left
                                            · simp only [Act.put, List.setIfInBounds_toArray, List.set_cons_zero, List.set_cons_succ, i64_w, i32_w]
                                              rfl
                                            refine pure_ (i := 18) (N := some 108) (v := ?_) (a' := ?_) #[true, true, true, true, true, true, true, true, true, true, true, true, true, true, true, true, true, true, true, false, false, false, false, false, false, false, false, false, false, false, false, false] rfl rfl (any_of HT_.out (by kernel_rfl)) (fun _ _ _ h => h) (Or.inl ⟨by rfl, ?_⟩) ?_ ?_
                                            rotate_left
                                            · intro w'
                                              go_simp
                                              with_reducible rfl
                                            rotate_left
                                            · simp only [Act.put, List.setIfInBounds_toArray, List.set_cons_zero, List.set_cons_succ, i64_w, i32_w]
                                              rfl
                                            refine pure_ (i := 19) (N := some 109) (v := ?_) (a' := ?_) #[true, true, true, true, true, true, true, true, true, true, true, true, true, true, true, true, true, true, true, true, false, false, false, false, false, false, false, false, false, false, false, false] rfl rfl (any_of HT_.out (by kernel_rfl)) (fun _ _ _ h => h) (Or.inl ⟨by rfl, ?_⟩) ?_ ?_
                                            rotate_left
                                            · intro w'
                                              go_simp
                                              with_reducible rfl
                                            rotate_left
                                            · simp only [Act.put, List.setIfInBounds_toArray, List.set_cons_zero, List.set_cons_succ, i64_w, i32_w]
                                              rfl
                                            refine pure_ (i := 22) (N := some 112) (v := ?_) (a' := ?_) #[true, true, true, true, true, true, true, true, true, true, true, true, true, true, true, true, true, true, true, true, false, false, true, false, false, false, false, false, false, false, false, false] rfl rfl (any_of HT_.out (by kernel_rfl)) (fun _ _ _ h => h) (Or.inl ⟨by rfl, ?_⟩) ?_ ?_
                                            rotate_left
                                            · intro w'
                                              go_simp
                                              with_reducible rfl
                                            rotate_left
                                            · simp only [Act.put, List.setIfInBounds_toArray, List.set_cons_zero, List.set_cons_succ, i64_w, i32_w]
                                              rfl
                                            refine pure_ (i := 23) (N := some 113) (v := ?_) (a' := ?_) #[true, true, true, true, true, true, true, true, true, true, true, true, true, true, true, true, true, true, true, true, false, false, true, true, false, false, false, false, false, false, false, false] rfl rfl (any_of HT_.out (by kernel_rfl)) (fun _ _ _ h => h) (Or.inl ⟨by rfl, ?_⟩) ?_ ?_
                                            rotate_left
                                            · intro w'
                                              go_simp
                                              with_reducible rfl
                                            rotate_left
                                            · simp only [Act.put, List.setIfInBounds_toArray, List.set_cons_zero, List.set_cons_succ, i64_w, i32_w]
                                              rfl
                                            refine pure_ (i := 24) (N := some 114) (v := ?_) (a' := ?_) #[true, true, true, true, true, true, true, true, true, true, true, true, true, true, true, true, true, true, true, true, false, false, true, true, true, false, false, false, false, false, false, false] rfl rfl (any_of HT_.out (by kernel_rfl)) (fun _ _ _ h => h) (Or.inl ⟨by rfl, ?_⟩) ?_ ?_
                                            rotate_left
                                            · intro w'
                                              go_simp
                                              with_reducible rfl
                                            rotate_left
                                            · simp only [Act.put, List.setIfInBounds_toArray, List.set_cons_zero, List.set_cons_succ, i64_w, i32_w]
                                              rfl
                                            refine pure_ (i := 25) (N := some 115) (v := ?_) (a' := ?_) #[true, true, true, true, true, true, true, true, true, true, true, true, true, true, true, true, true, true, true, true, false, false, true, true, true, true, false, false, false, false, false, false] rfl rfl (any_of HT_.out (by kernel_rfl)) (fun _ _ _ h => h) (Or.inl ⟨by rfl, ?_⟩) ?_ ?_
                                            rotate_left
                                            · intro w'
                                              go_simp
                                              with_reducible rfl
                                            rotate_left
                                            · simp only [Act.put, List.setIfInBounds_toArray, List.set_cons_zero, List.set_cons_succ, i64_w, i32_w]
                                              rfl
                                            refine pure_ (i := 28) (N := some 118) (v := ?_) (a' := ?_) #[true, true, true, true, true, true, true, true, true, true, true, true, true, true, true, true, true, true, true, true, false, false, true, true, true, true, false, false, true, false, false, false] rfl rfl (any_of HT_.out (by kernel_rfl)) (fun _ _ _ h => h) (Or.inl ⟨by rfl, ?_⟩) ?_ ?_
                                            rotate_left
                                            · intro w'
                                              go_simp
                                              with_reducible rfl
                                            rotate_left
                                            · simp only [Act.put, List.setIfInBounds_toArray, List.set_cons_zero, List.set_cons_succ, i64_w, i32_w]
                                              rfl
                                            refine take_ (i := 20) (N := some 110) (v := ?_) (a' := ?_) #[true, true, true, true, true, true, true, true, true, true, true, true, true, true, true, true, true, true, true, true, true, false, true, true, true, true, false, false, true, false, false, false] rfl rfl (take_ofW HT_.out HW_.out (by kernel_rfl)) (fun _ _ _ h => h) (Or.inl ⟨by rfl, ?_⟩) hHeld ?_ ?_
                                            rotate_left
                                            · rintro w' ⟨s0, s1, s2, s3, s4, s5, s6, s7, s8, s9, s10, s11, s12, s13, s14, s15, s16, s17, s18, s19, s20, s21, s22, s23⟩
                                              go_simp
                                              with_reducible rfl
                                            rotate_left
                                            · simp only [Act.put, List.setIfInBounds_toArray, List.set_cons_zero, List.set_cons_succ, i64_w, i32_w]
                                              rfl
                                            refine take_ (i := 26) (N := some 116) (v := ?_) (a' := ?_) #[true, true, true, true, true, true, true, true, true, true, true, true, true, true, true, true, true, true, true, true, true, false, true, true, true, true, true, false, true, false, false, false] rfl rfl (take_ofW HT_.out HW_.out (by kernel_rfl)) (fun _ _ _ h => h) (Or.inl ⟨by rfl, ?_⟩) hHeld ?_ ?_
                                            rotate_left
                                            · rintro w' ⟨s0, s1, s2, s3, s4, s5, s6, s7, s8, s9, s10, s11, s12, s13, s14, s15, s16, s17, s18, s19, s20, s21, s22, s23⟩
                                              go_simp
                                              with_reducible rfl
                                            rotate_left
                                            · simp only [Act.put, List.setIfInBounds_toArray, List.set_cons_zero, List.set_cons_succ, i64_w, i32_w]
                                              rfl
                                            refine one_ (i := 21) (N := some 111) #[true, true, true, true, true, true, true, true, true, true, true, true, true, true, true, true, true, true, true, true, true, true, true, true, true, true, true, false, true, false, false, false] rfl rfl (one_of HT_.out (by kernel_rfl)) (by decide) (fun K hK => ?_)
                                            refine goes_ Try.func80 (by kernel_rfl) rfl #[.slice Ao62 t619.length co62, .agg #[.int .i64 ((rd_T23 l0 x9_3).f0), .int .i64 ((rd_T23 l0 x9_3).f1), .int .i64 ((rd_T23 l0 x9_3).f2), .int .i64 ((rd_T23 l0 x9_3).f3), .int .i64 ((rd_T23 l0 x9_3).f4), .string ((rd_T23 l0 x9_3).f5)]] (by rfl) rfl rfl (by (try simp only [List.map_toArray, List.map_cons, List.map_nil]); first | done | rfl | (simp only [List.length_drop, List.length_take]; rfl)) ?_
                                            with_reducible refine (hopperlaw06_count.calls kj46 _ _ t619 ((rd_T23 l0 x9_3).f0) ((rd_T23 l0 x9_3).f1) ((rd_T23 l0 x9_3).f2) ((rd_T23 l0 x9_3).f3) ((rd_T23 l0 x9_3).f4) ((rd_T23 l0 x9_3).f5) t642 _ ?side1 ?side2 A55.out).mono ?_
                                            (case side1 => repeat (first | exact (Kd.R_reads' HO_6.out).2.2 | (with_reducible refine Kd.C_alloc ?_ _) | (with_reducible refine Kd.C_drewN ?_ _) | (with_reducible refine Kd.C_drew ?_)))
                                            (case side2 => exact (Kd.R_reads' HO_6.out).2.1)
                                            rintro e w63 ⟨rfl, hb⟩
                                            refine ⟨_, rfl, ?_⟩
                                            have n0_ := Aside0.mk (Kd.R_below (by (with_reducible repeat (first | apply Kd.R_alloc | apply Kd.R_drewN | apply Kd.R_drew)); exact HO_5.out) hb)
                                            have n1_ := Aside0.mk (Kd.R_below (by (with_reducible repeat (first | apply Kd.R_alloc | apply Kd.R_drewN | apply Kd.R_drew)); exact HO_6.out) hb)
                                            have n2_ := Aside0.mk (blk_below (g := gb612) (o := .cells #[.int .i64 a1_0, .int .i64 a1_1, .int .i64 a1_2, .int .i64 a1_3, .int .i64 a1_4, .string a1_5] 23 (0, 0)) (by (with_reducible repeat (first | refine blk_drewN ?_ _ | refine blk_drew ?_ | refine blk_alloc ?_ _)); exact BK612.out) hb)
                                            have n3_ := Aside0.mk (blk_below (g := gb629) (o := .cells #[.int .i64 t622, .int .i64 t623, .int .i64 t624, .int .i64 t625, .int .i64 t626, .string t627] 23 (0, 0)) (by (with_reducible repeat (first | refine blk_drewN ?_ _ | refine blk_drew ?_ | refine blk_alloc ?_ _)); exact BK629.out) hb)
                                            have n4_ := Aside0.mk (below_step (by repeat (first | (with_reducible first | exact HB.out | apply below_alloc | apply pw_below_drewN | apply below_drew1 | refine below_set ?_ GE612.out | refine below_set ?_ GE629.out) | exact HB.out)) hb)
                                            clear HO_5
                                            clear HO_6
                                            clear BK612
                                            clear BK629
                                            clear HB
                                            have HO_5 := n0_
                                            have HO_6 := n1_
                                            have BK612 := n2_
                                            have BK629 := n3_
                                            have HB := n4_
                                            clear n0_ n1_ n2_ n3_ n4_
                                            (try clear hb)
                                            (try clear hb2)
                                            (try clear hk)
                                            (try clear hi)
                                            refine hK.out _ _ ⟨((HB.out.cell (World.block_lt_of_cell? w _ hw637_0)).trans hw637_0), ((HB.out.cell (World.block_lt_of_cell? w _ hw637_1)).trans hw637_1), ((HB.out.cell (World.block_lt_of_cell? w _ hw637_2)).trans hw637_2), ((HB.out.cell (World.block_lt_of_cell? w _ hw637_3)).trans hw637_3), ((HB.out.cell (World.block_lt_of_cell? w _ hw637_4)).trans hw637_4), ((HB.out.cell (World.block_lt_of_cell? w _ hw637_5)).trans hw637_5), ((HB.out.cell (World.block_lt_of_cell? w _ hw639_0)).trans hw639_0), ((HB.out.cell (World.block_lt_of_cell? w _ hw639_1)).trans hw639_1), ((HB.out.cell (World.block_lt_of_cell? w _ hw639_2)).trans hw639_2), ((HB.out.cell (World.block_lt_of_cell? w _ hw639_3)).trans hw639_3), ((HB.out.cell (World.block_lt_of_cell? w _ hw639_4)).trans hw639_4), ((HB.out.cell (World.block_lt_of_cell? w _ hw639_5)).trans hw639_5), ((HB.out.cell (World.block_lt_of_cell? w _ hw641_0)).trans hw641_0), ((HB.out.cell (World.block_lt_of_cell? w _ hw641_1)).trans hw641_1), ((HB.out.cell (World.block_lt_of_cell? w _ hw641_2)).trans hw641_2), ((HB.out.cell (World.block_lt_of_cell? w _ hw641_3)).trans hw641_3), ((HB.out.cell (World.block_lt_of_cell? w _ hw641_4)).trans hw641_4), ((HB.out.cell (World.block_lt_of_cell? w _ hw641_5)).trans hw641_5), ((HB.out.cell (World.block_lt_of_cell? w _ hw643_0)).trans hw643_0), ((HB.out.cell (World.block_lt_of_cell? w _ hw643_1)).trans hw643_1), ((HB.out.cell (World.block_lt_of_cell? w _ hw643_2)).trans hw643_2), ((HB.out.cell (World.block_lt_of_cell? w _ hw643_3)).trans hw643_3), ((HB.out.cell (World.block_lt_of_cell? w _ hw643_4)).trans hw643_4), ((HB.out.cell (World.block_lt_of_cell? w _ hw643_5)).trans hw643_5)⟩ (fun hHeld => ?_)
                                            clear hK K
                                            refine norm_ (a' := ?_) ?_ ?_
                                            rotate_left
                                            · show Act.put _ (some 111) _ = _
                                              simp only [Act.put, List.setIfInBounds_toArray, List.set_cons_zero, List.set_cons_succ, i64_w, i32_w]
                                              rfl
                                            refine one_ (i := 27) (N := some 117) #[true, true, true, true, true, true, true, true, true, true, true, true, true, true, true, true, true, true, true, true, true, true, true, true, true, true, true, true, true, false, false, false] rfl rfl (one_of HT_.out (by kernel_rfl)) (by decide) (fun K hK => ?_)
                                            refine goes_ Try.func80 (by kernel_rfl) rfl #[.slice (some ad634) l0.length c0, .agg #[.int .i64 ((rd_T23 l0 x9_3).f0), .int .i64 ((rd_T23 l0 x9_3).f1), .int .i64 ((rd_T23 l0 x9_3).f2), .int .i64 ((rd_T23 l0 x9_3).f3), .int .i64 ((rd_T23 l0 x9_3).f4), .string ((rd_T23 l0 x9_3).f5)]] (by rfl) rfl rfl (by (try simp only [List.map_toArray, List.map_cons, List.map_nil]); first | done | rfl | (simp only [List.length_drop, List.length_take]; rfl)) ?_
                                            with_reducible refine (hopperlaw06_count.calls kj46 _ _ l0 ((rd_T23 l0 x9_3).f0) ((rd_T23 l0 x9_3).f1) ((rd_T23 l0 x9_3).f2) ((rd_T23 l0 x9_3).f3) ((rd_T23 l0 x9_3).f4) ((rd_T23 l0 x9_3).f5) t644 _ ?side1 ?side2 A56.out).mono ?_
                                            (case side1 => repeat (first | exact (Kd.C_below HR0.out HB.out) | (with_reducible refine Kd.C_alloc ?_ _) | (with_reducible refine Kd.C_drewN ?_ _) | (with_reducible refine Kd.C_drew ?_)))
                                            (case side2 => exact HC0.out)
                                            rintro e w64 ⟨rfl, hb⟩
                                            refine ⟨_, rfl, ?_⟩
                                            have n0_ := Aside0.mk (Kd.R_below (by (with_reducible repeat (first | apply Kd.R_alloc | apply Kd.R_drewN | apply Kd.R_drew)); exact HO_5.out) hb)
                                            have n1_ := Aside0.mk (Kd.R_below (by (with_reducible repeat (first | apply Kd.R_alloc | apply Kd.R_drewN | apply Kd.R_drew)); exact HO_6.out) hb)
                                            have n2_ := Aside0.mk (blk_below (g := gb612) (o := .cells #[.int .i64 a1_0, .int .i64 a1_1, .int .i64 a1_2, .int .i64 a1_3, .int .i64 a1_4, .string a1_5] 23 (0, 0)) (by (with_reducible repeat (first | refine blk_drewN ?_ _ | refine blk_drew ?_ | refine blk_alloc ?_ _)); exact BK612.out) hb)
                                            have n3_ := Aside0.mk (blk_below (g := gb629) (o := .cells #[.int .i64 t622, .int .i64 t623, .int .i64 t624, .int .i64 t625, .int .i64 t626, .string t627] 23 (0, 0)) (by (with_reducible repeat (first | refine blk_drewN ?_ _ | refine blk_drew ?_ | refine blk_alloc ?_ _)); exact BK629.out) hb)
                                            have n4_ := Aside0.mk (below_step (by repeat (first | (with_reducible first | exact HB.out | apply below_alloc | apply pw_below_drewN | apply below_drew1 | refine below_set ?_ GE612.out | refine below_set ?_ GE629.out) | exact HB.out)) hb)
                                            clear HO_5
                                            clear HO_6
                                            clear BK612
                                            clear BK629
                                            clear HB
                                            have HO_5 := n0_
                                            have HO_6 := n1_
                                            have BK612 := n2_
                                            have BK629 := n3_
                                            have HB := n4_
                                            clear n0_ n1_ n2_ n3_ n4_
                                            (try clear hb)
                                            (try clear hb2)
                                            (try clear hk)
                                            (try clear hi)
                                            refine hK.out _ _ ⟨((HB.out.cell (World.block_lt_of_cell? w _ hw637_0)).trans hw637_0), ((HB.out.cell (World.block_lt_of_cell? w _ hw637_1)).trans hw637_1), ((HB.out.cell (World.block_lt_of_cell? w _ hw637_2)).trans hw637_2), ((HB.out.cell (World.block_lt_of_cell? w _ hw637_3)).trans hw637_3), ((HB.out.cell (World.block_lt_of_cell? w _ hw637_4)).trans hw637_4), ((HB.out.cell (World.block_lt_of_cell? w _ hw637_5)).trans hw637_5), ((HB.out.cell (World.block_lt_of_cell? w _ hw639_0)).trans hw639_0), ((HB.out.cell (World.block_lt_of_cell? w _ hw639_1)).trans hw639_1), ((HB.out.cell (World.block_lt_of_cell? w _ hw639_2)).trans hw639_2), ((HB.out.cell (World.block_lt_of_cell? w _ hw639_3)).trans hw639_3), ((HB.out.cell (World.block_lt_of_cell? w _ hw639_4)).trans hw639_4), ((HB.out.cell (World.block_lt_of_cell? w _ hw639_5)).trans hw639_5), ((HB.out.cell (World.block_lt_of_cell? w _ hw641_0)).trans hw641_0), ((HB.out.cell (World.block_lt_of_cell? w _ hw641_1)).trans hw641_1), ((HB.out.cell (World.block_lt_of_cell? w _ hw641_2)).trans hw641_2), ((HB.out.cell (World.block_lt_of_cell? w _ hw641_3)).trans hw641_3), ((HB.out.cell (World.block_lt_of_cell? w _ hw641_4)).trans hw641_4), ((HB.out.cell (World.block_lt_of_cell? w _ hw641_5)).trans hw641_5), ((HB.out.cell (World.block_lt_of_cell? w _ hw643_0)).trans hw643_0), ((HB.out.cell (World.block_lt_of_cell? w _ hw643_1)).trans hw643_1), ((HB.out.cell (World.block_lt_of_cell? w _ hw643_2)).trans hw643_2), ((HB.out.cell (World.block_lt_of_cell? w _ hw643_3)).trans hw643_3), ((HB.out.cell (World.block_lt_of_cell? w _ hw643_4)).trans hw643_4), ((HB.out.cell (World.block_lt_of_cell? w _ hw643_5)).trans hw643_5)⟩ (fun hHeld => ?_)
                                            clear hK K
                                            refine norm_ (a' := ?_) ?_ ?_
                                            rotate_left
                                            · show Act.put _ (some 117) _ = _
                                              simp only [Act.put, List.setIfInBounds_toArray, List.set_cons_zero, List.set_cons_succ, i64_w, i32_w]
                                              rfl
                                            refine pure_ (i := 29) (N := some 119) (v := ?_) (a' := ?_) #[true, true, true, true, true, true, true, true, true, true, true, true, true, true, true, true, true, true, true, true, true, true, true, true, true, true, true, true, true, true, false, false] rfl rfl (any_of HT_.out (by kernel_rfl)) (fun _ _ _ h => h) (Or.inl ⟨by rfl, ?_⟩) ?_ ?_
                                            rotate_left
                                            · intro w'
                                              go_simp
                                              with_reducible rfl
                                            rotate_left
                                            · simp only [Act.put, List.setIfInBounds_toArray, List.set_cons_zero, List.set_cons_succ, i64_w, i32_w]
                                              rfl
                                            refine pure_ (i := 30) (N := some 120) (v := ?_) (a' := ?_) #[true, true, true, true, true, true, true, true, true, true, true, true, true, true, true, true, true, true, true, true, true, true, true, true, true, true, true, true, true, true, true, false] rfl rfl (any_of HT_.out (by kernel_rfl)) (fun _ _ _ h => h) (Or.inl ⟨by rfl, ?_⟩) ?_ ?_
                                            rotate_left
                                            · intro w'
                                              go_simp
                                              with_reducible rfl
                                            rotate_left
                                            · simp only [Act.put, List.setIfInBounds_toArray, List.set_cons_zero, List.set_cons_succ, i64_w, i32_w]
                                              rfl
                                            refine pure_ (i := 31) (N := some 121) (v := ?_) (a' := ?_) #[true, true, true, true, true, true, true, true, true, true, true, true, true, true, true, true, true, true, true, true, true, true, true, true, true, true, true, true, true, true, true, true] rfl rfl (any_of HT_.out (by kernel_rfl)) (fun _ _ _ h => h) (Or.inl ⟨by rfl, ?_⟩) ?_ ?_
                                            rotate_left
                                            · intro w'
                                              go_simp
                                              with_reducible rfl
                                            rotate_left
                                            · simp only [Act.put, List.setIfInBounds_toArray, List.set_cons_zero, List.set_cons_succ, i64_w, i32_w]
                                              rfl
                                            refine done_ (done_of HT_.out (by kernel_rfl)) ?_
                                            try go_wp2
                                            go_roundg kj46
                                            case measure => have := HJ2.out; have := HJ16.out; have := HK3.out; have := HJ40.out; have := HJ46.out; omega
                                            case rel => exact ⟨(wrap64 (x9_3 + 1)), (by first | rfl | (simp; done) | (simp [*]; done)), H', ⟨by have := HJ2.out; have := HJ16.out; have := HK3.out; have := HJ40.out; have := HJ46.out; omega⟩, ⟨by (with_reducible repeat (first | apply Kd.R_alloc | apply Kd.R_drewN | apply Kd.R_drew)); exact HO_5.out⟩, ⟨by (with_reducible repeat (first | apply Kd.R_alloc | apply Kd.R_drewN | apply Kd.R_drew)); exact HO_6.out⟩, ⟨by (with_reducible repeat (first | refine blk_drewN ?_ _ | refine blk_drew ?_ | refine blk_alloc ?_ _)); exact BK612.out⟩, ⟨by (with_reducible repeat (first | refine blk_drewN ?_ _ | refine blk_drew ?_ | refine blk_alloc ?_ _)); exact BK629.out⟩, ⟨by repeat (first | (with_reducible first | exact HB.out | apply below_alloc | apply pw_below_drewN | apply below_drew1 | refine below_set ?_ GE612.out | refine below_set ?_ GE629.out) | exact HB.out)⟩⟩
                                          · rw [if_neg c57] at H
                                            exact absurd H (by simp)
                                        · rw [if_neg c54] at H
                                          exact absurd H (by simp)
                                      · rw [if_neg c51] at H
                                        exact absurd H (by simp)
                                    · rw [if_neg c50] at H
                                      exact absurd H (by simp)
                              · rw [if_neg c46] at H
                                exact absurd H (by simp)
                            · rw [if_neg c45] at H
                              exact absurd H (by simp)
                          · rw [if_neg c44] at H
                            exact absurd H (by simp)
                    · rw [if_neg c40] at H
                      exact absurd H (by simp)
                  · rw [if_neg c39] at H
                    have c39b0 : decide (x9_3 < (l0.length : Int)) = false := decide_eq_false c39
                    clear c39
                    replace H := Option.bind_eq_some_iff.mp H
                    obtain ⟨t631, A650, H⟩ := H
                    replace H : ((hopperlaw06_count.f k3 l0 a1_0 a1_1 a1_2 a1_3 a1_4 a1_5).bind fun t632 => (if t631 = (wrap64 (t632 + 1)) then ((hopperlaw06_live.f k3).bind fun t633 => (some t633)) else (none))) = some r := H
                    have A65 := Aside0.mk A650
                    clear A650
                    replace H := Option.bind_eq_some_iff.mp H
                    obtain ⟨t632, A660, H⟩ := H
                    replace H : (if t631 = (wrap64 (t632 + 1)) then ((hopperlaw06_live.f k3).bind fun t633 => (some t633)) else (none)) = some r := H
                    have A66 := Aside0.mk A660
                    clear A660
                    by_cases c67 : t631 = (wrap64 (t632 + 1))
                    · rw [if_pos c67] at H
                      have c67b0 : (t631 == (wrap64 (t632 + 1))) = true := beq_iff_eq.mpr c67
                      have c67b1 : (t631 != (wrap64 (t632 + 1))) = false := bne_eq_false_iff_eq.mpr c67
                      clear c67
                      replace H := Option.bind_eq_some_iff.mp H
                      obtain ⟨t633, A680, H⟩ := H
                      replace H : (some t633) = some r := H
                      have A68 := Aside0.mk A680
                      clear A680
                      obtain rfl := Option.some.inj H
                      try go_wp2
                      have n0_ := Aside0.mk (Kd.R_drew HO_5.out)
                      have n1_ := Aside0.mk (Kd.R_drew HO_6.out)
                      have n2_ := Aside0.mk (blk_drew BK612.out)
                      have n3_ := Aside0.mk (blk_drew BK629.out)
                      have n4_ := Aside0.mk (below_drew1 HB.out)
                      clear HO_5
                      clear HO_6
                      clear BK612
                      clear BK629
                      clear HB
                      have HO_5 := n0_
                      have HO_6 := n1_
                      have BK612 := n2_
                      have BK629 := n3_
                      have HB := n4_
                      clear n0_ n1_ n2_ n3_ n4_
                      obtain ⟨Ao70, co70, eo70⟩ := Kd.R_slice HO_5.out
                      (first | subst eo70 | (injection eo70 with f1_ f2_ f3_; have f4_ := f1_.symm; have f5_ := f3_.symm; clear f1_ f2_ f3_; subst f4_; subst f5_))
                      refine start_ (n := 12) (S := fun w' => w'.cell? ⟨gb612, 0, none⟩ = some (.int .i64 a1_0) ∧ w'.cell? ⟨gb612, 1, none⟩ = some (.int .i64 a1_1) ∧ w'.cell? ⟨gb612, 2, none⟩ = some (.int .i64 a1_2) ∧ w'.cell? ⟨gb612, 3, none⟩ = some (.int .i64 a1_3) ∧ w'.cell? ⟨gb612, 4, none⟩ = some (.int .i64 a1_4) ∧ w'.cell? ⟨gb612, 5, none⟩ = some (.string a1_5)) (ds := []) #[false, false, false, false, false, false, false, false, false, false, false, false] (by kernel_rfl) rfl rfl ⟨(blk_cell BK612.out 0).trans rfl, (blk_cell BK612.out 1).trans rfl, (blk_cell BK612.out 2).trans rfl, (blk_cell BK612.out 3).trans rfl, (blk_cell BK612.out 4).trans rfl, (blk_cell BK612.out 5).trans rfl⟩ (fun hHeld => ?_); refine with_tabW hopperlaw06_HeapKeeps.tab18 hopperlaw06_HeapKeeps.bits18 (fun HT_ HW_ => ?_)
                      generalize wr.drew = w69 at HO_5 HO_6 BK612 BK629 HB hHeld ⊢
                      refine pure_ (i := 0) (N := some 122) (v := ?_) (a' := ?_) #[true, false, false, false, false, false, false, false, false, false, false, false] rfl rfl (any_of HT_.out (by kernel_rfl)) (fun _ _ _ h => h) (Or.inl ⟨by rfl, ?_⟩) ?_ ?_
                      rotate_left
                      · intro w'
                        go_simp
                        with_reducible rfl
                      rotate_left
                      · simp only [Act.put, List.setIfInBounds_toArray, List.set_cons_zero, List.set_cons_succ, i64_w, i32_w]
                        rfl
                      refine pure_ (i := 3) (N := some 125) (v := ?_) (a' := ?_) #[true, false, false, true, false, false, false, false, false, false, false, false] rfl rfl (any_of HT_.out (by kernel_rfl)) (fun _ _ _ h => h) (Or.inl ⟨by rfl, ?_⟩) ?_ ?_
                      rotate_left
                      · intro w'
                        go_simp
                        with_reducible rfl
                      rotate_left
                      · simp only [Act.put, List.setIfInBounds_toArray, List.set_cons_zero, List.set_cons_succ, i64_w, i32_w]
                        rfl
                      refine take_ (i := 1) (N := some 123) (v := ?_) (a' := ?_) #[true, true, false, true, false, false, false, false, false, false, false, false] rfl rfl (take_ofW HT_.out HW_.out (by kernel_rfl)) (fun _ _ _ h => h) (Or.inl ⟨by rfl, ?_⟩) hHeld ?_ ?_
                      rotate_left
                      · rintro w' ⟨s0, s1, s2, s3, s4, s5⟩
                        go_simp
                        with_reducible rfl
                      rotate_left
                      · simp only [Act.put, List.setIfInBounds_toArray, List.set_cons_zero, List.set_cons_succ, i64_w, i32_w]
                        rfl
                      refine take_ (i := 4) (N := some 126) (v := ?_) (a' := ?_) #[true, true, false, true, true, false, false, false, false, false, false, false] rfl rfl (take_ofW HT_.out HW_.out (by kernel_rfl)) (fun _ _ _ h => h) (Or.inl ⟨by rfl, ?_⟩) hHeld ?_ ?_
                      rotate_left
                      · rintro w' ⟨s0, s1, s2, s3, s4, s5⟩
                        go_simp
                        with_reducible rfl
                      rotate_left
                      · simp only [Act.put, List.setIfInBounds_toArray, List.set_cons_zero, List.set_cons_succ, i64_w, i32_w]
                        rfl
                      refine one_ (i := 2) (N := some 124) #[true, true, true, true, true, false, false, false, false, false, false, false] rfl rfl (one_of HT_.out (by kernel_rfl)) (by decide) (fun K hK => ?_)
                      refine goes_ Try.func80 (by kernel_rfl) rfl #[.slice Ao70 t616.length co70, .agg #[.int .i64 a1_0, .int .i64 a1_1, .int .i64 a1_2, .int .i64 a1_3, .int .i64 a1_4, .string a1_5]] (by rfl) rfl rfl (by (try simp only [List.map_toArray, List.map_cons, List.map_nil]); first | done | rfl | (simp only [List.length_drop, List.length_take]; rfl)) ?_
                      with_reducible refine (hopperlaw06_count.calls k3 _ _ t616 a1_0 a1_1 a1_2 a1_3 a1_4 a1_5 t631 _ ?side1 ?side2 A65.out).mono ?_
                      (case side1 => repeat (first | exact (Kd.R_reads' HO_5.out).2.2 | (with_reducible refine Kd.C_alloc ?_ _) | (with_reducible refine Kd.C_drewN ?_ _) | (with_reducible refine Kd.C_drew ?_)))
                      (case side2 => exact (Kd.R_reads' HO_5.out).2.1)
                      rintro e w71 ⟨rfl, hb⟩
                      refine ⟨_, rfl, ?_⟩
                      have n0_ := Aside0.mk (Kd.R_below (by (with_reducible repeat (first | apply Kd.R_alloc | apply Kd.R_drewN | apply Kd.R_drew)); exact HO_5.out) hb)
                      have n1_ := Aside0.mk (Kd.R_below (by (with_reducible repeat (first | apply Kd.R_alloc | apply Kd.R_drewN | apply Kd.R_drew)); exact HO_6.out) hb)
                      have n2_ := Aside0.mk (blk_below (g := gb612) (o := .cells #[.int .i64 a1_0, .int .i64 a1_1, .int .i64 a1_2, .int .i64 a1_3, .int .i64 a1_4, .string a1_5] 23 (0, 0)) (by (with_reducible repeat (first | refine blk_drewN ?_ _ | refine blk_drew ?_ | refine blk_alloc ?_ _)); exact BK612.out) hb)
                      have n3_ := Aside0.mk (blk_below (g := gb629) (o := .cells #[.int .i64 t622, .int .i64 t623, .int .i64 t624, .int .i64 t625, .int .i64 t626, .string t627] 23 (0, 0)) (by (with_reducible repeat (first | refine blk_drewN ?_ _ | refine blk_drew ?_ | refine blk_alloc ?_ _)); exact BK629.out) hb)
                      have n4_ := Aside0.mk (below_step (by repeat (first | (with_reducible first | exact HB.out | apply below_alloc | apply pw_below_drewN | apply below_drew1 | refine below_set ?_ GE612.out | refine below_set ?_ GE629.out) | exact HB.out)) hb)
                      clear HO_5
                      clear HO_6
                      clear BK612
                      clear BK629
                      clear HB
                      have HO_5 := n0_
                      have HO_6 := n1_
                      have BK612 := n2_
                      have BK629 := n3_
                      have HB := n4_
                      clear n0_ n1_ n2_ n3_ n4_
                      (try clear hb)
                      (try clear hb2)
                      (try clear hk)
                      (try clear hi)
                      refine hK.out _ _ ⟨(blk_cell BK612.out 0).trans rfl, (blk_cell BK612.out 1).trans rfl, (blk_cell BK612.out 2).trans rfl, (blk_cell BK612.out 3).trans rfl, (blk_cell BK612.out 4).trans rfl, (blk_cell BK612.out 5).trans rfl⟩ (fun hHeld => ?_)
                      clear hK K
                      refine norm_ (a' := ?_) ?_ ?_
                      rotate_left
                      · show Act.put _ (some 124) _ = _
                        simp only [Act.put, List.setIfInBounds_toArray, List.set_cons_zero, List.set_cons_succ, i64_w, i32_w]
                        rfl
                      refine one_ (i := 5) (N := some 127) #[true, true, true, true, true, true, false, false, false, false, false, false] rfl rfl (one_of HT_.out (by kernel_rfl)) (by decide) (fun K hK => ?_)
                      refine goes_ Try.func80 (by kernel_rfl) rfl #[.slice A0 l0.length c0, .agg #[.int .i64 a1_0, .int .i64 a1_1, .int .i64 a1_2, .int .i64 a1_3, .int .i64 a1_4, .string a1_5]] (by rfl) rfl rfl (by (try simp only [List.map_toArray, List.map_cons, List.map_nil]); first | done | rfl | (simp only [List.length_drop, List.length_take]; rfl)) ?_
                      with_reducible refine (hopperlaw06_count.calls k3 _ _ l0 a1_0 a1_1 a1_2 a1_3 a1_4 a1_5 t632 _ ?side1 ?side2 A66.out).mono ?_
                      (case side1 => repeat (first | exact (Kd.C_below HR0.out HB.out) | (with_reducible refine Kd.C_alloc ?_ _) | (with_reducible refine Kd.C_drewN ?_ _) | (with_reducible refine Kd.C_drew ?_)))
                      (case side2 => exact HC0.out)
                      rintro e w72 ⟨rfl, hb⟩
                      refine ⟨_, rfl, ?_⟩
                      have n0_ := Aside0.mk (Kd.R_below (by (with_reducible repeat (first | apply Kd.R_alloc | apply Kd.R_drewN | apply Kd.R_drew)); exact HO_5.out) hb)
                      have n1_ := Aside0.mk (Kd.R_below (by (with_reducible repeat (first | apply Kd.R_alloc | apply Kd.R_drewN | apply Kd.R_drew)); exact HO_6.out) hb)
                      have n2_ := Aside0.mk (blk_below (g := gb612) (o := .cells #[.int .i64 a1_0, .int .i64 a1_1, .int .i64 a1_2, .int .i64 a1_3, .int .i64 a1_4, .string a1_5] 23 (0, 0)) (by (with_reducible repeat (first | refine blk_drewN ?_ _ | refine blk_drew ?_ | refine blk_alloc ?_ _)); exact BK612.out) hb)
                      have n3_ := Aside0.mk (blk_below (g := gb629) (o := .cells #[.int .i64 t622, .int .i64 t623, .int .i64 t624, .int .i64 t625, .int .i64 t626, .string t627] 23 (0, 0)) (by (with_reducible repeat (first | refine blk_drewN ?_ _ | refine blk_drew ?_ | refine blk_alloc ?_ _)); exact BK629.out) hb)
                      have n4_ := Aside0.mk (below_step (by repeat (first | (with_reducible first | exact HB.out | apply below_alloc | apply pw_below_drewN | apply below_drew1 | refine below_set ?_ GE612.out | refine below_set ?_ GE629.out) | exact HB.out)) hb)
                      clear HO_5
                      clear HO_6
                      clear BK612
                      clear BK629
                      clear HB
                      have HO_5 := n0_
                      have HO_6 := n1_
                      have BK612 := n2_
                      have BK629 := n3_
                      have HB := n4_
                      clear n0_ n1_ n2_ n3_ n4_
                      (try clear hb)
                      (try clear hb2)
                      (try clear hk)
                      (try clear hi)
                      refine hK.out _ _ ⟨(blk_cell BK612.out 0).trans rfl, (blk_cell BK612.out 1).trans rfl, (blk_cell BK612.out 2).trans rfl, (blk_cell BK612.out 3).trans rfl, (blk_cell BK612.out 4).trans rfl, (blk_cell BK612.out 5).trans rfl⟩ (fun hHeld => ?_)
                      clear hK K
                      refine norm_ (a' := ?_) ?_ ?_
                      rotate_left
                      · show Act.put _ (some 127) _ = _
                        simp only [Act.put, List.setIfInBounds_toArray, List.set_cons_zero, List.set_cons_succ, i64_w, i32_w]
                        rfl
                      refine pure_ (i := 6) (N := some 128) (v := ?_) (a' := ?_) #[true, true, true, true, true, true, true, false, false, false, false, false] rfl rfl (any_of HT_.out (by kernel_rfl)) (fun _ _ _ h => h) (Or.inl ⟨by rfl, ?_⟩) ?_ ?_
                      rotate_left
                      · intro w'
                        go_simp
                        with_reducible rfl
                      rotate_left
                      · simp only [Act.put, List.setIfInBounds_toArray, List.set_cons_zero, List.set_cons_succ, i64_w, i32_w]
                        rfl
                      refine pure_ (i := 7) (N := some 129) (v := ?_) (a' := ?_) #[true, true, true, true, true, true, true, true, false, false, false, false] rfl rfl (any_of HT_.out (by kernel_rfl)) (fun _ _ _ h => h) (Or.inl ⟨by rfl, ?_⟩) ?_ ?_
                      rotate_left
                      · intro w'
                        go_simp
                        with_reducible rfl
                      rotate_left
                      · simp only [Act.put, List.setIfInBounds_toArray, List.set_cons_zero, List.set_cons_succ, i64_w, i32_w]
                        rfl
                      refine pure_ (i := 8) (N := some 130) (v := ?_) (a' := ?_) #[true, true, true, true, true, true, true, true, true, false, false, false] rfl rfl (any_of HT_.out (by kernel_rfl)) (fun _ _ _ h => h) (Or.inl ⟨by rfl, ?_⟩) ?_ ?_
                      rotate_left
                      · intro w'
                        go_simp
                        with_reducible rfl
                      rotate_left
                      · simp only [Act.put, List.setIfInBounds_toArray, List.set_cons_zero, List.set_cons_succ, i64_w, i32_w]
                        rfl
                      refine one_ (i := 9) (N := some 131) #[true, true, true, true, true, true, true, true, true, true, false, false] rfl rfl (one_of HT_.out (by kernel_rfl)) (by decide) (fun K hK => ?_)
                      refine goes_ Try.func67 (by kernel_rfl) rfl #[] (by rfl) rfl rfl (by (try simp only [List.map_toArray, List.map_cons, List.map_nil]); first | done | rfl | (simp only [List.length_drop, List.length_take]; rfl)) ?_
                      with_reducible refine (hopperlaw06_live.calls k3  t633 _ A68.out).mono ?_
                      rintro e w73 ⟨rfl, hb⟩
                      refine ⟨_, rfl, ?_⟩
                      have n0_ := Aside0.mk (Kd.R_below (by (with_reducible repeat (first | apply Kd.R_alloc | apply Kd.R_drewN | apply Kd.R_drew)); exact HO_5.out) hb)
                      have n1_ := Aside0.mk (Kd.R_below (by (with_reducible repeat (first | apply Kd.R_alloc | apply Kd.R_drewN | apply Kd.R_drew)); exact HO_6.out) hb)
                      have n2_ := Aside0.mk (blk_below (g := gb612) (o := .cells #[.int .i64 a1_0, .int .i64 a1_1, .int .i64 a1_2, .int .i64 a1_3, .int .i64 a1_4, .string a1_5] 23 (0, 0)) (by (with_reducible repeat (first | refine blk_drewN ?_ _ | refine blk_drew ?_ | refine blk_alloc ?_ _)); exact BK612.out) hb)
                      have n3_ := Aside0.mk (blk_below (g := gb629) (o := .cells #[.int .i64 t622, .int .i64 t623, .int .i64 t624, .int .i64 t625, .int .i64 t626, .string t627] 23 (0, 0)) (by (with_reducible repeat (first | refine blk_drewN ?_ _ | refine blk_drew ?_ | refine blk_alloc ?_ _)); exact BK629.out) hb)
                      have n4_ := Aside0.mk (below_step (by repeat (first | (with_reducible first | exact HB.out | apply below_alloc | apply pw_below_drewN | apply below_drew1 | refine below_set ?_ GE612.out | refine below_set ?_ GE629.out) | exact HB.out)) hb)
                      clear HO_5
                      clear HO_6
                      clear BK612
                      clear BK629
                      clear HB
                      have HO_5 := n0_
                      have HO_6 := n1_
                      have BK612 := n2_
                      have BK629 := n3_
                      have HB := n4_
                      clear n0_ n1_ n2_ n3_ n4_
                      (try clear hb)
                      (try clear hb2)
                      (try clear hk)
                      (try clear hi)
                      refine hK.out _ _ ⟨(blk_cell BK612.out 0).trans rfl, (blk_cell BK612.out 1).trans rfl, (blk_cell BK612.out 2).trans rfl, (blk_cell BK612.out 3).trans rfl, (blk_cell BK612.out 4).trans rfl, (blk_cell BK612.out 5).trans rfl⟩ (fun hHeld => ?_)
                      clear hK K
                      refine norm_ (a' := ?_) ?_ ?_
                      rotate_left
                      · show Act.put _ (some 131) _ = _
                        simp only [Act.put, List.setIfInBounds_toArray, List.set_cons_zero, List.set_cons_succ, i64_w, i32_w]
                        rfl
                      refine pure_ (i := 10) (N := some 132) (v := ?_) (a' := ?_) #[true, true, true, true, true, true, true, true, true, true, true, false] rfl rfl (any_of HT_.out (by kernel_rfl)) (fun _ _ _ h => h) (Or.inl ⟨by rfl, ?_⟩) ?_ ?_
                      rotate_left
                      · intro w'
                        go_simp
                        with_reducible rfl
                      rotate_left
                      · simp only [Act.put, List.setIfInBounds_toArray, List.set_cons_zero, List.set_cons_succ, i64_w, i32_w]
                        rfl
                      refine pure_ (i := 11) (N := some 4) (v := ?_) (a' := ?_) #[true, true, true, true, true, true, true, true, true, true, true, true] rfl rfl (any_of HT_.out (by kernel_rfl)) (fun _ _ _ h => h) (Or.inl ⟨by rfl, ?_⟩) ?_ ?_
                      rotate_left
                      · intro w'
                        go_simp
                        with_reducible rfl
                      rotate_left
                      · simp only [Act.put, List.setIfInBounds_toArray, List.set_cons_zero, List.set_cons_succ, i64_w, i32_w]
                        rfl
                      refine done_ (done_of HT_.out (by kernel_rfl)) ?_
                      try go_wp2
                      go_ret
                      exact ⟨by first | rfl | (simp [errW_none, errW_some] <;> rfl) | (simp [*, errW_none, errW_some] <;> rfl), by repeat (first | (with_reducible first | exact HB.out | apply below_alloc | apply pw_below_drewN | apply below_drew1 | refine below_set ?_ GE612.out | refine below_set ?_ GE629.out) | exact HB.out)⟩
                    · rw [if_neg c67] at H
                      exact absurd H (by simp)

open Go.Proofs.Ytihlogdmdmhefaa.Row (okI okB okS okL) in
/-- THE ONE PURE STATEMENT of hopperlaw06_HeapKeeps. -/
def hopperlaw06_HeapKeeps.Pure : Prop := ∀ (l0 : List (S23)) (a1_0 : Int) (a1_1 : Int) (a1_2 : Int) (a1_3 : Int) (a1_4 : Int) (a1_5 : ByteArray), (okL ok23) l0 → ok23 (⟨a1_0, a1_1, a1_2, a1_3, a1_4, a1_5⟩ : S23) → ∃ k, hopperlaw06_HeapKeeps.f k l0 a1_0 a1_1 a1_2 a1_3 a1_4 a1_5 = some true

end Go.Proofs.Ytihlogdmdmhefaa.L
