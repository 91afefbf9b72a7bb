/- Written by this session's own program over the kit's print: functions of Go told as plain functions, or the row of one statement; proved for every input, with no condition of ours. -/
import Derived.Test.YtehncbhmdgdkjaaLx0
import Derived.Test.YtehncbhmdgdkjaaLx1
import Derived.Test.YtehncbhmdgdkjaaLx2
import Derived.Test.YtehncbhmdgdkjaaLx4
import Derived.Test.YtehncbhmdgdkjaaLx11
import Derived.Test.YtehncbhmdgdkjaaLx12
import Derived.Test.YtehncbhmdgdkjaaLx13
import Derived.Test.YtehncbhmdgdkjaaLx14
import Derived.Test.YtehncbhmdgdkjaaLx15
import Derived.Test.YtehncbhmdgdkjaaLx20
import Derived.Test.YtehncbhmdgdkjaaLx21
import Derived.Test.YtehncbhmdgdkjaaLx22
import Derived.Test.YtehncbhmdgdkjaaLx23
import Derived.Test.YtehncbhmdgdkjaaLx24
import Derived.Test.YtehncbhmdgdkjaaLx25
namespace Go.Proofs.Ytehncbhmdgdkjaa.L
open Go.RowKit Go.Proofs.YtehncbhmdgdkjaaW.PrintWords Go.Proofs.YtehncbhmdgdkjaaW.PrintLast Go.Proofs.YtehncbhmdgdkjaaW.PrintMore
attribute [local go_sem] max2_int min2_int max_two min_two max_three min_three max_four min_four   -- for this text's walks alone
set_option linter.unusedVariables false
set_option linter.unusedSimpArgs false

attribute [local go_sem high] eqA24
/-! ### hopperlaw06_HeapTells: function 3 -/
mutual
def hopperlaw06_HeapTells.j0 : Nat → List (S24) → Bool → Int → Int → Int → Int → Int → ByteArray → Option (Bool)
 | 0, _, _, _, _, _, _, _, _ => none
 | k + 1, x0, x22, x449000, x449001, x449002, x449003, x449004, x449005 => if x22 = true then ((hopperlaw06_live.f k).bind fun t451 => (some t451)) else ((heap_Pop.f x0).bind fun bt452 => ((hopperref06_Pop.f k x0).bind fun bt463 => ((heap_Worst.f k x0).bind fun bt474 => ((hopperref06_Worst.f k x0).bind fun bt476 => ((heap_Check.f k x0).bind fun t478 => ((hopperref06_Check.f k x0).bind fun t479 => (if (t478 != t479) = true then (none) else ((heap_Push.f x0 x449000 x449001 x449002 x449003 x449004 x449005).bind fun t480 => ((hopperref06_Push.f k x0 x449000 x449001 x449002 x449003 x449004 x449005).bind fun t483 => ((hopperref04_Txs.f k t480 t483).bind fun t486 => (if t486 = true then ((hopperref04_Txs.f k bt452.1 bt463.1).bind fun t487 => (if t487 = true then (if (!(bt452.2.1 == bt463.2.1) || (!(bt452.2.2.1 == bt463.2.2.1) || (!(bt452.2.2.2.1 == bt463.2.2.2.1) || (!(bt452.2.2.2.2.1 == bt463.2.2.2.2.1) || (!(bt452.2.2.2.2.2.1 == bt463.2.2.2.2.2.1) || (!(bt452.2.2.2.2.2.2.1.toList == bt463.2.2.2.2.2.2.1.toList))))))) = true then (none) else (if (bt452.2.2.2.2.2.2.2 != bt463.2.2.2.2.2.2.2) = true then (none) else (if bt474.1 = bt476.1 then (hopperlaw06_HeapTells.j1 k x0 (bt474.2 != bt476.2)) else (none)))) else (none))) else (none))))))))))))
def hopperlaw06_HeapTells.j1 : Nat → List (S24) → Bool → Option (Bool)
 | 0, _, _ => none
 | k + 1, x0, x86 => if x86 = true then (none) else ((heap_Make.f k x0).bind fun t488 => ((hopperref06_Make.f k x0).bind fun t491 => ((hopperref04_Txs.f k t488 t491).bind fun t494 => (if t494 = true then ((heap_Order.f x0).bind fun t495 => ((hopperref06_Order.f k x0).bind fun t498 => ((hopperref04_Txs.f k t495 t498).bind fun t501 => (if t501 = true then ((hopperlaw06_live.f k).bind fun t502 => (some t502)) else (none))))) else (none)))))
end
def hopperlaw06_HeapTells.f (k : Nat) (l0 : List (S24)) (a1_0 : Int) (a1_1 : Int) (a1_2 : Int) (a1_3 : Int) (a1_4 : Int) (a1_5 : ByteArray) : Option (Bool) := (hopperref04_Few.f k l0 40).bind fun t449 => (if t449 = true then ((hopperref04_Small.f a1_0 a1_1 a1_2 a1_3 a1_4 a1_5).bind fun t450 => (hopperlaw06_HeapTells.j0 k l0 (!t450) a1_0 a1_1 a1_2 a1_3 a1_4 a1_5)) else (hopperlaw06_HeapTells.j0 k l0 true a1_0 a1_1 a1_2 a1_3 a1_4 a1_5))
theorem hopperlaw06_HeapTells.mono_l : ∀ k, (∀ y0 y1 y2 y3 y4 y5 y6 y7, LeO (hopperlaw06_HeapTells.j0 k y0 y1 y2 y3 y4 y5 y6 y7) (hopperlaw06_HeapTells.j0 (k + 1) y0 y1 y2 y3 y4 y5 y6 y7)) ∧ (∀ y0 y1, LeO (hopperlaw06_HeapTells.j1 k y0 y1) (hopperlaw06_HeapTells.j1 (k + 1) y0 y1))
 | 0 => ⟨fun _ _ _ _ _ _ _ _ r h => by simp [hopperlaw06_HeapTells.j0] at h, fun _ _ r h => by simp [hopperlaw06_HeapTells.j1] at h⟩
 | k + 1 => by
  obtain ⟨ih0, ih1⟩ := hopperlaw06_HeapTells.mono_l k
  refine ⟨?_, ?_⟩
  · intro y0 y1 y2 y3 y4 y5 y6 y7
    unfold hopperlaw06_HeapTells.j0
    repeat' first
    | (with_reducible exact ih0 _ _ _ _ _ _ _ _)
    | (with_reducible exact ih1 _ _)
    | (with_reducible exact heap_Check.mono _ _)
    | (with_reducible exact heap_Make.mono _ _)
    | (with_reducible exact heap_Worst.mono _ _)
    | (with_reducible exact hopperlaw06_live.mono _)
    | (with_reducible exact hopperref04_Few.mono _ _ _)
    | (with_reducible exact hopperref04_Txs.mono _ _ _)
    | (with_reducible exact hopperref06_Check.mono _ _)
    | (with_reducible exact hopperref06_Make.mono _ _)
    | (with_reducible exact hopperref06_Order.mono _ _)
    | (with_reducible exact hopperref06_Pop.mono _ _)
    | (with_reducible exact hopperref06_Push.mono _ _ _ _ _ _ _ _)
    | (with_reducible exact hopperref06_Worst.mono _ _)
    | (with_reducible exact LeO.refl _)
    | (with_reducible exact LeO.none _)
    | (with_reducible refine LeO.ite ?_ ?_)
    | (with_reducible refine LeO.bind ?_ (fun _ => ?_))
    | exact ih0 _ _ _ _ _ _ _ _
    | exact ih1 _ _
    | exact heap_Check.mono _ _
    | exact heap_Make.mono _ _
    | exact heap_Worst.mono _ _
    | exact hopperlaw06_live.mono _
    | exact hopperref04_Few.mono _ _ _
    | exact hopperref04_Txs.mono _ _ _
    | exact hopperref06_Check.mono _ _
    | exact hopperref06_Make.mono _ _
    | exact hopperref06_Order.mono _ _
    | exact hopperref06_Pop.mono _ _
    | exact hopperref06_Push.mono _ _ _ _ _ _ _ _
    | exact hopperref06_Worst.mono _ _
    | exact LeO.none _
    | refine LeO.ite ?_ ?_
    | refine LeO.bind ?_ (fun _ => ?_)
  · intro y0 y1
    unfold hopperlaw06_HeapTells.j1
    repeat' first
    | (with_reducible exact ih0 _ _ _ _ _ _ _ _)
    | (with_reducible exact ih1 _ _)
    | (with_reducible exact heap_Check.mono _ _)
    | (with_reducible exact heap_Make.mono _ _)
    | (with_reducible exact heap_Worst.mono _ _)
    | (with_reducible exact hopperlaw06_live.mono _)
    | (with_reducible exact hopperref04_Few.mono _ _ _)
    | (with_reducible exact hopperref04_Txs.mono _ _ _)
    | (with_reducible exact hopperref06_Check.mono _ _)
    | (with_reducible exact hopperref06_Make.mono _ _)
    | (with_reducible exact hopperref06_Order.mono _ _)
    | (with_reducible exact hopperref06_Pop.mono _ _)
    | (with_reducible exact hopperref06_Push.mono _ _ _ _ _ _ _ _)
    | (with_reducible exact hopperref06_Worst.mono _ _)
    | (with_reducible exact LeO.refl _)
    | (with_reducible exact LeO.none _)
    | (with_reducible refine LeO.ite ?_ ?_)
    | (with_reducible refine LeO.bind ?_ (fun _ => ?_))
    | exact ih0 _ _ _ _ _ _ _ _
    | exact ih1 _ _
    | exact heap_Check.mono _ _
    | exact heap_Make.mono _ _
    | exact heap_Worst.mono _ _
    | exact hopperlaw06_live.mono _
    | exact hopperref04_Few.mono _ _ _
    | exact hopperref04_Txs.mono _ _ _
    | exact hopperref06_Check.mono _ _
    | exact hopperref06_Make.mono _ _
    | exact hopperref06_Order.mono _ _
    | exact hopperref06_Pop.mono _ _
    | exact hopperref06_Push.mono _ _ _ _ _ _ _ _
    | exact hopperref06_Worst.mono _ _
    | exact LeO.none _
    | refine LeO.ite ?_ ?_
    | refine LeO.bind ?_ (fun _ => ?_)
theorem hopperlaw06_HeapTells.mono : ∀ a0 a1 a2 a3 a4 a5 a6 k, LeO (hopperlaw06_HeapTells.f k a0 a1 a2 a3 a4 a5 a6) (hopperlaw06_HeapTells.f (k + 1) a0 a1 a2 a3 a4 a5 a6) := by
 intro a0 a1 a2 a3 a4 a5 a6 k
 obtain ⟨ih0, ih1⟩ := hopperlaw06_HeapTells.mono_l k
 unfold hopperlaw06_HeapTells.f
 repeat' first
  | (with_reducible exact ih0 _ _ _ _ _ _ _ _)
  | (with_reducible exact ih1 _ _)
  | (with_reducible exact heap_Check.mono _ _)
  | (with_reducible exact heap_Make.mono _ _)
  | (with_reducible exact heap_Worst.mono _ _)
  | (with_reducible exact hopperlaw06_live.mono _)
  | (with_reducible exact hopperref04_Few.mono _ _ _)
  | (with_reducible exact hopperref04_Txs.mono _ _ _)
  | (with_reducible exact hopperref06_Check.mono _ _)
  | (with_reducible exact hopperref06_Make.mono _ _)
  | (with_reducible exact hopperref06_Order.mono _ _)
  | (with_reducible exact hopperref06_Pop.mono _ _)
  | (with_reducible exact hopperref06_Push.mono _ _ _ _ _ _ _ _)
  | (with_reducible exact hopperref06_Worst.mono _ _)
  | (with_reducible exact LeO.refl _)
  | (with_reducible exact LeO.none _)
  | (with_reducible refine LeO.ite ?_ ?_)
  | (with_reducible refine LeO.bind ?_ (fun _ => ?_))
  | exact ih0 _ _ _ _ _ _ _ _
  | exact ih1 _ _
  | exact heap_Check.mono _ _
  | exact heap_Make.mono _ _
  | exact heap_Worst.mono _ _
  | exact hopperlaw06_live.mono _
  | exact hopperref04_Few.mono _ _ _
  | exact hopperref04_Txs.mono _ _ _
  | exact hopperref06_Check.mono _ _
  | exact hopperref06_Make.mono _ _
  | exact hopperref06_Order.mono _ _
  | exact hopperref06_Pop.mono _ _
  | exact hopperref06_Push.mono _ _ _ _ _ _ _ _
  | exact hopperref06_Worst.mono _ _
  | exact LeO.none _
  | refine LeO.ite ?_ ?_
  | refine LeO.bind ?_ (fun _ => ?_)
def hopperlaw06_HeapTells.T7 : Bool × List (List Nat × List Nat) := (true, [([], []), ([0], [0]), ([], []), ([2, 1], [2]), ([1, 3], [1, 3]), ([4, 3], [4]), ([5], [5]), ([5], [5]), ([6, 7, 5, 5], [5, 6, 7]), ([5], [5]), ([5], [5]), ([9, 10, 8, 5], [5, 9, 10]), ([8, 11, 11, 5], [5, 8, 11]), ([12, 5], [5, 12]), ([5, 13], [5, 13]), ([14, 12], [14]), ([15], [15]), ([15], [15]), ([16, 17, 15, 15], [15, 16, 17]), ([18, 15], [15, 18]), ([15, 19], [15, 19]), ([20, 18], [20]), ([21], [21]), ([21], [21]), ([22, 23, 21], [21, 22, 23]), ([21, 24], [21, 24]), ([25, 21], [25]), ([26], [26]), ([26], [26]), ([27, 28, 26], [26, 27, 28]), ([26, 29], [26, 29]), ([30, 26], [30]), ([31], [31]), ([31], [31]), ([32, 33, 31], [31, 32, 33]), ([31, 34], [31, 34]), ([35, 31], [35]), ([36], [36]), ([36], [36]), ([37, 38, 36], [36, 37, 38]), ([36, 39], [36, 39])])
def hopperlaw06_HeapTells.B7 : List Nat := [0, 1, 0, 7, 15, 31, 63, 63, 255, 63, 63, 2047, 4095, 8191, 16383, 32767, 65535, 65535, 262143, 524287, 1048575, 2097151, 4194303, 4194303, 16777215, 33554431, 67108863, 134217727, 134217727, 536870911, 1073741823, 2147483647, 4294967295, 4294967295, 17179869183, 34359738367, 68719476735, 137438953471, 137438953471, 549755813887, 1099511627775]
theorem hopperlaw06_HeapTells.tab7 : rtab .any (opsOf Try.f3 7) = hopperlaw06_HeapTells.T7 := by kernel_rfl
theorem hopperlaw06_HeapTells.bits7 : waitsOk hopperlaw06_HeapTells.T7.2 hopperlaw06_HeapTells.B7 = true := by kernel_rfl
set_option maxHeartbeats 8000000 in
set_option maxRecDepth 100000 in
theorem hopperlaw06_HeapTells.calls (k : Nat) (A0 : Option Addr) (c0 : Nat) (l0 : List (S24)) (a1_0 : Int) (a1_1 : Int) (a1_2 : Int) (a1_3 : Int) (a1_4 : Int) (a1_5 : ByteArray) (r : Bool) (w : World) (hr0 : Kd.C k24 w A0 l0.length l0) (hc0 : l0.length ≤ c0) (h : hopperlaw06_HeapTells.f k l0 a1_0 a1_1 a1_2 a1_3 a1_4 a1_5 = some r) :
 Calls Try.prog 3 #[.slice A0 l0.length c0, .agg #[.int .i64 a1_0, .int .i64 a1_1, .int .i64 a1_2, .int .i64 a1_3, .int .i64 a1_4, .string a1_5]] w fun e w' => e = .returned (.bool r) ∧ Below w.heap.size w w' := by
 have hu24 := Try.underlying24
 have HR0 := A_ hr0
 have HC0 := A_ hc0
 clear hr0 hc0; have HB := A_ (Below.refl w.heap.size w)
 have H : ((hopperref04_Few.f k l0 40).bind fun t449 => (if t449 = true then ((hopperref04_Small.f a1_0 a1_1 a1_2 a1_3 a1_4 a1_5).bind fun t450 => (hopperlaw06_HeapTells.j0 k l0 (!t450) a1_0 a1_1 a1_2 a1_3 a1_4 a1_5)) else (hopperlaw06_HeapTells.j0 k l0 true a1_0 a1_1 a1_2 a1_3 a1_4 a1_5))) = some r := h
 clear h
 have HC3 := A_ H
 clear H
 go_enter Try.func3, Try.ntmps3
 go_upto_region 1 with (first | ((with_reducible refine gate_dst (N := 3) rfl ?_); refine box_event ?hg (N := 3) ?hd (cs := #[.int .i64 a1_0, .int .i64 a1_1, .int .i64 a1_2, .int .i64 a1_3, .int .i64 a1_4, .string a1_5]) (t := 24) ?hr ?_; (case hd => rfl); (case hg => rfl); (case hr => first | (go_simp; done) | (go_simp; rfl)); intro gb448 hg w4 hbox hb; have n0_ := A_ (below_step bw_ hb); have n1_ := A_ (hbox); have n2_ := A_ (gz_ (w := w) hg); have n3_ := A_ (gz_ (w := w) hg); replace HB := n0_; have BK448 := n1_; have GW448 := n2_; have GE448 := n3_; clear n0_ n1_ n2_ n3_; clear hb hbox hg))
 (try simp only [Act.put, s0_, s1_, s2_])
 go_cut [22] (fun v22 wc => ∃ (kq : Nat) (x22_2 : Bool), v22 = .bool x22_2 ∧ Aside0 (hopperlaw06_HeapTells.j0 kq l0 x22_2 a1_0 a1_1 a1_2 a1_3 a1_4 a1_5 = some r) ∧ Aside0 (kq ≤ k) ∧ Aside0 (wc.heap[gb448]? = some (.cells #[.int .i64 a1_0, .int .i64 a1_1, .int .i64 a1_2, .int .i64 a1_3, .int .i64 a1_4, .string a1_5] 24 (0, 0))) ∧ Aside0 (Below w.heap.size w wc))
 case first =>
  have H := HC3.out
  clear HC3
  replace H := Option.bind_eq_some_iff.mp H
  obtain ⟨t449, A50, H⟩ := H
  try dsimp only at H
  have A5 := A_ A50
  clear A50
  by_cases c6 : t449 = true
  rotate_left
  · replace c6 := Bool.eq_false_iff.mpr c6
    subst c6
    have H1 : (hopperlaw06_HeapTells.j0 k l0 true a1_0 a1_1 a1_2 a1_3 a1_4 a1_5) = some r := by rw [if_neg (show ¬ (false = true) by decide)] at H; exact H
    clear H
    have H := H1
    clear H1
    have H' := A_ H
    clear H
    go_wp2_with (first | ((with_reducible refine gate_callee (f := 21) rfl ?_); refine goesL_ (some 16) rfl rfl Try.func21 (by kernel_rfl) rfl #[.slice A0 l0.length c0, .int .i64 40] rfl (by (try simp only [m0_, m1_, m2_]); first | done | rfl) ?_; (with_reducible refine (hopperref04_Few.calls k _ _ l0 40 false _ ?side1 ?side2 A5.out).mono ?_); (case side1 => repeat (first | exact (Kd.C_below HR0.out HB.out) | (with_reducible refine ca_ ?_ _) | (with_reducible refine cn_ ?_ _) | (with_reducible refine cd_ ?_))); (case side2 => exact HC0.out); rintro e w11 ⟨rfl, hb⟩; refine ⟨_, rfl, ?_⟩; replace BK448 := A_ (kb_ BK448 hb); replace HB := A_ (below_step bw_ hb); (try clear hb); (try clear hb2); (try clear hk); (try clear hi)))
    go_meet
    case rel => exact ⟨_, (true), (by first | rfl | (simp; done) | (simp [*]; done)), H', ⟨by first | omega | exact Nat.le_refl _⟩, ⟨bk_⟩, ⟨by repeat (first | (with_reducible first | exact HB.out | apply wa_ | apply wn_ | apply wd_ | refine ws_ ?_ GE448.out) | exact HB.out)⟩⟩
  subst c6
  have H1 : ((hopperref04_Small.f a1_0 a1_1 a1_2 a1_3 a1_4 a1_5).bind fun t450 => (hopperlaw06_HeapTells.j0 k l0 (!t450) a1_0 a1_1 a1_2 a1_3 a1_4 a1_5)) = some r := by rw [if_pos rfl] at H; exact H
  clear H
  have H := H1
  clear H1
  replace H := Option.bind_eq_some_iff.mp H
  obtain ⟨t450, A70, H⟩ := H
  try dsimp only at H
  have A7 := A_ A70
  clear A70
  have H' := A_ H
  clear H
  go_wp2_with (first | ((with_reducible refine gate_callee (f := 21) rfl ?_); refine goesL_ (some 16) rfl rfl Try.func21 (by kernel_rfl) rfl #[.slice A0 l0.length c0, .int .i64 40] rfl (by (try simp only [m0_, m1_, m2_]); first | done | rfl) ?_; (with_reducible refine (hopperref04_Few.calls k _ _ l0 40 true _ ?side1 ?side2 A5.out).mono ?_); (case side1 => repeat (first | exact (Kd.C_below HR0.out HB.out) | (with_reducible refine ca_ ?_ _) | (with_reducible refine cn_ ?_ _) | (with_reducible refine cd_ ?_))); (case side2 => exact HC0.out); rintro e w8 ⟨rfl, hb⟩; refine ⟨_, rfl, ?_⟩; replace BK448 := A_ (kb_ BK448 hb); replace HB := A_ (below_step bw_ hb); (try clear hb); (try clear hb2); (try clear hk); (try clear hi); have hcz9_0 : w8.cell? ⟨gb448, 0, none⟩ = some (.int .i64 a1_0) := e_ BK448 0; have hcz9_1 : w8.cell? ⟨gb448, 1, none⟩ = some (.int .i64 a1_1) := e_ BK448 1; have hcz9_2 : w8.cell? ⟨gb448, 2, none⟩ = some (.int .i64 a1_2) := e_ BK448 2; have hcz9_3 : w8.cell? ⟨gb448, 3, none⟩ = some (.int .i64 a1_3) := e_ BK448 3; have hcz9_4 : w8.cell? ⟨gb448, 4, none⟩ = some (.int .i64 a1_4) := e_ BK448 4; have hcz9_5 : w8.cell? ⟨gb448, 5, none⟩ = some (.string a1_5) := e_ BK448 5; obtain ⟨hfz9_0, hfz9_1, hfz9_2, hfz9_3, hfz9_4, hfz9_5⟩ := z6_ BK448) | (go_at_call 22; (with_reducible refine (hopperref04_Small.calls a1_0 a1_1 a1_2 a1_3 a1_4 a1_5 t450 _ A7.out).mono ?_); rintro e w10 ⟨rfl, hb⟩; replace BK448 := A_ (kb_ BK448 hb); replace HB := A_ (below_step bw_ hb); (try clear hb); (try clear hb2); (try clear hk); (try clear hi)))
  go_meet
  case rel => exact ⟨_, (!t450), (by first | rfl | (simp; done) | (simp [*]; done)), H', ⟨by first | omega | exact Nat.le_refl _⟩, ⟨bk_⟩, ⟨by repeat (first | (with_reducible first | exact HB.out | apply wa_ | apply wn_ | apply wd_ | refine ws_ ?_ GE448.out) | exact HB.out)⟩⟩
 case rest =>
  clear HC3; (try clear c2); (try clear p2); (try clear c3); (try clear c6); (try clear hcz9_0 hcz9_1 hcz9_2 hcz9_3 hcz9_4 hcz9_5); (try clear hfz9_0 hfz9_1 hfz9_2 hfz9_3 hfz9_4 hfz9_5)
  obtain ⟨kq, x22_2, rfl, HA, HJ2, BK448, HB⟩ := hcut
  cases kq with
  | zero => exact absurd HA.out (by simp [hopperlaw06_HeapTells.j0])
  | succ kj2 =>
   have H := HA.out
   clear HA
   simp only [hopperlaw06_HeapTells.j0] at H
   by_cases c12 : x22_2 = true
   · subst c12
     have H1 : ((hopperlaw06_live.f kj2).bind fun t451 => (some t451)) = some r := by rw [if_pos rfl] at H; exact H
     clear H
     have H := H1
     clear H1
     replace H := Option.bind_eq_some_iff.mp H
     obtain ⟨t451, A130, H⟩ := H
     replace H : (some t451) = some r := H
     have A13 := A_ A130
     clear A130
     obtain rfl := Option.some.inj H
     go_wp2_with (first | ((with_reducible refine gate_callee (f := 23) rfl ?_); refine goesL_ (some 23) rfl rfl Try.func23 (by kernel_rfl) rfl #[] rfl (by (try simp only [m0_, m1_, m2_]); first | done | rfl) ?_; (with_reducible refine (hopperlaw06_live.calls kj2  t451 _ A13.out).mono ?_); rintro e w14 ⟨rfl, hb⟩; refine ⟨_, rfl, ?_⟩; replace BK448 := A_ (kb_ BK448 hb); replace HB := A_ (below_step bw_ hb); (try clear hb); (try clear hb2); (try clear hk); (try clear hi)))
     go_ret
     exact ⟨by first | rfl | (simp [errW_none, errW_some] <;> rfl) | (simp [*, errW_none, errW_some] <;> rfl), by repeat (first | (with_reducible first | exact HB.out | apply wa_ | apply wn_ | apply wd_ | refine ws_ ?_ GE448.out) | exact HB.out)⟩
   · replace c12 := Bool.eq_false_iff.mpr c12
     subst c12
     have H1 : ((heap_Pop.f l0).bind fun bt452 => ((hopperref06_Pop.f kj2 l0).bind fun bt463 => ((heap_Worst.f kj2 l0).bind fun bt474 => ((hopperref06_Worst.f kj2 l0).bind fun bt476 => ((heap_Check.f kj2 l0).bind fun t478 => ((hopperref06_Check.f kj2 l0).bind fun t479 => (if (t478 != t479) = true then (none) else ((heap_Push.f l0 a1_0 a1_1 a1_2 a1_3 a1_4 a1_5).bind fun t480 => ((hopperref06_Push.f kj2 l0 a1_0 a1_1 a1_2 a1_3 a1_4 a1_5).bind fun t483 => ((hopperref04_Txs.f kj2 t480 t483).bind fun t486 => (if t486 = true then ((hopperref04_Txs.f kj2 bt452.1 bt463.1).bind fun t487 => (if t487 = true then (if (!(bt452.2.1 == bt463.2.1) || (!(bt452.2.2.1 == bt463.2.2.1) || (!(bt452.2.2.2.1 == bt463.2.2.2.1) || (!(bt452.2.2.2.2.1 == bt463.2.2.2.2.1) || (!(bt452.2.2.2.2.2.1 == bt463.2.2.2.2.2.1) || (!(bt452.2.2.2.2.2.2.1.toList == bt463.2.2.2.2.2.2.1.toList))))))) = true then (none) else (if (bt452.2.2.2.2.2.2.2 != bt463.2.2.2.2.2.2.2) = true then (none) else (if bt474.1 = bt476.1 then (hopperlaw06_HeapTells.j1 kj2 l0 (bt474.2 != bt476.2)) else (none)))) else (none))) else (none)))))))))))) = some r := by rw [if_neg (show ¬ (false = true) by decide)] at H; exact H
     clear H
     have H := H1
     clear H1
     replace H := Option.bind_eq_some_iff.mp H
     obtain ⟨⟨t452, t455, t456, t457, t458, t459, t460, t461⟩, A150, H⟩ := H
     try dsimp only at H
     have A15 := A_ A150
     clear A150
     replace H := Option.bind_eq_some_iff.mp H
     obtain ⟨⟨t463, t466, t467, t468, t469, t470, t471, t472⟩, A160, H⟩ := H
     try dsimp only at H
     have A16 := A_ A160
     clear A160
     replace H := Option.bind_eq_some_iff.mp H
     obtain ⟨⟨t474, t475⟩, A170, H⟩ := H
     try dsimp only at H
     have A17 := A_ A170
     clear A170
     replace H := Option.bind_eq_some_iff.mp H
     obtain ⟨⟨t476, t477⟩, A180, H⟩ := H
     try dsimp only at H
     have A18 := A_ A180
     clear A180
     have HC19 := A_ H
     clear H
     go_upto_region 7 with (first | ((with_reducible refine gate_callee (f := 24) rfl ?_); refine goesL_ (some 26) rfl rfl Try.func24 (by kernel_rfl) rfl #[.slice A0 l0.length c0] rfl (by (try simp only [m0_, m1_, m2_]); first | done | rfl) ?_; (with_reducible refine (heap_Pop.calls _ _ l0 t452 t455 t456 t457 t458 t459 t460 t461 _ ?side1 ?side2 A15.out).mono ?_); (case side1 => repeat (first | exact (Kd.C_below HR0.out HB.out) | (with_reducible refine ca_ ?_ _) | (with_reducible refine cn_ ?_ _) | (with_reducible refine cd_ ?_))); (case side2 => exact HC0.out); rintro e w20 ⟨v453, rfl, ho0, hb⟩; refine ⟨_, rfl, ?_⟩; have HO454 := A_ (Kd.R_lower (Kd.R_newB ho0 (g := gb448) (o := .cells #[.int .i64 a1_0, .int .i64 a1_1, .int .i64 a1_2, .int .i64 a1_3, .int .i64 a1_4, .string a1_5] 24 (0, 0)) (by (with_reducible repeat (first | refine bn_ ?_ _ | refine bd_ ?_ | refine ba_ ?_ _)); exact BK448.out)) (below_size bw_)); replace BK448 := A_ (kb_ BK448 hb); replace HB := A_ (below_step bw_ hb); (try clear hb); (try clear hb2); (try clear hk); (try clear hi); (try clear ho0)) | ((with_reducible refine gate_dst (N := 6) rfl ?_); refine box_event ?hg (N := 6) ?hd (cs := #[.int .i64 0, .int .i64 0, .int .i64 0, .int .i64 0, .int .i64 0, .string (⟨#[]⟩ : ByteArray)]) (t := 24) ?hr ?_; (case hd => rfl); (case hg => rfl); (case hr => first | (go_simp; done) | (go_simp; rfl)); intro gb462 hg w21 hbox hb; have n0_ := A_ (Kd.R_below (Kd.R_elderB (pr_ HO454.out) gb462 (Nat.le_of_eq hg.symm)) hb); have n1_ := A_ (kb_ BK448 hb); have n2_ := A_ (below_step bw_ hb); have n3_ := A_ (hbox); have n4_ := A_ (gz_ (w := w) hg); have n5_ := A_ (gz_ (w := w) hg); have n6_ := A_ (nl_ BK448 hg); have n7_ := A_ (ng_ BK448 hg); replace HO454 := n0_; replace BK448 := n1_; replace HB := n2_; have BK462 := n3_; have GW462 := n4_; have GE462 := n5_; have NB448_462 := n6_; have NB462_448 := n7_; clear n0_ n1_ n2_ n3_ n4_ n5_ n6_ n7_; clear hb hbox hg; have hnb22 := NB462_448.out; have hnc22 := NB448_462.out; have hcz23_0 : w21.cell? ⟨gb462, 0, none⟩ = some (.int .i64 0) := e_ BK462 0; have hcz23_1 : w21.cell? ⟨gb462, 1, none⟩ = some (.int .i64 0) := e_ BK462 1; have hcz23_2 : w21.cell? ⟨gb462, 2, none⟩ = some (.int .i64 0) := e_ BK462 2; have hcz23_3 : w21.cell? ⟨gb462, 3, none⟩ = some (.int .i64 0) := e_ BK462 3; have hcz23_4 : w21.cell? ⟨gb462, 4, none⟩ = some (.int .i64 0) := e_ BK462 4; have hcz23_5 : w21.cell? ⟨gb462, 5, none⟩ = some (.string (⟨#[]⟩ : ByteArray)) := e_ BK462 5; obtain ⟨hfz23_0, hfz23_1, hfz23_2, hfz23_3, hfz23_4, hfz23_5⟩ := z6_ BK462) | ((with_reducible refine gate_callee (f := 25) rfl ?_); refine goesL_ (some 32) rfl rfl Try.func25 (by kernel_rfl) rfl #[.slice A0 l0.length c0] rfl (by (try simp only [m0_, m1_, m2_]); first | done | rfl) ?_; (with_reducible refine (hopperref06_Pop.calls kj2 _ _ l0 t463 t466 t467 t468 t469 t470 t471 t472 _ ?side1 ?side2 A16.out).mono ?_); (case side1 => exact Kd.C_below HR0.out bw_); (case side2 => exact HC0.out); rintro e w24 ⟨v464, rfl, ho0, hb⟩; refine ⟨_, rfl, ?_⟩; have n0_ := A_ (Kd.R_elder' (by (with_reducible repeat (first | apply ra_ | apply rn_ | apply rd_)); exact (Kd.R_mono (f6_ (g := gb462) (Kd.R_mono HO454.out (fun k_ hk => (⟨hk, hk.2⟩ : _ ∧ k_ ≠ gb462))) (fun _ hk => hk.2) (.int .i64 t455) (.int .i64 t456) (.int .i64 t457) (.int .i64 t458) (.int .i64 t459) (.string t460)) (fun _ h_ => h_.1))) (Kd.R_base ho0) hb); have n1_ := A_ (Kd.R_lower (Kd.R_newB (Kd.R_newB (Kd.R_new' ho0 (Kd.R_lt (by (with_reducible repeat (first | apply ra_ | apply rn_ | apply rd_)); exact (Kd.R_mono (f6_ (g := gb462) (Kd.R_mono HO454.out (fun k_ hk => (⟨hk, hk.2⟩ : _ ∧ k_ ≠ gb462))) (fun _ hk => hk.2) (.int .i64 t455) (.int .i64 t456) (.int .i64 t457) (.int .i64 t458) (.int .i64 t459) (.string t460)) (fun _ h_ => h_.1))))) (g := gb448) (o := .cells #[.int .i64 a1_0, .int .i64 a1_1, .int .i64 a1_2, .int .i64 a1_3, .int .i64 a1_4, .string a1_5] 24 (0, 0)) bk_) (g := gb462) (o := .cells #[.int .i64 t455, .int .i64 t456, .int .i64 t457, .int .i64 t458, .int .i64 t459, .string t460] 24 (0, 0)) (by exact pk_ (b6_ BK462.out))) (below_size bw_)); have n2_ := A_ (kb_ BK448 hb); have n3_ := A_ (blk_below (g := gb462) (o := .cells #[.int .i64 t455, .int .i64 t456, .int .i64 t457, .int .i64 t458, .int .i64 t459, .string t460] 24 (0, 0)) (by exact pk_ (b6_ BK462.out)) hb); have n4_ := A_ (below_step bw_ hb); replace HO454 := n0_; have HO465 := n1_; replace BK448 := n2_; replace BK462 := n3_; replace HB := n4_; clear n0_ n1_ n2_ n3_ n4_; (try clear hb); (try clear hb2); (try clear hk); (try clear hi); (try clear ho0)) | ((with_reducible refine gate_dst (N := 9) rfl ?_); refine box_event ?hg (N := 9) ?hd (cs := #[.int .i64 0, .int .i64 0, .int .i64 0, .int .i64 0, .int .i64 0, .string (⟨#[]⟩ : ByteArray)]) (t := 24) ?hr ?_; (case hd => rfl); (case hg => rfl); (case hr => first | (go_simp; done) | (go_simp; rfl)); intro gb473 hg w25 hbox hb; have n0_ := A_ (Kd.R_below (Kd.R_elderB (pr_ HO454.out) gb473 (Nat.le_of_eq hg.symm)) hb); have n1_ := A_ (Kd.R_below (Kd.R_elderB (pr_ HO465.out) gb473 (Nat.le_of_eq hg.symm)) hb); have n2_ := A_ (kb_ BK448 hb); have n3_ := A_ (kb_ BK462 hb); have n4_ := A_ (below_step bw_ hb); have n5_ := A_ (hbox); have n6_ := A_ (gz_ (w := w) hg); have n7_ := A_ (gz_ (w := w) hg); have n8_ := A_ (nl_ BK448 hg); have n9_ := A_ (ng_ BK448 hg); have n10_ := A_ (nl_ BK462 hg); have n11_ := A_ (ng_ BK462 hg); replace HO454 := n0_; replace HO465 := n1_; replace BK448 := n2_; replace BK462 := n3_; replace HB := n4_; have BK473 := n5_; have GW473 := n6_; have GE473 := n7_; have NB448_473 := n8_; have NB473_448 := n9_; have NB462_473 := n10_; have NB473_462 := n11_; clear n0_ n1_ n2_ n3_ n4_ n5_ n6_ n7_ n8_ n9_ n10_ n11_; clear hb hbox hg; have hnb26 := NB473_448.out; have hnc26 := NB448_473.out; have hnb27 := NB473_462.out; have hnc27 := NB462_473.out; have hcz28_0 : w25.cell? ⟨gb473, 0, none⟩ = some (.int .i64 0) := e_ BK473 0; have hcz28_1 : w25.cell? ⟨gb473, 1, none⟩ = some (.int .i64 0) := e_ BK473 1; have hcz28_2 : w25.cell? ⟨gb473, 2, none⟩ = some (.int .i64 0) := e_ BK473 2; have hcz28_3 : w25.cell? ⟨gb473, 3, none⟩ = some (.int .i64 0) := e_ BK473 3; have hcz28_4 : w25.cell? ⟨gb473, 4, none⟩ = some (.int .i64 0) := e_ BK473 4; have hcz28_5 : w25.cell? ⟨gb473, 5, none⟩ = some (.string (⟨#[]⟩ : ByteArray)) := e_ BK473 5; obtain ⟨hfz28_0, hfz28_1, hfz28_2, hfz28_3, hfz28_4, hfz28_5⟩ := z6_ BK473) | ((with_reducible refine gate_callee (f := 26) rfl ?_); refine goesL_ (some 38) rfl rfl Try.func26 (by kernel_rfl) rfl #[.slice A0 l0.length c0] rfl (by (try simp only [m0_, m1_, m2_]); first | done | rfl) ?_; (with_reducible refine (heap_Worst.calls kj2 _ _ l0 t474 t475 _ ?side1 ?side2 A17.out).mono ?_); (case side1 => exact Kd.C_below HR0.out bw_); (case side2 => exact HC0.out); rintro e w29 ⟨rfl, hb⟩; refine ⟨_, rfl, ?_⟩; replace HO454 := A_ (Kd.R_below (by (with_reducible repeat (first | apply ra_ | apply rn_ | apply rd_)); exact (Kd.R_mono (f6_ (g := gb473) (Kd.R_mono HO454.out (fun k_ hk => (⟨hk, hk.2⟩ : _ ∧ k_ ≠ gb473))) (fun _ hk => hk.2) (.int .i64 t466) (.int .i64 t467) (.int .i64 t468) (.int .i64 t469) (.int .i64 t470) (.string t471)) (fun _ h_ => h_.1))) hb); replace HO465 := A_ (Kd.R_below (by (with_reducible repeat (first | apply ra_ | apply rn_ | apply rd_)); exact (Kd.R_mono (f6_ (g := gb473) (Kd.R_mono HO465.out (fun k_ hk => (⟨hk, hk.2⟩ : _ ∧ k_ ≠ gb473))) (fun _ hk => hk.2) (.int .i64 t466) (.int .i64 t467) (.int .i64 t468) (.int .i64 t469) (.int .i64 t470) (.string t471)) (fun _ h_ => h_.1))) hb); replace BK448 := A_ (kb_ BK448 hb); replace BK462 := A_ (kb_ BK462 hb); replace BK473 := A_ (blk_below (g := gb473) (o := .cells #[.int .i64 t466, .int .i64 t467, .int .i64 t468, .int .i64 t469, .int .i64 t470, .string t471] 24 (0, 0)) (by exact pk_ (b6_ BK473.out)) hb); replace HB := A_ (below_step bw_ hb); (try clear hb); (try clear hb2); (try clear hk); (try clear hi)) | ((with_reducible refine gate_callee (f := 27) rfl ?_); refine goesL_ (some 43) rfl rfl Try.func27 (by kernel_rfl) rfl #[.slice A0 l0.length c0] rfl (by (try simp only [m0_, m1_, m2_]); first | done | rfl) ?_; (with_reducible refine (hopperref06_Worst.calls kj2 _ _ l0 t476 t477 _ ?side1 ?side2 A18.out).mono ?_); (case side1 => repeat (first | exact (Kd.C_below HR0.out HB.out) | (with_reducible refine ca_ ?_ _) | (with_reducible refine cn_ ?_ _) | (with_reducible refine cd_ ?_))); (case side2 => exact HC0.out); rintro e w30 ⟨rfl, hb⟩; refine ⟨_, rfl, ?_⟩; replace HO454 := A_ (Kd.R_below (pr_ HO454.out) hb); replace HO465 := A_ (Kd.R_below (pr_ HO465.out) hb); replace BK448 := A_ (kb_ BK448 hb); replace BK462 := A_ (kb_ BK462 hb); replace BK473 := A_ (kb_ BK473 hb); replace HB := A_ (below_step bw_ hb); (try clear hb); (try clear hb2); (try clear hk); (try clear hi)))
     (try simp only [Act.put, s0_, s1_, s2_])
     go_cut [86] (fun v86 wc => ∃ (kq : Nat) (x86_18 : Bool), v86 = .bool x86_18 ∧ Aside0 (hopperlaw06_HeapTells.j1 kq l0 x86_18 = some r) ∧ Aside0 (kq ≤ kj2) ∧ Aside0 (wc.heap[gb448]? = some (.cells #[.int .i64 a1_0, .int .i64 a1_1, .int .i64 a1_2, .int .i64 a1_3, .int .i64 a1_4, .string a1_5] 24 (0, 0))) ∧ Aside0 (wc.heap[gb462]? = some (.cells #[.int .i64 t455, .int .i64 t456, .int .i64 t457, .int .i64 t458, .int .i64 t459, .string t460] 24 (0, 0))) ∧ Aside0 (wc.heap[gb473]? = some (.cells #[.int .i64 t466, .int .i64 t467, .int .i64 t468, .int .i64 t469, .int .i64 t470, .string t471] 24 (0, 0))) ∧ Aside0 (Below w.heap.size w wc))
     case first =>
      have H := HC19.out
      clear HC19
      replace H := Option.bind_eq_some_iff.mp H
      obtain ⟨t478, A310, H⟩ := H
      try dsimp only at H
      have A31 := A_ A310
      clear A310
      replace H := Option.bind_eq_some_iff.mp H
      obtain ⟨t479, A320, H⟩ := H
      try dsimp only at H
      have A32 := A_ A320
      clear A320
      by_cases c33 : (t478 != t479) = true
      · rw [if_pos c33] at H
        exact absurd H (by simp)
      rw [if_neg c33] at H
      have c33b0 : (t478 != t479) = false := by simpa using c33
      (try (have c33b1 : decide (t478 = t479) = true := by simpa using c33))
      (try (have c33b2 : (t478 == t479) = true := by simpa using c33))
      clear c33
      (first | rw [c33b0] | (simp only [i64_w, i32_w]; rw [c33b0]) | skip)
      replace H := Option.bind_eq_some_iff.mp H
      obtain ⟨t480, A340, H⟩ := H
      try dsimp only at H
      have A34 := A_ A340
      clear A340
      replace H := Option.bind_eq_some_iff.mp H
      obtain ⟨t483, A350, H⟩ := H
      try dsimp only at H
      have A35 := A_ A350
      clear A350
      replace H := Option.bind_eq_some_iff.mp H
      obtain ⟨t486, A360, H⟩ := H
      try dsimp only at H
      have A36 := A_ A360
      clear A360
      by_cases c37 : t486 = true
      rotate_left
      · replace c37 := Bool.eq_false_iff.mpr c37
        subst c37
        have H1 : (none) = some r := by rw [if_neg (show ¬ (false = true) by decide)] at H; exact H
        clear H
        have H := H1
        clear H1
        exact absurd H (by simp)
      subst c37
      have H1 : ((hopperref04_Txs.f kj2 t452 t463).bind fun t487 => (if t487 = true then (if (!(t455 == t466) || (!(t456 == t467) || (!(t457 == t468) || (!(t458 == t469) || (!(t459 == t470) || (!(t460.toList == t471.toList))))))) = true then (none) else (if (t461 != t472) = true then (none) else (if t474 = t476 then (hopperlaw06_HeapTells.j1 kj2 l0 (t475 != t477)) else (none)))) else (none))) = some r := by rw [if_pos rfl] at H; exact H
      clear H
      have H := H1
      clear H1
      replace H := Option.bind_eq_some_iff.mp H
      obtain ⟨t487, A380, H⟩ := H
      try dsimp only at H
      have A38 := A_ A380
      clear A380
      by_cases c39 : t487 = true
      rotate_left
      · replace c39 := Bool.eq_false_iff.mpr c39
        subst c39
        have H1 : (none) = some r := by rw [if_neg (show ¬ (false = true) by decide)] at H; exact H
        clear H
        have H := H1
        clear H1
        exact absurd H (by simp)
      subst c39
      have H1 : (if (!(t455 == t466) || (!(t456 == t467) || (!(t457 == t468) || (!(t458 == t469) || (!(t459 == t470) || (!(t460.toList == t471.toList))))))) = true then (none) else (if (t461 != t472) = true then (none) else (if t474 = t476 then (hopperlaw06_HeapTells.j1 kj2 l0 (t475 != t477)) else (none)))) = some r := by rw [if_pos rfl] at H; exact H
      clear H
      have H := H1
      clear H1
      by_cases c40 : (!(t455 == t466) || (!(t456 == t467) || (!(t457 == t468) || (!(t458 == t469) || (!(t459 == t470) || (!(t460.toList == t471.toList))))))) = true
      · rw [if_pos c40] at H
        exact absurd H (by simp)
      rw [if_neg c40] at H
      have c40b0 : (!(t455 == t466) || (!(t456 == t467) || (!(t457 == t468) || (!(t458 == t469) || (!(t459 == t470) || (!(t460.toList == t471.toList))))))) = false := by simpa using c40
      clear c40
      by_cases c41 : (t461 != t472) = true
      · rw [if_pos c41] at H
        exact absurd H (by simp)
      rw [if_neg c41] at H
      have c41b0 : (t461 != t472) = false := by simpa using c41
      (try (have c41b1 : decide (t461 = t472) = true := by simpa using c41))
      (try (have c41b2 : (t461 == t472) = true := by simpa using c41))
      clear c41
      by_cases c42 : t474 = t476
      rotate_left
      · rw [if_neg c42] at H
        exact absurd H (by simp)
      rw [if_pos c42] at H
      have c42b0 : (t474 == t476) = true := beq_iff_eq.mpr c42
      have c42b1 : (t474 != t476) = false := bne_eq_false_iff_eq.mpr c42
      clear c42
      have H' := A_ H
      clear H
      try go_wp2
      have n0_ := A_ (rd_ HO454.out); have n1_ := A_ (rd_ HO465.out); have n2_ := A_ (bd_ BK448.out); have n3_ := A_ (bd_ BK462.out); have n4_ := A_ (bd_ BK473.out); have n5_ := A_ (wd_ HB.out); replace HO454 := n0_; replace HO465 := n1_; replace BK448 := n2_; replace BK462 := n3_; replace BK473 := n4_; replace HB := n5_; clear n0_ n1_ n2_ n3_ n4_ n5_
      refine start_ (n := 41) (S := fun w' => w'.cell? ⟨gb448, 0, none⟩ = some (.int .i64 a1_0) ∧ w'.cell? ⟨gb448, 1, none⟩ = some (.int .i64 a1_1) ∧ w'.cell? ⟨gb448, 2, none⟩ = some (.int .i64 a1_2) ∧ w'.cell? ⟨gb448, 3, none⟩ = some (.int .i64 a1_3) ∧ w'.cell? ⟨gb448, 4, none⟩ = some (.int .i64 a1_4) ∧ w'.cell? ⟨gb448, 5, none⟩ = some (.string a1_5) ∧ w'.cell? ⟨gb462, 0, none⟩ = some (.int .i64 t455) ∧ w'.cell? ⟨gb462, 1, none⟩ = some (.int .i64 t456) ∧ w'.cell? ⟨gb462, 2, none⟩ = some (.int .i64 t457) ∧ w'.cell? ⟨gb462, 3, none⟩ = some (.int .i64 t458) ∧ w'.cell? ⟨gb462, 4, none⟩ = some (.int .i64 t459) ∧ w'.cell? ⟨gb462, 5, none⟩ = some (.string t460) ∧ w'.cell? ⟨gb473, 0, none⟩ = some (.int .i64 t466) ∧ w'.cell? ⟨gb473, 1, none⟩ = some (.int .i64 t467) ∧ w'.cell? ⟨gb473, 2, none⟩ = some (.int .i64 t468) ∧ w'.cell? ⟨gb473, 3, none⟩ = some (.int .i64 t469) ∧ w'.cell? ⟨gb473, 4, none⟩ = some (.int .i64 t470) ∧ w'.cell? ⟨gb473, 5, none⟩ = some (.string t471)) (ds := []) #[F,F,F,F,F,F,F,F,F,F,F,F,F,F,F,F,F,F,F,F,F,F,F,F,F,F,F,F,F,F,F,F,F,F,F,F,F,F,F,F,F] (by kernel_rfl) rfl rfl ⟨e_ BK448 0, e_ BK448 1, e_ BK448 2, e_ BK448 3, e_ BK448 4, e_ BK448 5, e_ BK462 0, e_ BK462 1, e_ BK462 2, e_ BK462 3, e_ BK462 4, e_ BK462 5, e_ BK473 0, e_ BK473 1, e_ BK473 2, e_ BK473 3, e_ BK473 4, e_ BK473 5⟩ (fun hHeld => ?_); refine with_tabW hopperlaw06_HeapTells.tab7 hopperlaw06_HeapTells.bits7 (fun HT_ HW_ => ?_)
      generalize w30.drew = w43 at HO454 HO465 BK448 BK462 BK473 HB hHeld ⊢
      refine pq_ 0 46 HT_ ?_
      refine pq_ 2 48 HT_ ?_
      refine one_ (i := 1) (N := some 47) #[T,T,T,F,F,F,F,F,F,F,F,F,F,F,F,F,F,F,F,F,F,F,F,F,F,F,F,F,F,F,F,F,F,F,F,F,F,F,F,F,F] rfl rfl (one_of HT_.out (by kernel_rfl)) (by decide) (fun K hK => ?_)
      refine goes_ Try.func28 (by kernel_rfl) rfl #[.slice A0 l0.length c0] (by rfl) rfl rfl (by (try simp only [m0_, m1_, m2_]); first | done | rfl) ?_
      with_reducible refine (heap_Check.calls kj2 _ _ l0 t478 _ ?side1 ?side2 A31.out).mono ?_
      (case side1 => repeat (first | exact (Kd.C_below HR0.out HB.out) | (with_reducible refine ca_ ?_ _) | (with_reducible refine cn_ ?_ _) | (with_reducible refine cd_ ?_)))
      (case side2 => exact HC0.out)
      rintro e w44 ⟨rfl, hb⟩
      refine ⟨_, rfl, ?_⟩
      have n0_ := A_ (Kd.R_below (pr_ HO454.out) hb); have n1_ := A_ (Kd.R_below (pr_ HO465.out) hb); have n2_ := A_ (kb_ BK448 hb); have n3_ := A_ (kb_ BK462 hb); have n4_ := A_ (kb_ BK473 hb); have n5_ := A_ (below_step bw_ hb); replace HO454 := n0_; replace HO465 := n1_; replace BK448 := n2_; replace BK462 := n3_; replace BK473 := n4_; replace HB := n5_; clear n0_ n1_ n2_ n3_ n4_ n5_
      (try clear hb)
      (try clear hb2)
      (try clear hk)
      (try clear hi)
      refine hK.out _ _ ⟨e_ BK448 0, e_ BK448 1, e_ BK448 2, e_ BK448 3, e_ BK448 4, e_ BK448 5, e_ BK462 0, e_ BK462 1, e_ BK462 2, e_ BK462 3, e_ BK462 4, e_ BK462 5, e_ BK473 0, e_ BK473 1, e_ BK473 2, e_ BK473 3, e_ BK473 4, e_ BK473 5⟩ (fun hHeld => ?_)
      clear hK K
      refine norm_ (a' := ?_) ?_ ?_
      rotate_left
      · show Act.put _ (some 47) _ = _
        simp only [Act.put, s0_, s1_, s2_, i64_w, i32_w]
        rfl
      refine one_ (i := 3) (N := some 49) #[T,T,T,T,F,F,F,F,F,F,F,F,F,F,F,F,F,F,F,F,F,F,F,F,F,F,F,F,F,F,F,F,F,F,F,F,F,F,F,F,F] rfl rfl (one_of HT_.out (by kernel_rfl)) (by decide) (fun K hK => ?_)
      refine goes_ Try.func29 (by kernel_rfl) rfl #[.slice A0 l0.length c0] (by rfl) rfl rfl (by (try simp only [m0_, m1_, m2_]); first | done | rfl) ?_
      with_reducible refine (hopperref06_Check.calls kj2 _ _ l0 t479 _ ?side1 ?side2 A32.out).mono ?_
      (case side1 => repeat (first | exact (Kd.C_below HR0.out HB.out) | (with_reducible refine ca_ ?_ _) | (with_reducible refine cn_ ?_ _) | (with_reducible refine cd_ ?_)))
      (case side2 => exact HC0.out)
      rintro e w45 ⟨rfl, hb⟩
      refine ⟨_, rfl, ?_⟩
      have n0_ := A_ (Kd.R_below (pr_ HO454.out) hb); have n1_ := A_ (Kd.R_below (pr_ HO465.out) hb); have n2_ := A_ (kb_ BK448 hb); have n3_ := A_ (kb_ BK462 hb); have n4_ := A_ (kb_ BK473 hb); have n5_ := A_ (below_step bw_ hb); replace HO454 := n0_; replace HO465 := n1_; replace BK448 := n2_; replace BK462 := n3_; replace BK473 := n4_; replace HB := n5_; clear n0_ n1_ n2_ n3_ n4_ n5_
      (try clear hb)
      (try clear hb2)
      (try clear hk)
      (try clear hi)
      refine hK.out _ _ ⟨e_ BK448 0, e_ BK448 1, e_ BK448 2, e_ BK448 3, e_ BK448 4, e_ BK448 5, e_ BK462 0, e_ BK462 1, e_ BK462 2, e_ BK462 3, e_ BK462 4, e_ BK462 5, e_ BK473 0, e_ BK473 1, e_ BK473 2, e_ BK473 3, e_ BK473 4, e_ BK473 5⟩ (fun hHeld => ?_)
      clear hK K
      refine norm_ (a' := ?_) ?_ ?_
      rotate_left
      · show Act.put _ (some 49) _ = _
        simp only [Act.put, s0_, s1_, s2_, i64_w, i32_w]
        rfl
      refine pq_ 4 50 HT_ ?_
      refine pq_ 5 51 HT_ ?_
      refine pq_ 6 52 HT_ ?_
      refine pq_ 9 55 HT_ ?_
      refine tk_ 7 53 HT_ HW_ hHeld ?_
      refine tk_ 10 56 HT_ HW_ hHeld ?_
      refine one_ (i := 8) (N := some 54) #[T,T,T,T,T,T,T,T,T,T,T,F,F,F,F,F,F,F,F,F,F,F,F,F,F,F,F,F,F,F,F,F,F,F,F,F,F,F,F,F,F] rfl rfl (one_of HT_.out (by kernel_rfl)) (by decide) (fun K hK => ?_)
      refine goes_ Try.func31 (by kernel_rfl) rfl #[.slice A0 l0.length c0, .agg #[.int .i64 a1_0, .int .i64 a1_1, .int .i64 a1_2, .int .i64 a1_3, .int .i64 a1_4, .string a1_5]] (by rfl) rfl rfl (by (try simp only [m0_, m1_, m2_]); first | done | rfl) ?_
      with_reducible refine (heap_Push.calls _ _ l0 a1_0 a1_1 a1_2 a1_3 a1_4 a1_5 t480 _ ?side1 ?side2 A34.out).mono ?_
      (case side1 => repeat (first | exact (Kd.C_below HR0.out HB.out) | (with_reducible refine ca_ ?_ _) | (with_reducible refine cn_ ?_ _) | (with_reducible refine cd_ ?_)))
      (case side2 => exact HC0.out)
      rintro e w46 ⟨v481, rfl, ho0, hb⟩
      refine ⟨_, rfl, ?_⟩
      have n0_ := A_ (Kd.R_elder' (pr_ HO454.out) (Kd.R_base ho0) hb); have n1_ := A_ (Kd.R_elder' (pr_ HO465.out) (Kd.R_base ho0) hb); have n2_ := A_ (Kd.R_lower (Kd.R_newB (Kd.R_newB (Kd.R_newB (Kd.R_new' (Kd.R_new' ho0 (Kd.R_lt (pr_ HO454.out))) (Kd.R_lt (pr_ HO465.out))) (g := gb448) (o := .cells #[.int .i64 a1_0, .int .i64 a1_1, .int .i64 a1_2, .int .i64 a1_3, .int .i64 a1_4, .string a1_5] 24 (0, 0)) (by (with_reducible repeat (first | refine bn_ ?_ _ | refine bd_ ?_ | refine ba_ ?_ _)); exact BK448.out)) (g := gb462) (o := .cells #[.int .i64 t455, .int .i64 t456, .int .i64 t457, .int .i64 t458, .int .i64 t459, .string t460] 24 (0, 0)) (by (with_reducible repeat (first | refine bn_ ?_ _ | refine bd_ ?_ | refine ba_ ?_ _)); exact BK462.out)) (g := gb473) (o := .cells #[.int .i64 t466, .int .i64 t467, .int .i64 t468, .int .i64 t469, .int .i64 t470, .string t471] 24 (0, 0)) (by (with_reducible repeat (first | refine bn_ ?_ _ | refine bd_ ?_ | refine ba_ ?_ _)); exact BK473.out)) (below_size bw_)); have n3_ := A_ (kb_ BK448 hb); have n4_ := A_ (kb_ BK462 hb); have n5_ := A_ (kb_ BK473 hb); have n6_ := A_ (below_step bw_ hb); replace HO454 := n0_; replace HO465 := n1_; have HO482 := n2_; replace BK448 := n3_; replace BK462 := n4_; replace BK473 := n5_; replace HB := n6_; clear n0_ n1_ n2_ n3_ n4_ n5_ n6_
      (try clear hb)
      (try clear hb2)
      (try clear hk)
      (try clear hi)
      (try clear ho0)
      refine hK.out _ _ ⟨e_ BK448 0, e_ BK448 1, e_ BK448 2, e_ BK448 3, e_ BK448 4, e_ BK448 5, e_ BK462 0, e_ BK462 1, e_ BK462 2, e_ BK462 3, e_ BK462 4, e_ BK462 5, e_ BK473 0, e_ BK473 1, e_ BK473 2, e_ BK473 3, e_ BK473 4, e_ BK473 5⟩ (fun hHeld => ?_)
      clear hK K
      refine norm_ (a' := ?_) ?_ ?_
      rotate_left
      · show Act.put _ (some 54) _ = _
        simp only [Act.put, s0_, s1_, s2_, i64_w, i32_w]
        rfl
      refine one_ (i := 11) (N := some 57) #[T,T,T,T,T,T,T,T,T,T,T,T,F,F,F,F,F,F,F,F,F,F,F,F,F,F,F,F,F,F,F,F,F,F,F,F,F,F,F,F,F] rfl rfl (one_of HT_.out (by kernel_rfl)) (by decide) (fun K hK => ?_)
      refine goes_ Try.func32 (by kernel_rfl) rfl #[.slice A0 l0.length c0, .agg #[.int .i64 a1_0, .int .i64 a1_1, .int .i64 a1_2, .int .i64 a1_3, .int .i64 a1_4, .string a1_5]] (by rfl) rfl rfl (by (try simp only [m0_, m1_, m2_]); first | done | rfl) ?_
      with_reducible refine (hopperref06_Push.calls kj2 _ _ l0 a1_0 a1_1 a1_2 a1_3 a1_4 a1_5 t483 _ ?side1 ?side2 A35.out).mono ?_
      (case side1 => repeat (first | exact (Kd.C_below HR0.out HB.out) | (with_reducible refine ca_ ?_ _) | (with_reducible refine cn_ ?_ _) | (with_reducible refine cd_ ?_)))
      (case side2 => exact HC0.out)
      rintro e w47 ⟨v484, rfl, ho0, hb⟩
      refine ⟨_, rfl, ?_⟩
      have n0_ := A_ (Kd.R_elder' (pr_ HO454.out) (Kd.R_base ho0) hb); have n1_ := A_ (Kd.R_elder' (pr_ HO465.out) (Kd.R_base ho0) hb); have n2_ := A_ (Kd.R_elder' (pr_ HO482.out) (Kd.R_base ho0) hb); have n3_ := A_ (Kd.R_lower (Kd.R_newB (Kd.R_newB (Kd.R_newB (Kd.R_new' (Kd.R_new' (Kd.R_new' ho0 (Kd.R_lt (pr_ HO454.out))) (Kd.R_lt (pr_ HO465.out))) (Kd.R_lt (pr_ HO482.out))) (g := gb448) (o := .cells #[.int .i64 a1_0, .int .i64 a1_1, .int .i64 a1_2, .int .i64 a1_3, .int .i64 a1_4, .string a1_5] 24 (0, 0)) (by (with_reducible repeat (first | refine bn_ ?_ _ | refine bd_ ?_ | refine ba_ ?_ _)); exact BK448.out)) (g := gb462) (o := .cells #[.int .i64 t455, .int .i64 t456, .int .i64 t457, .int .i64 t458, .int .i64 t459, .string t460] 24 (0, 0)) (by (with_reducible repeat (first | refine bn_ ?_ _ | refine bd_ ?_ | refine ba_ ?_ _)); exact BK462.out)) (g := gb473) (o := .cells #[.int .i64 t466, .int .i64 t467, .int .i64 t468, .int .i64 t469, .int .i64 t470, .string t471] 24 (0, 0)) (by (with_reducible repeat (first | refine bn_ ?_ _ | refine bd_ ?_ | refine ba_ ?_ _)); exact BK473.out)) (below_size bw_)); have n4_ := A_ (kb_ BK448 hb); have n5_ := A_ (kb_ BK462 hb); have n6_ := A_ (kb_ BK473 hb); have n7_ := A_ (below_step bw_ hb); replace HO454 := n0_; replace HO465 := n1_; replace HO482 := n2_; have HO485 := n3_; replace BK448 := n4_; replace BK462 := n5_; replace BK473 := n6_; replace HB := n7_; clear n0_ n1_ n2_ n3_ n4_ n5_ n6_ n7_
      (try clear hb)
      (try clear hb2)
      (try clear hk)
      (try clear hi)
      (try clear ho0)
      obtain ⟨Ao48, co48, eo48⟩ := Kd.R_slice HO482.out
      (first | subst eo48 | (injection eo48 with f1_ f2_ f3_; have f4_ := f1_.symm; have f5_ := f3_.symm; clear f1_ f2_ f3_; subst f4_; subst f5_))
      obtain ⟨Ao49, co49, eo49⟩ := Kd.R_slice HO485.out
      (first | subst eo49 | (injection eo49 with f1_ f2_ f3_; have f4_ := f1_.symm; have f5_ := f3_.symm; clear f1_ f2_ f3_; subst f4_; subst f5_))
      refine hK.out _ _ ⟨e_ BK448 0, e_ BK448 1, e_ BK448 2, e_ BK448 3, e_ BK448 4, e_ BK448 5, e_ BK462 0, e_ BK462 1, e_ BK462 2, e_ BK462 3, e_ BK462 4, e_ BK462 5, e_ BK473 0, e_ BK473 1, e_ BK473 2, e_ BK473 3, e_ BK473 4, e_ BK473 5⟩ (fun hHeld => ?_)
      clear hK K
      refine norm_ (a' := ?_) ?_ ?_
      rotate_left
      · show Act.put _ (some 57) _ = _
        simp only [Act.put, s0_, s1_, s2_, i64_w, i32_w]
        rfl
      refine one_ (i := 12) (N := some 58) #[T,T,T,T,T,T,T,T,T,T,T,T,T,F,F,F,F,F,F,F,F,F,F,F,F,F,F,F,F,F,F,F,F,F,F,F,F,F,F,F,F] rfl rfl (one_of HT_.out (by kernel_rfl)) (by decide) (fun K hK => ?_)
      refine goes_ Try.func30 (by kernel_rfl) rfl #[.slice Ao48 t480.length co48, .slice Ao49 t483.length co49] (by rfl) rfl rfl (by (try simp only [m0_, m1_, m2_]); first | done | rfl) ?_
      with_reducible refine (hopperref04_Txs.calls kj2 _ _ t480 _ _ t483 true _ ?side1 ?side2 ?side3 ?side4 A36.out).mono ?_
      (case side1 => repeat (first | exact (Kd.R_reads' HO482.out).2.2 | (with_reducible refine ca_ ?_ _) | (with_reducible refine cn_ ?_ _) | (with_reducible refine cd_ ?_)))
      (case side2 => exact (Kd.R_reads' HO482.out).2.1)
      (case side3 => repeat (first | exact (Kd.R_reads' HO485.out).2.2 | (with_reducible refine ca_ ?_ _) | (with_reducible refine cn_ ?_ _) | (with_reducible refine cd_ ?_)))
      (case side4 => exact (Kd.R_reads' HO485.out).2.1)
      rintro e w' ⟨rfl, ⟨nd, rfl⟩⟩
      refine ⟨_, rfl, ?_⟩
      obtain ⟨Ao50, co50, eo50⟩ := Kd.R_slice HO454.out
      (first | subst eo50 | (injection eo50 with f1_ f2_ f3_; have f4_ := f1_.symm; have f5_ := f3_.symm; clear f1_ f2_ f3_; subst f4_; subst f5_))
      obtain ⟨Ao51, co51, eo51⟩ := Kd.R_slice HO465.out
      (first | subst eo51 | (injection eo51 with f1_ f2_ f3_; have f4_ := f1_.symm; have f5_ := f3_.symm; clear f1_ f2_ f3_; subst f4_; subst f5_))
      refine hK.out _ _ ⟨e_ BK448 0, e_ BK448 1, e_ BK448 2, e_ BK448 3, e_ BK448 4, e_ BK448 5, e_ BK462 0, e_ BK462 1, e_ BK462 2, e_ BK462 3, e_ BK462 4, e_ BK462 5, e_ BK473 0, e_ BK473 1, e_ BK473 2, e_ BK473 3, e_ BK473 4, e_ BK473 5⟩ (fun hHeld => ?_)
      clear hK K
      refine norm_ (a' := ?_) ?_ ?_
      rotate_left
      · show Act.put _ (some 58) _ = _
        simp only [Act.put, s0_, s1_, s2_, i64_w, i32_w]
        rfl
      refine pq_ 13 59 HT_ ?_
      refine pq_ 14 60 HT_ ?_
      refine pq_ 15 61 HT_ ?_
      refine pq_ 16 62 HT_ ?_
      refine pq_ 17 63 HT_ ?_
      refine one_ (i := 18) (N := some 64) #[T,T,T,T,T,T,T,T,T,T,T,T,T,T,T,T,T,T,T,F,F,F,F,F,F,F,F,F,F,F,F,F,F,F,F,F,F,F,F,F,F] rfl rfl (one_of HT_.out (by kernel_rfl)) (by decide) (fun K hK => ?_)
      refine goes_ Try.func30 (by kernel_rfl) rfl #[.slice Ao50 t452.length co50, .slice Ao51 t463.length co51] (by rfl) rfl rfl (by (try simp only [m0_, m1_, m2_]); first | done | rfl) ?_
      with_reducible refine (hopperref04_Txs.calls kj2 _ _ t452 _ _ t463 true _ ?side1 ?side2 ?side3 ?side4 A38.out).mono ?_
      (case side1 => repeat (first | exact (Kd.R_reads' HO454.out).2.2 | (with_reducible refine ca_ ?_ _) | (with_reducible refine cn_ ?_ _) | (with_reducible refine cd_ ?_)))
      (case side2 => exact (Kd.R_reads' HO454.out).2.1)
      (case side3 => repeat (first | exact (Kd.R_reads' HO465.out).2.2 | (with_reducible refine ca_ ?_ _) | (with_reducible refine cn_ ?_ _) | (with_reducible refine cd_ ?_)))
      (case side4 => exact (Kd.R_reads' HO465.out).2.1)
      rintro e w' ⟨rfl, ⟨nd, rfl⟩⟩
      refine ⟨_, rfl, ?_⟩
      refine hK.out _ _ ⟨e_ BK448 0, e_ BK448 1, e_ BK448 2, e_ BK448 3, e_ BK448 4, e_ BK448 5, e_ BK462 0, e_ BK462 1, e_ BK462 2, e_ BK462 3, e_ BK462 4, e_ BK462 5, e_ BK473 0, e_ BK473 1, e_ BK473 2, e_ BK473 3, e_ BK473 4, e_ BK473 5⟩ (fun hHeld => ?_)
      clear hK K
      refine norm_ (a' := ?_) ?_ ?_
      rotate_left
      · show Act.put _ (some 64) _ = _
        simp only [Act.put, s0_, s1_, s2_, i64_w, i32_w]
        rfl
      refine pq_ 19 65 HT_ ?_
      refine pq_ 20 66 HT_ ?_
      refine pq_ 21 67 HT_ ?_
      refine tk_ 22 68 HT_ HW_ hHeld ?_
      refine tk_ 23 69 HT_ HW_ hHeld ?_
      refine pq_ 24 70 HT_ ?_
      refine pq_ 25 71 HT_ ?_
      refine pq_ 26 72 HT_ ?_
      refine pq_ 27 73 HT_ ?_
      refine pq_ 28 74 HT_ ?_
      refine pq_ 29 75 HT_ ?_
      refine pq_ 30 76 HT_ ?_
      refine pq_ 31 77 HT_ ?_
      refine pq_ 32 78 HT_ ?_
      refine pq_ 33 79 HT_ ?_
      refine pq_ 34 80 HT_ ?_
      refine pq_ 35 81 HT_ ?_
      refine pq_ 36 82 HT_ ?_
      refine pq_ 37 83 HT_ ?_
      refine pq_ 38 84 HT_ ?_
      refine pq_ 39 85 HT_ ?_
      refine pq_ 40 86 HT_ ?_
      refine done_ (done_of HT_.out (by kernel_rfl)) ?_
      try go_wp2
      go_meet
      case rel => exact ⟨_, ((t475 != t477)), (by first | rfl | (simp; done) | (simp [*]; done)), H', ⟨by have := HJ2.out; first | omega | exact Nat.le_refl _⟩, ⟨bk_⟩, ⟨bk_⟩, ⟨bk_⟩, ⟨by repeat (first | (with_reducible first | exact HB.out | apply wa_ | apply wn_ | apply wd_ | refine ws_ ?_ GE448.out | refine ws_ ?_ GE462.out | refine ws_ ?_ GE473.out) | exact HB.out)⟩⟩
     case rest =>
      clear HC19; (try clear c2); (try clear p2); (try clear c3); (try clear c4); (try clear c22); (try clear c24); (try clear c25); (try clear c26); (try clear c27); (try clear c28); (try clear c29); (try clear c30); (try clear c31); (try clear c32); (try clear c33); (try clear c33b0); (try clear c33b1); (try clear c33b2); (try clear c37); (try clear c39); (try clear c40); (try clear c40b0); (try clear c41); (try clear c41b0); (try clear c41b1); (try clear c41b2); (try clear c42); (try clear c42b0); (try clear c42b1); (try clear hcz23_0 hcz23_1 hcz23_2 hcz23_3 hcz23_4 hcz23_5); (try clear hcz28_0 hcz28_1 hcz28_2 hcz28_3 hcz28_4 hcz28_5); (try clear hfz23_0 hfz23_1 hfz23_2 hfz23_3 hfz23_4 hfz23_5); (try clear hfz28_0 hfz28_1 hfz28_2 hfz28_3 hfz28_4 hfz28_5)
      obtain ⟨kq, x86_18, rfl, HA, HJ18, BK448, BK462, BK473, HB⟩ := hcut
      cases kq with
      | zero => exact absurd HA.out (by simp [hopperlaw06_HeapTells.j1])
      | succ kj18 =>
       have H := HA.out
       clear HA
       simp only [hopperlaw06_HeapTells.j1] at H
       by_cases c52 : x86_18 = true
       · subst c52
         have H1 : (none) = some r := by rw [if_pos rfl] at H; exact H
         clear H
         have H := H1
         clear H1
         exact absurd H (by simp)
       replace c52 := Bool.eq_false_iff.mpr c52
       subst c52
       have H1 : ((heap_Make.f kj18 l0).bind fun t488 => ((hopperref06_Make.f kj18 l0).bind fun t491 => ((hopperref04_Txs.f kj18 t488 t491).bind fun t494 => (if t494 = true then ((heap_Order.f l0).bind fun t495 => ((hopperref06_Order.f kj18 l0).bind fun t498 => ((hopperref04_Txs.f kj18 t495 t498).bind fun t501 => (if t501 = true then ((hopperlaw06_live.f kj18).bind fun t502 => (some t502)) else (none))))) else (none))))) = some r := by rw [if_neg (show ¬ (false = true) by decide)] at H; exact H
       clear H
       have H := H1
       clear H1
       replace H := Option.bind_eq_some_iff.mp H
       obtain ⟨t488, A530, H⟩ := H
       try dsimp only at H
       have A53 := A_ A530
       clear A530
       replace H := Option.bind_eq_some_iff.mp H
       obtain ⟨t491, A540, H⟩ := H
       try dsimp only at H
       have A54 := A_ A540
       clear A540
       replace H := Option.bind_eq_some_iff.mp H
       obtain ⟨t494, A550, H⟩ := H
       try dsimp only at H
       have A55 := A_ A550
       clear A550
       by_cases c56 : t494 = true
       rotate_left
       · replace c56 := Bool.eq_false_iff.mpr c56
         subst c56
         have H1 : (none) = some r := by rw [if_neg (show ¬ (false = true) by decide)] at H; exact H
         clear H
         have H := H1
         clear H1
         exact absurd H (by simp)

       subst c56
       have H1 : ((heap_Order.f l0).bind fun t495 => ((hopperref06_Order.f kj18 l0).bind fun t498 => ((hopperref04_Txs.f kj18 t495 t498).bind fun t501 => (if t501 = true then ((hopperlaw06_live.f kj18).bind fun t502 => (some t502)) else (none))))) = some r := by rw [if_pos rfl] at H; exact H
       clear H
       have H := H1
       clear H1
       replace H := Option.bind_eq_some_iff.mp H
       obtain ⟨t495, A570, H⟩ := H
       try dsimp only at H
       have A57 := A_ A570
       clear A570
       replace H := Option.bind_eq_some_iff.mp H
       obtain ⟨t498, A580, H⟩ := H
       try dsimp only at H
       have A58 := A_ A580
       clear A580
       replace H := Option.bind_eq_some_iff.mp H
       obtain ⟨t501, A590, H⟩ := H
       try dsimp only at H
       have A59 := A_ A590
       clear A590
       by_cases c60 : t501 = true
       rotate_left
       · replace c60 := Bool.eq_false_iff.mpr c60
         subst c60
         have H1 : (none) = some r := by rw [if_neg (show ¬ (false = true) by decide)] at H; exact H
         clear H
         have H := H1
         clear H1
         exact absurd H (by simp)
       subst c60
       have H1 : ((hopperlaw06_live.f kj18).bind fun t502 => (some t502)) = some r := by rw [if_pos rfl] at H; exact H
       clear H
       have H := H1
       clear H1
       replace H := Option.bind_eq_some_iff.mp H
       obtain ⟨t502, A610, H⟩ := H
       replace H : (some t502) = some r := H
       have A61 := A_ A610
       clear A610
       obtain rfl := Option.some.inj H
       go_wp2_with (first | ((with_reducible refine gate_callee (f := 33) rfl ?_); refine goesL_ (some 88) rfl rfl Try.func33 (by kernel_rfl) rfl #[.slice A0 l0.length c0] rfl (by (try simp only [m0_, m1_, m2_]); first | done | rfl) ?_; (with_reducible refine (heap_Make.calls kj18 _ _ l0 t488 _ ?side1 ?side2 A53.out).mono ?_); (case side1 => repeat (first | exact (Kd.C_below HR0.out HB.out) | (with_reducible refine ca_ ?_ _) | (with_reducible refine cn_ ?_ _) | (with_reducible refine cd_ ?_))); (case side2 => exact HC0.out); rintro e w62 ⟨v489, rfl, ho0, hb⟩; refine ⟨_, rfl, ?_⟩; have HO490 := A_ (Kd.R_lower (Kd.R_newB (Kd.R_newB (Kd.R_newB ho0 (g := gb448) (o := .cells #[.int .i64 a1_0, .int .i64 a1_1, .int .i64 a1_2, .int .i64 a1_3, .int .i64 a1_4, .string a1_5] 24 (0, 0)) (by (with_reducible repeat (first | refine bn_ ?_ _ | refine bd_ ?_ | refine ba_ ?_ _)); exact BK448.out)) (g := gb462) (o := .cells #[.int .i64 t455, .int .i64 t456, .int .i64 t457, .int .i64 t458, .int .i64 t459, .string t460] 24 (0, 0)) (by (with_reducible repeat (first | refine bn_ ?_ _ | refine bd_ ?_ | refine ba_ ?_ _)); exact BK462.out)) (g := gb473) (o := .cells #[.int .i64 t466, .int .i64 t467, .int .i64 t468, .int .i64 t469, .int .i64 t470, .string t471] 24 (0, 0)) (by (with_reducible repeat (first | refine bn_ ?_ _ | refine bd_ ?_ | refine ba_ ?_ _)); exact BK473.out)) (below_size bw_)); replace BK448 := A_ (kb_ BK448 hb); replace BK462 := A_ (kb_ BK462 hb); replace BK473 := A_ (kb_ BK473 hb); replace HB := A_ (below_step bw_ hb); (try clear hb); (try clear hb2); (try clear hk); (try clear hi); (try clear ho0)) | ((with_reducible refine gate_callee (f := 34) rfl ?_); refine goesL_ (some 90) rfl rfl Try.func34 (by kernel_rfl) rfl #[.slice A0 l0.length c0] rfl (by (try simp only [m0_, m1_, m2_]); first | done | rfl) ?_; (with_reducible refine (hopperref06_Make.calls kj18 _ _ l0 t491 _ ?side1 ?side2 A54.out).mono ?_); (case side1 => repeat (first | exact (Kd.C_below HR0.out HB.out) | (with_reducible refine ca_ ?_ _) | (with_reducible refine cn_ ?_ _) | (with_reducible refine cd_ ?_))); (case side2 => exact HC0.out); rintro e w63 ⟨v492, rfl, ho0, hb⟩; refine ⟨_, rfl, ?_⟩; have n0_ := A_ (Kd.R_elder' (pr_ HO490.out) (Kd.R_base ho0) hb); have n1_ := A_ (Kd.R_lower (Kd.R_newB (Kd.R_newB (Kd.R_newB (Kd.R_new' ho0 (Kd.R_lt (pr_ HO490.out))) (g := gb448) (o := .cells #[.int .i64 a1_0, .int .i64 a1_1, .int .i64 a1_2, .int .i64 a1_3, .int .i64 a1_4, .string a1_5] 24 (0, 0)) (by (with_reducible repeat (first | refine bn_ ?_ _ | refine bd_ ?_ | refine ba_ ?_ _)); exact BK448.out)) (g := gb462) (o := .cells #[.int .i64 t455, .int .i64 t456, .int .i64 t457, .int .i64 t458, .int .i64 t459, .string t460] 24 (0, 0)) (by (with_reducible repeat (first | refine bn_ ?_ _ | refine bd_ ?_ | refine ba_ ?_ _)); exact BK462.out)) (g := gb473) (o := .cells #[.int .i64 t466, .int .i64 t467, .int .i64 t468, .int .i64 t469, .int .i64 t470, .string t471] 24 (0, 0)) (by (with_reducible repeat (first | refine bn_ ?_ _ | refine bd_ ?_ | refine ba_ ?_ _)); exact BK473.out)) (below_size bw_)); have n2_ := A_ (kb_ BK448 hb); have n3_ := A_ (kb_ BK462 hb); have n4_ := A_ (kb_ BK473 hb); have n5_ := A_ (below_step bw_ hb); replace HO490 := n0_; have HO493 := n1_; replace BK448 := n2_; replace BK462 := n3_; replace BK473 := n4_; replace HB := n5_; clear n0_ n1_ n2_ n3_ n4_ n5_; (try clear hb); (try clear hb2); (try clear hk); (try clear hi); (try clear ho0); obtain ⟨Ao64, co64, eo64⟩ := Kd.R_slice HO490.out; subst eo64; obtain ⟨Ao65, co65, eo65⟩ := Kd.R_slice HO493.out; subst eo65) | ((with_reducible refine gate_callee (f := 30) rfl ?_); refine goesL_ (some 91) rfl rfl Try.func30 (by kernel_rfl) rfl #[.slice Ao64 t488.length co64, .slice Ao65 t491.length co65] rfl (by (try simp only [m0_, m1_, m2_]); first | done | rfl) ?_; (with_reducible refine (hopperref04_Txs.calls kj18 _ _ t488 _ _ t491 true _ ?side1 ?side2 ?side3 ?side4 A55.out).mono ?_); (case side1 => repeat (first | exact (Kd.R_reads' HO490.out).2.2 | (with_reducible refine ca_ ?_ _) | (with_reducible refine cn_ ?_ _) | (with_reducible refine cd_ ?_))); (case side2 => exact (Kd.R_reads' HO490.out).2.1); (case side3 => repeat (first | exact (Kd.R_reads' HO493.out).2.2 | (with_reducible refine ca_ ?_ _) | (with_reducible refine cn_ ?_ _) | (with_reducible refine cd_ ?_))); (case side4 => exact (Kd.R_reads' HO493.out).2.1); rintro e w' ⟨rfl, ⟨nd, rfl⟩⟩; refine ⟨_, rfl, ?_⟩) | (go_at_call 35; (with_reducible refine (heap_Order.calls _ _ l0 t495 _ ?side1 ?side2 A57.out).mono ?_); (case side1 => repeat (first | exact (Kd.C_below HR0.out bw_) | (with_reducible refine ca_ ?_ _) | (with_reducible refine cn_ ?_ _) | (with_reducible refine cd_ ?_))); (case side2 => exact HC0.out); rintro e w66 ⟨v496, rfl, ho0, hb⟩; have n0_ := A_ (Kd.R_elder' (pr_ HO490.out) (Kd.R_base ho0) hb); have n1_ := A_ (Kd.R_elder' (pr_ HO493.out) (Kd.R_base ho0) hb); have n2_ := A_ (Kd.R_lower (Kd.R_newB (Kd.R_newB (Kd.R_newB (Kd.R_new' (Kd.R_new' ho0 (Kd.R_lt (pr_ HO490.out))) (Kd.R_lt (pr_ HO493.out))) (g := gb448) (o := .cells #[.int .i64 a1_0, .int .i64 a1_1, .int .i64 a1_2, .int .i64 a1_3, .int .i64 a1_4, .string a1_5] 24 (0, 0)) (by (with_reducible repeat (first | refine bn_ ?_ _ | refine bd_ ?_ | refine ba_ ?_ _)); exact BK448.out)) (g := gb462) (o := .cells #[.int .i64 t455, .int .i64 t456, .int .i64 t457, .int .i64 t458, .int .i64 t459, .string t460] 24 (0, 0)) (by (with_reducible repeat (first | refine bn_ ?_ _ | refine bd_ ?_ | refine ba_ ?_ _)); exact BK462.out)) (g := gb473) (o := .cells #[.int .i64 t466, .int .i64 t467, .int .i64 t468, .int .i64 t469, .int .i64 t470, .string t471] 24 (0, 0)) (by (with_reducible repeat (first | refine bn_ ?_ _ | refine bd_ ?_ | refine ba_ ?_ _)); exact BK473.out)) (below_size bw_)); have n3_ := A_ (kb_ BK448 hb); have n4_ := A_ (kb_ BK462 hb); have n5_ := A_ (kb_ BK473 hb); have n6_ := A_ (below_step bw_ hb); replace HO490 := n0_; replace HO493 := n1_; have HO497 := n2_; replace BK448 := n3_; replace BK462 := n4_; replace BK473 := n5_; replace HB := n6_; clear n0_ n1_ n2_ n3_ n4_ n5_ n6_; (try clear hb); (try clear hb2); (try clear hk); (try clear hi); (try clear ho0)) | (go_at_call 36; (with_reducible refine (hopperref06_Order.calls kj18 _ _ l0 t498 _ ?side1 ?side2 A58.out).mono ?_); (case side1 => repeat (first | exact (Kd.C_below HR0.out HB.out) | (with_reducible refine ca_ ?_ _) | (with_reducible refine cn_ ?_ _) | (with_reducible refine cd_ ?_))); (case side2 => exact HC0.out); rintro e w67 ⟨v499, rfl, ho0, hb⟩; have n0_ := A_ (Kd.R_elder' (pr_ HO490.out) (Kd.R_base ho0) hb); have n1_ := A_ (Kd.R_elder' (pr_ HO493.out) (Kd.R_base ho0) hb); have n2_ := A_ (Kd.R_elder' (pr_ HO497.out) (Kd.R_base ho0) hb); have n3_ := A_ (Kd.R_lower (Kd.R_newB (Kd.R_newB (Kd.R_newB (Kd.R_new' (Kd.R_new' (Kd.R_new' ho0 (Kd.R_lt (pr_ HO490.out))) (Kd.R_lt (pr_ HO493.out))) (Kd.R_lt (pr_ HO497.out))) (g := gb448) (o := .cells #[.int .i64 a1_0, .int .i64 a1_1, .int .i64 a1_2, .int .i64 a1_3, .int .i64 a1_4, .string a1_5] 24 (0, 0)) (by (with_reducible repeat (first | refine bn_ ?_ _ | refine bd_ ?_ | refine ba_ ?_ _)); exact BK448.out)) (g := gb462) (o := .cells #[.int .i64 t455, .int .i64 t456, .int .i64 t457, .int .i64 t458, .int .i64 t459, .string t460] 24 (0, 0)) (by (with_reducible repeat (first | refine bn_ ?_ _ | refine bd_ ?_ | refine ba_ ?_ _)); exact BK462.out)) (g := gb473) (o := .cells #[.int .i64 t466, .int .i64 t467, .int .i64 t468, .int .i64 t469, .int .i64 t470, .string t471] 24 (0, 0)) (by (with_reducible repeat (first | refine bn_ ?_ _ | refine bd_ ?_ | refine ba_ ?_ _)); exact BK473.out)) (below_size bw_)); have n4_ := A_ (kb_ BK448 hb); have n5_ := A_ (kb_ BK462 hb); have n6_ := A_ (kb_ BK473 hb); have n7_ := A_ (below_step bw_ hb); replace HO490 := n0_; replace HO493 := n1_; replace HO497 := n2_; have HO500 := n3_; replace BK448 := n4_; replace BK462 := n5_; replace BK473 := n6_; replace HB := n7_; clear n0_ n1_ n2_ n3_ n4_ n5_ n6_ n7_; (try clear hb); (try clear hb2); (try clear hk); (try clear hi); (try clear ho0); obtain ⟨Ao68, co68, eo68⟩ := Kd.R_slice HO497.out; subst eo68; obtain ⟨Ao69, co69, eo69⟩ := Kd.R_slice HO500.out; subst eo69) | (go_at_call 30; (with_reducible refine (hopperref04_Txs.calls kj18 _ _ t495 _ _ t498 true _ ?side1 ?side2 ?side3 ?side4 A59.out).mono ?_); (case side1 => repeat (first | exact (Kd.R_reads' HO497.out).2.2 | (with_reducible refine ca_ ?_ _) | (with_reducible refine cn_ ?_ _) | (with_reducible refine cd_ ?_))); (case side2 => exact (Kd.R_reads' HO497.out).2.1); (case side3 => repeat (first | exact (Kd.R_reads' HO500.out).2.2 | (with_reducible refine ca_ ?_ _) | (with_reducible refine cn_ ?_ _) | (with_reducible refine cd_ ?_))); (case side4 => exact (Kd.R_reads' HO500.out).2.1); rintro e w' ⟨rfl, ⟨nd, rfl⟩⟩) | (go_at_call 23; (with_reducible refine (hopperlaw06_live.calls kj18  t502 _ A61.out).mono ?_); rintro e w70 ⟨rfl, hb⟩; replace HO490 := A_ (Kd.R_below (pr_ HO490.out) hb); replace HO493 := A_ (Kd.R_below (pr_ HO493.out) hb); replace HO497 := A_ (Kd.R_below (pr_ HO497.out) hb); replace HO500 := A_ (Kd.R_below (pr_ HO500.out) hb); replace BK448 := A_ (kb_ BK448 hb); replace BK462 := A_ (kb_ BK462 hb); replace BK473 := A_ (kb_ BK473 hb); replace HB := A_ (below_step bw_ hb); (try clear hb); (try clear hb2); (try clear hk); (try clear hi)))
       go_ret
       exact ⟨by first | rfl | (simp [errW_none, errW_some] <;> rfl) | (simp [*, errW_none, errW_some] <;> rfl), by repeat (first | (with_reducible first | exact HB.out | apply wa_ | apply wn_ | apply wd_ | refine ws_ ?_ GE448.out | refine ws_ ?_ GE462.out | refine ws_ ?_ GE473.out) | exact HB.out)⟩
open Go.Proofs.Ytehncbhmdgdkjaa.Row (okI okB okS okL) in
/-- THE ONE PURE STATEMENT of hopperlaw06_HeapTells. -/
def hopperlaw06_HeapTells.Pure : Prop := ∀ (l0 : List (S24)) (a1_0 : Int) (a1_1 : Int) (a1_2 : Int) (a1_3 : Int) (a1_4 : Int) (a1_5 : ByteArray), (okL ok24) l0 → ok24 (⟨a1_0, a1_1, a1_2, a1_3, a1_4, a1_5⟩ : S24) → ∃ k, hopperlaw06_HeapTells.f k l0 a1_0 a1_1 a1_2 a1_3 a1_4 a1_5 = some true

end Go.Proofs.Ytehncbhmdgdkjaa.L
