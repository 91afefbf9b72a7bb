/- Written by this session's own program over the kit's print: functions of Go told as plain functions, or the row of one statement; proved for every input, with no condition of ours. -/
import Derived.Test.YtehncbhmdgdkjaaQx0
import Derived.Test.YtehncbhmdgdkjaaQx1
import Derived.Test.YtehncbhmdgdkjaaQx2
import Derived.Test.YtehncbhmdgdkjaaQx3
import Derived.Test.YtehncbhmdgdkjaaQx4
import Derived.Test.YtehncbhmdgdkjaaQx5
import Derived.Test.YtehncbhmdgdkjaaQx6
import Derived.Test.YtehncbhmdgdkjaaQx10
import Derived.Test.YtehncbhmdgdkjaaQx11
namespace Go.Proofs.Ytehncbhmdgdkjaa.Q
open Go.RowKit Go.Proofs.YtehncbhmdgdkjaaW.PrintWords Go.Proofs.YtehncbhmdgdkjaaW.PrintLast Go.Proofs.YtehncbhmdgdkjaaW.PrintMore
attribute [local go_sem] max2_int min2_int max_two min_two max_three min_three max_four min_four   -- for this text's walks alone
set_option linter.unusedVariables false
set_option linter.unusedSimpArgs false

attribute [local go_sem high] eqA24
/-! ### hopperlaw05_QueueTells: function 10 -/
def hopperlaw05_QueueTells.f (k : Nat) (a0_0 : Int) (a0_1 : Int) (l0_2 : List (S24)) (a1 : Int) (a2 : Int) : Option (Bool) := (hopperref05_Small.f k a0_0 a0_1 l0_2).bind fun t356 => (if t356 = true then ((queue_Find.f a0_0 a0_1 l0_2 a2).bind fun bt358 => ((hopperref05_Find.f k a0_0 a0_1 l0_2 a2).bind fun bt366 => ((queue_Check.f k a0_0 a0_1 l0_2 a1).bind fun t374 => ((hopperref05_Check.f k a0_0 a0_1 l0_2 a1).bind fun t375 => (if (t374 == t375) = true then (if (bt358.1 == bt366.1 && (bt358.2.1 == bt366.2.1 && (bt358.2.2.1 == bt366.2.2.1 && (bt358.2.2.2.1 == bt366.2.2.2.1 && (bt358.2.2.2.2.1 == bt366.2.2.2.2.1 && (bt358.2.2.2.2.2.1.toList == bt366.2.2.2.2.2.1.toList)))))) = true then (if (bt358.2.2.2.2.2.2 == bt366.2.2.2.2.2.2) = true then ((queue_Ready.f k a0_0 a0_1 l0_2).bind fun t376 => ((hopperref05_Ready.f k a0_0 a0_1 l0_2).bind fun t379 => ((hopperref04_Txs.f k t376 t379).bind fun t382 => (if t382 = true then ((queue_Slots.f k a0_0 a0_1 l0_2).bind fun t383 => ((hopperref05_Slots.f k a0_0 a0_1 l0_2).bind fun t384 => (if t383 = t384 then ((hopperlaw05_live.f k).bind fun t385 => (some t385)) else (none)))) else (none))))) else (none)) else (none)) else (none)))))) else ((hopperlaw05_live.f k).bind fun t357 => (some t357)))
theorem hopperlaw05_QueueTells.mono : ∀ a0 a1 a2 a3 a4 k, LeO (hopperlaw05_QueueTells.f k a0 a1 a2 a3 a4) (hopperlaw05_QueueTells.f (k + 1) a0 a1 a2 a3 a4) := by
 intro a0 a1 a2 a3 a4 k
 unfold hopperlaw05_QueueTells.f
 repeat' first
  | (with_reducible exact hopperlaw05_live.mono _)
  | (with_reducible exact hopperref04_Txs.mono _ _ _)
  | (with_reducible exact hopperref05_Check.mono _ _ _ _ _)
  | (with_reducible exact hopperref05_Find.mono _ _ _ _ _)
  | (with_reducible exact hopperref05_Ready.mono _ _ _ _)
  | (with_reducible exact hopperref05_Slots.mono _ _ _ _)
  | (with_reducible exact hopperref05_Small.mono _ _ _ _)
  | (with_reducible exact queue_Check.mono _ _ _ _ _)
  | (with_reducible exact queue_Ready.mono _ _ _ _)
  | (with_reducible exact queue_Slots.mono _ _ _ _)
  | (with_reducible exact LeO.refl _)
  | (with_reducible exact LeO.none _)
  | (with_reducible refine LeO.ite ?_ ?_)
  | (with_reducible refine LeO.bind ?_ (fun _ => ?_))
  | exact hopperlaw05_live.mono _
  | exact hopperref04_Txs.mono _ _ _
  | exact hopperref05_Check.mono _ _ _ _ _
  | exact hopperref05_Find.mono _ _ _ _ _
  | exact hopperref05_Ready.mono _ _ _ _
  | exact hopperref05_Slots.mono _ _ _ _
  | exact hopperref05_Small.mono _ _ _ _
  | exact queue_Check.mono _ _ _ _ _
  | exact queue_Ready.mono _ _ _ _
  | exact queue_Slots.mono _ _ _ _
  | exact LeO.none _
  | refine LeO.ite ?_ ?_
  | refine LeO.bind ?_ (fun _ => ?_)
def hopperlaw05_QueueTells.T5 : Bool × List (List Nat × List Nat) := (true, [([], []), ([], []), ([0, 1], [0, 1]), ([], []), ([], []), ([3, 4, 2], [3, 4]), ([2, 5], [2, 5]), ([6, 5], [6]), ([7], [7]), ([7], [7]), ([8, 9, 7], [7, 8, 9]), ([7, 10], [7, 10]), ([11, 7], [11]), ([12], [12]), ([12], [12]), ([13, 14, 12], [12, 13, 14]), ([12, 15], [12, 15]), ([16, 12], [16]), ([17], [17]), ([18, 17, 17], [17, 18]), ([17], [17]), ([20, 19, 17], [17, 20]), ([19, 21, 21, 17], [17, 19, 21]), ([17, 22], [17, 22]), ([23, 22], [23]), ([24], [24]), ([25, 24, 24], [24, 25]), ([24], [24]), ([27, 26, 24], [24, 27]), ([26, 28, 24], [24, 26, 28]), ([24, 29], [24, 29]), ([30, 28], [30]), ([31, 31], [31]), ([31, 32], [31, 32]), ([33, 32, 0, 1, 2, 3, 4, 5, 6, 7, 8, 9, 10, 11, 12, 13, 14, 15, 16, 17, 18, 19, 20, 21, 22, 23, 24, 25, 26, 27, 28, 29, 30, 31, 32, 33], [33])])
def hopperlaw05_QueueTells.B5 : List Nat := [0, 0, 3, 0, 0, 31, 63, 127, 255, 255, 1023, 2047, 4095, 8191, 8191, 32767, 65535, 131071, 262143, 524287, 262143, 2097151, 4194303, 8388607, 16777215, 33554431, 67108863, 33554431, 268435455, 536870911, 1073741823, 2147483647, 4294967295, 8589934591, 17179869183]
theorem hopperlaw05_QueueTells.tab5 : rtab .any (opsOf Try.f10 5) = hopperlaw05_QueueTells.T5 := by kernel_rfl
theorem hopperlaw05_QueueTells.bits5 : waitsOk hopperlaw05_QueueTells.T5.2 hopperlaw05_QueueTells.B5 = true := by kernel_rfl
theorem hopperlaw05_QueueTells.kx_ {P Q : Prop} (x : Aside0 Q) (h : Q → P := by intro h_; (repeat (first | (with_reducible first | refine blk_drewN ?_ _ | refine blk_drew ?_ | refine blk_alloc ?_ _) | refine blk_far ?_ (Aside0.out (by assumption)) _)); exact h_) : P := h x.out
set_option maxHeartbeats 8000000 in
set_option maxRecDepth 100000 in
theorem hopperlaw05_QueueTells.calls (k : Nat) (a0_0 : Int) (a0_1 : Int) (A0_2 : Option Addr) (c0_2 : Nat) (l0_2 : List (S24)) (a1 : Int) (a2 : Int) (r : Bool) (w : World) (hr0_2 : Kd.C k24 w A0_2 l0_2.length l0_2) (hc0_2 : l0_2.length ≤ c0_2) (h : hopperlaw05_QueueTells.f k a0_0 a0_1 l0_2 a1 a2 = some r) :
 Calls Try.prog 10 #[.agg #[.int .i64 a0_0, .int .i64 a0_1, .slice A0_2 l0_2.length c0_2], .int .i64 a1, .int .i64 a2] w fun e w' => e = .returned (.bool r) ∧ Below w.heap.size w w' := by
 have hu46 := Try.underlying46
 have hu24 := Try.underlying24
 have HR0_2 := A_ hr0_2
 have HC0_2 := A_ hc0_2
 clear hr0_2 hc0_2; have HB := A_ (Below.refl w.heap.size w)
 have H : ((hopperref05_Small.f k a0_0 a0_1 l0_2).bind fun t356 => (if t356 = true then ((queue_Find.f a0_0 a0_1 l0_2 a2).bind fun bt358 => ((hopperref05_Find.f k a0_0 a0_1 l0_2 a2).bind fun bt366 => ((queue_Check.f k a0_0 a0_1 l0_2 a1).bind fun t374 => ((hopperref05_Check.f k a0_0 a0_1 l0_2 a1).bind fun t375 => (if (t374 == t375) = true then (if (bt358.1 == bt366.1 && (bt358.2.1 == bt366.2.1 && (bt358.2.2.1 == bt366.2.2.1 && (bt358.2.2.2.1 == bt366.2.2.2.1 && (bt358.2.2.2.2.1 == bt366.2.2.2.2.1 && (bt358.2.2.2.2.2.1.toList == bt366.2.2.2.2.2.1.toList)))))) = true then (if (bt358.2.2.2.2.2.2 == bt366.2.2.2.2.2.2) = true then ((queue_Ready.f k a0_0 a0_1 l0_2).bind fun t376 => ((hopperref05_Ready.f k a0_0 a0_1 l0_2).bind fun t379 => ((hopperref04_Txs.f k t376 t379).bind fun t382 => (if t382 = true then ((queue_Slots.f k a0_0 a0_1 l0_2).bind fun t383 => ((hopperref05_Slots.f k a0_0 a0_1 l0_2).bind fun t384 => (if t383 = t384 then ((hopperlaw05_live.f k).bind fun t385 => (some t385)) else (none)))) else (none))))) else (none)) else (none)) else (none)))))) else ((hopperlaw05_live.f k).bind fun t357 => (some t357)))) = some r := h
 clear h
 replace H := Option.bind_eq_some_iff.mp H
 obtain ⟨t356, A40, H⟩ := H
 try dsimp only at H
 have A4 := A_ A40
 clear A40
 by_cases c5 : t356 = true
 · subst c5
   have H1 : ((queue_Find.f a0_0 a0_1 l0_2 a2).bind fun bt358 => ((hopperref05_Find.f k a0_0 a0_1 l0_2 a2).bind fun bt366 => ((queue_Check.f k a0_0 a0_1 l0_2 a1).bind fun t374 => ((hopperref05_Check.f k a0_0 a0_1 l0_2 a1).bind fun t375 => (if (t374 == t375) = true then (if (bt358.1 == bt366.1 && (bt358.2.1 == bt366.2.1 && (bt358.2.2.1 == bt366.2.2.1 && (bt358.2.2.2.1 == bt366.2.2.2.1 && (bt358.2.2.2.2.1 == bt366.2.2.2.2.1 && (bt358.2.2.2.2.2.1.toList == bt366.2.2.2.2.2.1.toList)))))) = true then (if (bt358.2.2.2.2.2.2 == bt366.2.2.2.2.2.2) = true then ((queue_Ready.f k a0_0 a0_1 l0_2).bind fun t376 => ((hopperref05_Ready.f k a0_0 a0_1 l0_2).bind fun t379 => ((hopperref04_Txs.f k t376 t379).bind fun t382 => (if t382 = true then ((queue_Slots.f k a0_0 a0_1 l0_2).bind fun t383 => ((hopperref05_Slots.f k a0_0 a0_1 l0_2).bind fun t384 => (if t383 = t384 then ((hopperlaw05_live.f k).bind fun t385 => (some t385)) else (none)))) else (none))))) else (none)) else (none)) else (none)))))) = some r := by rw [if_pos rfl] at H; exact H
   clear H
   have H := H1
   clear H1
   replace H := Option.bind_eq_some_iff.mp H
   obtain ⟨⟨t358, t359, t360, t361, t362, t363, t364⟩, A60, H⟩ := H
   try dsimp only at H
   have A6 := A_ A60
   clear A60
   replace H := Option.bind_eq_some_iff.mp H
   obtain ⟨⟨t366, t367, t368, t369, t370, t371, t372⟩, A70, H⟩ := H
   try dsimp only at H
   have A7 := A_ A70
   clear A70
   replace H := Option.bind_eq_some_iff.mp H
   obtain ⟨t374, A80, H⟩ := H
   try dsimp only at H
   have A8 := A_ A80
   clear A80
   replace H := Option.bind_eq_some_iff.mp H
   obtain ⟨t375, A90, H⟩ := H
   try dsimp only at H
   have A9 := A_ A90
   clear A90
   by_cases c10 : (t374 == t375) = true
   rotate_left
   · rw [if_neg c10] at H
     exact absurd H (by simp)
   rw [if_pos c10] at H
   have c10b0 : (t374 == t375) = true := c10
   (try (have c10b1 : decide (t374 = t375) = true := by simpa using c10))
   (try (have c10b2 : (t374 == t375) = true := by simpa using c10))
   clear c10
   by_cases c11 : (t358 == t366 && (t359 == t367 && (t360 == t368 && (t361 == t369 && (t362 == t370 && (t363.toList == t371.toList)))))) = true
   rotate_left
   · rw [if_neg c11] at H
     exact absurd H (by simp)
   rw [if_pos c11] at H
   have c11b0 : (t358 == t366 && (t359 == t367 && (t360 == t368 && (t361 == t369 && (t362 == t370 && (t363.toList == t371.toList)))))) = true := c11
   obtain ⟨c11q0, c11q1, c11q2, c11q3, c11q4, c11q5⟩ := six_ c11b0
   clear c11
   by_cases c12 : (t364 == t372) = true
   rotate_left
   · rw [if_neg c12] at H
     exact absurd H (by simp)
   rw [if_pos c12] at H
   have c12b0 : (t364 == t372) = true := c12
   (try (have c12b1 : decide (t364 = t372) = true := by simpa using c12))
   (try (have c12b2 : (t364 == t372) = true := by simpa using c12))
   clear c12
   replace H := Option.bind_eq_some_iff.mp H
   obtain ⟨t376, A130, H⟩ := H
   try dsimp only at H
   have A13 := A_ A130
   clear A130
   replace H := Option.bind_eq_some_iff.mp H
   obtain ⟨t379, A140, H⟩ := H
   try dsimp only at H
   have A14 := A_ A140
   clear A140
   replace H := Option.bind_eq_some_iff.mp H
   obtain ⟨t382, A150, H⟩ := H
   try dsimp only at H
   have A15 := A_ A150
   clear A150
   by_cases c16 : t382 = true
   rotate_left
   · replace c16 := Bool.eq_false_iff.mpr c16
     subst c16
     have H1 : (none) = some r := by rw [if_neg (show ¬ (false = true) by decide)] at H; exact H
     clear H
     have H := H1
     clear H1
     exact absurd H (by simp)
   subst c16
   have H1 : ((queue_Slots.f k a0_0 a0_1 l0_2).bind fun t383 => ((hopperref05_Slots.f k a0_0 a0_1 l0_2).bind fun t384 => (if t383 = t384 then ((hopperlaw05_live.f k).bind fun t385 => (some t385)) else (none)))) = some r := by rw [if_pos rfl] at H; exact H
   clear H
   have H := H1
   clear H1
   replace H := Option.bind_eq_some_iff.mp H
   obtain ⟨t383, A170, H⟩ := H
   try dsimp only at H
   have A17 := A_ A170
   clear A170
   replace H := Option.bind_eq_some_iff.mp H
   obtain ⟨t384, A180, H⟩ := H
   try dsimp only at H
   have A18 := A_ A180
   clear A180
   by_cases c19 : t383 = t384
   rotate_left
   · rw [if_neg c19] at H
     exact absurd H (by simp)
   rw [if_pos c19] at H
   have c19b0 : (t383 == t384) = true := beq_iff_eq.mpr c19
   have c19b1 : (t383 != t384) = false := bne_eq_false_iff_eq.mpr c19
   clear c19
   replace H := Option.bind_eq_some_iff.mp H
   obtain ⟨t385, A200, H⟩ := H
   replace H : (some t385) = some r := H
   have A20 := A_ A200
   clear A200
   obtain rfl := Option.some.inj H
   go_enter Try.func10, Try.ntmps10
   try go_wp2_with (first | ((with_reducible refine gate_dst (N := 3) rfl ?_); refine box_event ?hg (N := 3) ?hd (cs := #[.int .i64 a0_0, .int .i64 a0_1, .slice A0_2 l0_2.length c0_2]) (t := 46) ?hr ?_; (case hd => rfl); (case hg => rfl); (case hr => first | (go_simp; done) | (go_simp; rfl)); intro gb355 hg w21 hbox hb; have n0_ := A_ (below_step bw_ hb); have n1_ := A_ (hbox); have n2_ := A_ (gz_ (w := w) hg); have n3_ := A_ (gz_ (w := w) hg); replace HB := n0_; have BK355 := n1_; have GW355 := n2_; have GE355 := n3_; clear n0_ n1_ n2_ n3_; clear hb hbox hg; have hcz22_0 : w21.cell? ⟨gb355, 0, none⟩ = some (.int .i64 a0_0) := e_ BK355 0; have hcz22_1 : w21.cell? ⟨gb355, 1, none⟩ = some (.int .i64 a0_1) := e_ BK355 1; have hcz22_2 : w21.cell? ⟨gb355, 2, none⟩ = some (.slice A0_2 l0_2.length c0_2) := e_ BK355 2; obtain ⟨hfz22_0, hfz22_1, hfz22_2⟩ := z3_ BK355) | ((with_reducible refine gate_callee (f := 50) rfl ?_); refine goesL_ (some 12) rfl rfl Try.func50 (by kernel_rfl) rfl #[.agg #[.int .i64 a0_0, .int .i64 a0_1, .slice A0_2 l0_2.length c0_2]] rfl (by (try simp only [m0_, m1_, m2_]); first | done | rfl) ?_; (with_reducible refine (hopperref05_Small.calls k a0_0 a0_1 _ _ l0_2 true _ ?side1 ?side2 A4.out).mono ?_); (case side1 => repeat (first | exact (Kd.C_below HR0_2.out HB.out) | (with_reducible refine ca_ ?_ _) | (with_reducible refine cn_ ?_ _) | (with_reducible refine cd_ ?_))); (case side2 => exact HC0_2.out); rintro e w23 ⟨rfl, hb⟩; refine ⟨_, rfl, ?_⟩; replace BK355 := A_ (kb_ BK355 hb); replace HB := A_ (below_step bw_ hb); (try clear hb); (try clear hb2); (try clear hk); (try clear hi); have hcz24_0 : w23.cell? ⟨gb355, 0, none⟩ = some (.int .i64 a0_0) := e_ BK355 0; have hcz24_1 : w23.cell? ⟨gb355, 1, none⟩ = some (.int .i64 a0_1) := e_ BK355 1; have hcz24_2 : w23.cell? ⟨gb355, 2, none⟩ = some (.slice A0_2 l0_2.length c0_2) := e_ BK355 2; obtain ⟨hfz24_0, hfz24_1, hfz24_2⟩ := z3_ BK355) | ((with_reducible refine gate_callee (f := 52) rfl ?_); refine goesL_ (some 18) rfl rfl Try.func52 (by kernel_rfl) rfl #[.agg #[.int .i64 a0_0, .int .i64 a0_1, .slice A0_2 l0_2.length c0_2], .int .i64 a2] rfl (by (try simp only [m0_, m1_, m2_]); first | done | rfl) ?_; (with_reducible refine (queue_Find.calls a0_0 a0_1 _ _ l0_2 a2 t358 t359 t360 t361 t362 t363 t364 _ ?side1 ?side2 A6.out).mono ?_); (case side1 => repeat (first | exact (Kd.C_below HR0_2.out HB.out) | (with_reducible refine ca_ ?_ _) | (with_reducible refine cn_ ?_ _) | (with_reducible refine cd_ ?_))); (case side2 => exact HC0_2.out); rintro e w25 ⟨rfl, hb⟩; refine ⟨_, rfl, ?_⟩; replace BK355 := A_ (kb_ BK355 hb); replace HB := A_ (below_step bw_ hb); (try clear hb); (try clear hb2); (try clear hk); (try clear hi)) | ((with_reducible refine gate_dst (N := 7) rfl ?_); refine box_event ?hg (N := 7) ?hd (cs := #[.int .i64 0, .int .i64 0, .int .i64 0, .int .i64 0, .int .i64 0, .string (⟨#[]⟩ : ByteArray)]) (t := 24) ?hr ?_; (case hd => rfl); (case hg => rfl); (case hr => first | (go_simp; done) | (go_simp; rfl)); intro gb365 hg w26 hbox hb; have n0_ := A_ (kb_ BK355 hb); have n1_ := A_ (below_step bw_ hb); have n2_ := A_ (hbox); have n3_ := A_ (gz_ (w := w) hg); have n4_ := A_ (gz_ (w := w) hg); have n5_ := A_ (nl_ BK355 hg); have n6_ := A_ (ng_ BK355 hg); replace BK355 := n0_; replace HB := n1_; have BK365 := n2_; have GW365 := n3_; have GE365 := n4_; have NB355_365 := n5_; have NB365_355 := n6_; clear n0_ n1_ n2_ n3_ n4_ n5_ n6_; clear hb hbox hg; have hnb27 := NB365_355.out; have hnc27 := NB355_365.out; have hcz28_0 : w26.cell? ⟨gb365, 0, none⟩ = some (.int .i64 0) := e_ BK365 0; have hcz28_1 : w26.cell? ⟨gb365, 1, none⟩ = some (.int .i64 0) := e_ BK365 1; have hcz28_2 : w26.cell? ⟨gb365, 2, none⟩ = some (.int .i64 0) := e_ BK365 2; have hcz28_3 : w26.cell? ⟨gb365, 3, none⟩ = some (.int .i64 0) := e_ BK365 3; have hcz28_4 : w26.cell? ⟨gb365, 4, none⟩ = some (.int .i64 0) := e_ BK365 4; have hcz28_5 : w26.cell? ⟨gb365, 5, none⟩ = some (.string (⟨#[]⟩ : ByteArray)) := e_ BK365 5; obtain ⟨hfz28_0, hfz28_1, hfz28_2, hfz28_3, hfz28_4, hfz28_5⟩ := z6_ BK365; have hcz29_0 : w26.cell? ⟨gb355, 0, none⟩ = some (.int .i64 a0_0) := e_ BK355 0; have hcz29_1 : w26.cell? ⟨gb355, 1, none⟩ = some (.int .i64 a0_1) := e_ BK355 1; have hcz29_2 : w26.cell? ⟨gb355, 2, none⟩ = some (.slice A0_2 l0_2.length c0_2) := e_ BK355 2; obtain ⟨hfz29_0, hfz29_1, hfz29_2⟩ := z3_ BK355) | ((with_reducible refine gate_callee (f := 53) rfl ?_); refine goesL_ (some 24) rfl rfl Try.func53 (by kernel_rfl) rfl #[.agg #[.int .i64 a0_0, .int .i64 a0_1, .slice A0_2 l0_2.length c0_2], .int .i64 a2] rfl (by (try simp only [m0_, m1_, m2_]); first | done | rfl) ?_; (with_reducible refine (hopperref05_Find.calls k a0_0 a0_1 _ _ l0_2 a2 t366 t367 t368 t369 t370 t371 t372 _ ?side1 ?side2 A7.out).mono ?_); (case side1 => exact Kd.C_below HR0_2.out bw_); (case side2 => exact HC0_2.out); rintro e w30 ⟨rfl, hb⟩; refine ⟨_, rfl, ?_⟩; replace BK355 := A_ (kb_ BK355 hb); replace BK365 := A_ (blk_below (g := gb365) (o := .cells #[.int .i64 t358, .int .i64 t359, .int .i64 t360, .int .i64 t361, .int .i64 t362, .string t363] 24 (0, 0)) (by exact (b6_ BK365.out)) hb); replace HB := A_ (below_step bw_ hb); (try clear hb); (try clear hb2); (try clear hk); (try clear hi)) | ((with_reducible refine gate_dst (N := 9) rfl ?_); refine box_event ?hg (N := 9) ?hd (cs := #[.int .i64 0, .int .i64 0, .int .i64 0, .int .i64 0, .int .i64 0, .string (⟨#[]⟩ : ByteArray)]) (t := 24) ?hr ?_; (case hd => rfl); (case hg => rfl); (case hr => first | (go_simp; done) | (go_simp; rfl)); intro gb373 hg w31 hbox hb; have n0_ := A_ (kb_ BK355 hb); have n1_ := A_ (kb_ BK365 hb); have n2_ := A_ (below_step bw_ hb); have n3_ := A_ (hbox); have n4_ := A_ (gz_ (w := w) hg); have n5_ := A_ (gz_ (w := w) hg); have n6_ := A_ (nl_ BK355 hg); have n7_ := A_ (ng_ BK355 hg); have n8_ := A_ (nl_ BK365 hg); have n9_ := A_ (ng_ BK365 hg); replace BK355 := n0_; replace BK365 := n1_; replace HB := n2_; have BK373 := n3_; have GW373 := n4_; have GE373 := n5_; have NB355_373 := n6_; have NB373_355 := n7_; have NB365_373 := n8_; have NB373_365 := n9_; clear n0_ n1_ n2_ n3_ n4_ n5_ n6_ n7_ n8_ n9_; clear hb hbox hg; have hnb32 := NB373_355.out; have hnc32 := NB355_373.out; have hnb33 := NB373_365.out; have hnc33 := NB365_373.out; have hcz34_0 : w31.cell? ⟨gb373, 0, none⟩ = some (.int .i64 0) := e_ BK373 0; have hcz34_1 : w31.cell? ⟨gb373, 1, none⟩ = some (.int .i64 0) := e_ BK373 1; have hcz34_2 : w31.cell? ⟨gb373, 2, none⟩ = some (.int .i64 0) := e_ BK373 2; have hcz34_3 : w31.cell? ⟨gb373, 3, none⟩ = some (.int .i64 0) := e_ BK373 3; have hcz34_4 : w31.cell? ⟨gb373, 4, none⟩ = some (.int .i64 0) := e_ BK373 4; have hcz34_5 : w31.cell? ⟨gb373, 5, none⟩ = some (.string (⟨#[]⟩ : ByteArray)) := e_ BK373 5; obtain ⟨hfz34_0, hfz34_1, hfz34_2, hfz34_3, hfz34_4, hfz34_5⟩ := z6_ BK373))
   have n0_ : Aside0 (((((((w31.setCell ⟨gb373, 0, none⟩ (.int .i64 t366)).setCell ⟨gb373, 1, none⟩ (.int .i64 t367)).setCell ⟨gb373, 2, none⟩ (.int .i64 t368)).setCell ⟨gb373, 3, none⟩ (.int .i64 t369)).setCell ⟨gb373, 4, none⟩ (.int .i64 t370)).setCell ⟨gb373, 5, none⟩ (.string t371)).heap[gb355]? = some (.cells #[.int .i64 a0_0, .int .i64 a0_1, .slice A0_2 l0_2.length c0_2] 46 (0, 0))) := ⟨kx_ BK355⟩; have n1_ : Aside0 (((((((w31.setCell ⟨gb373, 0, none⟩ (.int .i64 t366)).setCell ⟨gb373, 1, none⟩ (.int .i64 t367)).setCell ⟨gb373, 2, none⟩ (.int .i64 t368)).setCell ⟨gb373, 3, none⟩ (.int .i64 t369)).setCell ⟨gb373, 4, none⟩ (.int .i64 t370)).setCell ⟨gb373, 5, none⟩ (.string t371)).heap[gb365]? = some (.cells #[.int .i64 t358, .int .i64 t359, .int .i64 t360, .int .i64 t361, .int .i64 t362, .string t363] 24 (0, 0))) := ⟨kx_ BK365⟩; have n2_ : Aside0 (((((((w31.setCell ⟨gb373, 0, none⟩ (.int .i64 t366)).setCell ⟨gb373, 1, none⟩ (.int .i64 t367)).setCell ⟨gb373, 2, none⟩ (.int .i64 t368)).setCell ⟨gb373, 3, none⟩ (.int .i64 t369)).setCell ⟨gb373, 4, none⟩ (.int .i64 t370)).setCell ⟨gb373, 5, none⟩ (.string t371)).heap[gb373]? = some (.cells #[.int .i64 t366, .int .i64 t367, .int .i64 t368, .int .i64 t369, .int .i64 t370, .string t371] 24 (0, 0))) := ⟨by exact (b6_ BK373.out)⟩; have n3_ : Aside0 (Below w.heap.size w ((((((w31.setCell ⟨gb373, 0, none⟩ (.int .i64 t366)).setCell ⟨gb373, 1, none⟩ (.int .i64 t367)).setCell ⟨gb373, 2, none⟩ (.int .i64 t368)).setCell ⟨gb373, 3, none⟩ (.int .i64 t369)).setCell ⟨gb373, 4, none⟩ (.int .i64 t370)).setCell ⟨gb373, 5, none⟩ (.string t371))) := ⟨by repeat (first | (with_reducible first | exact HB.out | apply wa_ | apply wn_ | apply wd_ | refine ws_ ?_ GE355.out | refine ws_ ?_ GE365.out | refine ws_ ?_ GE373.out) | exact HB.out)⟩
   (try clear BK355)
   (try clear BK365)
   (try clear BK373)
   (try clear HB)
   generalize ((((((w31.setCell ⟨gb373, 0, none⟩ (.int .i64 t366)).setCell ⟨gb373, 1, none⟩ (.int .i64 t367)).setCell ⟨gb373, 2, none⟩ (.int .i64 t368)).setCell ⟨gb373, 3, none⟩ (.int .i64 t369)).setCell ⟨gb373, 4, none⟩ (.int .i64 t370)).setCell ⟨gb373, 5, none⟩ (.string t371)) = w35 at n0_ n1_ n2_ n3_ ⊢
   have BK355 := n0_; have BK365 := n1_; have BK373 := n2_; have HB := n3_; clear n0_ n1_ n2_ n3_; have n0_ := A_ (bd_ BK355.out); have n1_ := A_ (bd_ BK365.out); have n2_ := A_ (bd_ BK373.out); have n3_ := A_ (wd_ HB.out); replace BK355 := n0_; replace BK365 := n1_; replace BK373 := n2_; replace HB := n3_; clear n0_ n1_ n2_ n3_
   refine start_ (n := 35) (S := fun w' => w'.cell? ⟨gb355, 0, none⟩ = some (.int .i64 a0_0) ∧ w'.cell? ⟨gb355, 1, none⟩ = some (.int .i64 a0_1) ∧ w'.cell? ⟨gb355, 2, none⟩ = some (.slice A0_2 l0_2.length c0_2) ∧ w'.cell? ⟨gb365, 0, none⟩ = some (.int .i64 t358) ∧ w'.cell? ⟨gb365, 1, none⟩ = some (.int .i64 t359) ∧ w'.cell? ⟨gb365, 2, none⟩ = some (.int .i64 t360) ∧ w'.cell? ⟨gb365, 3, none⟩ = some (.int .i64 t361) ∧ w'.cell? ⟨gb365, 4, none⟩ = some (.int .i64 t362) ∧ w'.cell? ⟨gb365, 5, none⟩ = some (.string t363) ∧ w'.cell? ⟨gb373, 0, none⟩ = some (.int .i64 t366) ∧ w'.cell? ⟨gb373, 1, none⟩ = some (.int .i64 t367) ∧ w'.cell? ⟨gb373, 2, none⟩ = some (.int .i64 t368) ∧ w'.cell? ⟨gb373, 3, none⟩ = some (.int .i64 t369) ∧ w'.cell? ⟨gb373, 4, none⟩ = some (.int .i64 t370) ∧ w'.cell? ⟨gb373, 5, none⟩ = some (.string t371)) (ds := []) #[F,F,F,F,F,F,F,F,F,F,F,F,F,F,F,F,F,F,F,F,F,F,F,F,F,F,F,F,F,F,F,F,F,F,F] (by kernel_rfl) rfl rfl ⟨e_ BK355 0, e_ BK355 1, e_ BK355 2, e_ BK365 0, e_ BK365 1, e_ BK365 2, e_ BK365 3, e_ BK365 4, e_ BK365 5, e_ BK373 0, e_ BK373 1, e_ BK373 2, e_ BK373 3, e_ BK373 4, e_ BK373 5⟩ (fun hHeld => ?_); refine with_tabW hopperlaw05_QueueTells.tab5 hopperlaw05_QueueTells.bits5 (fun HT_ HW_ => ?_)
   generalize w35.drew = w36 at BK355 BK365 BK373 HB hHeld ⊢
   refine pq_ 1 28 HT_ ?_
   refine pq_ 4 31 HT_ ?_
   refine tk_ 0 27 HT_ HW_ hHeld ?_
   refine tk_ 3 30 HT_ HW_ hHeld ?_
   refine one_ (i := 2) (N := some 29) #[T,T,T,T,T,F,F,F,F,F,F,F,F,F,F,F,F,F,F,F,F,F,F,F,F,F,F,F,F,F,F,F,F,F,F] rfl rfl (one_of HT_.out (by kernel_rfl)) (by decide) (fun K hK => ?_)
   refine goes_ Try.func54 (by kernel_rfl) rfl #[.agg #[.int .i64 a0_0, .int .i64 a0_1, .slice A0_2 l0_2.length c0_2], .int .i64 a1] (by rfl) rfl rfl (by (try simp only [m0_, m1_, m2_]); first | done | rfl) ?_
   with_reducible refine (queue_Check.calls k a0_0 a0_1 _ _ l0_2 a1 t374 _ ?side1 ?side2 A8.out).mono ?_
   (case side1 => repeat (first | exact (Kd.C_below HR0_2.out HB.out) | (with_reducible refine ca_ ?_ _) | (with_reducible refine cn_ ?_ _) | (with_reducible refine cd_ ?_)))
   (case side2 => exact HC0_2.out)
   rintro e w37 ⟨rfl, hb⟩
   refine ⟨_, rfl, ?_⟩
   have n0_ := A_ (kb_ BK355 hb); have n1_ := A_ (kb_ BK365 hb); have n2_ := A_ (kb_ BK373 hb); have n3_ := A_ (below_step bw_ hb); replace BK355 := n0_; replace BK365 := n1_; replace BK373 := n2_; replace HB := n3_; clear n0_ n1_ n2_ n3_
   (try clear hb)
   (try clear hb2)
   (try clear hk)
   (try clear hi)
   refine hK.out _ _ ⟨e_ BK355 0, e_ BK355 1, e_ BK355 2, e_ BK365 0, e_ BK365 1, e_ BK365 2, e_ BK365 3, e_ BK365 4, e_ BK365 5, e_ BK373 0, e_ BK373 1, e_ BK373 2, e_ BK373 3, e_ BK373 4, e_ BK373 5⟩ (fun hHeld => ?_)
   clear hK K
   refine norm_ (a' := ?_) ?_ ?_
   rotate_left
   · show Act.put _ (some 29) _ = _
     simp only [Act.put, s0_, s1_, s2_, i64_w, i32_w]
     rfl
   refine one_ (i := 5) (N := some 32) #[T,T,T,T,T,T,F,F,F,F,F,F,F,F,F,F,F,F,F,F,F,F,F,F,F,F,F,F,F,F,F,F,F,F,F] rfl rfl (one_of HT_.out (by kernel_rfl)) (by decide) (fun K hK => ?_)
   refine goes_ Try.func47 (by kernel_rfl) rfl #[.agg #[.int .i64 a0_0, .int .i64 a0_1, .slice A0_2 l0_2.length c0_2], .int .i64 a1] (by rfl) rfl rfl (by (try simp only [m0_, m1_, m2_]); first | done | rfl) ?_
   with_reducible refine (hopperref05_Check.calls k a0_0 a0_1 _ _ l0_2 a1 t375 _ ?side1 ?side2 A9.out).mono ?_
   (case side1 => repeat (first | exact (Kd.C_below HR0_2.out HB.out) | (with_reducible refine ca_ ?_ _) | (with_reducible refine cn_ ?_ _) | (with_reducible refine cd_ ?_)))
   (case side2 => exact HC0_2.out)
   rintro e w38 ⟨rfl, hb⟩
   refine ⟨_, rfl, ?_⟩
   have n0_ := A_ (kb_ BK355 hb); have n1_ := A_ (kb_ BK365 hb); have n2_ := A_ (kb_ BK373 hb); have n3_ := A_ (below_step bw_ hb); replace BK355 := n0_; replace BK365 := n1_; replace BK373 := n2_; replace HB := n3_; clear n0_ n1_ n2_ n3_
   (try clear hb)
   (try clear hb2)
   (try clear hk)
   (try clear hi)
   refine hK.out _ _ ⟨e_ BK355 0, e_ BK355 1, e_ BK355 2, e_ BK365 0, e_ BK365 1, e_ BK365 2, e_ BK365 3, e_ BK365 4, e_ BK365 5, e_ BK373 0, e_ BK373 1, e_ BK373 2, e_ BK373 3, e_ BK373 4, e_ BK373 5⟩ (fun hHeld => ?_)
   clear hK K
   refine norm_ (a' := ?_) ?_ ?_
   rotate_left
   · show Act.put _ (some 32) _ = _
     simp only [Act.put, s0_, s1_, s2_, i64_w, i32_w]
     rfl
   refine pq_ 6 33 HT_ ?_
   refine pq_ 7 34 HT_ ?_
   refine tk_ 8 35 HT_ HW_ hHeld ?_
   refine tk_ 9 36 HT_ HW_ hHeld ?_
   refine pq_ 10 37 HT_ ?_
   refine pq_ 11 38 HT_ ?_
   refine pq_ 12 39 HT_ ?_
   refine pq_ 13 40 HT_ ?_
   refine pq_ 14 41 HT_ ?_
   refine pq_ 15 42 HT_ ?_
   refine pq_ 16 43 HT_ ?_
   refine pq_ 17 44 HT_ ?_
   refine tk_ 18 45 HT_ HW_ hHeld ?_
   refine tk_ 20 47 HT_ HW_ hHeld ?_
   refine one_ (i := 19) (N := some 46) #[T,T,T,T,T,T,T,T,T,T,T,T,T,T,T,T,T,T,T,T,T,F,F,F,F,F,F,F,F,F,F,F,F,F,F] rfl rfl (one_of HT_.out (by kernel_rfl)) (by decide) (fun K hK => ?_)
   refine goes_ Try.func55 (by kernel_rfl) rfl #[.agg #[.int .i64 a0_0, .int .i64 a0_1, .slice A0_2 l0_2.length c0_2]] (by rfl) rfl rfl (by (try simp only [m0_, m1_, m2_]); first | done | rfl) ?_
   with_reducible refine (queue_Ready.calls k a0_0 a0_1 _ _ l0_2 t376 _ ?side1 ?side2 A13.out).mono ?_
   (case side1 => repeat (first | exact (Kd.C_below HR0_2.out HB.out) | (with_reducible refine ca_ ?_ _) | (with_reducible refine cn_ ?_ _) | (with_reducible refine cd_ ?_)))
   (case side2 => exact HC0_2.out)
   rintro e w39 ⟨v377, rfl, ho0, hb⟩
   refine ⟨_, rfl, ?_⟩
   have n0_ := A_ (Kd.R_lower (Kd.R_newB (Kd.R_newB ho0 (g := gb365) (o := .cells #[.int .i64 t358, .int .i64 t359, .int .i64 t360, .int .i64 t361, .int .i64 t362, .string t363] 24 (0, 0)) (by (with_reducible repeat (first | refine bn_ ?_ _ | refine bd_ ?_ | refine ba_ ?_ _)); exact BK365.out)) (g := gb373) (o := .cells #[.int .i64 t366, .int .i64 t367, .int .i64 t368, .int .i64 t369, .int .i64 t370, .string t371] 24 (0, 0)) (by (with_reducible repeat (first | refine bn_ ?_ _ | refine bd_ ?_ | refine ba_ ?_ _)); exact BK373.out)) (below_size bw_)); have n1_ := A_ (kb_ BK355 hb); have n2_ := A_ (kb_ BK365 hb); have n3_ := A_ (kb_ BK373 hb); have n4_ := A_ (below_step bw_ hb); have HO378 := n0_; replace BK355 := n1_; replace BK365 := n2_; replace BK373 := n3_; replace HB := n4_; clear n0_ n1_ n2_ n3_ n4_
   (try clear hb)
   (try clear hb2)
   (try clear hk)
   (try clear hi)
   (try clear ho0)
   refine hK.out _ _ ⟨e_ BK355 0, e_ BK355 1, e_ BK355 2, e_ BK365 0, e_ BK365 1, e_ BK365 2, e_ BK365 3, e_ BK365 4, e_ BK365 5, e_ BK373 0, e_ BK373 1, e_ BK373 2, e_ BK373 3, e_ BK373 4, e_ BK373 5⟩ (fun hHeld => ?_)
   clear hK K
   refine norm_ (a' := ?_) ?_ ?_
   rotate_left
   · show Act.put _ (some 46) _ = _
     simp only [Act.put, s0_, s1_, s2_, i64_w, i32_w]
     rfl
   refine one_ (i := 21) (N := some 48) #[T,T,T,T,T,T,T,T,T,T,T,T,T,T,T,T,T,T,T,T,T,T,F,F,F,F,F,F,F,F,F,F,F,F,F] rfl rfl (one_of HT_.out (by kernel_rfl)) (by decide) (fun K hK => ?_)
   refine goes_ Try.func48 (by kernel_rfl) rfl #[.agg #[.int .i64 a0_0, .int .i64 a0_1, .slice A0_2 l0_2.length c0_2]] (by rfl) rfl rfl (by (try simp only [m0_, m1_, m2_]); first | done | rfl) ?_
   with_reducible refine (hopperref05_Ready.calls k a0_0 a0_1 _ _ l0_2 t379 _ ?side1 ?side2 A14.out).mono ?_
   (case side1 => repeat (first | exact (Kd.C_below HR0_2.out HB.out) | (with_reducible refine ca_ ?_ _) | (with_reducible refine cn_ ?_ _) | (with_reducible refine cd_ ?_)))
   (case side2 => exact HC0_2.out)
   rintro e w40 ⟨v380, rfl, ho0, hb⟩
   refine ⟨_, rfl, ?_⟩
   have n0_ := A_ (Kd.R_elder' (pr_ HO378.out) (Kd.R_base ho0) hb); have n1_ := A_ (Kd.R_lower (Kd.R_newB (Kd.R_newB (Kd.R_new' ho0 (Kd.R_lt (pr_ HO378.out))) (g := gb365) (o := .cells #[.int .i64 t358, .int .i64 t359, .int .i64 t360, .int .i64 t361, .int .i64 t362, .string t363] 24 (0, 0)) (by (with_reducible repeat (first | refine bn_ ?_ _ | refine bd_ ?_ | refine ba_ ?_ _)); exact BK365.out)) (g := gb373) (o := .cells #[.int .i64 t366, .int .i64 t367, .int .i64 t368, .int .i64 t369, .int .i64 t370, .string t371] 24 (0, 0)) (by (with_reducible repeat (first | refine bn_ ?_ _ | refine bd_ ?_ | refine ba_ ?_ _)); exact BK373.out)) (below_size bw_)); have n2_ := A_ (kb_ BK355 hb); have n3_ := A_ (kb_ BK365 hb); have n4_ := A_ (kb_ BK373 hb); have n5_ := A_ (below_step bw_ hb); replace HO378 := n0_; have HO381 := n1_; replace BK355 := n2_; replace BK365 := n3_; replace BK373 := n4_; replace HB := n5_; clear n0_ n1_ n2_ n3_ n4_ n5_
   (try clear hb)
   (try clear hb2)
   (try clear hk)
   (try clear hi)
   (try clear ho0)
   obtain ⟨Ao41, co41, eo41⟩ := Kd.R_slice HO378.out
   (first | subst eo41 | (injection eo41 with f1_ f2_ f3_; have f4_ := f1_.symm; have f5_ := f3_.symm; clear f1_ f2_ f3_; subst f4_; subst f5_))
   obtain ⟨Ao42, co42, eo42⟩ := Kd.R_slice HO381.out
   (first | subst eo42 | (injection eo42 with f1_ f2_ f3_; have f4_ := f1_.symm; have f5_ := f3_.symm; clear f1_ f2_ f3_; subst f4_; subst f5_))
   refine hK.out _ _ ⟨e_ BK355 0, e_ BK355 1, e_ BK355 2, e_ BK365 0, e_ BK365 1, e_ BK365 2, e_ BK365 3, e_ BK365 4, e_ BK365 5, e_ BK373 0, e_ BK373 1, e_ BK373 2, e_ BK373 3, e_ BK373 4, e_ BK373 5⟩ (fun hHeld => ?_)
   clear hK K
   refine norm_ (a' := ?_) ?_ ?_
   rotate_left
   · show Act.put _ (some 48) _ = _
     simp only [Act.put, s0_, s1_, s2_, i64_w, i32_w]
     rfl
   refine one_ (i := 22) (N := some 49) #[T,T,T,T,T,T,T,T,T,T,T,T,T,T,T,T,T,T,T,T,T,T,T,F,F,F,F,F,F,F,F,F,F,F,F] rfl rfl (one_of HT_.out (by kernel_rfl)) (by decide) (fun K hK => ?_)
   refine goes_ Try.func30 (by kernel_rfl) rfl #[.slice Ao41 t376.length co41, .slice Ao42 t379.length co42] (by rfl) rfl rfl (by (try simp only [m0_, m1_, m2_]); first | done | rfl) ?_
   with_reducible refine (hopperref04_Txs.calls k _ _ t376 _ _ t379 true _ ?side1 ?side2 ?side3 ?side4 A15.out).mono ?_
   (case side1 => repeat (first | exact (Kd.R_reads' HO378.out).2.2 | (with_reducible refine ca_ ?_ _) | (with_reducible refine cn_ ?_ _) | (with_reducible refine cd_ ?_)))
   (case side2 => exact (Kd.R_reads' HO378.out).2.1)
   (case side3 => repeat (first | exact (Kd.R_reads' HO381.out).2.2 | (with_reducible refine ca_ ?_ _) | (with_reducible refine cn_ ?_ _) | (with_reducible refine cd_ ?_)))
   (case side4 => exact (Kd.R_reads' HO381.out).2.1)
   rintro e w' ⟨rfl, ⟨nd, rfl⟩⟩
   refine ⟨_, rfl, ?_⟩
   refine hK.out _ _ ⟨e_ BK355 0, e_ BK355 1, e_ BK355 2, e_ BK365 0, e_ BK365 1, e_ BK365 2, e_ BK365 3, e_ BK365 4, e_ BK365 5, e_ BK373 0, e_ BK373 1, e_ BK373 2, e_ BK373 3, e_ BK373 4, e_ BK373 5⟩ (fun hHeld => ?_)
   clear hK K
   refine norm_ (a' := ?_) ?_ ?_
   rotate_left
   · show Act.put _ (some 49) _ = _
     simp only [Act.put, s0_, s1_, s2_, i64_w, i32_w]
     rfl
   refine pq_ 23 50 HT_ ?_
   refine pq_ 24 51 HT_ ?_
   refine tk_ 25 52 HT_ HW_ hHeld ?_
   refine tk_ 27 54 HT_ HW_ hHeld ?_
   refine one_ (i := 26) (N := some 53) #[T,T,T,T,T,T,T,T,T,T,T,T,T,T,T,T,T,T,T,T,T,T,T,T,T,T,T,T,F,F,F,F,F,F,F] rfl rfl (one_of HT_.out (by kernel_rfl)) (by decide) (fun K hK => ?_)
   refine goes_ Try.func56 (by kernel_rfl) rfl #[.agg #[.int .i64 a0_0, .int .i64 a0_1, .slice A0_2 l0_2.length c0_2]] (by rfl) rfl rfl (by (try simp only [m0_, m1_, m2_]); first | done | rfl) ?_
   with_reducible refine (queue_Slots.calls k a0_0 a0_1 _ _ l0_2 t383 _ ?side1 ?side2 A17.out).mono ?_
   (case side1 => repeat (first | exact (Kd.C_below HR0_2.out bw_) | (with_reducible refine ca_ ?_ _) | (with_reducible refine cn_ ?_ _) | (with_reducible refine cd_ ?_)))
   (case side2 => exact HC0_2.out)
   rintro e w43 ⟨rfl, hb⟩
   refine ⟨_, rfl, ?_⟩
   have n0_ := A_ (Kd.R_below (pr_ HO378.out) hb); have n1_ := A_ (Kd.R_below (pr_ HO381.out) hb); have n2_ := A_ (kb_ BK355 hb); have n3_ := A_ (kb_ BK365 hb); have n4_ := A_ (kb_ BK373 hb); have n5_ := A_ (below_step bw_ hb); replace HO378 := n0_; replace HO381 := n1_; replace BK355 := n2_; replace BK365 := n3_; replace BK373 := n4_; replace HB := n5_; clear n0_ n1_ n2_ n3_ n4_ n5_
   (try clear hb)
   (try clear hb2)
   (try clear hk)
   (try clear hi)
   refine hK.out _ _ ⟨e_ BK355 0, e_ BK355 1, e_ BK355 2, e_ BK365 0, e_ BK365 1, e_ BK365 2, e_ BK365 3, e_ BK365 4, e_ BK365 5, e_ BK373 0, e_ BK373 1, e_ BK373 2, e_ BK373 3, e_ BK373 4, e_ BK373 5⟩ (fun hHeld => ?_)
   clear hK K
   refine norm_ (a' := ?_) ?_ ?_
   rotate_left
   · show Act.put _ (some 53) _ = _
     simp only [Act.put, s0_, s1_, s2_, i64_w, i32_w]
     rfl
   refine one_ (i := 28) (N := some 55) #[T,T,T,T,T,T,T,T,T,T,T,T,T,T,T,T,T,T,T,T,T,T,T,T,T,T,T,T,T,F,F,F,F,F,F] rfl rfl (one_of HT_.out (by kernel_rfl)) (by decide) (fun K hK => ?_)
   refine goes_ Try.func57 (by kernel_rfl) rfl #[.agg #[.int .i64 a0_0, .int .i64 a0_1, .slice A0_2 l0_2.length c0_2]] (by rfl) rfl rfl (by (try simp only [m0_, m1_, m2_]); first | done | rfl) ?_
   with_reducible refine (hopperref05_Slots.calls k a0_0 a0_1 _ _ l0_2 t384 _ ?side1 ?side2 A18.out).mono ?_
   (case side1 => repeat (first | exact (Kd.C_below HR0_2.out HB.out) | (with_reducible refine ca_ ?_ _) | (with_reducible refine cn_ ?_ _) | (with_reducible refine cd_ ?_)))
   (case side2 => exact HC0_2.out)
   rintro e w44 ⟨rfl, hb⟩
   refine ⟨_, rfl, ?_⟩
   have n0_ := A_ (Kd.R_below (pr_ HO378.out) hb); have n1_ := A_ (Kd.R_below (pr_ HO381.out) hb); have n2_ := A_ (kb_ BK355 hb); have n3_ := A_ (kb_ BK365 hb); have n4_ := A_ (kb_ BK373 hb); have n5_ := A_ (below_step bw_ hb); replace HO378 := n0_; replace HO381 := n1_; replace BK355 := n2_; replace BK365 := n3_; replace BK373 := n4_; replace HB := n5_; clear n0_ n1_ n2_ n3_ n4_ n5_
   (try clear hb)
   (try clear hb2)
   (try clear hk)
   (try clear hi)
   refine hK.out _ _ ⟨e_ BK355 0, e_ BK355 1, e_ BK355 2, e_ BK365 0, e_ BK365 1, e_ BK365 2, e_ BK365 3, e_ BK365 4, e_ BK365 5, e_ BK373 0, e_ BK373 1, e_ BK373 2, e_ BK373 3, e_ BK373 4, e_ BK373 5⟩ (fun hHeld => ?_)
   clear hK K
   refine norm_ (a' := ?_) ?_ ?_
   rotate_left
   · show Act.put _ (some 55) _ = _
     simp only [Act.put, s0_, s1_, s2_, i64_w, i32_w]
     rfl
   refine pq_ 29 56 HT_ ?_
   refine pq_ 30 57 HT_ ?_
   refine pq_ 31 58 HT_ ?_
   refine one_ (i := 32) (N := some 59) #[T,T,T,T,T,T,T,T,T,T,T,T,T,T,T,T,T,T,T,T,T,T,T,T,T,T,T,T,T,T,T,T,T,F,F] rfl rfl (one_of HT_.out (by kernel_rfl)) (by decide) (fun K hK => ?_)
   refine goes_ Try.func51 (by kernel_rfl) rfl #[] (by rfl) rfl rfl (by (try simp only [m0_, m1_, m2_]); first | done | rfl) ?_
   with_reducible refine (hopperlaw05_live.calls k  t385 _ A20.out).mono ?_
   rintro e w45 ⟨rfl, hb⟩
   refine ⟨_, rfl, ?_⟩
   have n0_ := A_ (Kd.R_below (pr_ HO378.out) hb); have n1_ := A_ (Kd.R_below (pr_ HO381.out) hb); have n2_ := A_ (kb_ BK355 hb); have n3_ := A_ (kb_ BK365 hb); have n4_ := A_ (kb_ BK373 hb); have n5_ := A_ (below_step bw_ hb); replace HO378 := n0_; replace HO381 := n1_; replace BK355 := n2_; replace BK365 := n3_; replace BK373 := n4_; replace HB := n5_; clear n0_ n1_ n2_ n3_ n4_ n5_
   (try clear hb)
   (try clear hb2)
   (try clear hk)
   (try clear hi)
   refine hK.out _ _ ⟨e_ BK355 0, e_ BK355 1, e_ BK355 2, e_ BK365 0, e_ BK365 1, e_ BK365 2, e_ BK365 3, e_ BK365 4, e_ BK365 5, e_ BK373 0, e_ BK373 1, e_ BK373 2, e_ BK373 3, e_ BK373 4, e_ BK373 5⟩ (fun hHeld => ?_)
   clear hK K
   refine norm_ (a' := ?_) ?_ ?_
   rotate_left
   · show Act.put _ (some 59) _ = _
     simp only [Act.put, s0_, s1_, s2_, i64_w, i32_w]
     rfl
   refine pq_ 33 60 HT_ ?_
   refine pq_ 34 6 HT_ ?_
   refine done_ (done_of HT_.out (by kernel_rfl)) ?_
   try go_wp2
   go_ret
   exact ⟨by first | rfl | (simp [errW_none, errW_some] <;> rfl) | (simp [*, errW_none, errW_some] <;> rfl), by repeat (first | (with_reducible first | exact HB.out | apply wa_ | apply wn_ | apply wd_ | refine ws_ ?_ GE355.out | refine ws_ ?_ GE365.out | refine ws_ ?_ GE373.out) | exact HB.out)⟩
 · replace c5 := Bool.eq_false_iff.mpr c5
   subst c5
   have H1 : ((hopperlaw05_live.f k).bind fun t357 => (some t357)) = some r := by rw [if_neg (show ¬ (false = true) by decide)] at H; exact H
   clear H
   have H := H1
   clear H1
   replace H := Option.bind_eq_some_iff.mp H
   obtain ⟨t357, A460, H⟩ := H
   replace H : (some t357) = some r := H
   have A46 := A_ A460
   clear A460
   obtain rfl := Option.some.inj H
   go_enter Try.func10, Try.ntmps10
   go_wp2_with (first | ((with_reducible refine gate_dst (N := 3) rfl ?_); refine box_event ?hg (N := 3) ?hd (cs := #[.int .i64 a0_0, .int .i64 a0_1, .slice A0_2 l0_2.length c0_2]) (t := 46) ?hr ?_; (case hd => rfl); (case hg => rfl); (case hr => first | (go_simp; done) | (go_simp; rfl)); intro gb355 hg w47 hbox hb; have n0_ := A_ (below_step bw_ hb); have n1_ := A_ (hbox); have n2_ := A_ (gz_ (w := w) hg); have n3_ := A_ (gz_ (w := w) hg); replace HB := n0_; have BK355 := n1_; have GW355 := n2_; have GE355 := n3_; clear n0_ n1_ n2_ n3_; clear hb hbox hg; have hcz48_0 : w47.cell? ⟨gb355, 0, none⟩ = some (.int .i64 a0_0) := e_ BK355 0; have hcz48_1 : w47.cell? ⟨gb355, 1, none⟩ = some (.int .i64 a0_1) := e_ BK355 1; have hcz48_2 : w47.cell? ⟨gb355, 2, none⟩ = some (.slice A0_2 l0_2.length c0_2) := e_ BK355 2; obtain ⟨hfz48_0, hfz48_1, hfz48_2⟩ := z3_ BK355) | ((with_reducible refine gate_callee (f := 50) rfl ?_); refine goesL_ (some 12) rfl rfl Try.func50 (by kernel_rfl) rfl #[.agg #[.int .i64 a0_0, .int .i64 a0_1, .slice A0_2 l0_2.length c0_2]] rfl (by (try simp only [m0_, m1_, m2_]); first | done | rfl) ?_; (with_reducible refine (hopperref05_Small.calls k a0_0 a0_1 _ _ l0_2 false _ ?side1 ?side2 A4.out).mono ?_); (case side1 => repeat (first | exact (Kd.C_below HR0_2.out HB.out) | (with_reducible refine ca_ ?_ _) | (with_reducible refine cn_ ?_ _) | (with_reducible refine cd_ ?_))); (case side2 => exact HC0_2.out); rintro e w49 ⟨rfl, hb⟩; refine ⟨_, rfl, ?_⟩; replace BK355 := A_ (kb_ BK355 hb); replace HB := A_ (below_step bw_ hb); (try clear hb); (try clear hb2); (try clear hk); (try clear hi)) | ((with_reducible refine gate_callee (f := 51) rfl ?_); refine goesL_ (some 14) rfl rfl Try.func51 (by kernel_rfl) rfl #[] rfl (by (try simp only [m0_, m1_, m2_]); first | done | rfl) ?_; (with_reducible refine (hopperlaw05_live.calls k  t357 _ A46.out).mono ?_); rintro e w50 ⟨rfl, hb⟩; refine ⟨_, rfl, ?_⟩; replace BK355 := A_ (kb_ BK355 hb); replace HB := A_ (below_step bw_ hb); (try clear hb); (try clear hb2); (try clear hk); (try clear hi)))
   go_ret
   exact ⟨by first | rfl | (simp [errW_none, errW_some] <;> rfl) | (simp [*, errW_none, errW_some] <;> rfl), by repeat (first | (with_reducible first | exact HB.out | apply wa_ | apply wn_ | apply wd_ | refine ws_ ?_ GE355.out) | exact HB.out)⟩

open Go.Proofs.Ytehncbhmdgdkjaa.Row (okI okB okS okL) in
/-- THE ONE PURE STATEMENT of hopperlaw05_QueueTells. -/
def hopperlaw05_QueueTells.Pure : Prop := ∀ (a0_0 : Int) (a0_1 : Int) (l0_2 : List (S24)) (a1 : Int) (a2 : Int), ok46 (⟨a0_0, a0_1, l0_2⟩ : S46) → (okI .i64) a1 → (okI .i64) a2 → ∃ k, hopperlaw05_QueueTells.f k a0_0 a0_1 l0_2 a1 a2 = some true

/-! ### hopperref01_Raise: function 106 -/
def hopperref01_Raise.j0 : Nat → Int → Int → Bool → Option (Int × Bool)
 | 0, _, _, _ => none
 | k + 1, x0, x1, x21 => if x21 = true then (some (0, false)) else (if (Int.tmod (wrap64 (x0 * (wrap64 (100 + x1)))) 100) > 0 then (if (mx (wrap64 ((wrap64 (Int.tdiv (wrap64 (x0 * (wrap64 (100 + x1)))) 100)) + 1)) (wrap64 (x0 + 1))) > 1099511627776 then (some (0, false)) else (some (mx (wrap64 ((wrap64 (Int.tdiv (wrap64 (x0 * (wrap64 (100 + x1)))) 100)) + 1)) (wrap64 (x0 + 1)), true))) else (if (mx (wrap64 (Int.tdiv (wrap64 (x0 * (wrap64 (100 + x1)))) 100)) (wrap64 (x0 + 1))) > 1099511627776 then (some (0, false)) else (some (mx (wrap64 (Int.tdiv (wrap64 (x0 * (wrap64 (100 + x1)))) 100)) (wrap64 (x0 + 1)), true))))
def hopperref01_Raise.f (k : Nat) (a0 : Int) (a1 : Int) : Option (Int × Bool) := if a0 < 0 then (hopperref01_Raise.j0 k a0 a1 true) else (if a0 > 1099511627776 then (hopperref01_Raise.j0 k a0 a1 true) else (if a1 < 0 then (hopperref01_Raise.j0 k a0 a1 true) else (hopperref01_Raise.j0 k a0 a1 (decide (a1 > 100)))))
theorem hopperref01_Raise.mono_l : ∀ k, (∀ y0 y1 y2, LeO (hopperref01_Raise.j0 k y0 y1 y2) (hopperref01_Raise.j0 (k + 1) y0 y1 y2))
 | 0 => fun _ _ _ r h => by simp [hopperref01_Raise.j0] at h
 | k + 1 => by
  have ih0 := hopperref01_Raise.mono_l k
  · intro y0 y1 y2
    unfold hopperref01_Raise.j0
    repeat' first
    | (with_reducible exact ih0 _ _ _)
    | (with_reducible exact LeO.refl _)
    | (with_reducible exact LeO.none _)
    | (with_reducible refine LeO.ite ?_ ?_)
    | (with_reducible refine LeO.bind ?_ (fun _ => ?_))
    | exact ih0 _ _ _
    | exact LeO.none _
    | refine LeO.ite ?_ ?_
    | refine LeO.bind ?_ (fun _ => ?_)
theorem hopperref01_Raise.mono : ∀ a0 a1 k, LeO (hopperref01_Raise.f k a0 a1) (hopperref01_Raise.f (k + 1) a0 a1) := by
 intro a0 a1 k
 have ih0 := hopperref01_Raise.mono_l k
 unfold hopperref01_Raise.f
 repeat' first
  | (with_reducible exact ih0 _ _ _)
  | (with_reducible exact LeO.refl _)
  | (with_reducible exact LeO.none _)
  | (with_reducible refine LeO.ite ?_ ?_)
  | (with_reducible refine LeO.bind ?_ (fun _ => ?_))
  | exact ih0 _ _ _
  | exact LeO.none _
  | refine LeO.ite ?_ ?_
  | refine LeO.bind ?_ (fun _ => ?_)
set_option maxHeartbeats 8000000 in
set_option maxRecDepth 100000 in
theorem hopperref01_Raise.calls (k : Nat) (a0 : Int) (a1 : Int) (r1 : Int) (r2 : Bool) (w : World) (h : hopperref01_Raise.f k a0 a1 = some (r1, r2)) :
 Calls Try.prog 106 #[.int .i64 a0, .int .i64 a1] w fun e w' => e = .returned (.tuple #[.int .i64 r1, .bool r2]) ∧ Below w.heap.size w w' := by
 have HB := A_ (Below.refl w.heap.size w)
 have H : (if a0 < 0 then (hopperref01_Raise.j0 k a0 a1 true) else (if a0 > 1099511627776 then (hopperref01_Raise.j0 k a0 a1 true) else (if a1 < 0 then (hopperref01_Raise.j0 k a0 a1 true) else (hopperref01_Raise.j0 k a0 a1 (decide (a1 > 100)))))) = some (r1, r2) := h
 clear h
 have HC3 := A_ H
 clear H
 go_enter Try.func106, Try.ntmps106
 go_upto_region 1 with (fail)
 go_cut [21] (fun v21 wc => ∃ (kq : Nat) (x21_2 : Bool), v21 = .bool x21_2 ∧ Aside0 (hopperref01_Raise.j0 kq a0 a1 x21_2 = some (r1, r2)) ∧ Aside0 (kq ≤ k) ∧ Aside0 (Below w.heap.size w wc))
 case first =>
  have H := HC3.out
  clear HC3
  by_cases c4 : a0 < 0
  · rw [if_pos c4] at H
    have c4b0 : decide (a0 < 0) = true := decide_eq_true c4
    clear c4
    (first | rw [c4b0] | (simp only [i64_w, i32_w]; rw [c4b0]) | skip)
    have H' := A_ H
    clear H
    go_wp2
    go_meet
    case rel => exact ⟨_, (true), (by first | rfl | (simp; done) | (simp [*]; done)), H', ⟨by first | omega | exact Nat.le_refl _⟩, ⟨by repeat (first | (with_reducible first | exact HB.out | apply wa_ | apply wn_ | apply wd_) | exact HB.out)⟩⟩
  rw [if_neg c4] at H
  have c4b0 : decide (a0 < 0) = false := decide_eq_false c4
  clear c4
  (first | rw [c4b0] | (simp only [i64_w, i32_w]; rw [c4b0]) | skip)
  by_cases c5 : a0 > 1099511627776
  · rw [if_pos c5] at H
    have c5b0 : decide (1099511627776 < a0) = true := decide_eq_true c5
    clear c5
    have H' := A_ H
    clear H
    go_wp2
    go_meet
    case rel => exact ⟨_, (true), (by first | rfl | (simp; done) | (simp [*]; done)), H', ⟨by first | omega | exact Nat.le_refl _⟩, ⟨by repeat (first | (with_reducible first | exact HB.out | apply wa_ | apply wn_ | apply wd_) | exact HB.out)⟩⟩
  rw [if_neg c5] at H
  have c5b0 : decide (1099511627776 < a0) = false := decide_eq_false c5
  clear c5
  by_cases c6 : a1 < 0
  · rw [if_pos c6] at H
    have c6b0 : decide (a1 < 0) = true := decide_eq_true c6
    clear c6
    have H' := A_ H
    clear H
    go_wp2
    go_meet
    case rel => exact ⟨_, (true), (by first | rfl | (simp; done) | (simp [*]; done)), H', ⟨by first | omega | exact Nat.le_refl _⟩, ⟨by repeat (first | (with_reducible first | exact HB.out | apply wa_ | apply wn_ | apply wd_) | exact HB.out)⟩⟩
  · rw [if_neg c6] at H
    have c6b0 : decide (a1 < 0) = false := decide_eq_false c6
    clear c6
    have H' := A_ H
    clear H
    go_wp2
    go_meet
    case rel => exact ⟨_, (decide (a1 > 100)), (by first | rfl | (simp; done) | (simp [*]; done)), H', ⟨by first | omega | exact Nat.le_refl _⟩, ⟨by repeat (first | (with_reducible first | exact HB.out | apply wa_ | apply wn_ | apply wd_) | exact HB.out)⟩⟩
 case rest =>
  clear HC3; (try clear c1); (try clear p2); (try clear c4); (try clear c4b0); (try clear c5); (try clear c5b0); (try clear c6); (try clear c6b0)
  obtain ⟨kq, x21_2, rfl, HA, HJ2, HB⟩ := hcut
  cases kq with
  | zero => exact absurd HA.out (by simp [hopperref01_Raise.j0])
  | succ kj2 =>
   have H := HA.out
   clear HA
   simp only [hopperref01_Raise.j0] at H
   by_cases c7 : x21_2 = true
   · subst c7
     have H1 : (some (0, false)) = some (r1, r2) := by rw [if_pos rfl] at H; exact H
     clear H
     have H := H1
     clear H1
     simp only [Option.some.injEq, Prod.mk.injEq] at H
     obtain ⟨rfl, rfl⟩ := H
     go_wp2
     go_ret2
     exact ⟨by first | rfl | (simp [errW_none, errW_some] <;> rfl) | (simp [*, errW_none, errW_some] <;> rfl), by repeat (first | (with_reducible first | exact HB.out | apply wa_ | apply wn_ | apply wd_) | exact HB.out)⟩
   replace c7 := Bool.eq_false_iff.mpr c7
   subst c7
   have H1 : (if (Int.tmod (wrap64 (a0 * (wrap64 (100 + a1)))) 100) > 0 then (if (mx (wrap64 ((wrap64 (Int.tdiv (wrap64 (a0 * (wrap64 (100 + a1)))) 100)) + 1)) (wrap64 (a0 + 1))) > 1099511627776 then (some (0, false)) else (some (mx (wrap64 ((wrap64 (Int.tdiv (wrap64 (a0 * (wrap64 (100 + a1)))) 100)) + 1)) (wrap64 (a0 + 1)), true))) else (if (mx (wrap64 (Int.tdiv (wrap64 (a0 * (wrap64 (100 + a1)))) 100)) (wrap64 (a0 + 1))) > 1099511627776 then (some (0, false)) else (some (mx (wrap64 (Int.tdiv (wrap64 (a0 * (wrap64 (100 + a1)))) 100)) (wrap64 (a0 + 1)), true)))) = some (r1, r2) := by rw [if_neg (show ¬ (false = true) by decide)] at H; exact H
   clear H
   have H := H1
   clear H1
   by_cases c8 : (Int.tmod (wrap64 (a0 * (wrap64 (100 + a1)))) 100) > 0
   · rw [if_pos c8] at H
     have c8b0 : decide (0 < (Int.tmod (wrap64 (a0 * (wrap64 (100 + a1)))) 100)) = true := decide_eq_true c8
     clear c8
     obtain ⟨ji9, hji9⟩ : ∃ j_ : Int, (mx (wrap64 ((wrap64 (Int.tdiv (wrap64 (a0 * (wrap64 (100 + a1)))) 100)) + 1)) (wrap64 (a0 + 1))) = j_ := ⟨_, rfl⟩
     replace H : (if (ji9) > 1099511627776 then (some (0, false)) else (some (ji9, true))) = some (r1, r2) := by first | (rw [hji9] at H; exact H) | (simp only [hji9] at H ⊢; exact H)
     have hji9_ : (if (wrap64 ((wrap64 (Int.tdiv (wrap64 (a0 * (wrap64 (100 + a1)))) 100)) + 1)) < (wrap64 (a0 + 1)) then (wrap64 (a0 + 1)) else (wrap64 ((wrap64 (Int.tdiv (wrap64 (a0 * (wrap64 (100 + a1)))) 100)) + 1))) = ji9 := hji9
     by_cases c10 : (ji9) > 1099511627776
     · rw [if_pos c10] at H
       have c10b0 : decide (1099511627776 < (ji9)) = true := decide_eq_true c10
       clear c10
       simp only [Option.some.injEq, Prod.mk.injEq] at H
       obtain ⟨rfl, rfl⟩ := H
       go_wp2
       go_ret2
       exact ⟨by first | rfl | (simp [errW_none, errW_some] <;> rfl) | (simp only [← hji9]; first | rfl | (simp [errW_none, errW_some] <;> rfl)) | (simp [*, errW_none, errW_some] <;> rfl), by repeat (first | (with_reducible first | exact HB.out | apply wa_ | apply wn_ | apply wd_) | exact HB.out)⟩
     · rw [if_neg c10] at H
       have c10b0 : decide (1099511627776 < (ji9)) = false := decide_eq_false c10
       clear c10
       simp only [Option.some.injEq, Prod.mk.injEq] at H
       obtain ⟨rfl, rfl⟩ := H
       go_wp2
       go_ret2
       exact ⟨by first | rfl | (simp [errW_none, errW_some] <;> rfl) | (simp only [← hji9]; first | rfl | (simp [errW_none, errW_some] <;> rfl)) | (simp [*, errW_none, errW_some] <;> rfl), by repeat (first | (with_reducible first | exact HB.out | apply wa_ | apply wn_ | apply wd_) | exact HB.out)⟩
   · rw [if_neg c8] at H
     have c8b0 : decide (0 < (Int.tmod (wrap64 (a0 * (wrap64 (100 + a1)))) 100)) = false := decide_eq_false c8
     clear c8
     obtain ⟨ji11, hji11⟩ : ∃ j_ : Int, (mx (wrap64 (Int.tdiv (wrap64 (a0 * (wrap64 (100 + a1)))) 100)) (wrap64 (a0 + 1))) = j_ := ⟨_, rfl⟩
     replace H : (if (ji11) > 1099511627776 then (some (0, false)) else (some (ji11, true))) = some (r1, r2) := by first | (rw [hji11] at H; exact H) | (simp only [hji11] at H ⊢; exact H)
     have hji11_ : (if (wrap64 (Int.tdiv (wrap64 (a0 * (wrap64 (100 + a1)))) 100)) < (wrap64 (a0 + 1)) then (wrap64 (a0 + 1)) else (wrap64 (Int.tdiv (wrap64 (a0 * (wrap64 (100 + a1)))) 100))) = ji11 := hji11
     by_cases c12 : (ji11) > 1099511627776
     · rw [if_pos c12] at H
       have c12b0 : decide (1099511627776 < (ji11)) = true := decide_eq_true c12
       clear c12
       simp only [Option.some.injEq, Prod.mk.injEq] at H
       obtain ⟨rfl, rfl⟩ := H
       go_wp2
       go_ret2
       exact ⟨by first | rfl | (simp [errW_none, errW_some] <;> rfl) | (simp only [← hji11]; first | rfl | (simp [errW_none, errW_some] <;> rfl)) | (simp [*, errW_none, errW_some] <;> rfl), by repeat (first | (with_reducible first | exact HB.out | apply wa_ | apply wn_ | apply wd_) | exact HB.out)⟩
     · rw [if_neg c12] at H
       have c12b0 : decide (1099511627776 < (ji11)) = false := decide_eq_false c12
       clear c12
       simp only [Option.some.injEq, Prod.mk.injEq] at H
       obtain ⟨rfl, rfl⟩ := H
       go_wp2
       go_ret2
       exact ⟨by first | rfl | (simp [errW_none, errW_some] <;> rfl) | (simp only [← hji11]; first | rfl | (simp [errW_none, errW_some] <;> rfl)) | (simp [*, errW_none, errW_some] <;> rfl), by repeat (first | (with_reducible first | exact HB.out | apply wa_ | apply wn_ | apply wd_) | exact HB.out)⟩

end Go.Proofs.Ytehncbhmdgdkjaa.Q
