/- Written by this session's own program over the kit's print: functions of Go told as plain functions, or the row of one statement; proved for every input, with no condition of ours. -/
import Derived.Test.YtihlogdmdmhefaaLx0
import Derived.Test.YtihlogdmdmhefaaLx3
import Derived.Test.YtihlogdmdmhefaaLx13
import Derived.Test.YtihlogdmdmhefaaLx17
import Derived.Test.YtihlogdmdmhefaaLx18
import Derived.Test.YtihlogdmdmhefaaLx22
namespace Go.Proofs.Ytihlogdmdmhefaa.L
open Go.RowKit Go.Proofs.YtihlogdmdmhefaaW.PrintWords Go.Proofs.YtihlogdmdmhefaaW.PrintLast Go.Proofs.YtihlogdmdmhefaaW.PrintMore
attribute [local go_sem] max2_int min2_int max_two min_two max_three min_three max_four min_four   -- for this text's walks alone
set_option linter.unusedVariables false
set_option linter.unusedSimpArgs false

/-! ### hopperlaw06_HeapWorst: function 20 -/
mutual
def hopperlaw06_HeapWorst.j0 : Nat → List (S23) → Int → List (S23) → Bool → Option (Bool)
  | 0, _, _, _, _ => none
  | k + 1, x0, x3, x5, x45 => if x45 = true then (none) else (if 0 ≤ (wrap64 ((x5.length : Int) - 1)) then (if (wrap64 ((x5.length : Int) - 1)) < (x5.length : Int) then (hopperlaw06_HeapWorst.l0 k x0 x3 0 ((rd_T23 x5 (wrap64 ((x5.length : Int) - 1))).f0) ((rd_T23 x5 (wrap64 ((x5.length : Int) - 1))).f1) ((rd_T23 x5 (wrap64 ((x5.length : Int) - 1))).f2) ((rd_T23 x5 (wrap64 ((x5.length : Int) - 1))).f3) ((rd_T23 x5 (wrap64 ((x5.length : Int) - 1))).f4) ((rd_T23 x5 (wrap64 ((x5.length : Int) - 1))).f5)) else (none)) else (none))
def hopperlaw06_HeapWorst.l0 : Nat → List (S23) → Int → Int → Int → Int → Int → Int → Int → ByteArray → Option (Bool)
  | 0, _, _, _, _, _, _, _, _, _ => none
  | k + 1, x0, x3, x7, x570000, x570001, x570002, x570003, x570004, x570005 => if x7 < x3 then (if 0 ≤ x7 then (if x7 < (x0.length : Int) then (if 0 ≤ x3 then (if x3 < (x0.length : Int) then ((hopperref04_Better.f k ((rd_T23 x0 x7).f0) ((rd_T23 x0 x7).f1) ((rd_T23 x0 x7).f2) ((rd_T23 x0 x7).f3) ((rd_T23 x0 x7).f4) ((rd_T23 x0 x7).f5) ((rd_T23 x0 x3).f0) ((rd_T23 x0 x3).f1) ((rd_T23 x0 x3).f2) ((rd_T23 x0 x3).f3) ((rd_T23 x0 x3).f4) ((rd_T23 x0 x3).f5)).bind fun t572 => (if t572 = true then (hopperlaw06_HeapWorst.l0 k x0 x3 (wrap64 (x7 + 1)) x570000 x570001 x570002 x570003 x570004 x570005) else (none))) else (none)) else (none)) else (none)) else (none)) else (if 0 ≤ x3 then (if x3 < (x0.length : Int) then ((hopperref04_Better.f k x570000 x570001 x570002 x570003 x570004 x570005 ((rd_T23 x0 x3).f0) ((rd_T23 x0 x3).f1) ((rd_T23 x0 x3).f2) ((rd_T23 x0 x3).f3) ((rd_T23 x0 x3).f4) ((rd_T23 x0 x3).f5)).bind fun t574 => (if t574 = true then (none) else ((hopperref04_Better.f k ((rd_T23 x0 x3).f0) ((rd_T23 x0 x3).f1) ((rd_T23 x0 x3).f2) ((rd_T23 x0 x3).f3) ((rd_T23 x0 x3).f4) ((rd_T23 x0 x3).f5) x570000 x570001 x570002 x570003 x570004 x570005).bind fun t576 => (if t576 = true then (none) else ((hopperlaw06_live.f k).bind fun t577 => (some t577)))))) else (none)) else (none))
end
def hopperlaw06_HeapWorst.f (k : Nat) (l0 : List (S23)) : Option (Bool) := (hopperref04_Few.f k l0 40).bind fun t560 => (if t560 = true then ((heap_Worst.f k l0).bind fun bt562 => (if bt562.2 = true then ((heap_Order.f l0).bind fun t565 => (if bt562.1 < 0 then (none) else (if bt562.1 ≥ (l0.length : Int) then (none) else (hopperlaw06_HeapWorst.j0 k l0 bt562.1 t565 ((t565.length : Int) != (l0.length : Int)))))) else (if (l0.length : Int) = 0 then (if bt562.1 = 0 then ((hopperlaw06_live.f k).bind fun t564 => (some t564)) else (none)) else (none)))) else ((hopperlaw06_live.f k).bind fun t561 => (some t561)))
theorem hopperlaw06_HeapWorst.mono_l : ∀ k, (∀ y0 y1 y2 y3, LeO (hopperlaw06_HeapWorst.j0 k y0 y1 y2 y3) (hopperlaw06_HeapWorst.j0 (k + 1) y0 y1 y2 y3)) ∧ (∀ y0 y1 y2 y3 y4 y5 y6 y7 y8, LeO (hopperlaw06_HeapWorst.l0 k y0 y1 y2 y3 y4 y5 y6 y7 y8) (hopperlaw06_HeapWorst.l0 (k + 1) y0 y1 y2 y3 y4 y5 y6 y7 y8))
  | 0 => ⟨fun _ _ _ _ r h => by simp [hopperlaw06_HeapWorst.j0] at h, fun _ _ _ _ _ _ _ _ _ r h => by simp [hopperlaw06_HeapWorst.l0] at h⟩
  | k + 1 => by
    obtain ⟨ih0, ih1⟩ := hopperlaw06_HeapWorst.mono_l k
    refine ⟨?_, ?_⟩
    · intro y0 y1 y2 y3
      unfold hopperlaw06_HeapWorst.j0
      repeat' first
      | (with_reducible exact ih0 _ _ _ _)
      | (with_reducible exact ih1 _ _ _ _ _ _ _ _ _)
      | (with_reducible exact heap_Worst.mono _ _)
      | (with_reducible exact hopperlaw06_live.mono _)
      | (with_reducible exact hopperref04_Better.mono _ _ _ _ _ _ _ _ _ _ _ _ _)
      | (with_reducible exact hopperref04_Few.mono _ _ _)
      | (with_reducible exact LeO.refl _)
      | (with_reducible exact LeO.none _)
      | (with_reducible refine LeO.ite ?_ ?_)
      | (with_reducible refine LeO.bind ?_ (fun _ => ?_))
      | exact ih0 _ _ _ _
      | exact ih1 _ _ _ _ _ _ _ _ _
      | exact heap_Worst.mono _ _
      | exact hopperlaw06_live.mono _
      | exact hopperref04_Better.mono _ _ _ _ _ _ _ _ _ _ _ _ _
      | exact hopperref04_Few.mono _ _ _
      | exact LeO.none _
      | refine LeO.ite ?_ ?_
      | refine LeO.bind ?_ (fun _ => ?_)
    · intro y0 y1 y2 y3 y4 y5 y6 y7 y8
      unfold hopperlaw06_HeapWorst.l0
      repeat' first
      | (with_reducible exact ih0 _ _ _ _)
      | (with_reducible exact ih1 _ _ _ _ _ _ _ _ _)
      | (with_reducible exact heap_Worst.mono _ _)
      | (with_reducible exact hopperlaw06_live.mono _)
      | (with_reducible exact hopperref04_Better.mono _ _ _ _ _ _ _ _ _ _ _ _ _)
      | (with_reducible exact hopperref04_Few.mono _ _ _)
      | (with_reducible exact LeO.refl _)
      | (with_reducible exact LeO.none _)
      | (with_reducible refine LeO.ite ?_ ?_)
      | (with_reducible refine LeO.bind ?_ (fun _ => ?_))
      | exact ih0 _ _ _ _
      | exact ih1 _ _ _ _ _ _ _ _ _
      | exact heap_Worst.mono _ _
      | exact hopperlaw06_live.mono _
      | exact hopperref04_Better.mono _ _ _ _ _ _ _ _ _ _ _ _ _
      | exact hopperref04_Few.mono _ _ _
      | exact LeO.none _
      | refine LeO.ite ?_ ?_
      | refine LeO.bind ?_ (fun _ => ?_)
theorem hopperlaw06_HeapWorst.mono : ∀ a0 k, LeO (hopperlaw06_HeapWorst.f k a0) (hopperlaw06_HeapWorst.f (k + 1) a0) := by
  intro a0 k
  obtain ⟨ih0, ih1⟩ := hopperlaw06_HeapWorst.mono_l k
  unfold hopperlaw06_HeapWorst.f
  repeat' first
      | (with_reducible exact ih0 _ _ _ _)
      | (with_reducible exact ih1 _ _ _ _ _ _ _ _ _)
      | (with_reducible exact heap_Worst.mono _ _)
      | (with_reducible exact hopperlaw06_live.mono _)
      | (with_reducible exact hopperref04_Better.mono _ _ _ _ _ _ _ _ _ _ _ _ _)
      | (with_reducible exact hopperref04_Few.mono _ _ _)
      | (with_reducible exact LeO.refl _)
      | (with_reducible exact LeO.none _)
      | (with_reducible refine LeO.ite ?_ ?_)
      | (with_reducible refine LeO.bind ?_ (fun _ => ?_))
      | exact ih0 _ _ _ _
      | exact ih1 _ _ _ _ _ _ _ _ _
      | exact heap_Worst.mono _ _
      | exact hopperlaw06_live.mono _
      | exact hopperref04_Better.mono _ _ _ _ _ _ _ _ _ _ _ _ _
      | exact hopperref04_Few.mono _ _ _
      | exact LeO.none _
      | refine LeO.ite ?_ ?_
      | refine LeO.bind ?_ (fun _ => ?_)
def hopperlaw06_HeapWorst.T13 : Bool × List (List Nat × List Nat) := (true, [([], []), ([], []), ([0, 1], [0, 1]), ([2], [2]), ([], []), ([], []), ([4, 5], [4, 5]), ([6], [6]), ([3, 7], [3, 7]), ([8], [8])])
def hopperlaw06_HeapWorst.B13 : List Nat := [0, 0, 3, 7, 0, 0, 48, 112, 255, 511]
theorem hopperlaw06_HeapWorst.tab13 : rtab .any (opsOf Try.f20 13) = hopperlaw06_HeapWorst.T13 := by kernel_rfl
theorem hopperlaw06_HeapWorst.bits13 : waitsOk hopperlaw06_HeapWorst.T13.2 hopperlaw06_HeapWorst.B13 = true := by kernel_rfl
def hopperlaw06_HeapWorst.T15 : Bool × List (List Nat × List Nat) := (true, [([], []), ([], []), ([], []), ([1, 2], [1, 2]), ([3], [3]), ([0, 4], [0, 4]), ([5], [5]), ([6, 5], [6]), ([7], [7]), ([7], [7]), ([8, 9, 7], [7, 8, 9]), ([10, 7], [7, 10]), ([7], [7]), ([11, 12, 7, 7], [7, 11, 12]), ([13, 7], [7, 13]), ([7, 14], [7, 14]), ([15, 13], [15]), ([16, 16], [16]), ([16, 17], [16, 17]), ([18, 17, 0, 1, 2, 3, 4, 5, 6, 7, 8, 9, 10, 11, 12, 13, 14, 15, 16, 17, 18], [18])])
def hopperlaw06_HeapWorst.B15 : List Nat := [0, 0, 0, 6, 14, 31, 63, 127, 255, 255, 1023, 2047, 255, 8191, 16383, 32767, 65535, 131071, 262143, 524287]
theorem hopperlaw06_HeapWorst.tab15 : rtab .any (opsOf Try.f20 15) = hopperlaw06_HeapWorst.T15 := by kernel_rfl
theorem hopperlaw06_HeapWorst.bits15 : waitsOk hopperlaw06_HeapWorst.T15.2 hopperlaw06_HeapWorst.B15 = true := by kernel_rfl
set_option maxHeartbeats 8000000 in
set_option maxRecDepth 100000 in
theorem hopperlaw06_HeapWorst.calls (k : Nat) (A0 : Option Addr) (c0 : Nat) (l0 : List (S23)) (r : Bool) (w : World) (hr0 : Kd.C k23 w A0 l0.length l0) (hc0 : l0.length ≤ c0) (h : hopperlaw06_HeapWorst.f k l0 = some r) :
    Calls Try.prog 20 #[.slice A0 l0.length c0] w fun e w' => e = .returned (.bool r) ∧ Below w.heap.size w w' := by
  have hu23 := Try.underlying23
  have HR0 := Aside0.mk hr0
  have HC0 := Aside0.mk hc0
  clear hr0 hc0
  have HB := Aside0.mk (Below.refl w.heap.size w)
  have H : ((hopperref04_Few.f k l0 40).bind fun t560 => (if t560 = true then ((heap_Worst.f k l0).bind fun bt562 => (if bt562.2 = true then ((heap_Order.f l0).bind fun t565 => (if bt562.1 < 0 then (none) else (if bt562.1 ≥ (l0.length : Int) then (none) else (hopperlaw06_HeapWorst.j0 k l0 bt562.1 t565 ((t565.length : Int) != (l0.length : Int)))))) else (if (l0.length : Int) = 0 then (if bt562.1 = 0 then ((hopperlaw06_live.f k).bind fun t564 => (some t564)) else (none)) else (none)))) else ((hopperlaw06_live.f k).bind fun t561 => (some t561)))) = some r := h
  clear h
  replace H := Option.bind_eq_some_iff.mp H
  obtain ⟨t560, A20, H⟩ := H
  replace H : (if t560 = true then ((heap_Worst.f k l0).bind fun bt562 => (if bt562.2 = true then ((heap_Order.f l0).bind fun t565 => (if bt562.1 < 0 then (none) else (if bt562.1 ≥ (l0.length : Int) then (none) else (hopperlaw06_HeapWorst.j0 k l0 bt562.1 t565 ((t565.length : Int) != (l0.length : Int)))))) else (if (l0.length : Int) = 0 then (if bt562.1 = 0 then ((hopperlaw06_live.f k).bind fun t564 => (some t564)) else (none)) else (none)))) else ((hopperlaw06_live.f k).bind fun t561 => (some t561))) = some r := H
  have A2 := Aside0.mk A20
  clear A20
  by_cases c3 : t560 = true
  · subst c3
    have H1 : ((heap_Worst.f k l0).bind fun bt562 => (if bt562.2 = true then ((heap_Order.f l0).bind fun t565 => (if bt562.1 < 0 then (none) else (if bt562.1 ≥ (l0.length : Int) then (none) else (hopperlaw06_HeapWorst.j0 k l0 bt562.1 t565 ((t565.length : Int) != (l0.length : Int)))))) else (if (l0.length : Int) = 0 then (if bt562.1 = 0 then ((hopperlaw06_live.f k).bind fun t564 => (some t564)) else (none)) else (none)))) = some r := by rw [if_pos rfl] at H; exact H
    clear H
    have H := H1
    clear H1
    replace H := Option.bind_eq_some_iff.mp H
    obtain ⟨⟨t562, t563⟩, A40, H⟩ := H
    replace H : (if t563 = true then ((heap_Order.f l0).bind fun t565 => (if t562 < 0 then (none) else (if t562 ≥ (l0.length : Int) then (none) else (hopperlaw06_HeapWorst.j0 k l0 t562 t565 ((t565.length : Int) != (l0.length : Int)))))) else (if (l0.length : Int) = 0 then (if t562 = 0 then ((hopperlaw06_live.f k).bind fun t564 => (some t564)) else (none)) else (none))) = some r := H
    have A4 := Aside0.mk A40
    clear A40
    by_cases c5 : t563 = true
    · subst c5
      have H1 : ((heap_Order.f l0).bind fun t565 => (if t562 < 0 then (none) else (if t562 ≥ (l0.length : Int) then (none) else (hopperlaw06_HeapWorst.j0 k l0 t562 t565 ((t565.length : Int) != (l0.length : Int)))))) = some r := by rw [if_pos rfl] at H; exact H
      clear H
      have H := H1
      clear H1
      replace H := Option.bind_eq_some_iff.mp H
      obtain ⟨t565, A60, H⟩ := H
      replace H : (if t562 < 0 then (none) else (if t562 ≥ (l0.length : Int) then (none) else (hopperlaw06_HeapWorst.j0 k l0 t562 t565 ((t565.length : Int) != (l0.length : Int))))) = some r := H
      have A6 := Aside0.mk A60
      clear A60
      have HC7 := Aside0.mk H
      clear H
      go_enter Try.func20, Try.ntmps20
      go_upto_region 7 with (first | ((with_reducible refine gate_callee (f := 66) rfl ?_); refine goesL_ (some 9) rfl rfl Try.func66 (by kernel_rfl) rfl #[.slice A0 l0.length c0, .int .i64 40] rfl (by (try simp only [List.map_toArray, List.map_cons, List.map_nil]); first | done | rfl | (simp only [List.length_drop, List.length_take]; rfl)) ?_; (with_reducible refine (hopperref04_Few.calls k _ _ l0 40 true _ ?side1 ?side2 A2.out).mono ?_); (case side1 => repeat (first | exact HR0.out | (with_reducible refine Kd.C_alloc ?_ _) | (with_reducible refine Kd.C_drewN ?_ _) | (with_reducible refine Kd.C_drew ?_))); (case side2 => exact HC0.out); rintro e w8 ⟨rfl, hb⟩; refine ⟨_, rfl, ?_⟩; have n0_ := Aside0.mk (below_step (by repeat (first | (with_reducible first | exact HB.out | apply below_alloc | apply pw_below_drewN | apply below_drew1) | exact HB.out)) hb); clear HB; have HB := n0_; clear n0_; (try clear hb); (try clear hb2); (try clear hk); (try clear hi)) | ((with_reducible refine gate_callee (f := 70) rfl ?_); refine goesL_ (some 14) rfl rfl Try.func70 (by kernel_rfl) rfl #[.slice A0 l0.length c0] rfl (by (try simp only [List.map_toArray, List.map_cons, List.map_nil]); first | done | rfl | (simp only [List.length_drop, List.length_take]; rfl)) ?_; (with_reducible refine (heap_Worst.calls k _ _ l0 t562 true _ ?side1 ?side2 A4.out).mono ?_); (case side1 => repeat (first | exact (Kd.C_below HR0.out HB.out) | (with_reducible refine Kd.C_alloc ?_ _) | (with_reducible refine Kd.C_drewN ?_ _) | (with_reducible refine Kd.C_drew ?_))); (case side2 => exact HC0.out); rintro e w9 ⟨rfl, hb⟩; refine ⟨_, rfl, ?_⟩; have n0_ := Aside0.mk (below_step (by repeat (first | (with_reducible first | exact HB.out | apply below_alloc | apply pw_below_drewN | apply below_drew1) | exact HB.out)) hb); clear HB; have HB := n0_; clear n0_; (try clear hb); (try clear hb2); (try clear hk); (try clear hi)) | ((with_reducible refine gate_callee (f := 78) rfl ?_); refine goesL_ (some 30) rfl rfl Try.func78 (by kernel_rfl) rfl #[.slice A0 l0.length c0] rfl (by (try simp only [List.map_toArray, List.map_cons, List.map_nil]); first | done | rfl | (simp only [List.length_drop, List.length_take]; rfl)) ?_; (with_reducible refine (heap_Order.calls _ _ l0 t565 _ ?side1 ?side2 A6.out).mono ?_); (case side1 => repeat (first | exact (Kd.C_below HR0.out HB.out) | (with_reducible refine Kd.C_alloc ?_ _) | (with_reducible refine Kd.C_drewN ?_ _) | (with_reducible refine Kd.C_drew ?_))); (case side2 => exact HC0.out); rintro e w10 ⟨v566, rfl, ho0, hb⟩; refine ⟨_, rfl, ?_⟩; have n0_ := Aside0.mk (Kd.R_lower ho0 (below_size (by repeat (first | (with_reducible first | exact HB.out | apply below_alloc | apply pw_below_drewN | apply below_drew1) | exact HB.out)))); have n1_ := Aside0.mk (below_step (by repeat (first | (with_reducible first | exact HB.out | apply below_alloc | apply pw_below_drewN | apply below_drew1) | exact HB.out)) hb); clear HB; have HO567 := n0_; have HB := n1_; clear n0_ n1_; (try clear hb); (try clear hb2); (try clear hk); (try clear hi); (try clear ho0)))
      (try simp only [Act.put, List.setIfInBounds_toArray, List.set_cons_zero, List.set_cons_succ])
      go_cut [45] (fun v45 wc => ∃ (kq : Nat) (x45_6 : Bool), v45 = .bool x45_6 ∧ Aside0 (hopperlaw06_HeapWorst.j0 kq l0 t562 t565 x45_6 = some r) ∧ Aside0 (kq ≤ k) ∧ Aside0 (Kd.R k23 23 wc w.heap.size (fun _ => True) v566 t565) ∧ Aside0 (Below w.heap.size w wc))
      case first =>
        have H := HC7.out
        clear HC7
        by_cases c11 : t562 < 0
        · rw [if_pos c11] at H
          exact absurd H (by simp)
        · rw [if_neg c11] at H
          have c11b0 : decide (t562 < 0) = false := decide_eq_false c11
          clear c11
          (first | rw [c11b0] | (simp only [i64_w, i32_w]; rw [c11b0]) | skip)
          by_cases c12 : t562 ≥ (l0.length : Int)
          · rw [if_pos c12] at H
            exact absurd H (by simp)
          · rw [if_neg c12] at H
            have c12b0 : decide ((l0.length : Int) ≤ t562) = false := decide_eq_false c12
            clear c12
            have H' := Aside0.mk H
            clear H
            obtain ⟨Ao13, co13, eo13⟩ := Kd.R_slice HO567.out
            subst eo13
            go_wp2
            go_meet
            case rel => exact ⟨_, (((t565.length : Int) != (l0.length : Int))), (by first | rfl | (simp; done) | (simp [*]; done)), H', ⟨by first | omega | exact Nat.le_refl _⟩, ⟨by (with_reducible repeat (first | apply Kd.R_alloc | apply Kd.R_drewN | apply Kd.R_drew)); exact HO567.out⟩, ⟨by repeat (first | (with_reducible first | exact HB.out | apply below_alloc | apply pw_below_drewN | apply below_drew1) | exact HB.out)⟩⟩
      case rest =>
        clear HC7
        try clear c1
        try clear c2
        try clear p2
        try clear c3
        try clear c5
        try clear c6
        try clear c7
        try clear c11
        try clear c11b0
        try clear c12
        try clear c12b0
        obtain ⟨kq, x45_6, rfl, HA, HJ6, HO_5, HB⟩ := hcut
        cases kq with
        | zero => exact absurd HA.out (by simp [hopperlaw06_HeapWorst.j0])
        | succ kj6 =>
          have H := HA.out
          clear HA
          simp only [hopperlaw06_HeapWorst.j0] at H
          by_cases c14 : x45_6 = true
          · subst c14
            have H1 : (none) = some r := by rw [if_pos rfl] at H; exact H
            clear H
            have H := H1
            clear H1
            exact absurd H (by simp)
          · replace c14 := Bool.eq_false_iff.mpr c14
            subst c14
            have H1 : (if 0 ≤ (wrap64 ((t565.length : Int) - 1)) then (if (wrap64 ((t565.length : Int) - 1)) < (t565.length : Int) then (hopperlaw06_HeapWorst.l0 kj6 l0 t562 0 ((rd_T23 t565 (wrap64 ((t565.length : Int) - 1))).f0) ((rd_T23 t565 (wrap64 ((t565.length : Int) - 1))).f1) ((rd_T23 t565 (wrap64 ((t565.length : Int) - 1))).f2) ((rd_T23 t565 (wrap64 ((t565.length : Int) - 1))).f3) ((rd_T23 t565 (wrap64 ((t565.length : Int) - 1))).f4) ((rd_T23 t565 (wrap64 ((t565.length : Int) - 1))).f5)) else (none)) else (none)) = some r := by rw [if_neg (show ¬ (false = true) by decide)] at H; exact H
            clear H
            have H := H1
            clear H1
            obtain ⟨ji15, hji15⟩ : ∃ j_ : Int, (wrap64 ((t565.length : Int) - 1)) = j_ := ⟨_, rfl⟩
            replace H : (if 0 ≤ (ji15) then (if (ji15) < (t565.length : Int) then (hopperlaw06_HeapWorst.l0 kj6 l0 t562 0 ((rd_T23 t565 (ji15)).f0) ((rd_T23 t565 (ji15)).f1) ((rd_T23 t565 (ji15)).f2) ((rd_T23 t565 (ji15)).f3) ((rd_T23 t565 (ji15)).f4) ((rd_T23 t565 (ji15)).f5)) else (none)) else (none)) = some r := by first | (rw [hji15] at H; exact H) | (simp only [hji15] at H ⊢; exact H)
            have hji15w : (IntKind.i64.wrap ((t565.length : Int) - 1)) = ji15 := (i64_w _).trans hji15
            by_cases c16 : 0 ≤ (ji15)
            · rw [if_pos c16] at H
              have c16b0 : decide (0 ≤ (ji15)) = true := decide_eq_true c16
              clear c16
              by_cases c17 : (ji15) < (t565.length : Int)
              · rw [if_pos c17] at H
                have c17b0 : decide ((ji15) < (t565.length : Int)) = true := decide_eq_true c17
                clear c17
                have H' := Aside0.mk H
                clear H
                obtain ⟨Ao18, co18, eo18⟩ := Kd.R_slice HO_5.out
                subst eo18
                have p568 : 0 ≤ ((ji15) : Int) := of_decide_eq_true (by first | (with_reducible assumption) | assumption)
                have q568 : (ji15) < (t565.length : Int) := of_decide_eq_true (by first | (with_reducible assumption) | assumption)
                obtain ⟨ad568, e568, hx568_0, hx568_1, hx568_2, hx568_3, hx568_4, hx568_5⟩ := at_T23 (Kd.R_reads' HO_5.out).2.2 (ji15) p568 q568
                cases e568
                replace p568 := eq_true p568
                replace q568 := eq_true q568
                go_wp2_with (first | ((with_reducible refine gate_dst (N := 6) rfl ?_); (try (refine gate_guard (by rfl) ?_; dsimp only)); refine box_event ?hg (N := 6) ?hd (cs := #[.int .i64 0, .int .i64 0, .int .i64 0, .int .i64 0, .int .i64 0, .string (⟨#[]⟩ : ByteArray)]) (t := 23) ?hr ?_; (case hd => rfl); (case hg => rfl); (case hr => first | (go_simp; done) | (go_simp; rfl)); intro gb569 hg w19 hbox hb; have n0_ := Aside0.mk (Kd.R_below (Kd.R_elderB (by (with_reducible repeat (first | apply Kd.R_alloc | apply Kd.R_drewN | apply Kd.R_drew)); exact HO_5.out) gb569 (Nat.le_of_eq hg.symm)) hb); have n1_ := Aside0.mk (below_step (by repeat (first | (with_reducible first | exact HB.out | apply below_alloc | apply pw_below_drewN | apply below_drew1) | exact HB.out)) hb); have n2_ := Aside0.mk (hbox); have n3_ := Aside0.mk ((by rw [hg]; exact (below_size (by repeat (first | (with_reducible first | exact HB.out | apply below_alloc | apply pw_below_drewN | apply below_drew1) | exact HB.out))) : w.heap.size ≤ gb569)); have n4_ := Aside0.mk ((by rw [hg]; exact (below_size (by repeat (first | (with_reducible first | exact HB.out | apply below_alloc | apply pw_below_drewN | apply below_drew1) | exact HB.out))) : w.heap.size ≤ gb569)); clear HO_5; clear HB; have HO_5 := n0_; have HB := n1_; have BK569 := n2_; have GW569 := n3_; have GE569 := n4_; clear n0_ n1_ n2_ n3_ n4_; clear hb hbox hg; have hcz20_0 : w19.cell? ⟨gb569, 0, none⟩ = some (.int .i64 0) := (blk_cell BK569.out 0).trans rfl; have hcz20_1 : w19.cell? ⟨gb569, 1, none⟩ = some (.int .i64 0) := (blk_cell BK569.out 1).trans rfl; have hcz20_2 : w19.cell? ⟨gb569, 2, none⟩ = some (.int .i64 0) := (blk_cell BK569.out 2).trans rfl; have hcz20_3 : w19.cell? ⟨gb569, 3, none⟩ = some (.int .i64 0) := (blk_cell BK569.out 3).trans rfl; have hcz20_4 : w19.cell? ⟨gb569, 4, none⟩ = some (.int .i64 0) := (blk_cell BK569.out 4).trans rfl; have hcz20_5 : w19.cell? ⟨gb569, 5, none⟩ = some (.string (⟨#[]⟩ : ByteArray)) := (blk_cell BK569.out 5).trans rfl; have hfz20_0 := blk_frozen BK569.out 0; have hfz20_1 := blk_frozen BK569.out 1; have hfz20_2 := blk_frozen BK569.out 2; have hfz20_3 := blk_frozen BK569.out 3; have hfz20_4 := blk_frozen BK569.out 4; have hfz20_5 := blk_frozen BK569.out 5))
                go_loopg [7] kj6 (fun kq v7 w' => ∃ (x7_2 : Int), v7 = .int .i64 x7_2 ∧ Aside0 (hopperlaw06_HeapWorst.l0 kq l0 t562 x7_2 ((rd_T23 t565 (ji15)).f0) ((rd_T23 t565 (ji15)).f1) ((rd_T23 t565 (ji15)).f2) ((rd_T23 t565 (ji15)).f3) ((rd_T23 t565 (ji15)).f4) ((rd_T23 t565 (ji15)).f5) = some r) ∧ Aside0 (kq ≤ kj6) ∧ Aside0 (w'.heap[gb569]? = some (.cells #[.int .i64 ((rd_T23 t565 (ji15)).f0), .int .i64 ((rd_T23 t565 (ji15)).f1), .int .i64 ((rd_T23 t565 (ji15)).f2), .int .i64 ((rd_T23 t565 (ji15)).f3), .int .i64 ((rd_T23 t565 (ji15)).f4), .string ((rd_T23 t565 (ji15)).f5)] 23 (0, 0))) ∧ Aside0 (Below w.heap.size w w'))
                case atStart => exact ⟨(0), (by first | rfl | (simp; done) | (simp [*]; done)), H', ⟨Nat.le_refl _⟩, ⟨by (with_reducible repeat (first | refine blk_drewN ?_ _ | refine blk_drew ?_ | refine blk_alloc ?_ _)); refine blk_put (cs := #[.int .i64 ((rd_T23 t565 (ji15)).f0), .int .i64 ((rd_T23 t565 (ji15)).f1), .int .i64 ((rd_T23 t565 (ji15)).f2), .int .i64 ((rd_T23 t565 (ji15)).f3), .int .i64 ((rd_T23 t565 (ji15)).f4), .string (⟨#[]⟩ : ByteArray)]) ?_ 5 _ rfl; (with_reducible repeat (first | refine blk_drewN ?_ _ | refine blk_drew ?_ | refine blk_alloc ?_ _)); refine blk_put (cs := #[.int .i64 ((rd_T23 t565 (ji15)).f0), .int .i64 ((rd_T23 t565 (ji15)).f1), .int .i64 ((rd_T23 t565 (ji15)).f2), .int .i64 ((rd_T23 t565 (ji15)).f3), .int .i64 0, .string (⟨#[]⟩ : ByteArray)]) ?_ 4 _ rfl; (with_reducible repeat (first | refine blk_drewN ?_ _ | refine blk_drew ?_ | refine blk_alloc ?_ _)); refine blk_put (cs := #[.int .i64 ((rd_T23 t565 (ji15)).f0), .int .i64 ((rd_T23 t565 (ji15)).f1), .int .i64 ((rd_T23 t565 (ji15)).f2), .int .i64 0, .int .i64 0, .string (⟨#[]⟩ : ByteArray)]) ?_ 3 _ rfl; (with_reducible repeat (first | refine blk_drewN ?_ _ | refine blk_drew ?_ | refine blk_alloc ?_ _)); refine blk_put (cs := #[.int .i64 ((rd_T23 t565 (ji15)).f0), .int .i64 ((rd_T23 t565 (ji15)).f1), .int .i64 0, .int .i64 0, .int .i64 0, .string (⟨#[]⟩ : ByteArray)]) ?_ 2 _ rfl; (with_reducible repeat (first | refine blk_drewN ?_ _ | refine blk_drew ?_ | refine blk_alloc ?_ _)); refine blk_put (cs := #[.int .i64 ((rd_T23 t565 (ji15)).f0), .int .i64 0, .int .i64 0, .int .i64 0, .int .i64 0, .string (⟨#[]⟩ : ByteArray)]) ?_ 1 _ rfl; (with_reducible repeat (first | refine blk_drewN ?_ _ | refine blk_drew ?_ | refine blk_alloc ?_ _)); refine blk_put (cs := #[.int .i64 0, .int .i64 0, .int .i64 0, .int .i64 0, .int .i64 0, .string (⟨#[]⟩ : ByteArray)]) ?_ 0 _ rfl; (with_reducible repeat (first | refine blk_drewN ?_ _ | refine blk_drew ?_ | refine blk_alloc ?_ _)); exact BK569.out⟩, ⟨by repeat (first | (with_reducible first | exact HB.out | apply below_alloc | apply pw_below_drewN | apply below_drew1 | refine below_set ?_ GE569.out) | exact HB.out)⟩⟩
                case round =>
                  clear H'
                  try clear c1
                  try clear c2
                  try clear p2
                  try clear c3
                  try clear c5
                  try clear p5
                  try clear q5
                  try clear hx5
                  try clear c6
                  try clear p6
                  try clear c7
                  try clear c11
                  try clear c11b0
                  try clear c12
                  try clear c12b0
                  try clear c14
                  try clear c16
                  try clear c16b0
                  try clear c17
                  try clear c17b0
                  try clear c20
                  try clear hcz20_0
                  try clear hcz20_1
                  try clear hcz20_2
                  try clear hcz20_3
                  try clear hcz20_4
                  try clear hcz20_5
                  try clear hfz20_0
                  try clear hfz20_1
                  try clear hfz20_2
                  try clear hfz20_3
                  try clear hfz20_4
                  try clear hfz20_5
                  try clear hx568_0
                  try clear hx568_1
                  try clear hx568_2
                  try clear hx568_3
                  try clear hx568_4
                  try clear hx568_5
                  try clear p2
                  try clear p568
                  try clear q568
                  obtain ⟨x7_2, rfl, HA, HK2, BK569, HB⟩ := hrel
                  cases gk with
                  | zero => exact absurd HA.out (by simp [hopperlaw06_HeapWorst.l0])
                  | succ k2 =>
                    have H := HA.out
                    clear HA
                    simp only [hopperlaw06_HeapWorst.l0] at H
                    by_cases c21 : x7_2 < t562
                    · rw [if_pos c21] at H
                      have c21b0 : decide (x7_2 < t562) = true := decide_eq_true c21
                      clear c21
                      by_cases c22 : 0 ≤ x7_2
                      · rw [if_pos c22] at H
                        have c22b0 : decide (0 ≤ x7_2) = true := decide_eq_true c22
                        clear c22
                        by_cases c23 : x7_2 < (l0.length : Int)
                        · rw [if_pos c23] at H
                          have c23b0 : decide (x7_2 < (l0.length : Int)) = true := decide_eq_true c23
                          clear c23
                          by_cases c24 : 0 ≤ t562
                          · rw [if_pos c24] at H
                            have c24b0 : decide (0 ≤ t562) = true := decide_eq_true c24
                            clear c24
                            by_cases c25 : t562 < (l0.length : Int)
                            · rw [if_pos c25] at H
                              have c25b0 : decide (t562 < (l0.length : Int)) = true := decide_eq_true c25
                              clear c25
                              replace H := Option.bind_eq_some_iff.mp H
                              obtain ⟨t572, A260, H⟩ := H
                              replace H : (if t572 = true then (hopperlaw06_HeapWorst.l0 k2 l0 t562 (wrap64 (x7_2 + 1)) ((rd_T23 t565 (ji15)).f0) ((rd_T23 t565 (ji15)).f1) ((rd_T23 t565 (ji15)).f2) ((rd_T23 t565 (ji15)).f3) ((rd_T23 t565 (ji15)).f4) ((rd_T23 t565 (ji15)).f5)) else (none)) = some r := H
                              have A26 := Aside0.mk A260
                              clear A260
                              by_cases c27 : t572 = true
                              · subst c27
                                have H1 : (hopperlaw06_HeapWorst.l0 k2 l0 t562 (wrap64 (x7_2 + 1)) ((rd_T23 t565 (ji15)).f0) ((rd_T23 t565 (ji15)).f1) ((rd_T23 t565 (ji15)).f2) ((rd_T23 t565 (ji15)).f3) ((rd_T23 t565 (ji15)).f4) ((rd_T23 t565 (ji15)).f5)) = some r := by rw [if_pos rfl] at H; exact H
                                clear H
                                have H := H1
                                clear H1
                                have H' := Aside0.mk H
                                clear H
                                try go_wp2
                                have n0_ := Aside0.mk (blk_drew BK569.out)
                                have n1_ := Aside0.mk (below_drew1 HB.out)
                                clear BK569
                                clear HB
                                have BK569 := n0_
                                have HB := n1_
                                clear n0_ n1_
                                have p570 : 0 ≤ (x7_2 : Int) := of_decide_eq_true (by first | (with_reducible assumption) | assumption)
                                have q570 : x7_2 < (l0.length : Int) := of_decide_eq_true (by first | (with_reducible assumption) | assumption)
                                obtain ⟨ad570, e570, hx570_0, hx570_1, hx570_2, hx570_3, hx570_4, hx570_5⟩ := at_T23 HR0.out x7_2 p570 q570
                                have hw570_5 := hx570_5
                                have hw570_4 := hx570_4
                                have hw570_3 := hx570_3
                                have hw570_2 := hx570_2
                                have hw570_1 := hx570_1
                                have hw570_0 := hx570_0
                                cases e570
                                replace hx570_0 := (HB.out.cell (World.block_lt_of_cell? w _ hx570_0)).trans hx570_0
                                replace hx570_1 := (HB.out.cell (World.block_lt_of_cell? w _ hx570_1)).trans hx570_1
                                replace hx570_2 := (HB.out.cell (World.block_lt_of_cell? w _ hx570_2)).trans hx570_2
                                replace hx570_3 := (HB.out.cell (World.block_lt_of_cell? w _ hx570_3)).trans hx570_3
                                replace hx570_4 := (HB.out.cell (World.block_lt_of_cell? w _ hx570_4)).trans hx570_4
                                replace hx570_5 := (HB.out.cell (World.block_lt_of_cell? w _ hx570_5)).trans hx570_5
                                replace p570 := eq_true p570
                                replace q570 := eq_true q570
                                have p571 : 0 ≤ (t562 : Int) := of_decide_eq_true (by first | (with_reducible assumption) | assumption)
                                have q571 : t562 < (l0.length : Int) := of_decide_eq_true (by first | (with_reducible assumption) | assumption)
                                obtain ⟨ad571, e571, hx571_0, hx571_1, hx571_2, hx571_3, hx571_4, hx571_5⟩ := at_T23 HR0.out t562 p571 q571
                                have hw571_5 := hx571_5
                                have hw571_4 := hx571_4
                                have hw571_3 := hx571_3
                                have hw571_2 := hx571_2
                                have hw571_1 := hx571_1
                                have hw571_0 := hx571_0
                                obtain rfl : ad570 = ad571 := (by injection e571)
                                replace hx571_0 := (HB.out.cell (World.block_lt_of_cell? w _ hx571_0)).trans hx571_0
                                replace hx571_1 := (HB.out.cell (World.block_lt_of_cell? w _ hx571_1)).trans hx571_1
                                replace hx571_2 := (HB.out.cell (World.block_lt_of_cell? w _ hx571_2)).trans hx571_2
                                replace hx571_3 := (HB.out.cell (World.block_lt_of_cell? w _ hx571_3)).trans hx571_3
                                replace hx571_4 := (HB.out.cell (World.block_lt_of_cell? w _ hx571_4)).trans hx571_4
                                replace hx571_5 := (HB.out.cell (World.block_lt_of_cell? w _ hx571_5)).trans hx571_5
                                replace p571 := eq_true p571
                                replace q571 := eq_true q571
                                refine start_ (n := 10) (S := fun w' => w'.cell? (ad570.add ((x7_2).toNat * 6)) = some (.int .i64 ((rd_T23 l0 x7_2).f0)) ∧ w'.cell? ⟨(ad570.add ((x7_2).toNat * 6)).block, (ad570.add ((x7_2).toNat * 6)).off + 1, none⟩ = some (.int .i64 ((rd_T23 l0 x7_2).f1)) ∧ w'.cell? ⟨(ad570.add ((x7_2).toNat * 6)).block, (ad570.add ((x7_2).toNat * 6)).off + 2, none⟩ = some (.int .i64 ((rd_T23 l0 x7_2).f2)) ∧ w'.cell? ⟨(ad570.add ((x7_2).toNat * 6)).block, (ad570.add ((x7_2).toNat * 6)).off + 3, none⟩ = some (.int .i64 ((rd_T23 l0 x7_2).f3)) ∧ w'.cell? ⟨(ad570.add ((x7_2).toNat * 6)).block, (ad570.add ((x7_2).toNat * 6)).off + 4, none⟩ = some (.int .i64 ((rd_T23 l0 x7_2).f4)) ∧ w'.cell? ⟨(ad570.add ((x7_2).toNat * 6)).block, (ad570.add ((x7_2).toNat * 6)).off + 5, none⟩ = some (.string ((rd_T23 l0 x7_2).f5)) ∧ w'.cell? (ad570.add ((t562).toNat * 6)) = some (.int .i64 ((rd_T23 l0 t562).f0)) ∧ w'.cell? ⟨(ad570.add ((t562).toNat * 6)).block, (ad570.add ((t562).toNat * 6)).off + 1, none⟩ = some (.int .i64 ((rd_T23 l0 t562).f1)) ∧ w'.cell? ⟨(ad570.add ((t562).toNat * 6)).block, (ad570.add ((t562).toNat * 6)).off + 2, none⟩ = some (.int .i64 ((rd_T23 l0 t562).f2)) ∧ w'.cell? ⟨(ad570.add ((t562).toNat * 6)).block, (ad570.add ((t562).toNat * 6)).off + 3, none⟩ = some (.int .i64 ((rd_T23 l0 t562).f3)) ∧ w'.cell? ⟨(ad570.add ((t562).toNat * 6)).block, (ad570.add ((t562).toNat * 6)).off + 4, none⟩ = some (.int .i64 ((rd_T23 l0 t562).f4)) ∧ w'.cell? ⟨(ad570.add ((t562).toNat * 6)).block, (ad570.add ((t562).toNat * 6)).off + 5, none⟩ = some (.string ((rd_T23 l0 t562).f5))) (ds := []) #[false, false, false, false, false, false, false, false, false, false] (by kernel_rfl) rfl rfl ⟨((HB.out.cell (World.block_lt_of_cell? w _ hw570_0)).trans hw570_0), ((HB.out.cell (World.block_lt_of_cell? w _ hw570_1)).trans hw570_1), ((HB.out.cell (World.block_lt_of_cell? w _ hw570_2)).trans hw570_2), ((HB.out.cell (World.block_lt_of_cell? w _ hw570_3)).trans hw570_3), ((HB.out.cell (World.block_lt_of_cell? w _ hw570_4)).trans hw570_4), ((HB.out.cell (World.block_lt_of_cell? w _ hw570_5)).trans hw570_5), ((HB.out.cell (World.block_lt_of_cell? w _ hw571_0)).trans hw571_0), ((HB.out.cell (World.block_lt_of_cell? w _ hw571_1)).trans hw571_1), ((HB.out.cell (World.block_lt_of_cell? w _ hw571_2)).trans hw571_2), ((HB.out.cell (World.block_lt_of_cell? w _ hw571_3)).trans hw571_3), ((HB.out.cell (World.block_lt_of_cell? w _ hw571_4)).trans hw571_4), ((HB.out.cell (World.block_lt_of_cell? w _ hw571_5)).trans hw571_5)⟩ (fun hHeld => ?_); refine with_tabW hopperlaw06_HeapWorst.tab13 hopperlaw06_HeapWorst.bits13 (fun HT_ HW_ => ?_)
                                generalize wr.drew = w28 at BK569 HB hx570_0 hx570_1 hx570_2 hx570_3 hx570_4 hx570_5 hx571_0 hx571_1 hx571_2 hx571_3 hx571_4 hx571_5 hHeld ⊢
                                refine pure_ (i := 0) (N := some 57) (v := ?_) (a' := ?_) #[true, false, false, false, false, false, false, false, false, false] rfl rfl (any_of HT_.out (by kernel_rfl)) (fun _ _ _ h => h) (Or.inl ⟨by rfl, ?_⟩) ?_ ?_
                                rotate_left
                                · intro w'
                                  go_simp
                                  with_reducible rfl
                                rotate_left
                                · simp only [Act.put, List.setIfInBounds_toArray, List.set_cons_zero, List.set_cons_succ, i64_w, i32_w]
                                  rfl
                                refine pure_ (i := 1) (N := some 58) (v := ?_) (a' := ?_) #[true, true, false, false, false, false, false, false, false, false] rfl rfl (any_of HT_.out (by kernel_rfl)) (fun _ _ _ h => h) (Or.inl ⟨by rfl, ?_⟩) ?_ ?_
                                rotate_left
                                · intro w'
                                  go_simp
                                  with_reducible rfl
                                rotate_left
                                · simp only [Act.put, List.setIfInBounds_toArray, List.set_cons_zero, List.set_cons_succ, i64_w, i32_w]
                                  rfl
                                refine pure_ (i := 2) (N := some 59) (v := ?_) (a' := ?_) #[true, true, true, false, false, false, false, false, false, false] rfl rfl (any_of HT_.out (by kernel_rfl)) (fun _ _ _ h => h) (Or.inl ⟨by rfl, ?_⟩) ?_ ?_
                                rotate_left
                                · intro w'
                                  go_simp
                                  with_reducible rfl
                                rotate_left
                                · simp only [Act.put, List.setIfInBounds_toArray, List.set_cons_zero, List.set_cons_succ, i64_w, i32_w]
                                  rfl
                                refine pure_ (i := 4) (N := some 61) (v := ?_) (a' := ?_) #[true, true, true, false, true, false, false, false, false, false] rfl rfl (any_of HT_.out (by kernel_rfl)) (fun _ _ _ h => h) (Or.inl ⟨by rfl, ?_⟩) ?_ ?_
                                rotate_left
                                · intro w'
                                  go_simp
                                  with_reducible rfl
                                rotate_left
                                · simp only [Act.put, List.setIfInBounds_toArray, List.set_cons_zero, List.set_cons_succ, i64_w, i32_w]
                                  rfl
                                refine pure_ (i := 5) (N := some 62) (v := ?_) (a' := ?_) #[true, true, true, false, true, true, false, false, false, false] rfl rfl (any_of HT_.out (by kernel_rfl)) (fun _ _ _ h => h) (Or.inl ⟨by rfl, ?_⟩) ?_ ?_
                                rotate_left
                                · intro w'
                                  go_simp
                                  with_reducible rfl
                                rotate_left
                                · simp only [Act.put, List.setIfInBounds_toArray, List.set_cons_zero, List.set_cons_succ, i64_w, i32_w]
                                  rfl
                                refine pure_ (i := 6) (N := some 63) (v := ?_) (a' := ?_) #[true, true, true, false, true, true, true, false, false, false] rfl rfl (any_of HT_.out (by kernel_rfl)) (fun _ _ _ h => h) (Or.inl ⟨by rfl, ?_⟩) ?_ ?_
                                rotate_left
                                · intro w'
                                  go_simp
                                  with_reducible rfl
                                rotate_left
                                · simp only [Act.put, List.setIfInBounds_toArray, List.set_cons_zero, List.set_cons_succ, i64_w, i32_w]
                                  rfl
                                refine take_ (i := 3) (N := some 60) (v := ?_) (a' := ?_) #[true, true, true, true, true, true, true, false, false, false] rfl rfl (take_ofW HT_.out HW_.out (by kernel_rfl)) (fun _ _ _ h => h) (Or.inl ⟨by rfl, ?_⟩) hHeld ?_ ?_
                                rotate_left
                                · rintro w' ⟨s0, s1, s2, s3, s4, s5, s6, s7, s8, s9, s10, s11⟩
                                  go_simp
                                  with_reducible rfl
                                rotate_left
                                · simp only [Act.put, List.setIfInBounds_toArray, List.set_cons_zero, List.set_cons_succ, i64_w, i32_w]
                                  rfl
                                refine take_ (i := 7) (N := some 64) (v := ?_) (a' := ?_) #[true, true, true, true, true, true, true, true, false, false] rfl rfl (take_ofW HT_.out HW_.out (by kernel_rfl)) (fun _ _ _ h => h) (Or.inl ⟨by rfl, ?_⟩) hHeld ?_ ?_
                                rotate_left
                                · rintro w' ⟨s0, s1, s2, s3, s4, s5, s6, s7, s8, s9, s10, s11⟩
                                  go_simp
                                  with_reducible rfl
                                rotate_left
                                · simp only [Act.put, List.setIfInBounds_toArray, List.set_cons_zero, List.set_cons_succ, i64_w, i32_w]
                                  rfl
                                refine one_ (i := 8) (N := some 65) #[true, true, true, true, true, true, true, true, true, false] rfl rfl (one_of HT_.out (by kernel_rfl)) (by decide) (fun K hK => ?_)
                                refine goes_ Try.func45 (by kernel_rfl) rfl #[.agg #[.int .i64 ((rd_T23 l0 x7_2).f0), .int .i64 ((rd_T23 l0 x7_2).f1), .int .i64 ((rd_T23 l0 x7_2).f2), .int .i64 ((rd_T23 l0 x7_2).f3), .int .i64 ((rd_T23 l0 x7_2).f4), .string ((rd_T23 l0 x7_2).f5)], .agg #[.int .i64 ((rd_T23 l0 t562).f0), .int .i64 ((rd_T23 l0 t562).f1), .int .i64 ((rd_T23 l0 t562).f2), .int .i64 ((rd_T23 l0 t562).f3), .int .i64 ((rd_T23 l0 t562).f4), .string ((rd_T23 l0 t562).f5)]] (by rfl) rfl rfl (by (try simp only [List.map_toArray, List.map_cons, List.map_nil]); first | done | rfl | (simp only [List.length_drop, List.length_take]; rfl)) ?_
                                with_reducible refine (hopperref04_Better.calls k2 ((rd_T23 l0 x7_2).f0) ((rd_T23 l0 x7_2).f1) ((rd_T23 l0 x7_2).f2) ((rd_T23 l0 x7_2).f3) ((rd_T23 l0 x7_2).f4) ((rd_T23 l0 x7_2).f5) ((rd_T23 l0 t562).f0) ((rd_T23 l0 t562).f1) ((rd_T23 l0 t562).f2) ((rd_T23 l0 t562).f3) ((rd_T23 l0 t562).f4) ((rd_T23 l0 t562).f5) true _ A26.out).mono ?_
                                rintro e w29 ⟨rfl, hb⟩
                                refine ⟨_, rfl, ?_⟩
                                have n0_ := Aside0.mk (blk_below (g := gb569) (o := .cells #[.int .i64 ((rd_T23 t565 (ji15)).f0), .int .i64 ((rd_T23 t565 (ji15)).f1), .int .i64 ((rd_T23 t565 (ji15)).f2), .int .i64 ((rd_T23 t565 (ji15)).f3), .int .i64 ((rd_T23 t565 (ji15)).f4), .string ((rd_T23 t565 (ji15)).f5)] 23 (0, 0)) (by (with_reducible repeat (first | refine blk_drewN ?_ _ | refine blk_drew ?_ | refine blk_alloc ?_ _)); exact BK569.out) hb)
                                have n1_ := Aside0.mk (below_step (by repeat (first | (with_reducible first | exact HB.out | apply below_alloc | apply pw_below_drewN | apply below_drew1 | refine below_set ?_ GE569.out) | exact HB.out)) hb)
                                clear BK569
                                clear HB
                                have BK569 := n0_
                                have HB := n1_
                                clear n0_ n1_
                                (try clear hb)
                                (try clear hb2)
                                (try clear hk)
                                (try clear hi)
                                refine hK.out _ _ ⟨((HB.out.cell (World.block_lt_of_cell? w _ hw570_0)).trans hw570_0), ((HB.out.cell (World.block_lt_of_cell? w _ hw570_1)).trans hw570_1), ((HB.out.cell (World.block_lt_of_cell? w _ hw570_2)).trans hw570_2), ((HB.out.cell (World.block_lt_of_cell? w _ hw570_3)).trans hw570_3), ((HB.out.cell (World.block_lt_of_cell? w _ hw570_4)).trans hw570_4), ((HB.out.cell (World.block_lt_of_cell? w _ hw570_5)).trans hw570_5), ((HB.out.cell (World.block_lt_of_cell? w _ hw571_0)).trans hw571_0), ((HB.out.cell (World.block_lt_of_cell? w _ hw571_1)).trans hw571_1), ((HB.out.cell (World.block_lt_of_cell? w _ hw571_2)).trans hw571_2), ((HB.out.cell (World.block_lt_of_cell? w _ hw571_3)).trans hw571_3), ((HB.out.cell (World.block_lt_of_cell? w _ hw571_4)).trans hw571_4), ((HB.out.cell (World.block_lt_of_cell? w _ hw571_5)).trans hw571_5)⟩ (fun hHeld => ?_)
                                clear hK K
                                refine norm_ (a' := ?_) ?_ ?_
                                rotate_left
                                · show Act.put _ (some 65) _ = _
                                  simp only [Act.put, List.setIfInBounds_toArray, List.set_cons_zero, List.set_cons_succ, i64_w, i32_w]
                                  rfl
                                refine pure_ (i := 9) (N := some 66) (v := ?_) (a' := ?_) #[true, true, true, true, true, true, true, true, true, true] rfl rfl (any_of HT_.out (by kernel_rfl)) (fun _ _ _ h => h) (Or.inl ⟨by rfl, ?_⟩) ?_ ?_
                                rotate_left
                                · intro w'
                                  go_simp
                                  with_reducible rfl
                                rotate_left
                                · simp only [Act.put, List.setIfInBounds_toArray, List.set_cons_zero, List.set_cons_succ, i64_w, i32_w]
                                  rfl
                                refine done_ (done_of HT_.out (by kernel_rfl)) ?_
                                try go_wp2
                                go_roundg k2
                                case measure => have := HJ6.out; have := HK2.out; omega
                                case rel => exact ⟨(wrap64 (x7_2 + 1)), (by first | rfl | (simp; done) | (simp [*]; done)), H', ⟨by have := HJ6.out; have := HK2.out; omega⟩, ⟨by (with_reducible repeat (first | refine blk_drewN ?_ _ | refine blk_drew ?_ | refine blk_alloc ?_ _)); exact BK569.out⟩, ⟨by repeat (first | (with_reducible first | exact HB.out | apply below_alloc | apply pw_below_drewN | apply below_drew1 | refine below_set ?_ GE569.out) | exact HB.out)⟩⟩
                              · replace c27 := Bool.eq_false_iff.mpr c27
                                subst c27
                                have H1 : (none) = some r := by rw [if_neg (show ¬ (false = true) by decide)] at H; exact H
                                clear H
                                have H := H1
                                clear H1
                                exact absurd H (by simp)
                            · rw [if_neg c25] at H
                              exact absurd H (by simp)
                          · rw [if_neg c24] at H
                            exact absurd H (by simp)
                        · rw [if_neg c23] at H
                          exact absurd H (by simp)
                      · rw [if_neg c22] at H
                        exact absurd H (by simp)
                    · rw [if_neg c21] at H
                      have c21b0 : decide (x7_2 < t562) = false := decide_eq_false c21
                      clear c21
                      by_cases c30 : 0 ≤ t562
                      · rw [if_pos c30] at H
                        have c30b0 : decide (0 ≤ t562) = true := decide_eq_true c30
                        clear c30
                        by_cases c31 : t562 < (l0.length : Int)
                        · rw [if_pos c31] at H
                          have c31b0 : decide (t562 < (l0.length : Int)) = true := decide_eq_true c31
                          clear c31
                          replace H := Option.bind_eq_some_iff.mp H
                          obtain ⟨t574, A320, H⟩ := H
                          replace H : (if t574 = true then (none) else ((hopperref04_Better.f k2 ((rd_T23 l0 t562).f0) ((rd_T23 l0 t562).f1) ((rd_T23 l0 t562).f2) ((rd_T23 l0 t562).f3) ((rd_T23 l0 t562).f4) ((rd_T23 l0 t562).f5) ((rd_T23 t565 (ji15)).f0) ((rd_T23 t565 (ji15)).f1) ((rd_T23 t565 (ji15)).f2) ((rd_T23 t565 (ji15)).f3) ((rd_T23 t565 (ji15)).f4) ((rd_T23 t565 (ji15)).f5)).bind fun t576 => (if t576 = true then (none) else ((hopperlaw06_live.f k2).bind fun t577 => (some t577))))) = some r := H
                          have A32 := Aside0.mk A320
                          clear A320
                          by_cases c33 : t574 = true
                          · subst c33
                            have H1 : (none) = some r := by rw [if_pos rfl] at H; exact H
                            clear H
                            have H := H1
                            clear H1
                            exact absurd H (by simp)
                          · replace c33 := Bool.eq_false_iff.mpr c33
                            subst c33
                            have H1 : ((hopperref04_Better.f k2 ((rd_T23 l0 t562).f0) ((rd_T23 l0 t562).f1) ((rd_T23 l0 t562).f2) ((rd_T23 l0 t562).f3) ((rd_T23 l0 t562).f4) ((rd_T23 l0 t562).f5) ((rd_T23 t565 (ji15)).f0) ((rd_T23 t565 (ji15)).f1) ((rd_T23 t565 (ji15)).f2) ((rd_T23 t565 (ji15)).f3) ((rd_T23 t565 (ji15)).f4) ((rd_T23 t565 (ji15)).f5)).bind fun t576 => (if t576 = true then (none) else ((hopperlaw06_live.f k2).bind fun t577 => (some t577)))) = some r := by rw [if_neg (show ¬ (false = true) by decide)] at H; exact H
                            clear H
                            have H := H1
                            clear H1
                            replace H := Option.bind_eq_some_iff.mp H
                            obtain ⟨t576, A340, H⟩ := H
                            replace H : (if t576 = true then (none) else ((hopperlaw06_live.f k2).bind fun t577 => (some t577))) = some r := H
                            have A34 := Aside0.mk A340
                            clear A340
                            by_cases c35 : t576 = true
                            · subst c35
                              have H1 : (none) = some r := by rw [if_pos rfl] at H; exact H
                              clear H
                              have H := H1
                              clear H1
                              exact absurd H (by simp)
                            · replace c35 := Bool.eq_false_iff.mpr c35
                              subst c35
                              have H1 : ((hopperlaw06_live.f k2).bind fun t577 => (some t577)) = some r := by rw [if_neg (show ¬ (false = true) by decide)] at H; exact H
                              clear H
                              have H := H1
                              clear H1
                              replace H := Option.bind_eq_some_iff.mp H
                              obtain ⟨t577, A360, H⟩ := H
                              replace H : (some t577) = some r := H
                              have A36 := Aside0.mk A360
                              clear A360
                              obtain rfl := Option.some.inj H
                              try go_wp2
                              have n0_ := Aside0.mk (blk_drew BK569.out)
                              have n1_ := Aside0.mk (below_drew1 HB.out)
                              clear BK569
                              clear HB
                              have BK569 := n0_
                              have HB := n1_
                              clear n0_ n1_
                              have p573 : 0 ≤ (t562 : Int) := of_decide_eq_true (by first | (with_reducible assumption) | assumption)
                              have q573 : t562 < (l0.length : Int) := of_decide_eq_true (by first | (with_reducible assumption) | assumption)
                              obtain ⟨ad573, e573, hx573_0, hx573_1, hx573_2, hx573_3, hx573_4, hx573_5⟩ := at_T23 HR0.out t562 p573 q573
                              have hw573_5 := hx573_5
                              have hw573_4 := hx573_4
                              have hw573_3 := hx573_3
                              have hw573_2 := hx573_2
                              have hw573_1 := hx573_1
                              have hw573_0 := hx573_0
                              cases e573
                              replace hx573_0 := (HB.out.cell (World.block_lt_of_cell? w _ hx573_0)).trans hx573_0
                              replace hx573_1 := (HB.out.cell (World.block_lt_of_cell? w _ hx573_1)).trans hx573_1
                              replace hx573_2 := (HB.out.cell (World.block_lt_of_cell? w _ hx573_2)).trans hx573_2
                              replace hx573_3 := (HB.out.cell (World.block_lt_of_cell? w _ hx573_3)).trans hx573_3
                              replace hx573_4 := (HB.out.cell (World.block_lt_of_cell? w _ hx573_4)).trans hx573_4
                              replace hx573_5 := (HB.out.cell (World.block_lt_of_cell? w _ hx573_5)).trans hx573_5
                              replace p573 := eq_true p573
                              replace q573 := eq_true q573
                              have p575 : 0 ≤ (t562 : Int) := of_decide_eq_true (by first | (with_reducible assumption) | assumption)
                              have q575 : t562 < (l0.length : Int) := of_decide_eq_true (by first | (with_reducible assumption) | assumption)
                              obtain ⟨ad575, e575, hx575_0, hx575_1, hx575_2, hx575_3, hx575_4, hx575_5⟩ := at_T23 HR0.out t562 p575 q575
                              have hw575_5 := hx575_5
                              have hw575_4 := hx575_4
                              have hw575_3 := hx575_3
                              have hw575_2 := hx575_2
                              have hw575_1 := hx575_1
                              have hw575_0 := hx575_0
                              obtain rfl : ad573 = ad575 := (by injection e575)
                              replace hx575_0 := (HB.out.cell (World.block_lt_of_cell? w _ hx575_0)).trans hx575_0
                              replace hx575_1 := (HB.out.cell (World.block_lt_of_cell? w _ hx575_1)).trans hx575_1
                              replace hx575_2 := (HB.out.cell (World.block_lt_of_cell? w _ hx575_2)).trans hx575_2
                              replace hx575_3 := (HB.out.cell (World.block_lt_of_cell? w _ hx575_3)).trans hx575_3
                              replace hx575_4 := (HB.out.cell (World.block_lt_of_cell? w _ hx575_4)).trans hx575_4
                              replace hx575_5 := (HB.out.cell (World.block_lt_of_cell? w _ hx575_5)).trans hx575_5
                              replace p575 := eq_true p575
                              replace q575 := eq_true q575
                              refine start_ (n := 20) (S := fun w' => w'.cell? ⟨gb569, 0, none⟩ = some (.int .i64 ((rd_T23 t565 (ji15)).f0)) ∧ w'.cell? ⟨gb569, 1, none⟩ = some (.int .i64 ((rd_T23 t565 (ji15)).f1)) ∧ w'.cell? ⟨gb569, 2, none⟩ = some (.int .i64 ((rd_T23 t565 (ji15)).f2)) ∧ w'.cell? ⟨gb569, 3, none⟩ = some (.int .i64 ((rd_T23 t565 (ji15)).f3)) ∧ w'.cell? ⟨gb569, 4, none⟩ = some (.int .i64 ((rd_T23 t565 (ji15)).f4)) ∧ w'.cell? ⟨gb569, 5, none⟩ = some (.string ((rd_T23 t565 (ji15)).f5)) ∧ w'.cell? (ad573.add ((t562).toNat * 6)) = some (.int .i64 ((rd_T23 l0 t562).f0)) ∧ w'.cell? ⟨(ad573.add ((t562).toNat * 6)).block, (ad573.add ((t562).toNat * 6)).off + 1, none⟩ = some (.int .i64 ((rd_T23 l0 t562).f1)) ∧ w'.cell? ⟨(ad573.add ((t562).toNat * 6)).block, (ad573.add ((t562).toNat * 6)).off + 2, none⟩ = some (.int .i64 ((rd_T23 l0 t562).f2)) ∧ w'.cell? ⟨(ad573.add ((t562).toNat * 6)).block, (ad573.add ((t562).toNat * 6)).off + 3, none⟩ = some (.int .i64 ((rd_T23 l0 t562).f3)) ∧ w'.cell? ⟨(ad573.add ((t562).toNat * 6)).block, (ad573.add ((t562).toNat * 6)).off + 4, none⟩ = some (.int .i64 ((rd_T23 l0 t562).f4)) ∧ w'.cell? ⟨(ad573.add ((t562).toNat * 6)).block, (ad573.add ((t562).toNat * 6)).off + 5, none⟩ = some (.string ((rd_T23 l0 t562).f5)) ∧ w'.cell? (ad573.add ((t562).toNat * 6)) = some (.int .i64 ((rd_T23 l0 t562).f0)) ∧ w'.cell? ⟨(ad573.add ((t562).toNat * 6)).block, (ad573.add ((t562).toNat * 6)).off + 1, none⟩ = some (.int .i64 ((rd_T23 l0 t562).f1)) ∧ w'.cell? ⟨(ad573.add ((t562).toNat * 6)).block, (ad573.add ((t562).toNat * 6)).off + 2, none⟩ = some (.int .i64 ((rd_T23 l0 t562).f2)) ∧ w'.cell? ⟨(ad573.add ((t562).toNat * 6)).block, (ad573.add ((t562).toNat * 6)).off + 3, none⟩ = some (.int .i64 ((rd_T23 l0 t562).f3)) ∧ w'.cell? ⟨(ad573.add ((t562).toNat * 6)).block, (ad573.add ((t562).toNat * 6)).off + 4, none⟩ = some (.int .i64 ((rd_T23 l0 t562).f4)) ∧ w'.cell? ⟨(ad573.add ((t562).toNat * 6)).block, (ad573.add ((t562).toNat * 6)).off + 5, none⟩ = some (.string ((rd_T23 l0 t562).f5))) (ds := []) #[false, false, false, false, false, false, false, false, false, false, false, false, false, false, false, false, false, false, false, false] (by kernel_rfl) rfl rfl ⟨(blk_cell BK569.out 0).trans rfl, (blk_cell BK569.out 1).trans rfl, (blk_cell BK569.out 2).trans rfl, (blk_cell BK569.out 3).trans rfl, (blk_cell BK569.out 4).trans rfl, (blk_cell BK569.out 5).trans rfl, ((HB.out.cell (World.block_lt_of_cell? w _ hw573_0)).trans hw573_0), ((HB.out.cell (World.block_lt_of_cell? w _ hw573_1)).trans hw573_1), ((HB.out.cell (World.block_lt_of_cell? w _ hw573_2)).trans hw573_2), ((HB.out.cell (World.block_lt_of_cell? w _ hw573_3)).trans hw573_3), ((HB.out.cell (World.block_lt_of_cell? w _ hw573_4)).trans hw573_4), ((HB.out.cell (World.block_lt_of_cell? w _ hw573_5)).trans hw573_5), ((HB.out.cell (World.block_lt_of_cell? w _ hw575_0)).trans hw575_0), ((HB.out.cell (World.block_lt_of_cell? w _ hw575_1)).trans hw575_1), ((HB.out.cell (World.block_lt_of_cell? w _ hw575_2)).trans hw575_2), ((HB.out.cell (World.block_lt_of_cell? w _ hw575_3)).trans hw575_3), ((HB.out.cell (World.block_lt_of_cell? w _ hw575_4)).trans hw575_4), ((HB.out.cell (World.block_lt_of_cell? w _ hw575_5)).trans hw575_5)⟩ (fun hHeld => ?_); refine with_tabW hopperlaw06_HeapWorst.tab15 hopperlaw06_HeapWorst.bits15 (fun HT_ HW_ => ?_)
                              generalize wr.drew = w37 at BK569 HB hx573_0 hx573_1 hx573_2 hx573_3 hx573_4 hx573_5 hx575_0 hx575_1 hx575_2 hx575_3 hx575_4 hx575_5 hHeld ⊢
                              refine pure_ (i := 1) (N := some 68) (v := ?_) (a' := ?_) #[false, true, false, false, false, false, false, false, false, false, false, false, false, false, false, false, false, false, false, false] rfl rfl (any_of HT_.out (by kernel_rfl)) (fun _ _ _ h => h) (Or.inl ⟨by rfl, ?_⟩) ?_ ?_
                              rotate_left
                              · intro w'
                                go_simp
                                with_reducible rfl
                              rotate_left
                              · simp only [Act.put, List.setIfInBounds_toArray, List.set_cons_zero, List.set_cons_succ, i64_w, i32_w]
                                rfl
                              refine pure_ (i := 2) (N := some 69) (v := ?_) (a' := ?_) #[false, true, true, false, false, false, false, false, false, false, false, false, false, false, false, false, false, false, false, false] rfl rfl (any_of HT_.out (by kernel_rfl)) (fun _ _ _ h => h) (Or.inl ⟨by rfl, ?_⟩) ?_ ?_
                              rotate_left
                              · intro w'
                                go_simp
                                with_reducible rfl
                              rotate_left
                              · simp only [Act.put, List.setIfInBounds_toArray, List.set_cons_zero, List.set_cons_succ, i64_w, i32_w]
                                rfl
                              refine pure_ (i := 3) (N := some 70) (v := ?_) (a' := ?_) #[false, true, true, true, false, false, false, false, false, false, false, false, false, false, false, false, false, false, false, false] rfl rfl (any_of HT_.out (by kernel_rfl)) (fun _ _ _ h => h) (Or.inl ⟨by rfl, ?_⟩) ?_ ?_
                              rotate_left
                              · intro w'
                                go_simp
                                with_reducible rfl
                              rotate_left
                              · simp only [Act.put, List.setIfInBounds_toArray, List.set_cons_zero, List.set_cons_succ, i64_w, i32_w]
                                rfl
                              refine take_ (i := 0) (N := some 67) (v := ?_) (a' := ?_) #[true, true, true, true, false, false, false, false, false, false, false, false, false, false, false, false, false, false, false, false] rfl rfl (take_ofW HT_.out HW_.out (by kernel_rfl)) (fun _ _ _ h => h) (Or.inl ⟨by rfl, ?_⟩) hHeld ?_ ?_
                              rotate_left
                              · rintro w' ⟨s0, s1, s2, s3, s4, s5, s6, s7, s8, s9, s10, s11, s12, s13, s14, s15, s16, s17⟩
                                go_simp
                                with_reducible rfl
                              rotate_left
                              · simp only [Act.put, List.setIfInBounds_toArray, List.set_cons_zero, List.set_cons_succ, i64_w, i32_w]
                                rfl
                              refine take_ (i := 4) (N := some 71) (v := ?_) (a' := ?_) #[true, true, true, true, true, false, false, false, false, false, false, false, false, false, false, false, false, false, false, false] rfl rfl (take_ofW HT_.out HW_.out (by kernel_rfl)) (fun _ _ _ h => h) (Or.inl ⟨by rfl, ?_⟩) hHeld ?_ ?_
                              rotate_left
                              · rintro w' ⟨s0, s1, s2, s3, s4, s5, s6, s7, s8, s9, s10, s11, s12, s13, s14, s15, s16, s17⟩
                                go_simp
                                with_reducible rfl
                              rotate_left
                              · simp only [Act.put, List.setIfInBounds_toArray, List.set_cons_zero, List.set_cons_succ, i64_w, i32_w]
                                rfl
                              refine one_ (i := 5) (N := some 72) #[true, true, true, true, true, true, false, false, false, false, false, false, false, false, false, false, false, false, false, false] rfl rfl (one_of HT_.out (by kernel_rfl)) (by decide) (fun K hK => ?_)
                              refine goes_ Try.func45 (by kernel_rfl) rfl #[.agg #[.int .i64 ((rd_T23 t565 (ji15)).f0), .int .i64 ((rd_T23 t565 (ji15)).f1), .int .i64 ((rd_T23 t565 (ji15)).f2), .int .i64 ((rd_T23 t565 (ji15)).f3), .int .i64 ((rd_T23 t565 (ji15)).f4), .string ((rd_T23 t565 (ji15)).f5)], .agg #[.int .i64 ((rd_T23 l0 t562).f0), .int .i64 ((rd_T23 l0 t562).f1), .int .i64 ((rd_T23 l0 t562).f2), .int .i64 ((rd_T23 l0 t562).f3), .int .i64 ((rd_T23 l0 t562).f4), .string ((rd_T23 l0 t562).f5)]] (by rfl) rfl rfl (by (try simp only [List.map_toArray, List.map_cons, List.map_nil]); first | done | (simp only [hji15]; rfl) | rfl | (simp only [List.length_drop, List.length_take]; rfl)) ?_
                              with_reducible refine (hopperref04_Better.calls k2 ((rd_T23 t565 (ji15)).f0) ((rd_T23 t565 (ji15)).f1) ((rd_T23 t565 (ji15)).f2) ((rd_T23 t565 (ji15)).f3) ((rd_T23 t565 (ji15)).f4) ((rd_T23 t565 (ji15)).f5) ((rd_T23 l0 t562).f0) ((rd_T23 l0 t562).f1) ((rd_T23 l0 t562).f2) ((rd_T23 l0 t562).f3) ((rd_T23 l0 t562).f4) ((rd_T23 l0 t562).f5) false _ A32.out).mono ?_
                              rintro e w38 ⟨rfl, hb⟩
                              refine ⟨_, rfl, ?_⟩
                              have n0_ := Aside0.mk (blk_below (g := gb569) (o := .cells #[.int .i64 ((rd_T23 t565 (ji15)).f0), .int .i64 ((rd_T23 t565 (ji15)).f1), .int .i64 ((rd_T23 t565 (ji15)).f2), .int .i64 ((rd_T23 t565 (ji15)).f3), .int .i64 ((rd_T23 t565 (ji15)).f4), .string ((rd_T23 t565 (ji15)).f5)] 23 (0, 0)) (by (with_reducible repeat (first | refine blk_drewN ?_ _ | refine blk_drew ?_ | refine blk_alloc ?_ _)); exact BK569.out) hb)
                              have n1_ := Aside0.mk (below_step (by repeat (first | (with_reducible first | exact HB.out | apply below_alloc | apply pw_below_drewN | apply below_drew1 | refine below_set ?_ GE569.out) | exact HB.out)) hb)
                              clear BK569
                              clear HB
                              have BK569 := n0_
                              have HB := n1_
                              clear n0_ n1_
                              (try clear hb)
                              (try clear hb2)
                              (try clear hk)
                              (try clear hi)
                              refine hK.out _ _ ⟨(blk_cell BK569.out 0).trans rfl, (blk_cell BK569.out 1).trans rfl, (blk_cell BK569.out 2).trans rfl, (blk_cell BK569.out 3).trans rfl, (blk_cell BK569.out 4).trans rfl, (blk_cell BK569.out 5).trans rfl, ((HB.out.cell (World.block_lt_of_cell? w _ hw573_0)).trans hw573_0), ((HB.out.cell (World.block_lt_of_cell? w _ hw573_1)).trans hw573_1), ((HB.out.cell (World.block_lt_of_cell? w _ hw573_2)).trans hw573_2), ((HB.out.cell (World.block_lt_of_cell? w _ hw573_3)).trans hw573_3), ((HB.out.cell (World.block_lt_of_cell? w _ hw573_4)).trans hw573_4), ((HB.out.cell (World.block_lt_of_cell? w _ hw573_5)).trans hw573_5), ((HB.out.cell (World.block_lt_of_cell? w _ hw575_0)).trans hw575_0), ((HB.out.cell (World.block_lt_of_cell? w _ hw575_1)).trans hw575_1), ((HB.out.cell (World.block_lt_of_cell? w _ hw575_2)).trans hw575_2), ((HB.out.cell (World.block_lt_of_cell? w _ hw575_3)).trans hw575_3), ((HB.out.cell (World.block_lt_of_cell? w _ hw575_4)).trans hw575_4), ((HB.out.cell (World.block_lt_of_cell? w _ hw575_5)).trans hw575_5)⟩ (fun hHeld => ?_)
                              clear hK K
                              refine norm_ (a' := ?_) ?_ ?_
                              rotate_left
                              · show Act.put _ (some 72) _ = _
                                simp only [Act.put, List.setIfInBounds_toArray, List.set_cons_zero, List.set_cons_succ, i64_w, i32_w]
                                rfl
                              refine pure_ (i := 6) (N := some 73) (v := ?_) (a' := ?_) #[true, true, true, true, true, true, true, false, false, false, false, false, false, false, false, false, false, false, false, false] rfl rfl (any_of HT_.out (by kernel_rfl)) (fun _ _ _ h => h) (Or.inl ⟨by rfl, ?_⟩) ?_ ?_
                              rotate_left
                              · intro w'
                                go_simp
                                with_reducible rfl
                              rotate_left
                              · simp only [Act.put, List.setIfInBounds_toArray, List.set_cons_zero, List.set_cons_succ, i64_w, i32_w]
                                rfl
                              refine pure_ (i := 7) (N := some 74) (v := ?_) (a' := ?_) #[true, true, true, true, true, true, true, true, false, false, false, false, false, false, false, false, false, false, false, false] rfl rfl (any_of HT_.out (by kernel_rfl)) (fun _ _ _ h => h) (Or.inl ⟨by rfl, ?_⟩) ?_ ?_
                              rotate_left
                              · intro w'
                                go_simp
                                with_reducible rfl
                              rotate_left
                              · simp only [Act.put, List.setIfInBounds_toArray, List.set_cons_zero, List.set_cons_succ, i64_w, i32_w]
                                rfl
                              refine pure_ (i := 8) (N := some 75) (v := ?_) (a' := ?_) #[true, true, true, true, true, true, true, true, true, false, false, false, false, false, false, false, false, false, false, false] rfl rfl (any_of HT_.out (by kernel_rfl)) (fun _ _ _ h => h) (Or.inl ⟨by rfl, ?_⟩) ?_ ?_
                              rotate_left
                              · intro w'
                                go_simp
                                with_reducible rfl
                              rotate_left
                              · simp only [Act.put, List.setIfInBounds_toArray, List.set_cons_zero, List.set_cons_succ, i64_w, i32_w]
                                rfl
                              refine pure_ (i := 9) (N := some 76) (v := ?_) (a' := ?_) #[true, true, true, true, true, true, true, true, true, true, false, false, false, false, false, false, false, false, false, false] rfl rfl (any_of HT_.out (by kernel_rfl)) (fun _ _ _ h => h) (Or.inl ⟨by rfl, ?_⟩) ?_ ?_
                              rotate_left
                              · intro w'
                                go_simp
                                with_reducible rfl
                              rotate_left
                              · simp only [Act.put, List.setIfInBounds_toArray, List.set_cons_zero, List.set_cons_succ, i64_w, i32_w]
                                rfl
                              refine pure_ (i := 10) (N := some 77) (v := ?_) (a' := ?_) #[true, true, true, true, true, true, true, true, true, true, true, false, false, false, false, false, false, false, false, false] rfl rfl (any_of HT_.out (by kernel_rfl)) (fun _ _ _ h => h) (Or.inl ⟨by rfl, ?_⟩) ?_ ?_
                              rotate_left
                              · intro w'
                                go_simp
                                with_reducible rfl
                              rotate_left
                              · simp only [Act.put, List.setIfInBounds_toArray, List.set_cons_zero, List.set_cons_succ, i64_w, i32_w]
                                rfl
                              refine take_ (i := 11) (N := some 78) (v := ?_) (a' := ?_) #[true, true, true, true, true, true, true, true, true, true, true, true, false, false, false, false, false, false, false, false] rfl rfl (take_ofW HT_.out HW_.out (by kernel_rfl)) (fun _ _ _ h => h) (Or.inl ⟨by rfl, ?_⟩) hHeld ?_ ?_
                              rotate_left
                              · rintro w' ⟨s0, s1, s2, s3, s4, s5, s6, s7, s8, s9, s10, s11, s12, s13, s14, s15, s16, s17⟩
                                go_simp
                                with_reducible rfl
                              rotate_left
                              · simp only [Act.put, List.setIfInBounds_toArray, List.set_cons_zero, List.set_cons_succ, i64_w, i32_w]
                                rfl
                              refine take_ (i := 12) (N := some 79) (v := ?_) (a' := ?_) #[true, true, true, true, true, true, true, true, true, true, true, true, true, false, false, false, false, false, false, false] rfl rfl (take_ofW HT_.out HW_.out (by kernel_rfl)) (fun _ _ _ h => h) (Or.inl ⟨by rfl, ?_⟩) hHeld ?_ ?_
                              rotate_left
                              · rintro w' ⟨s0, s1, s2, s3, s4, s5, s6, s7, s8, s9, s10, s11, s12, s13, s14, s15, s16, s17⟩
                                go_simp
                                with_reducible rfl
                              rotate_left
                              · simp only [Act.put, List.setIfInBounds_toArray, List.set_cons_zero, List.set_cons_succ, i64_w, i32_w]
                                rfl
                              refine one_ (i := 13) (N := some 80) #[true, true, true, true, true, true, true, true, true, true, true, true, true, true, false, false, false, false, false, false] rfl rfl (one_of HT_.out (by kernel_rfl)) (by decide) (fun K hK => ?_)
                              refine goes_ Try.func45 (by kernel_rfl) rfl #[.agg #[.int .i64 ((rd_T23 l0 t562).f0), .int .i64 ((rd_T23 l0 t562).f1), .int .i64 ((rd_T23 l0 t562).f2), .int .i64 ((rd_T23 l0 t562).f3), .int .i64 ((rd_T23 l0 t562).f4), .string ((rd_T23 l0 t562).f5)], .agg #[.int .i64 ((rd_T23 t565 (ji15)).f0), .int .i64 ((rd_T23 t565 (ji15)).f1), .int .i64 ((rd_T23 t565 (ji15)).f2), .int .i64 ((rd_T23 t565 (ji15)).f3), .int .i64 ((rd_T23 t565 (ji15)).f4), .string ((rd_T23 t565 (ji15)).f5)]] (by rfl) rfl rfl (by (try simp only [List.map_toArray, List.map_cons, List.map_nil]); first | done | (simp only [hji15]; rfl) | rfl | (simp only [List.length_drop, List.length_take]; rfl)) ?_
                              with_reducible refine (hopperref04_Better.calls k2 ((rd_T23 l0 t562).f0) ((rd_T23 l0 t562).f1) ((rd_T23 l0 t562).f2) ((rd_T23 l0 t562).f3) ((rd_T23 l0 t562).f4) ((rd_T23 l0 t562).f5) ((rd_T23 t565 (ji15)).f0) ((rd_T23 t565 (ji15)).f1) ((rd_T23 t565 (ji15)).f2) ((rd_T23 t565 (ji15)).f3) ((rd_T23 t565 (ji15)).f4) ((rd_T23 t565 (ji15)).f5) false _ A34.out).mono ?_
                              rintro e w39 ⟨rfl, hb⟩
                              refine ⟨_, rfl, ?_⟩
                              have n0_ := Aside0.mk (blk_below (g := gb569) (o := .cells #[.int .i64 ((rd_T23 t565 (ji15)).f0), .int .i64 ((rd_T23 t565 (ji15)).f1), .int .i64 ((rd_T23 t565 (ji15)).f2), .int .i64 ((rd_T23 t565 (ji15)).f3), .int .i64 ((rd_T23 t565 (ji15)).f4), .string ((rd_T23 t565 (ji15)).f5)] 23 (0, 0)) (by (with_reducible repeat (first | refine blk_drewN ?_ _ | refine blk_drew ?_ | refine blk_alloc ?_ _)); exact BK569.out) hb)
                              have n1_ := Aside0.mk (below_step (by repeat (first | (with_reducible first | exact HB.out | apply below_alloc | apply pw_below_drewN | apply below_drew1 | refine below_set ?_ GE569.out) | exact HB.out)) hb)
                              clear BK569
                              clear HB
                              have BK569 := n0_
                              have HB := n1_
                              clear n0_ n1_
                              (try clear hb)
                              (try clear hb2)
                              (try clear hk)
                              (try clear hi)
                              refine hK.out _ _ ⟨(blk_cell BK569.out 0).trans rfl, (blk_cell BK569.out 1).trans rfl, (blk_cell BK569.out 2).trans rfl, (blk_cell BK569.out 3).trans rfl, (blk_cell BK569.out 4).trans rfl, (blk_cell BK569.out 5).trans rfl, ((HB.out.cell (World.block_lt_of_cell? w _ hw573_0)).trans hw573_0), ((HB.out.cell (World.block_lt_of_cell? w _ hw573_1)).trans hw573_1), ((HB.out.cell (World.block_lt_of_cell? w _ hw573_2)).trans hw573_2), ((HB.out.cell (World.block_lt_of_cell? w _ hw573_3)).trans hw573_3), ((HB.out.cell (World.block_lt_of_cell? w _ hw573_4)).trans hw573_4), ((HB.out.cell (World.block_lt_of_cell? w _ hw573_5)).trans hw573_5), ((HB.out.cell (World.block_lt_of_cell? w _ hw575_0)).trans hw575_0), ((HB.out.cell (World.block_lt_of_cell? w _ hw575_1)).trans hw575_1), ((HB.out.cell (World.block_lt_of_cell? w _ hw575_2)).trans hw575_2), ((HB.out.cell (World.block_lt_of_cell? w _ hw575_3)).trans hw575_3), ((HB.out.cell (World.block_lt_of_cell? w _ hw575_4)).trans hw575_4), ((HB.out.cell (World.block_lt_of_cell? w _ hw575_5)).trans hw575_5)⟩ (fun hHeld => ?_)
                              clear hK K
                              refine norm_ (a' := ?_) ?_ ?_
                              rotate_left
                              · show Act.put _ (some 80) _ = _
                                simp only [Act.put, List.setIfInBounds_toArray, List.set_cons_zero, List.set_cons_succ, i64_w, i32_w]
                                rfl
                              refine pure_ (i := 14) (N := some 81) (v := ?_) (a' := ?_) #[true, true, true, true, true, true, true, true, true, true, true, true, true, true, true, false, false, false, false, false] rfl rfl (any_of HT_.out (by kernel_rfl)) (fun _ _ _ h => h) (Or.inl ⟨by rfl, ?_⟩) ?_ ?_
                              rotate_left
                              · intro w'
                                go_simp
                                with_reducible rfl
                              rotate_left
                              · simp only [Act.put, List.setIfInBounds_toArray, List.set_cons_zero, List.set_cons_succ, i64_w, i32_w]
                                rfl
                              refine pure_ (i := 15) (N := some 82) (v := ?_) (a' := ?_) #[true, true, true, true, true, true, true, true, true, true, true, true, true, true, true, true, false, false, false, false] rfl rfl (any_of HT_.out (by kernel_rfl)) (fun _ _ _ h => h) (Or.inl ⟨by rfl, ?_⟩) ?_ ?_
                              rotate_left
                              · intro w'
                                go_simp
                                with_reducible rfl
                              rotate_left
                              · simp only [Act.put, List.setIfInBounds_toArray, List.set_cons_zero, List.set_cons_succ, i64_w, i32_w]
                                rfl
                              refine pure_ (i := 16) (N := some 83) (v := ?_) (a' := ?_) #[true, true, true, true, true, true, true, true, true, true, true, true, true, true, true, true, true, false, false, false] rfl rfl (any_of HT_.out (by kernel_rfl)) (fun _ _ _ h => h) (Or.inl ⟨by rfl, ?_⟩) ?_ ?_
                              rotate_left
                              · intro w'
                                go_simp
                                with_reducible rfl
                              rotate_left
                              · simp only [Act.put, List.setIfInBounds_toArray, List.set_cons_zero, List.set_cons_succ, i64_w, i32_w]
                                rfl
                              refine one_ (i := 17) (N := some 84) #[true, true, true, true, true, true, true, true, true, true, true, true, true, true, true, true, true, true, false, false] rfl rfl (one_of HT_.out (by kernel_rfl)) (by decide) (fun K hK => ?_)
                              refine goes_ Try.func67 (by kernel_rfl) rfl #[] (by rfl) rfl rfl (by (try simp only [List.map_toArray, List.map_cons, List.map_nil]); first | done | rfl | (simp only [List.length_drop, List.length_take]; rfl)) ?_
                              with_reducible refine (hopperlaw06_live.calls k2  t577 _ A36.out).mono ?_
                              rintro e w40 ⟨rfl, hb⟩
                              refine ⟨_, rfl, ?_⟩
                              have n0_ := Aside0.mk (blk_below (g := gb569) (o := .cells #[.int .i64 ((rd_T23 t565 (ji15)).f0), .int .i64 ((rd_T23 t565 (ji15)).f1), .int .i64 ((rd_T23 t565 (ji15)).f2), .int .i64 ((rd_T23 t565 (ji15)).f3), .int .i64 ((rd_T23 t565 (ji15)).f4), .string ((rd_T23 t565 (ji15)).f5)] 23 (0, 0)) (by (with_reducible repeat (first | refine blk_drewN ?_ _ | refine blk_drew ?_ | refine blk_alloc ?_ _)); exact BK569.out) hb)
                              have n1_ := Aside0.mk (below_step (by repeat (first | (with_reducible first | exact HB.out | apply below_alloc | apply pw_below_drewN | apply below_drew1 | refine below_set ?_ GE569.out) | exact HB.out)) hb)
                              clear BK569
                              clear HB
                              have BK569 := n0_
                              have HB := n1_
                              clear n0_ n1_
                              (try clear hb)
                              (try clear hb2)
                              (try clear hk)
                              (try clear hi)
                              refine hK.out _ _ ⟨(blk_cell BK569.out 0).trans rfl, (blk_cell BK569.out 1).trans rfl, (blk_cell BK569.out 2).trans rfl, (blk_cell BK569.out 3).trans rfl, (blk_cell BK569.out 4).trans rfl, (blk_cell BK569.out 5).trans rfl, ((HB.out.cell (World.block_lt_of_cell? w _ hw573_0)).trans hw573_0), ((HB.out.cell (World.block_lt_of_cell? w _ hw573_1)).trans hw573_1), ((HB.out.cell (World.block_lt_of_cell? w _ hw573_2)).trans hw573_2), ((HB.out.cell (World.block_lt_of_cell? w _ hw573_3)).trans hw573_3), ((HB.out.cell (World.block_lt_of_cell? w _ hw573_4)).trans hw573_4), ((HB.out.cell (World.block_lt_of_cell? w _ hw573_5)).trans hw573_5), ((HB.out.cell (World.block_lt_of_cell? w _ hw575_0)).trans hw575_0), ((HB.out.cell (World.block_lt_of_cell? w _ hw575_1)).trans hw575_1), ((HB.out.cell (World.block_lt_of_cell? w _ hw575_2)).trans hw575_2), ((HB.out.cell (World.block_lt_of_cell? w _ hw575_3)).trans hw575_3), ((HB.out.cell (World.block_lt_of_cell? w _ hw575_4)).trans hw575_4), ((HB.out.cell (World.block_lt_of_cell? w _ hw575_5)).trans hw575_5)⟩ (fun hHeld => ?_)
                              clear hK K
                              refine norm_ (a' := ?_) ?_ ?_
                              rotate_left
                              · show Act.put _ (some 84) _ = _
                                simp only [Act.put, List.setIfInBounds_toArray, List.set_cons_zero, List.set_cons_succ, i64_w, i32_w]
                                rfl
                              refine pure_ (i := 18) (N := some 85) (v := ?_) (a' := ?_) #[true, true, true, true, true, true, true, true, true, true, true, true, true, true, true, true, true, true, true, false] rfl rfl (any_of HT_.out (by kernel_rfl)) (fun _ _ _ h => h) (Or.inl ⟨by rfl, ?_⟩) ?_ ?_
                              rotate_left
                              · intro w'
                                go_simp
                                with_reducible rfl
                              rotate_left
                              · simp only [Act.put, List.setIfInBounds_toArray, List.set_cons_zero, List.set_cons_succ, i64_w, i32_w]
                                rfl
                              refine pure_ (i := 19) (N := some 2) (v := ?_) (a' := ?_) #[true, true, true, true, true, true, true, true, true, true, true, true, true, true, true, true, true, true, true, true] rfl rfl (any_of HT_.out (by kernel_rfl)) (fun _ _ _ h => h) (Or.inl ⟨by rfl, ?_⟩) ?_ ?_
                              rotate_left
                              · intro w'
                                go_simp
                                with_reducible rfl
                              rotate_left
                              · simp only [Act.put, List.setIfInBounds_toArray, List.set_cons_zero, List.set_cons_succ, i64_w, i32_w]
                                rfl
                              refine done_ (done_of HT_.out (by kernel_rfl)) ?_
                              try go_wp2
                              go_ret
                              exact ⟨by first | rfl | (simp [errW_none, errW_some] <;> rfl) | (simp only [← hji15]; first | rfl | (simp [errW_none, errW_some] <;> rfl)) | (simp [*, errW_none, errW_some] <;> rfl), by repeat (first | (with_reducible first | exact HB.out | apply below_alloc | apply pw_below_drewN | apply below_drew1 | refine below_set ?_ GE569.out) | exact HB.out)⟩
                        · rw [if_neg c31] at H
                          exact absurd H (by simp)
                      · rw [if_neg c30] at H
                        exact absurd H (by simp)
              · rw [if_neg c17] at H
                exact absurd H (by simp)
            · rw [if_neg c16] at H
              exact absurd H (by simp)
    · replace c5 := Bool.eq_false_iff.mpr c5
      subst c5
      have H1 : (if (l0.length : Int) = 0 then (if t562 = 0 then ((hopperlaw06_live.f k).bind fun t564 => (some t564)) else (none)) else (none)) = some r := by rw [if_neg (show ¬ (false = true) by decide)] at H; exact H
      clear H
      have H := H1
      clear H1
      by_cases c41 : (l0.length : Int) = 0
      · rw [if_pos c41] at H
        have c41b0 : ((l0.length : Int) == 0) = true := beq_iff_eq.mpr c41
        have c41b1 : ((l0.length : Int) != 0) = false := bne_eq_false_iff_eq.mpr c41
        clear c41
        by_cases c42 : t562 = 0
        · rw [if_pos c42] at H
          have c42b0 : (t562 == 0) = true := beq_iff_eq.mpr c42
          have c42b1 : (t562 != 0) = false := bne_eq_false_iff_eq.mpr c42
          clear c42
          replace H := Option.bind_eq_some_iff.mp H
          obtain ⟨t564, A430, H⟩ := H
          replace H : (some t564) = some r := H
          have A43 := Aside0.mk A430
          clear A430
          obtain rfl := Option.some.inj H
          go_enter Try.func20, Try.ntmps20
          go_wp2_with (first | ((with_reducible refine gate_callee (f := 66) rfl ?_); refine goesL_ (some 9) rfl rfl Try.func66 (by kernel_rfl) rfl #[.slice A0 l0.length c0, .int .i64 40] rfl (by (try simp only [List.map_toArray, List.map_cons, List.map_nil]); first | done | rfl | (simp only [List.length_drop, List.length_take]; rfl)) ?_; (with_reducible refine (hopperref04_Few.calls k _ _ l0 40 true _ ?side1 ?side2 A2.out).mono ?_); (case side1 => repeat (first | exact HR0.out | (with_reducible refine Kd.C_alloc ?_ _) | (with_reducible refine Kd.C_drewN ?_ _) | (with_reducible refine Kd.C_drew ?_))); (case side2 => exact HC0.out); rintro e w44 ⟨rfl, hb⟩; refine ⟨_, rfl, ?_⟩; have n0_ := Aside0.mk (below_step (by repeat (first | (with_reducible first | exact HB.out | apply below_alloc | apply pw_below_drewN | apply below_drew1) | exact HB.out)) hb); clear HB; have HB := n0_; clear n0_; (try clear hb); (try clear hb2); (try clear hk); (try clear hi)) | ((with_reducible refine gate_callee (f := 70) rfl ?_); refine goesL_ (some 14) rfl rfl Try.func70 (by kernel_rfl) rfl #[.slice A0 l0.length c0] rfl (by (try simp only [List.map_toArray, List.map_cons, List.map_nil]); first | done | rfl | (simp only [List.length_drop, List.length_take]; rfl)) ?_; (with_reducible refine (heap_Worst.calls k _ _ l0 t562 false _ ?side1 ?side2 A4.out).mono ?_); (case side1 => repeat (first | exact (Kd.C_below HR0.out HB.out) | (with_reducible refine Kd.C_alloc ?_ _) | (with_reducible refine Kd.C_drewN ?_ _) | (with_reducible refine Kd.C_drew ?_))); (case side2 => exact HC0.out); rintro e w45 ⟨rfl, hb⟩; refine ⟨_, rfl, ?_⟩; have n0_ := Aside0.mk (below_step (by repeat (first | (with_reducible first | exact HB.out | apply below_alloc | apply pw_below_drewN | apply below_drew1) | exact HB.out)) hb); clear HB; have HB := n0_; clear n0_; (try clear hb); (try clear hb2); (try clear hk); (try clear hi)) | (go_at_call 67; (with_reducible refine (hopperlaw06_live.calls k  t564 _ A43.out).mono ?_); rintro e w46 ⟨rfl, hb⟩; have n0_ := Aside0.mk (below_step (by repeat (first | (with_reducible first | exact HB.out | apply below_alloc | apply pw_below_drewN | apply below_drew1) | exact HB.out)) hb); clear HB; have HB := n0_; clear n0_; (try clear hb); (try clear hb2); (try clear hk); (try clear hi)))
          go_ret
          exact ⟨by first | rfl | (simp [errW_none, errW_some] <;> rfl) | (simp [*, errW_none, errW_some] <;> rfl), by repeat (first | (with_reducible first | exact HB.out | apply below_alloc | apply pw_below_drewN | apply below_drew1) | exact HB.out)⟩
        · rw [if_neg c42] at H
          exact absurd H (by simp)
      · rw [if_neg c41] at H
        exact absurd H (by simp)
  · replace c3 := Bool.eq_false_iff.mpr c3
    subst c3
    have H1 : ((hopperlaw06_live.f k).bind fun t561 => (some t561)) = some r := by rw [if_neg (show ¬ (false = true) by decide)] at H; exact H
    clear H
    have H := H1
    clear H1
    replace H := Option.bind_eq_some_iff.mp H
    obtain ⟨t561, A470, H⟩ := H
    replace H : (some t561) = some r := H
    have A47 := Aside0.mk A470
    clear A470
    obtain rfl := Option.some.inj H
    go_enter Try.func20, Try.ntmps20
    go_wp2_with (first | ((with_reducible refine gate_callee (f := 66) rfl ?_); refine goesL_ (some 9) rfl rfl Try.func66 (by kernel_rfl) rfl #[.slice A0 l0.length c0, .int .i64 40] rfl (by (try simp only [List.map_toArray, List.map_cons, List.map_nil]); first | done | rfl | (simp only [List.length_drop, List.length_take]; rfl)) ?_; (with_reducible refine (hopperref04_Few.calls k _ _ l0 40 false _ ?side1 ?side2 A2.out).mono ?_); (case side1 => repeat (first | exact HR0.out | (with_reducible refine Kd.C_alloc ?_ _) | (with_reducible refine Kd.C_drewN ?_ _) | (with_reducible refine Kd.C_drew ?_))); (case side2 => exact HC0.out); rintro e w48 ⟨rfl, hb⟩; refine ⟨_, rfl, ?_⟩; have n0_ := Aside0.mk (below_step (by repeat (first | (with_reducible first | exact HB.out | apply below_alloc | apply pw_below_drewN | apply below_drew1) | exact HB.out)) hb); clear HB; have HB := n0_; clear n0_; (try clear hb); (try clear hb2); (try clear hk); (try clear hi)) | ((with_reducible refine gate_callee (f := 67) rfl ?_); refine goesL_ (some 11) rfl rfl Try.func67 (by kernel_rfl) rfl #[] rfl (by (try simp only [List.map_toArray, List.map_cons, List.map_nil]); first | done | rfl | (simp only [List.length_drop, List.length_take]; rfl)) ?_; (with_reducible refine (hopperlaw06_live.calls k  t561 _ A47.out).mono ?_); rintro e w49 ⟨rfl, hb⟩; refine ⟨_, rfl, ?_⟩; have n0_ := Aside0.mk (below_step (by repeat (first | (with_reducible first | exact HB.out | apply below_alloc | apply pw_below_drewN | apply below_drew1) | exact HB.out)) hb); clear HB; have HB := n0_; clear n0_; (try clear hb); (try clear hb2); (try clear hk); (try clear hi)))
    go_ret
    exact ⟨by first | rfl | (simp [errW_none, errW_some] <;> rfl) | (simp [*, errW_none, errW_some] <;> rfl), by repeat (first | (with_reducible first | exact HB.out | apply below_alloc | apply pw_below_drewN | apply below_drew1) | exact HB.out)⟩

open Go.Proofs.Ytihlogdmdmhefaa.Row (okI okB okS okL) in
/-- THE ONE PURE STATEMENT of hopperlaw06_HeapWorst. -/
def hopperlaw06_HeapWorst.Pure : Prop := ∀ (l0 : List (S23)), (okL ok23) l0 → ∃ k, hopperlaw06_HeapWorst.f k l0 = some true

end Go.Proofs.Ytihlogdmdmhefaa.L
