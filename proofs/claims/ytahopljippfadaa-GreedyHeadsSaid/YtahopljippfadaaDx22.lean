/- Written by this session's own program over the kit's print: functions of Go told as plain functions, or the row of one statement; proved for every input, with no condition of ours. -/
import Derived.Test.YtahopljippfadaaDx0
import Derived.Test.YtahopljippfadaaDx1
import Derived.Test.YtahopljippfadaaDx2
import Derived.Test.YtahopljippfadaaDx4
import Derived.Test.YtahopljippfadaaDx8
import Derived.Test.YtahopljippfadaaDx10
import Derived.Test.YtahopljippfadaaDx14
import Derived.Test.YtahopljippfadaaDx18
namespace Go.Proofs.Ytahopljippfadaa.D
open Go.RowKit Go.Proofs.YtahopljippfadaaW.PrintWords Go.Proofs.YtahopljippfadaaW.PrintLast Go.Proofs.YtahopljippfadaaW.PrintMore
attribute [local go_sem] max2_int min2_int max_two min_two max_three min_three max_four min_four   -- for this text's walks alone
set_option linter.unusedVariables false
set_option linter.unusedSimpArgs false

attribute [local go_sem high] eqA38
/-! ### hopperlaw12_GreedyHeads: function 7 -/
mutual
def hopperlaw12_GreedyHeads.j0 : Nat → List (S35) → Int → Bool → Option (Bool)
 | 0, _, _, _ => none
 | k + 1, x0, x1, x17 => if x17 = true then ((hopperlaw12_live.f k).bind fun t469 => (some t469)) else (hopperlaw12_GreedyHeads.l0 k x0 x1 0)
def hopperlaw12_GreedyHeads.l0 : Nat → List (S35) → Int → Int → Option (Bool)
 | 0, _, _, _ => none
 | k + 1, x0, x1, x5 => if x5 < (x0.length : Int) then (if 0 ≤ x5 then ((hopperref05_Check.f k ((rd_T35 x0 x5).f0) ((rd_T35 x0 x5).f1) ((rd_T35 x0 x5).f2) 16).bind fun t471 => (if t471 = true then (hopperlaw12_GreedyHeads.l0 k x0 x1 (wrap64 (x5 + 1))) else ((hopperlaw12_live.f k).bind fun t472 => (some t472)))) else (none)) else ((greedy_Heads.f x0).bind fun t473 => ((greedy_Template.f x0 x1).bind fun t476 => (hopperlaw12_GreedyHeads.l1 k x0 x1 t473 t476 false 0)))
def hopperlaw12_GreedyHeads.l1 : Nat → List (S35) → Int → List (S38) → List (S38) → Bool → Int → Option (Bool)
 | 0, _, _, _, _, _, _ => none
 | k + 1, x0, x1, x6, x7, x8, x9 => if x9 < (x6.length : Int) then (if 0 ≤ x9 then (if ((rd_T38 x6 x9).f4) ≤ x1 then (if (x7.length : Int) = 0 then (none) else (if 0 < (x7.length : Int) then ((hopperref04_Better.f k ((rd_T38 x6 x9).f0) ((rd_T38 x6 x9).f1) ((rd_T38 x6 x9).f2) ((rd_T38 x6 x9).f3) ((rd_T38 x6 x9).f4) ((rd_T38 x6 x9).f5) ((rd_T38 x7 0).f0) ((rd_T38 x7 0).f1) ((rd_T38 x7 0).f2) ((rd_T38 x7 0).f3) ((rd_T38 x7 0).f4) ((rd_T38 x7 0).f5)).bind fun t482 => (if t482 = true then (none) else (if x8 = true then (hopperlaw12_GreedyHeads.l1 k x0 x1 x6 x7 true (wrap64 (x9 + 1))) else (if (x7.length : Int) > 0 then (hopperlaw12_GreedyHeads.l1 k x0 x1 x6 x7 (((rd_T38 x6 x9).f0) == ((rd_T38 x7 0).f0) && (((rd_T38 x6 x9).f1) == ((rd_T38 x7 0).f1) && (((rd_T38 x6 x9).f2) == ((rd_T38 x7 0).f2) && (((rd_T38 x6 x9).f3) == ((rd_T38 x7 0).f3) && (((rd_T38 x6 x9).f4) == ((rd_T38 x7 0).f4) && ((((rd_T38 x6 x9).f5).toList) == (((rd_T38 x7 0).f5).toList))))))) (wrap64 (x9 + 1))) else (hopperlaw12_GreedyHeads.l1 k x0 x1 x6 x7 false (wrap64 (x9 + 1))))))) else (none))) else (if x8 = true then (hopperlaw12_GreedyHeads.l1 k x0 x1 x6 x7 true (wrap64 (x9 + 1))) else (if (x7.length : Int) > 0 then (if 0 < (x7.length : Int) then (hopperlaw12_GreedyHeads.l1 k x0 x1 x6 x7 (((rd_T38 x6 x9).f0) == ((rd_T38 x7 0).f0) && (((rd_T38 x6 x9).f1) == ((rd_T38 x7 0).f1) && (((rd_T38 x6 x9).f2) == ((rd_T38 x7 0).f2) && (((rd_T38 x6 x9).f3) == ((rd_T38 x7 0).f3) && (((rd_T38 x6 x9).f4) == ((rd_T38 x7 0).f4) && ((((rd_T38 x6 x9).f5).toList) == (((rd_T38 x7 0).f5).toList))))))) (wrap64 (x9 + 1))) else (none)) else (hopperlaw12_GreedyHeads.l1 k x0 x1 x6 x7 false (wrap64 (x9 + 1)))))) else (none)) else (if (x8 == (decide ((x7.length : Int) > 0))) = true then (if (x6.length : Int) ≤ (x0.length : Int) then ((hopperlaw12_live.f k).bind fun t487 => (some t487)) else (none)) else (none))
end
def hopperlaw12_GreedyHeads.f (k : Nat) (l0 : List (S35)) (a1 : Int) : Option (Bool) := (hopperref11_Few.f k l0 20).bind fun t468 => (if t468 = true then (hopperlaw12_GreedyHeads.j0 k l0 a1 (decide (a1 < 0))) else (hopperlaw12_GreedyHeads.j0 k l0 a1 true))
theorem hopperlaw12_GreedyHeads.mono_l : ∀ k, (∀ y0 y1 y2, LeO (hopperlaw12_GreedyHeads.j0 k y0 y1 y2) (hopperlaw12_GreedyHeads.j0 (k + 1) y0 y1 y2)) ∧ (∀ y0 y1 y2, LeO (hopperlaw12_GreedyHeads.l0 k y0 y1 y2) (hopperlaw12_GreedyHeads.l0 (k + 1) y0 y1 y2)) ∧ (∀ y0 y1 y2 y3 y4 y5, LeO (hopperlaw12_GreedyHeads.l1 k y0 y1 y2 y3 y4 y5) (hopperlaw12_GreedyHeads.l1 (k + 1) y0 y1 y2 y3 y4 y5))
 | 0 => ⟨fun _ _ _ r h => by simp [hopperlaw12_GreedyHeads.j0] at h, fun _ _ _ r h => by simp [hopperlaw12_GreedyHeads.l0] at h, fun _ _ _ _ _ _ r h => by simp [hopperlaw12_GreedyHeads.l1] at h⟩
 | k + 1 => by
  obtain ⟨ih0, ih1, ih2⟩ := hopperlaw12_GreedyHeads.mono_l k
  refine ⟨?_, ?_, ?_⟩
  · intro y0 y1 y2
    unfold hopperlaw12_GreedyHeads.j0
    repeat' first
    | (with_reducible exact ih0 _ _ _)
    | (with_reducible exact ih1 _ _ _)
    | (with_reducible exact ih2 _ _ _ _ _ _)
    | (with_reducible exact hopperlaw12_live.mono _)
    | (with_reducible exact hopperref04_Better.mono _ _ _ _ _ _ _ _ _ _ _ _ _)
    | (with_reducible exact hopperref05_Check.mono _ _ _ _ _)
    | (with_reducible exact hopperref11_Few.mono _ _ _)
    | (with_reducible exact LeO.refl _)
    | (with_reducible exact LeO.none _)
    | (with_reducible refine LeO.ite ?_ ?_)
    | (with_reducible refine LeO.bind ?_ (fun _ => ?_))
    | exact ih0 _ _ _
    | exact ih1 _ _ _
    | exact ih2 _ _ _ _ _ _
    | exact hopperlaw12_live.mono _
    | exact hopperref04_Better.mono _ _ _ _ _ _ _ _ _ _ _ _ _
    | exact hopperref05_Check.mono _ _ _ _ _
    | exact hopperref11_Few.mono _ _ _
    | exact LeO.none _
    | refine LeO.ite ?_ ?_
    | refine LeO.bind ?_ (fun _ => ?_)
  · intro y0 y1 y2
    unfold hopperlaw12_GreedyHeads.l0
    repeat' first
    | (with_reducible exact ih0 _ _ _)
    | (with_reducible exact ih1 _ _ _)
    | (with_reducible exact ih2 _ _ _ _ _ _)
    | (with_reducible exact hopperlaw12_live.mono _)
    | (with_reducible exact hopperref04_Better.mono _ _ _ _ _ _ _ _ _ _ _ _ _)
    | (with_reducible exact hopperref05_Check.mono _ _ _ _ _)
    | (with_reducible exact hopperref11_Few.mono _ _ _)
    | (with_reducible exact LeO.refl _)
    | (with_reducible exact LeO.none _)
    | (with_reducible refine LeO.ite ?_ ?_)
    | (with_reducible refine LeO.bind ?_ (fun _ => ?_))
    | exact ih0 _ _ _
    | exact ih1 _ _ _
    | exact ih2 _ _ _ _ _ _
    | exact hopperlaw12_live.mono _
    | exact hopperref04_Better.mono _ _ _ _ _ _ _ _ _ _ _ _ _
    | exact hopperref05_Check.mono _ _ _ _ _
    | exact hopperref11_Few.mono _ _ _
    | exact LeO.none _
    | refine LeO.ite ?_ ?_
    | refine LeO.bind ?_ (fun _ => ?_)
  · intro y0 y1 y2 y3 y4 y5
    unfold hopperlaw12_GreedyHeads.l1
    repeat' first
    | (with_reducible exact ih0 _ _ _)
    | (with_reducible exact ih1 _ _ _)
    | (with_reducible exact ih2 _ _ _ _ _ _)
    | (with_reducible exact hopperlaw12_live.mono _)
    | (with_reducible exact hopperref04_Better.mono _ _ _ _ _ _ _ _ _ _ _ _ _)
    | (with_reducible exact hopperref05_Check.mono _ _ _ _ _)
    | (with_reducible exact hopperref11_Few.mono _ _ _)
    | (with_reducible exact LeO.refl _)
    | (with_reducible exact LeO.none _)
    | (with_reducible refine LeO.ite ?_ ?_)
    | (with_reducible refine LeO.bind ?_ (fun _ => ?_))
    | exact ih0 _ _ _
    | exact ih1 _ _ _
    | exact ih2 _ _ _ _ _ _
    | exact hopperlaw12_live.mono _
    | exact hopperref04_Better.mono _ _ _ _ _ _ _ _ _ _ _ _ _
    | exact hopperref05_Check.mono _ _ _ _ _
    | exact hopperref11_Few.mono _ _ _
    | exact LeO.none _
    | refine LeO.ite ?_ ?_
    | refine LeO.bind ?_ (fun _ => ?_)
theorem hopperlaw12_GreedyHeads.mono : ∀ a0 a1 k, LeO (hopperlaw12_GreedyHeads.f k a0 a1) (hopperlaw12_GreedyHeads.f (k + 1) a0 a1) := by
 intro a0 a1 k
 obtain ⟨ih0, ih1, ih2⟩ := hopperlaw12_GreedyHeads.mono_l k
 unfold hopperlaw12_GreedyHeads.f
 repeat' first
  | (with_reducible exact ih0 _ _ _)
  | (with_reducible exact ih1 _ _ _)
  | (with_reducible exact ih2 _ _ _ _ _ _)
  | (with_reducible exact hopperlaw12_live.mono _)
  | (with_reducible exact hopperref04_Better.mono _ _ _ _ _ _ _ _ _ _ _ _ _)
  | (with_reducible exact hopperref05_Check.mono _ _ _ _ _)
  | (with_reducible exact hopperref11_Few.mono _ _ _)
  | (with_reducible exact LeO.refl _)
  | (with_reducible exact LeO.none _)
  | (with_reducible refine LeO.ite ?_ ?_)
  | (with_reducible refine LeO.bind ?_ (fun _ => ?_))
  | exact ih0 _ _ _
  | exact ih1 _ _ _
  | exact ih2 _ _ _ _ _ _
  | exact hopperlaw12_live.mono _
  | exact hopperref04_Better.mono _ _ _ _ _ _ _ _ _ _ _ _ _
  | exact hopperref05_Check.mono _ _ _ _ _
  | exact hopperref11_Few.mono _ _ _
  | exact LeO.none _
  | refine LeO.ite ?_ ?_
  | refine LeO.bind ?_ (fun _ => ?_)
def hopperlaw12_GreedyHeads.T15 : Bool × List (List Nat × List Nat) := (true, [([], []), ([0], [0]), ([1], [1]), ([2, 1], [1, 2]), ([3, 1], [1, 3]), ([4, 1, 1], [1, 4]), ([5], [5]), ([5], [5]), ([6, 7, 5], [5, 6, 7]), ([8, 5], [5, 8]), ([5], [5]), ([10, 5], [5, 10]), ([11, 5], [5, 11]), ([9, 12, 5, 5], [5, 9, 12]), ([5, 13, 1], [1, 5, 13]), ([1, 14], [1, 14])])
def hopperlaw12_GreedyHeads.B15 : List Nat := [0, 1, 3, 7, 15, 31, 63, 63, 255, 511, 63, 1087, 3135, 8191, 16383, 32767]
theorem hopperlaw12_GreedyHeads.tab15 : rtab .any (opsOf Try.f7 15) = hopperlaw12_GreedyHeads.T15 := by kernel_rfl
theorem hopperlaw12_GreedyHeads.bits15 : waitsOk hopperlaw12_GreedyHeads.T15.2 hopperlaw12_GreedyHeads.B15 = true := by kernel_rfl
def hopperlaw12_GreedyHeads.T17 : Bool × List (List Nat × List Nat) := (true, [([], []), ([0], [0]), ([1], [1]), ([2, 1], [1, 2]), ([3, 1], [1, 3]), ([4, 1, 1], [1, 4]), ([5], [5]), ([5], [5]), ([6, 7, 5], [5, 6, 7]), ([8, 5], [5, 8]), ([5], [5]), ([10, 5], [5, 10]), ([11, 5], [5, 11]), ([9, 12, 5], [5, 9, 12]), ([5, 13, 1], [1, 5, 13]), ([1, 14], [1, 14]), ([15, 5, 0, 1, 2, 3, 4, 5, 6, 7, 8, 9, 10, 11, 12, 13, 14, 15], [0, 15])])
def hopperlaw12_GreedyHeads.B17 : List Nat := [0, 1, 3, 7, 15, 31, 63, 63, 255, 511, 63, 1087, 3135, 8191, 16383, 32767, 65535]
theorem hopperlaw12_GreedyHeads.tab17 : rtab .any (opsOf Try.f7 17) = hopperlaw12_GreedyHeads.T17 := by kernel_rfl
theorem hopperlaw12_GreedyHeads.bits17 : waitsOk hopperlaw12_GreedyHeads.T17.2 hopperlaw12_GreedyHeads.B17 = true := by kernel_rfl
set_option maxHeartbeats 8000000 in
set_option maxRecDepth 100000 in
theorem hopperlaw12_GreedyHeads.calls (k : Nat) (A0 : Option Addr) (c0 : Nat) (l0 : List (S35)) (a1 : Int) (r : Bool) (w : World) (hr0 : Kd.C k35 w A0 l0.length l0) (hc0 : l0.length ≤ c0) (h : hopperlaw12_GreedyHeads.f k l0 a1 = some r) :
 Calls Try.prog 7 #[.slice A0 l0.length c0, .int .i64 a1] w fun e w' => e = .returned (.bool r) ∧ Below w.heap.size w w' := by
 have hu35 := Try.underlying35
 have hu38 := Try.underlying38
 have HR0 := A_ hr0
 have HC0 := A_ hc0
 clear hr0 hc0; have HB := A_ (Below.refl w.heap.size w)
 have H : ((hopperref11_Few.f k l0 20).bind fun t468 => (if t468 = true then (hopperlaw12_GreedyHeads.j0 k l0 a1 (decide (a1 < 0))) else (hopperlaw12_GreedyHeads.j0 k l0 a1 true))) = some r := h
 clear h
 have HC3 := A_ H
 clear H
 go_enter Try.func7, Try.ntmps7
 go_upto_region 1 with (fail)
 go_cut [17] (fun v17 wc => ∃ (kq : Nat) (x17_2 : Bool), v17 = .bool x17_2 ∧ Aside0 (hopperlaw12_GreedyHeads.j0 kq l0 a1 x17_2 = some r) ∧ Aside0 (kq ≤ k) ∧ Aside0 (Below w.heap.size w wc))
 case first =>
  have H := HC3.out
  clear HC3
  replace H := Option.bind_eq_some_iff.mp H
  obtain ⟨t468, A40, H⟩ := H
  try dsimp only at H
  have A4 := A_ A40
  clear A40
  by_cases c5 : t468 = true
  · subst c5
    have H1 : (hopperlaw12_GreedyHeads.j0 k l0 a1 (decide (a1 < 0))) = some r := by rw [if_pos rfl] at H; exact H
    clear H
    have H := H1
    clear H1
    have H' := A_ H
    clear H
    go_wp2_with (first | ((with_reducible refine gate_callee (f := 8) rfl ?_); refine goesL_ (some 12) rfl rfl Try.func8 (by kernel_rfl) rfl #[.slice A0 l0.length c0, .int .i64 20] rfl (by (try simp only [m0_, m1_, m2_]); first | done | rfl) ?_; (with_reducible refine (hopperref11_Few.calls k _ _ l0 20 true _ ?side1 ?side2 A4.out).mono ?_); (case side1 => repeat (first | exact (Kd.C_below HR0.out HB.out) | (with_reducible refine ca_ ?_ _) | (with_reducible refine cn_ ?_ _) | (with_reducible refine cd_ ?_))); (case side2 => exact HC0.out); rintro e w6 ⟨rfl, hb⟩; refine ⟨_, rfl, ?_⟩; replace HB := A_ (below_step bw_ hb); (try clear hb); (try clear hb2); (try clear hk); (try clear hi)))
    go_meet
    case rel => exact ⟨_, (decide (a1 < 0)), (by first | rfl | (simp; done) | (simp [*]; done)), H', ⟨by first | omega | exact Nat.le_refl _⟩, ⟨by repeat (first | (with_reducible first | exact HB.out | apply wa_ | apply wn_ | apply wd_) | exact HB.out)⟩⟩
  · replace c5 := Bool.eq_false_iff.mpr c5
    subst c5
    have H1 : (hopperlaw12_GreedyHeads.j0 k l0 a1 true) = some r := by rw [if_neg (show ¬ (false = true) by decide)] at H; exact H
    clear H
    have H := H1
    clear H1
    have H' := A_ H
    clear H
    go_wp2_with (first | ((with_reducible refine gate_callee (f := 8) rfl ?_); refine goesL_ (some 12) rfl rfl Try.func8 (by kernel_rfl) rfl #[.slice A0 l0.length c0, .int .i64 20] rfl (by (try simp only [m0_, m1_, m2_]); first | done | rfl) ?_; (with_reducible refine (hopperref11_Few.calls k _ _ l0 20 false _ ?side1 ?side2 A4.out).mono ?_); (case side1 => repeat (first | exact (Kd.C_below HR0.out HB.out) | (with_reducible refine ca_ ?_ _) | (with_reducible refine cn_ ?_ _) | (with_reducible refine cd_ ?_))); (case side2 => exact HC0.out); rintro e w7 ⟨rfl, hb⟩; refine ⟨_, rfl, ?_⟩; replace HB := A_ (below_step bw_ hb); (try clear hb); (try clear hb2); (try clear hk); (try clear hi)))
    go_meet
    case rel => exact ⟨_, (true), (by first | rfl | (simp; done) | (simp [*]; done)), H', ⟨by first | omega | exact Nat.le_refl _⟩, ⟨by repeat (first | (with_reducible first | exact HB.out | apply wa_ | apply wn_ | apply wd_) | exact HB.out)⟩⟩
 case rest =>
  clear HC3; (try clear p2); (try clear c5); (try clear c7)
  obtain ⟨kq, x17_2, rfl, HA, HJ2, HB⟩ := hcut
  cases kq with
  | zero => exact absurd HA.out (by simp [hopperlaw12_GreedyHeads.j0])
  | succ kj2 =>
   have H := HA.out
   clear HA
   simp only [hopperlaw12_GreedyHeads.j0] at H
   by_cases c8 : x17_2 = true
   · subst c8
     have H1 : ((hopperlaw12_live.f kj2).bind fun t469 => (some t469)) = some r := by rw [if_pos rfl] at H; exact H
     clear H
     have H := H1
     clear H1
     replace H := Option.bind_eq_some_iff.mp H
     obtain ⟨t469, A90, H⟩ := H
     replace H : (some t469) = some r := H
     have A9 := A_ A90
     clear A90
     obtain rfl := Option.some.inj H
     go_wp2_with (first | ((with_reducible refine gate_callee (f := 10) rfl ?_); refine goesL_ (some 18) rfl rfl Try.func10 (by kernel_rfl) rfl #[] rfl (by (try simp only [m0_, m1_, m2_]); first | done | rfl) ?_; (with_reducible refine (hopperlaw12_live.calls kj2  t469 _ A9.out).mono ?_); rintro e w10 ⟨rfl, hb⟩; refine ⟨_, rfl, ?_⟩; replace HB := A_ (below_step bw_ hb); (try clear hb); (try clear hb2); (try clear hk); (try clear hi)))
     go_ret
     exact ⟨by first | rfl | (simp [errW_none, errW_some] <;> rfl) | (simp [*, errW_none, errW_some] <;> rfl), by repeat (first | (with_reducible first | exact HB.out | apply wa_ | apply wn_ | apply wd_) | exact HB.out)⟩
   · replace c8 := Bool.eq_false_iff.mpr c8
     subst c8
     have H1 : (hopperlaw12_GreedyHeads.l0 kj2 l0 a1 0) = some r := by rw [if_neg (show ¬ (false = true) by decide)] at H; exact H
     clear H
     have H := H1
     clear H1
     have H' := A_ H
     clear H
     go_wp2
     go_loopg [5] kj2 (fun kq v5 w' => ∃ (x5_2 : Int), v5 = .int .i64 x5_2 ∧ Aside0 (hopperlaw12_GreedyHeads.l0 kq l0 a1 x5_2 = some r) ∧ Aside0 (kq ≤ kj2) ∧ Aside0 (Below w.heap.size w w'))
     case atStart => exact ⟨(0), (by first | rfl | (simp; done) | (simp [*]; done)), H', ⟨Nat.le_refl _⟩, ⟨by repeat (first | (with_reducible first | exact HB.out | apply wa_ | apply wn_ | apply wd_) | exact HB.out)⟩⟩
     case round =>
      clear H'; (try clear c1); (try clear p2); (try clear c5); (try clear c7); (try clear c8); (try clear c10); (try clear p2)
      obtain ⟨x5_2, rfl, HA, HK2, HB⟩ := hrel
      cases gk with
      | zero => exact absurd HA.out (by simp [hopperlaw12_GreedyHeads.l0])
      | succ k2 =>
       have H := HA.out
       clear HA
       simp only [hopperlaw12_GreedyHeads.l0] at H
       by_cases c11 : x5_2 < (l0.length : Int)
       · rw [if_pos c11] at H
         have c11b0 : decide (x5_2 < (l0.length : Int)) = true := decide_eq_true c11
         clear c11
         by_cases c12 : 0 ≤ x5_2
         rotate_left
         · rw [if_neg c12] at H
           exact absurd H (by simp)
         rw [if_pos c12] at H
         have c12b0 : decide (0 ≤ x5_2) = true := decide_eq_true c12
         clear c12
         replace H := Option.bind_eq_some_iff.mp H
         obtain ⟨t471, A130, H⟩ := H
         try dsimp only at H
         have A13 := A_ A130
         clear A130
         by_cases c14 : t471 = true
         · subst c14
           have H1 : (hopperlaw12_GreedyHeads.l0 k2 l0 a1 (wrap64 (x5_2 + 1))) = some r := by rw [if_pos rfl] at H; exact H
           clear H
           have H := H1
           clear H1
           have H' := A_ H
           clear H
           have p470 : 0 ≤ (x5_2 : Int) := of_decide_eq_true (by first | (with_reducible assumption) | assumption)
           have q470 : x5_2 < (l0.length : Int) := of_decide_eq_true (by first | (with_reducible assumption) | assumption)
           obtain ⟨ad470, A470_2, c470_2, e470, hx470_0, hx470_1, hx470_2, hl470_2, hi470_2⟩ := at_T35 HR0.out x5_2 p470 q470
           cases e470
           replace hx470_0 := on_ HB.out hx470_0
           replace hx470_1 := on_ HB.out hx470_1
           replace hx470_2 := on_ HB.out hx470_2
           have HR470_2 := A_ hi470_2
           have HC470_2 := A_ hl470_2
           clear hi470_2 hl470_2
           replace p470 := eq_true p470
           replace q470 := eq_true q470
           go_wp2_with (first | ((with_reducible refine gate_callee (f := 20) rfl ?_); refine goesL_ (some 29) rfl rfl Try.func20 (by kernel_rfl) rfl #[.agg #[.int .i64 ((rd_T35 l0 x5_2).f0), .int .i64 ((rd_T35 l0 x5_2).f1), .slice A470_2 ((rd_T35 l0 x5_2).f2).length c470_2], .int .i64 16] rfl (by (try simp only [m0_, m1_, m2_]); first | done | rfl) ?_; (with_reducible refine (hopperref05_Check.calls k2 ((rd_T35 l0 x5_2).f0) ((rd_T35 l0 x5_2).f1) _ _ ((rd_T35 l0 x5_2).f2) 16 true _ ?side1 ?side2 A13.out).mono ?_); (case side1 => repeat (first | exact (Kd.C_below HR470_2.out HB.out) | (with_reducible refine ca_ ?_ _) | (with_reducible refine cn_ ?_ _) | (with_reducible refine cd_ ?_))); (case side2 => exact HC470_2.out); rintro e w15 ⟨rfl, hb⟩; refine ⟨_, rfl, ?_⟩; replace HB := A_ (below_step bw_ hb); (try clear hb); (try clear hb2); (try clear hk); (try clear hi)))
           go_roundg k2
           case measure => have := HJ2.out; have := HK2.out; omega
           case rel => exact ⟨(wrap64 (x5_2 + 1)), (by first | rfl | (simp; done) | (simp [*]; done)), H', ⟨by have := HJ2.out; have := HK2.out; omega⟩, ⟨by repeat (first | (with_reducible first | exact HB.out | apply wa_ | apply wn_ | apply wd_) | exact HB.out)⟩⟩
         · replace c14 := Bool.eq_false_iff.mpr c14
           subst c14
           have H1 : ((hopperlaw12_live.f k2).bind fun t472 => (some t472)) = some r := by rw [if_neg (show ¬ (false = true) by decide)] at H; exact H
           clear H
           have H := H1
           clear H1
           replace H := Option.bind_eq_some_iff.mp H
           obtain ⟨t472, A160, H⟩ := H
           replace H : (some t472) = some r := H
           have A16 := A_ A160
           clear A160
           obtain rfl := Option.some.inj H
           have p470 : 0 ≤ (x5_2 : Int) := of_decide_eq_true (by first | (with_reducible assumption) | assumption)
           have q470 : x5_2 < (l0.length : Int) := of_decide_eq_true (by first | (with_reducible assumption) | assumption)
           obtain ⟨ad470, A470_2, c470_2, e470, hx470_0, hx470_1, hx470_2, hl470_2, hi470_2⟩ := at_T35 HR0.out x5_2 p470 q470
           cases e470
           replace hx470_0 := on_ HB.out hx470_0
           replace hx470_1 := on_ HB.out hx470_1
           replace hx470_2 := on_ HB.out hx470_2
           have HR470_2 := A_ hi470_2
           have HC470_2 := A_ hl470_2
           clear hi470_2 hl470_2
           replace p470 := eq_true p470
           replace q470 := eq_true q470
           go_wp2_with (first | ((with_reducible refine gate_callee (f := 20) rfl ?_); refine goesL_ (some 29) rfl rfl Try.func20 (by kernel_rfl) rfl #[.agg #[.int .i64 ((rd_T35 l0 x5_2).f0), .int .i64 ((rd_T35 l0 x5_2).f1), .slice A470_2 ((rd_T35 l0 x5_2).f2).length c470_2], .int .i64 16] rfl (by (try simp only [m0_, m1_, m2_]); first | done | rfl) ?_; (with_reducible refine (hopperref05_Check.calls k2 ((rd_T35 l0 x5_2).f0) ((rd_T35 l0 x5_2).f1) _ _ ((rd_T35 l0 x5_2).f2) 16 false _ ?side1 ?side2 A13.out).mono ?_); (case side1 => repeat (first | exact (Kd.C_below HR470_2.out HB.out) | (with_reducible refine ca_ ?_ _) | (with_reducible refine cn_ ?_ _) | (with_reducible refine cd_ ?_))); (case side2 => exact HC470_2.out); rintro e w17 ⟨rfl, hb⟩; refine ⟨_, rfl, ?_⟩; replace HB := A_ (below_step bw_ hb); (try clear hb); (try clear hb2); (try clear hk); (try clear hi)) | ((with_reducible refine gate_callee (f := 10) rfl ?_); refine goesL_ (some 31) rfl rfl Try.func10 (by kernel_rfl) rfl #[] rfl (by (try simp only [m0_, m1_, m2_]); first | done | rfl) ?_; (with_reducible refine (hopperlaw12_live.calls k2  t472 _ A16.out).mono ?_); rintro e w18 ⟨rfl, hb⟩; refine ⟨_, rfl, ?_⟩; replace HB := A_ (below_step bw_ hb); (try clear hb); (try clear hb2); (try clear hk); (try clear hi)))
           go_ret
           exact ⟨by first | rfl | (simp [errW_none, errW_some] <;> rfl) | (simp [*, errW_none, errW_some] <;> rfl), by repeat (first | (with_reducible first | exact HB.out | apply wa_ | apply wn_ | apply wd_) | exact HB.out)⟩
       · rw [if_neg c11] at H
         have c11b0 : decide (x5_2 < (l0.length : Int)) = false := decide_eq_false c11
         clear c11
         replace H := Option.bind_eq_some_iff.mp H
         obtain ⟨t473, A190, H⟩ := H
         try dsimp only at H
         have A19 := A_ A190
         clear A190
         replace H := Option.bind_eq_some_iff.mp H
         obtain ⟨t476, A200, H⟩ := H
         try dsimp only at H
         have A20 := A_ A200
         clear A200
         have H' := A_ H
         clear H
         go_wp2_with (first | ((with_reducible refine gate_callee (f := 14) rfl ?_); refine goesL_ (some 33) rfl rfl Try.func14 (by kernel_rfl) rfl #[.slice A0 l0.length c0] rfl (by (try simp only [m0_, m1_, m2_]); first | done | rfl) ?_; (with_reducible refine (greedy_Heads.calls _ _ l0 t473 _ ?side1 ?side2 A19.out).mono ?_); (case side1 => repeat (first | exact (Kd.C_below HR0.out HB.out) | (with_reducible refine ca_ ?_ _) | (with_reducible refine cn_ ?_ _) | (with_reducible refine cd_ ?_))); (case side2 => exact HC0.out); rintro e w21 ⟨v474, rfl, ho0, hb⟩; refine ⟨_, rfl, ?_⟩; have HO475 := A_ (Kd.R_lower ho0 (below_size bw_)); replace HB := A_ (below_step bw_ hb); (try clear hb); (try clear hb2); (try clear hk); (try clear hi); (try clear ho0)) | ((with_reducible refine gate_callee (f := 16) rfl ?_); refine goesL_ (some 36) rfl rfl Try.func16 (by kernel_rfl) rfl #[.slice A0 l0.length c0, .int .i64 a1] rfl (by (try simp only [m0_, m1_, m2_]); first | done | rfl) ?_; (with_reducible refine (greedy_Template.calls _ _ l0 a1 t476 _ ?side1 ?side2 A20.out).mono ?_); (case side1 => repeat (first | exact (Kd.C_below HR0.out HB.out) | (with_reducible refine ca_ ?_ _) | (with_reducible refine cn_ ?_ _) | (with_reducible refine cd_ ?_))); (case side2 => exact HC0.out); rintro e w22 ⟨v477, rfl, ho0, hb⟩; refine ⟨_, rfl, ?_⟩; have n0_ := A_ (Kd.R_elder' (pr_ HO475.out) (Kd.R_base ho0) hb); have n1_ := A_ (Kd.R_lower (Kd.R_new' ho0 (Kd.R_lt (pr_ HO475.out))) (below_size bw_)); have n2_ := A_ (below_step bw_ hb); replace HO475 := n0_; have HO478 := n1_; replace HB := n2_; clear n0_ n1_ n2_; (try clear hb); (try clear hb2); (try clear hk); (try clear hi); (try clear ho0)))
         go_loopg [8, 9] k2 (fun kq v8 v9 w' => ∃ (x8_3 : Bool) (x9_3 : Int), v8 = .bool x8_3 ∧ v9 = .int .i64 x9_3 ∧ Aside0 (hopperlaw12_GreedyHeads.l1 kq l0 a1 t473 t476 x8_3 x9_3 = some r) ∧ Aside0 (kq ≤ k2) ∧ Aside0 (Kd.R k38 38 w' w.heap.size (fun k_ => some k_ ≠ (v477 : Value).ownBlock) v474 t473) ∧ Aside0 (Kd.R k38 38 w' w.heap.size (fun k_ => some k_ ≠ (v474 : Value).ownBlock) v477 t476) ∧ Aside0 (Below w.heap.size w w'))
         case atStart => exact ⟨(false), (0), (by first | rfl | (simp; done) | (simp [*]; done)), (by first | rfl | (simp; done) | (simp [*]; done)), H', ⟨Nat.le_refl _⟩, ⟨by (with_reducible repeat (first | apply ra_ | apply rn_ | apply rd_)); exact Kd.R_mono HO475.out (fun _ hk => hk.2)⟩, ⟨by (with_reducible repeat (first | apply ra_ | apply rn_ | apply rd_)); exact Kd.R_mono HO478.out (fun _ hk => hk.2)⟩, ⟨by repeat (first | (with_reducible first | exact HB.out | apply wa_ | apply wn_ | apply wd_) | exact HB.out)⟩⟩
         case round =>
          clear H'; (try clear c1); (try clear c2); (try clear p2); (try clear c4); (try clear p4); (try clear q4); (try clear hx4); (try clear c5); (try clear p6); (try clear c7); (try clear c8); (try clear c10); (try clear c11); (try clear c11b0); (try clear c12); (try clear c12b0); (try clear c14); (try clear c16); (try clear c20); (try clear hx470_0); (try clear hx470_1); (try clear hx470_2); (try clear p2); (try clear p470); (try clear q470)
          obtain ⟨x8_3, x9_3, rfl, rfl, HA, HK3, HO_6, HO_7, HB⟩ := hrel
          cases gk with
          | zero => exact absurd HA.out (by simp [hopperlaw12_GreedyHeads.l1])
          | succ k3 =>
           have H := HA.out
           clear HA
           simp only [hopperlaw12_GreedyHeads.l1] at H
           by_cases c23 : x9_3 < (t473.length : Int)
           · rw [if_pos c23] at H
             have c23b0 : decide (x9_3 < (t473.length : Int)) = true := decide_eq_true c23
             clear c23
             by_cases c24 : 0 ≤ x9_3
             rotate_left
             · rw [if_neg c24] at H
               exact absurd H (by simp)
             rw [if_pos c24] at H
             have c24b0 : decide (0 ≤ x9_3) = true := decide_eq_true c24
             clear c24
             by_cases c25 : ((rd_T38 t473 x9_3).f4) ≤ a1
             · rw [if_pos c25] at H
               have c25b0 : decide (((rd_T38 t473 x9_3).f4) ≤ a1) = true := decide_eq_true c25
               clear c25
               by_cases c26 : (t476.length : Int) = 0
               · rw [if_pos c26] at H
                 exact absurd H (by simp)
               rw [if_neg c26] at H
               have c26b0 : ((t476.length : Int) == 0) = false := beq_eq_false_iff_ne.mpr c26
               have c26b1 : ((t476.length : Int) != 0) = true := bne_iff_ne.mpr c26
               have c26b2 : ¬ (t476 = []) := fun h_ => c26 (by rw [h_]; rfl)
               by_cases c27 : 0 < (t476.length : Int)
               rotate_left
               · rw [if_neg c27] at H
                 exact absurd H (by simp)
               rw [if_pos c27] at H
               have c27b0 : decide (0 < (t476.length : Int)) = true := decide_eq_true c27
               have c27b1 : decide (0 < t476.length) = true := decide_eq_true (by omega)
               clear c27
               replace H := Option.bind_eq_some_iff.mp H
               obtain ⟨t482, A280, H⟩ := H
               try dsimp only at H
               have A28 := A_ A280
               clear A280
               by_cases c29 : t482 = true
               · subst c29
                 have H1 : (none) = some r := by rw [if_pos rfl] at H; exact H
                 clear H
                 have H := H1
                 clear H1
                 exact absurd H (by simp)
               replace c29 := Bool.eq_false_iff.mpr c29
               subst c29
               have H1 : (if x8_3 = true then (hopperlaw12_GreedyHeads.l1 k3 l0 a1 t473 t476 true (wrap64 (x9_3 + 1))) else (if (t476.length : Int) > 0 then (hopperlaw12_GreedyHeads.l1 k3 l0 a1 t473 t476 (((rd_T38 t473 x9_3).f0) == ((rd_T38 t476 0).f0) && (((rd_T38 t473 x9_3).f1) == ((rd_T38 t476 0).f1) && (((rd_T38 t473 x9_3).f2) == ((rd_T38 t476 0).f2) && (((rd_T38 t473 x9_3).f3) == ((rd_T38 t476 0).f3) && (((rd_T38 t473 x9_3).f4) == ((rd_T38 t476 0).f4) && ((((rd_T38 t473 x9_3).f5).toList) == (((rd_T38 t476 0).f5).toList))))))) (wrap64 (x9_3 + 1))) else (hopperlaw12_GreedyHeads.l1 k3 l0 a1 t473 t476 false (wrap64 (x9_3 + 1))))) = some r := by rw [if_neg (show ¬ (false = true) by decide)] at H; exact H
               clear H
               have H := H1
               clear H1
               by_cases c30 : x8_3 = true
               · subst c30
                 have H1 : (hopperlaw12_GreedyHeads.l1 k3 l0 a1 t473 t476 true (wrap64 (x9_3 + 1))) = some r := by rw [if_pos rfl] at H; exact H
                 clear H
                 have H := H1
                 clear H1
                 have H' := A_ H
                 clear H
                 obtain ⟨Ao31, co31, eo31⟩ := Kd.R_slice HO_6.out
                 subst eo31
                 have p479 : 0 ≤ (x9_3 : Int) := of_decide_eq_true (by first | (with_reducible assumption) | assumption)
                 have q479 : x9_3 < (t473.length : Int) := of_decide_eq_true (by first | (with_reducible assumption) | assumption)
                 obtain ⟨ad479, e479, hx479_0, hx479_1, hx479_2, hx479_3, hx479_4, hx479_5⟩ := at_T38 (Kd.R_reads' HO_6.out).2.2 x9_3 p479 q479
                 cases e479
                 replace p479 := eq_true p479
                 replace q479 := eq_true q479
                 try go_wp2
                 have n0_ := A_ (rd_ HO_6.out); have n1_ := A_ (rd_ HO_7.out); have n2_ := A_ (wd_ HB.out); replace HO_6 := n0_; replace HO_7 := n1_; replace HB := n2_; clear n0_ n1_ n2_
                 obtain ⟨Ao33, co33, eo33⟩ := Kd.R_slice HO_7.out
                 (first | subst eo33 | (injection eo33 with f1_ f2_ f3_; have f4_ := f1_.symm; have f5_ := f3_.symm; clear f1_ f2_ f3_; subst f4_; subst f5_))
                 have p480 : 0 ≤ (x9_3 : Int) := of_decide_eq_true (by first | (with_reducible assumption) | assumption)
                 have q480 : x9_3 < (t473.length : Int) := of_decide_eq_true (by first | (with_reducible assumption) | assumption)
                 obtain ⟨ad480, e480, hx480_0, hx480_1, hx480_2, hx480_3, hx480_4, hx480_5⟩ := at_T38 (Kd.R_reads' HO_6.out).2.2 x9_3 p480 q480
                 obtain rfl : ad479 = ad480 := (by injection e480)
                 replace p480 := eq_true p480
                 replace q480 := eq_true q480
                 have p481 : 0 ≤ (0 : Int) := (by omega)
                 have q481 : 0 < (t476.length : Int) := of_decide_eq_true (by first | (with_reducible assumption) | assumption)
                 obtain ⟨ad481, e481, hx481_0, hx481_1, hx481_2, hx481_3, hx481_4, hx481_5⟩ := at_T38 (Kd.R_reads' HO_7.out).2.2 0 p481 q481
                 cases e481
                 have qi481 : (0 < t476.length) = True := eq_true (by omega)
                 (try rw [show ((0 : Int)).toNat = 0 from rfl] at hx481_0)
                 (try rw [show 0 * 6 = 0 from rfl] at hx481_0)
                 (try rw [Addr.add_zero'] at hx481_0)
                 (try rw [show ((0 : Int)).toNat = 0 from rfl] at hx481_1)
                 (try rw [show 0 * 6 = 0 from rfl] at hx481_1)
                 (try rw [Addr.add_zero'] at hx481_1)
                 (try rw [show ((0 : Int)).toNat = 0 from rfl] at hx481_2)
                 (try rw [show 0 * 6 = 0 from rfl] at hx481_2)
                 (try rw [Addr.add_zero'] at hx481_2)
                 (try rw [show ((0 : Int)).toNat = 0 from rfl] at hx481_3)
                 (try rw [show 0 * 6 = 0 from rfl] at hx481_3)
                 (try rw [Addr.add_zero'] at hx481_3)
                 (try rw [show ((0 : Int)).toNat = 0 from rfl] at hx481_4)
                 (try rw [show 0 * 6 = 0 from rfl] at hx481_4)
                 (try rw [Addr.add_zero'] at hx481_4)
                 (try rw [show ((0 : Int)).toNat = 0 from rfl] at hx481_5)
                 (try rw [show 0 * 6 = 0 from rfl] at hx481_5)
                 (try rw [Addr.add_zero'] at hx481_5)
                 replace p481 := eq_true p481
                 replace q481 := eq_true q481
                 refine start_ (n := 16) (S := fun w' => w'.cell? (ad479.add ((x9_3).toNat * 6)) = some (.int .i64 ((rd_T38 t473 x9_3).f0)) ∧ w'.cell? ⟨(ad479.add ((x9_3).toNat * 6)).block, (ad479.add ((x9_3).toNat * 6)).off + 1, none⟩ = some (.int .i64 ((rd_T38 t473 x9_3).f1)) ∧ w'.cell? ⟨(ad479.add ((x9_3).toNat * 6)).block, (ad479.add ((x9_3).toNat * 6)).off + 2, none⟩ = some (.int .i64 ((rd_T38 t473 x9_3).f2)) ∧ w'.cell? ⟨(ad479.add ((x9_3).toNat * 6)).block, (ad479.add ((x9_3).toNat * 6)).off + 3, none⟩ = some (.int .i64 ((rd_T38 t473 x9_3).f3)) ∧ w'.cell? ⟨(ad479.add ((x9_3).toNat * 6)).block, (ad479.add ((x9_3).toNat * 6)).off + 4, none⟩ = some (.int .i64 ((rd_T38 t473 x9_3).f4)) ∧ w'.cell? ⟨(ad479.add ((x9_3).toNat * 6)).block, (ad479.add ((x9_3).toNat * 6)).off + 5, none⟩ = some (.string ((rd_T38 t473 x9_3).f5)) ∧ w'.cell? ad481 = some (.int .i64 ((rd_T38 t476 0).f0)) ∧ w'.cell? ⟨ad481.block, ad481.off + 1, none⟩ = some (.int .i64 ((rd_T38 t476 0).f1)) ∧ w'.cell? ⟨ad481.block, ad481.off + 2, none⟩ = some (.int .i64 ((rd_T38 t476 0).f2)) ∧ w'.cell? ⟨ad481.block, ad481.off + 3, none⟩ = some (.int .i64 ((rd_T38 t476 0).f3)) ∧ w'.cell? ⟨ad481.block, ad481.off + 4, none⟩ = some (.int .i64 ((rd_T38 t476 0).f4)) ∧ w'.cell? ⟨ad481.block, ad481.off + 5, none⟩ = some (.string ((rd_T38 t476 0).f5))) (ds := []) #[F,F,F,F,F,F,F,F,F,F,F,F,F,F,F,F] (by kernel_rfl) rfl rfl ⟨hx480_0, hx480_1, hx480_2, hx480_3, hx480_4, hx480_5, hx481_0, hx481_1, hx481_2, hx481_3, hx481_4, hx481_5⟩ (fun hHeld => ?_); refine with_tabW hopperlaw12_GreedyHeads.tab15 hopperlaw12_GreedyHeads.bits15 (fun HT_ HW_ => ?_)
                 generalize wr.drew = w32 at HO_6 HO_7 HB hx480_0 hx480_1 hx480_2 hx480_3 hx480_4 hx480_5 hx481_0 hx481_1 hx481_2 hx481_3 hx481_4 hx481_5 hHeld ⊢
                 refine pq_ 0 50 HT_ ?_
                 refine pq_ 1 51 HT_ ?_
                 refine pq_ 2 52 HT_ ?_
                 refine pq_ 3 53 HT_ ?_
                 refine pq_ 4 54 HT_ ?_
                 refine pq_ 5 55 HT_ ?_
                 refine pq_ 6 56 HT_ ?_
                 refine pq_ 7 57 HT_ ?_
                 refine pq_ 8 58 HT_ ?_
                 refine pq_ 10 60 HT_ ?_
                 refine pq_ 11 61 HT_ ?_
                 refine tk_ 9 59 HT_ HW_ hHeld ?_
                 refine tk_ 12 62 HT_ HW_ hHeld ?_
                 refine one_ (i := 13) (N := some 63) #[T,T,T,T,T,T,T,T,T,T,T,T,T,T,F,F] rfl rfl (one_of HT_.out (by kernel_rfl)) (by decide) (fun K hK => ?_)
                 refine goes_ Try.func22 (by kernel_rfl) rfl #[.agg #[.int .i64 ((rd_T38 t473 x9_3).f0), .int .i64 ((rd_T38 t473 x9_3).f1), .int .i64 ((rd_T38 t473 x9_3).f2), .int .i64 ((rd_T38 t473 x9_3).f3), .int .i64 ((rd_T38 t473 x9_3).f4), .string ((rd_T38 t473 x9_3).f5)], .agg #[.int .i64 ((rd_T38 t476 0).f0), .int .i64 ((rd_T38 t476 0).f1), .int .i64 ((rd_T38 t476 0).f2), .int .i64 ((rd_T38 t476 0).f3), .int .i64 ((rd_T38 t476 0).f4), .string ((rd_T38 t476 0).f5)]] (by rfl) rfl rfl (by (try simp only [m0_, m1_, m2_]); first | done | rfl) ?_
                 with_reducible refine (hopperref04_Better.calls k3 ((rd_T38 t473 x9_3).f0) ((rd_T38 t473 x9_3).f1) ((rd_T38 t473 x9_3).f2) ((rd_T38 t473 x9_3).f3) ((rd_T38 t473 x9_3).f4) ((rd_T38 t473 x9_3).f5) ((rd_T38 t476 0).f0) ((rd_T38 t476 0).f1) ((rd_T38 t476 0).f2) ((rd_T38 t476 0).f3) ((rd_T38 t476 0).f4) ((rd_T38 t476 0).f5) false _ A28.out).mono ?_
                 rintro e w34 ⟨rfl, hb⟩
                 obtain ⟨h0_, h1_, h2_, h3_, h4_, h5_, h6_, h7_, h8_, h9_, h10_, h11_⟩ := hHeld
                 have o_ := fun (p_ : Addr) (v_ : Value) => @on_ _ _ p_ v_ hb
                 refine ⟨_, rfl, ?_⟩
                 have n0_ := A_ (Kd.R_below (pr_ HO_6.out) hb); have n1_ := A_ (Kd.R_below (pr_ HO_7.out) hb); have n2_ := A_ (below_step bw_ hb); replace HO_6 := n0_; replace HO_7 := n1_; replace HB := n2_; clear n0_ n1_ n2_
                 (try clear hb)
                 (try clear hb2)
                 (try clear hk)
                 (try clear hi)
                 refine hK.out _ _ ⟨o_ _ _ h0_, o_ _ _ h1_, o_ _ _ h2_, o_ _ _ h3_, o_ _ _ h4_, o_ _ _ h5_, o_ _ _ h6_, o_ _ _ h7_, o_ _ _ h8_, o_ _ _ h9_, o_ _ _ h10_, o_ _ _ h11_⟩ (fun hHeld => ?_)
                 clear hK K
                 refine norm_ (a' := ?_) ?_ ?_
                 rotate_left
                 · show Act.put _ (some 63) _ = _
                   simp only [Act.put, s0_, s1_, s2_, i64_w, i32_w]
                   rfl
                 refine pq_ 14 64 HT_ ?_
                 refine pq_ 15 65 HT_ ?_
                 refine done_ (done_of HT_.out (by kernel_rfl)) ?_
                 try go_wp2
                 have n0_ := A_ (rd_ HO_6.out); have n1_ := A_ (rd_ HO_7.out); have n2_ := A_ (wd_ HB.out); replace HO_6 := n0_; replace HO_7 := n1_; replace HB := n2_; clear n0_ n1_ n2_
                 refine start_ (n := 17) (S := fun w' => True) (ds := []) #[F,F,F,F,F,F,F,F,F,F,F,F,F,F,F,F,F] (by kernel_rfl) rfl rfl trivial (fun hHeld => ?_); refine with_tabW hopperlaw12_GreedyHeads.tab17 hopperlaw12_GreedyHeads.bits17 (fun HT_ HW_ => ?_)
                 generalize w34.drew = w35 at HO_6 HO_7 HB hHeld ⊢
                 refine pq_ 0 66 HT_ ?_
                 refine pq_ 1 67 HT_ ?_
                 refine pu_ 2 68 HT_ ?_
                 refine pu_ 3 69 HT_ ?_
                 refine pu_ 4 70 HT_ ?_
                 refine pu_ 5 71 HT_ ?_
                 refine pu_ 6 72 HT_ ?_
                 refine pu_ 7 73 HT_ ?_
                 refine pu_ 8 74 HT_ ?_
                 refine pu_ 9 75 HT_ ?_
                 refine pu_ 10 76 HT_ ?_
                 refine pu_ 11 77 HT_ ?_
                 refine pu_ 12 78 HT_ ?_
                 refine pu_ 13 79 HT_ ?_
                 refine pu_ 14 80 HT_ ?_
                 refine pq_ 15 81 HT_ ?_
                 refine pq_ 16 8 HT_ ?_
                 refine done_ (done_of HT_.out (by kernel_rfl)) ?_
                 try go_wp2
                 go_roundg k3
                 case measure => have := HJ2.out; have := HK2.out; have := HK3.out; omega
                 case rel => exact ⟨(true), (wrap64 (x9_3 + 1)), (by first | rfl | (simp; done) | (simp [*]; done)), (by first | rfl | (simp; done) | (simp [*]; done)), H', ⟨by have := HJ2.out; have := HK2.out; have := HK3.out; omega⟩, ⟨by (with_reducible repeat (first | apply ra_ | apply rn_ | apply rd_)); exact HO_6.out⟩, ⟨by (with_reducible repeat (first | apply ra_ | apply rn_ | apply rd_)); exact HO_7.out⟩, ⟨by repeat (first | (with_reducible first | exact HB.out | apply wa_ | apply wn_ | apply wd_) | exact HB.out)⟩⟩
               · replace c30 := Bool.eq_false_iff.mpr c30
                 subst c30
                 have H1 : (if (t476.length : Int) > 0 then (hopperlaw12_GreedyHeads.l1 k3 l0 a1 t473 t476 (((rd_T38 t473 x9_3).f0) == ((rd_T38 t476 0).f0) && (((rd_T38 t473 x9_3).f1) == ((rd_T38 t476 0).f1) && (((rd_T38 t473 x9_3).f2) == ((rd_T38 t476 0).f2) && (((rd_T38 t473 x9_3).f3) == ((rd_T38 t476 0).f3) && (((rd_T38 t473 x9_3).f4) == ((rd_T38 t476 0).f4) && ((((rd_T38 t473 x9_3).f5).toList) == (((rd_T38 t476 0).f5).toList))))))) (wrap64 (x9_3 + 1))) else (hopperlaw12_GreedyHeads.l1 k3 l0 a1 t473 t476 false (wrap64 (x9_3 + 1)))) = some r := by rw [if_neg (show ¬ (false = true) by decide)] at H; exact H
                 clear H
                 have H := H1
                 clear H1
                 by_cases c36 : (t476.length : Int) > 0
                 · rw [if_pos c36] at H
                   have c36b0 : decide (0 < (t476.length : Int)) = true := decide_eq_true c36
                   have c36b1 : decide (0 < t476.length) = true := decide_eq_true (by omega)
                   clear c36
                   have H' := A_ H
                   clear H
                   obtain ⟨Ao37, co37, eo37⟩ := Kd.R_slice HO_6.out
                   subst eo37
                   have p479 : 0 ≤ (x9_3 : Int) := of_decide_eq_true (by first | (with_reducible assumption) | assumption)
                   have q479 : x9_3 < (t473.length : Int) := of_decide_eq_true (by first | (with_reducible assumption) | assumption)
                   obtain ⟨ad479, e479, hx479_0, hx479_1, hx479_2, hx479_3, hx479_4, hx479_5⟩ := at_T38 (Kd.R_reads' HO_6.out).2.2 x9_3 p479 q479
                   cases e479
                   replace p479 := eq_true p479
                   replace q479 := eq_true q479
                   try go_wp2
                   have n0_ := A_ (rd_ HO_6.out); have n1_ := A_ (rd_ HO_7.out); have n2_ := A_ (wd_ HB.out); replace HO_6 := n0_; replace HO_7 := n1_; replace HB := n2_; clear n0_ n1_ n2_
                   obtain ⟨Ao39, co39, eo39⟩ := Kd.R_slice HO_7.out
                   (first | subst eo39 | (injection eo39 with f1_ f2_ f3_; have f4_ := f1_.symm; have f5_ := f3_.symm; clear f1_ f2_ f3_; subst f4_; subst f5_))
                   have p480 : 0 ≤ (x9_3 : Int) := of_decide_eq_true (by first | (with_reducible assumption) | assumption)
                   have q480 : x9_3 < (t473.length : Int) := of_decide_eq_true (by first | (with_reducible assumption) | assumption)
                   obtain ⟨ad480, e480, hx480_0, hx480_1, hx480_2, hx480_3, hx480_4, hx480_5⟩ := at_T38 (Kd.R_reads' HO_6.out).2.2 x9_3 p480 q480
                   obtain rfl : ad479 = ad480 := (by injection e480)
                   replace p480 := eq_true p480
                   replace q480 := eq_true q480
                   have p481 : 0 ≤ (0 : Int) := (by omega)
                   have q481 : 0 < (t476.length : Int) := of_decide_eq_true (by first | (with_reducible assumption) | assumption)
                   obtain ⟨ad481, e481, hx481_0, hx481_1, hx481_2, hx481_3, hx481_4, hx481_5⟩ := at_T38 (Kd.R_reads' HO_7.out).2.2 0 p481 q481
                   cases e481
                   have qi481 : (0 < t476.length) = True := eq_true (by omega)
                   (try rw [show ((0 : Int)).toNat = 0 from rfl] at hx481_0)
                   (try rw [show 0 * 6 = 0 from rfl] at hx481_0)
                   (try rw [Addr.add_zero'] at hx481_0)
                   (try rw [show ((0 : Int)).toNat = 0 from rfl] at hx481_1)
                   (try rw [show 0 * 6 = 0 from rfl] at hx481_1)
                   (try rw [Addr.add_zero'] at hx481_1)
                   (try rw [show ((0 : Int)).toNat = 0 from rfl] at hx481_2)
                   (try rw [show 0 * 6 = 0 from rfl] at hx481_2)
                   (try rw [Addr.add_zero'] at hx481_2)
                   (try rw [show ((0 : Int)).toNat = 0 from rfl] at hx481_3)
                   (try rw [show 0 * 6 = 0 from rfl] at hx481_3)
                   (try rw [Addr.add_zero'] at hx481_3)
                   (try rw [show ((0 : Int)).toNat = 0 from rfl] at hx481_4)
                   (try rw [show 0 * 6 = 0 from rfl] at hx481_4)
                   (try rw [Addr.add_zero'] at hx481_4)
                   (try rw [show ((0 : Int)).toNat = 0 from rfl] at hx481_5)
                   (try rw [show 0 * 6 = 0 from rfl] at hx481_5)
                   (try rw [Addr.add_zero'] at hx481_5)
                   replace p481 := eq_true p481
                   replace q481 := eq_true q481
                   refine start_ (n := 16) (S := fun w' => w'.cell? (ad479.add ((x9_3).toNat * 6)) = some (.int .i64 ((rd_T38 t473 x9_3).f0)) ∧ w'.cell? ⟨(ad479.add ((x9_3).toNat * 6)).block, (ad479.add ((x9_3).toNat * 6)).off + 1, none⟩ = some (.int .i64 ((rd_T38 t473 x9_3).f1)) ∧ w'.cell? ⟨(ad479.add ((x9_3).toNat * 6)).block, (ad479.add ((x9_3).toNat * 6)).off + 2, none⟩ = some (.int .i64 ((rd_T38 t473 x9_3).f2)) ∧ w'.cell? ⟨(ad479.add ((x9_3).toNat * 6)).block, (ad479.add ((x9_3).toNat * 6)).off + 3, none⟩ = some (.int .i64 ((rd_T38 t473 x9_3).f3)) ∧ w'.cell? ⟨(ad479.add ((x9_3).toNat * 6)).block, (ad479.add ((x9_3).toNat * 6)).off + 4, none⟩ = some (.int .i64 ((rd_T38 t473 x9_3).f4)) ∧ w'.cell? ⟨(ad479.add ((x9_3).toNat * 6)).block, (ad479.add ((x9_3).toNat * 6)).off + 5, none⟩ = some (.string ((rd_T38 t473 x9_3).f5)) ∧ w'.cell? ad481 = some (.int .i64 ((rd_T38 t476 0).f0)) ∧ w'.cell? ⟨ad481.block, ad481.off + 1, none⟩ = some (.int .i64 ((rd_T38 t476 0).f1)) ∧ w'.cell? ⟨ad481.block, ad481.off + 2, none⟩ = some (.int .i64 ((rd_T38 t476 0).f2)) ∧ w'.cell? ⟨ad481.block, ad481.off + 3, none⟩ = some (.int .i64 ((rd_T38 t476 0).f3)) ∧ w'.cell? ⟨ad481.block, ad481.off + 4, none⟩ = some (.int .i64 ((rd_T38 t476 0).f4)) ∧ w'.cell? ⟨ad481.block, ad481.off + 5, none⟩ = some (.string ((rd_T38 t476 0).f5))) (ds := []) #[F,F,F,F,F,F,F,F,F,F,F,F,F,F,F,F] (by kernel_rfl) rfl rfl ⟨hx480_0, hx480_1, hx480_2, hx480_3, hx480_4, hx480_5, hx481_0, hx481_1, hx481_2, hx481_3, hx481_4, hx481_5⟩ (fun hHeld => ?_); refine with_tabW hopperlaw12_GreedyHeads.tab15 hopperlaw12_GreedyHeads.bits15 (fun HT_ HW_ => ?_)
                   generalize wr.drew = w38 at HO_6 HO_7 HB hx480_0 hx480_1 hx480_2 hx480_3 hx480_4 hx480_5 hx481_0 hx481_1 hx481_2 hx481_3 hx481_4 hx481_5 hHeld ⊢
                   refine pq_ 0 50 HT_ ?_
                   refine pq_ 1 51 HT_ ?_
                   refine pq_ 2 52 HT_ ?_
                   refine pq_ 3 53 HT_ ?_
                   refine pq_ 4 54 HT_ ?_
                   refine pq_ 5 55 HT_ ?_
                   refine pq_ 6 56 HT_ ?_
                   refine pq_ 7 57 HT_ ?_
                   refine pq_ 8 58 HT_ ?_
                   refine pq_ 10 60 HT_ ?_
                   refine pq_ 11 61 HT_ ?_
                   refine tk_ 9 59 HT_ HW_ hHeld ?_
                   refine tk_ 12 62 HT_ HW_ hHeld ?_
                   refine one_ (i := 13) (N := some 63) #[T,T,T,T,T,T,T,T,T,T,T,T,T,T,F,F] rfl rfl (one_of HT_.out (by kernel_rfl)) (by decide) (fun K hK => ?_)
                   refine goes_ Try.func22 (by kernel_rfl) rfl #[.agg #[.int .i64 ((rd_T38 t473 x9_3).f0), .int .i64 ((rd_T38 t473 x9_3).f1), .int .i64 ((rd_T38 t473 x9_3).f2), .int .i64 ((rd_T38 t473 x9_3).f3), .int .i64 ((rd_T38 t473 x9_3).f4), .string ((rd_T38 t473 x9_3).f5)], .agg #[.int .i64 ((rd_T38 t476 0).f0), .int .i64 ((rd_T38 t476 0).f1), .int .i64 ((rd_T38 t476 0).f2), .int .i64 ((rd_T38 t476 0).f3), .int .i64 ((rd_T38 t476 0).f4), .string ((rd_T38 t476 0).f5)]] (by rfl) rfl rfl (by (try simp only [m0_, m1_, m2_]); first | done | rfl) ?_
                   with_reducible refine (hopperref04_Better.calls k3 ((rd_T38 t473 x9_3).f0) ((rd_T38 t473 x9_3).f1) ((rd_T38 t473 x9_3).f2) ((rd_T38 t473 x9_3).f3) ((rd_T38 t473 x9_3).f4) ((rd_T38 t473 x9_3).f5) ((rd_T38 t476 0).f0) ((rd_T38 t476 0).f1) ((rd_T38 t476 0).f2) ((rd_T38 t476 0).f3) ((rd_T38 t476 0).f4) ((rd_T38 t476 0).f5) false _ A28.out).mono ?_
                   rintro e w40 ⟨rfl, hb⟩
                   obtain ⟨h0_, h1_, h2_, h3_, h4_, h5_, h6_, h7_, h8_, h9_, h10_, h11_⟩ := hHeld
                   have o_ := fun (p_ : Addr) (v_ : Value) => @on_ _ _ p_ v_ hb
                   refine ⟨_, rfl, ?_⟩
                   have n0_ := A_ (Kd.R_below (pr_ HO_6.out) hb); have n1_ := A_ (Kd.R_below (pr_ HO_7.out) hb); have n2_ := A_ (below_step bw_ hb); replace HO_6 := n0_; replace HO_7 := n1_; replace HB := n2_; clear n0_ n1_ n2_
                   (try clear hb)
                   (try clear hb2)
                   (try clear hk)
                   (try clear hi)
                   refine hK.out _ _ ⟨o_ _ _ h0_, o_ _ _ h1_, o_ _ _ h2_, o_ _ _ h3_, o_ _ _ h4_, o_ _ _ h5_, o_ _ _ h6_, o_ _ _ h7_, o_ _ _ h8_, o_ _ _ h9_, o_ _ _ h10_, o_ _ _ h11_⟩ (fun hHeld => ?_)
                   clear hK K
                   refine norm_ (a' := ?_) ?_ ?_
                   rotate_left
                   · show Act.put _ (some 63) _ = _
                     simp only [Act.put, s0_, s1_, s2_, i64_w, i32_w]
                     rfl
                   refine pq_ 14 64 HT_ ?_
                   refine pq_ 15 65 HT_ ?_
                   refine done_ (done_of HT_.out (by kernel_rfl)) ?_
                   try go_wp2
                   have n0_ := A_ (rd_ HO_6.out); have n1_ := A_ (rd_ HO_7.out); have n2_ := A_ (wd_ HB.out); replace HO_6 := n0_; replace HO_7 := n1_; replace HB := n2_; clear n0_ n1_ n2_
                   have p483 : 0 ≤ (x9_3 : Int) := of_decide_eq_true (by first | (with_reducible assumption) | assumption)
                   have q483 : x9_3 < (t473.length : Int) := of_decide_eq_true (by first | (with_reducible assumption) | assumption)
                   obtain ⟨ad483, e483, hx483_0, hx483_1, hx483_2, hx483_3, hx483_4, hx483_5⟩ := at_T38 (Kd.R_reads' HO_6.out).2.2 x9_3 p483 q483
                   obtain rfl : ad479 = ad483 := (by injection e483)
                   replace p483 := eq_true p483
                   replace q483 := eq_true q483
                   have p484 : 0 ≤ (0 : Int) := (by omega)
                   have q484 : 0 < (t476.length : Int) := of_decide_eq_true (by first | (with_reducible assumption) | assumption)
                   obtain ⟨ad484, e484, hx484_0, hx484_1, hx484_2, hx484_3, hx484_4, hx484_5⟩ := at_T38 (Kd.R_reads' HO_7.out).2.2 0 p484 q484
                   obtain rfl : ad481 = ad484 := (by injection e484)
                   have qi484 : (0 < t476.length) = True := eq_true (by omega)
                   (try rw [show ((0 : Int)).toNat = 0 from rfl] at hx484_0)
                   (try rw [show 0 * 6 = 0 from rfl] at hx484_0)
                   (try rw [Addr.add_zero'] at hx484_0)
                   (try rw [show ((0 : Int)).toNat = 0 from rfl] at hx484_1)
                   (try rw [show 0 * 6 = 0 from rfl] at hx484_1)
                   (try rw [Addr.add_zero'] at hx484_1)
                   (try rw [show ((0 : Int)).toNat = 0 from rfl] at hx484_2)
                   (try rw [show 0 * 6 = 0 from rfl] at hx484_2)
                   (try rw [Addr.add_zero'] at hx484_2)
                   (try rw [show ((0 : Int)).toNat = 0 from rfl] at hx484_3)
                   (try rw [show 0 * 6 = 0 from rfl] at hx484_3)
                   (try rw [Addr.add_zero'] at hx484_3)
                   (try rw [show ((0 : Int)).toNat = 0 from rfl] at hx484_4)
                   (try rw [show 0 * 6 = 0 from rfl] at hx484_4)
                   (try rw [Addr.add_zero'] at hx484_4)
                   (try rw [show ((0 : Int)).toNat = 0 from rfl] at hx484_5)
                   (try rw [show 0 * 6 = 0 from rfl] at hx484_5)
                   (try rw [Addr.add_zero'] at hx484_5)
                   replace p484 := eq_true p484
                   replace q484 := eq_true q484
                   refine start_ (n := 17) (S := fun w' => w'.cell? (ad479.add ((x9_3).toNat * 6)) = some (.int .i64 ((rd_T38 t473 x9_3).f0)) ∧ w'.cell? ⟨(ad479.add ((x9_3).toNat * 6)).block, (ad479.add ((x9_3).toNat * 6)).off + 1, none⟩ = some (.int .i64 ((rd_T38 t473 x9_3).f1)) ∧ w'.cell? ⟨(ad479.add ((x9_3).toNat * 6)).block, (ad479.add ((x9_3).toNat * 6)).off + 2, none⟩ = some (.int .i64 ((rd_T38 t473 x9_3).f2)) ∧ w'.cell? ⟨(ad479.add ((x9_3).toNat * 6)).block, (ad479.add ((x9_3).toNat * 6)).off + 3, none⟩ = some (.int .i64 ((rd_T38 t473 x9_3).f3)) ∧ w'.cell? ⟨(ad479.add ((x9_3).toNat * 6)).block, (ad479.add ((x9_3).toNat * 6)).off + 4, none⟩ = some (.int .i64 ((rd_T38 t473 x9_3).f4)) ∧ w'.cell? ⟨(ad479.add ((x9_3).toNat * 6)).block, (ad479.add ((x9_3).toNat * 6)).off + 5, none⟩ = some (.string ((rd_T38 t473 x9_3).f5)) ∧ w'.cell? ad481 = some (.int .i64 ((rd_T38 t476 0).f0)) ∧ w'.cell? ⟨ad481.block, ad481.off + 1, none⟩ = some (.int .i64 ((rd_T38 t476 0).f1)) ∧ w'.cell? ⟨ad481.block, ad481.off + 2, none⟩ = some (.int .i64 ((rd_T38 t476 0).f2)) ∧ w'.cell? ⟨ad481.block, ad481.off + 3, none⟩ = some (.int .i64 ((rd_T38 t476 0).f3)) ∧ w'.cell? ⟨ad481.block, ad481.off + 4, none⟩ = some (.int .i64 ((rd_T38 t476 0).f4)) ∧ w'.cell? ⟨ad481.block, ad481.off + 5, none⟩ = some (.string ((rd_T38 t476 0).f5))) (ds := []) #[F,F,F,F,F,F,F,F,F,F,F,F,F,F,F,F,F] (by kernel_rfl) rfl rfl ⟨hx483_0, hx483_1, hx483_2, hx483_3, hx483_4, hx483_5, hx484_0, hx484_1, hx484_2, hx484_3, hx484_4, hx484_5⟩ (fun hHeld => ?_); refine with_tabW hopperlaw12_GreedyHeads.tab17 hopperlaw12_GreedyHeads.bits17 (fun HT_ HW_ => ?_)
                   generalize w40.drew = w41 at HO_6 HO_7 HB hx483_0 hx483_1 hx483_2 hx483_3 hx483_4 hx483_5 hx484_0 hx484_1 hx484_2 hx484_3 hx484_4 hx484_5 hHeld ⊢
                   refine pq_ 0 66 HT_ ?_
                   refine pq_ 1 67 HT_ ?_
                   refine pq_ 2 68 HT_ ?_
                   refine pq_ 3 69 HT_ ?_
                   refine pq_ 4 70 HT_ ?_
                   refine pq_ 5 71 HT_ ?_
                   refine pq_ 6 72 HT_ ?_
                   refine pq_ 7 73 HT_ ?_
                   refine pq_ 8 74 HT_ ?_
                   refine pq_ 10 76 HT_ ?_
                   refine pq_ 11 77 HT_ ?_
                   refine tk_ 9 75 HT_ HW_ hHeld ?_
                   refine tk_ 12 78 HT_ HW_ hHeld ?_
                   refine pq_ 13 79 HT_ ?_
                   refine pq_ 14 80 HT_ ?_
                   refine pq_ 15 81 HT_ ?_
                   refine pq_ 16 8 HT_ ?_
                   refine done_ (done_of HT_.out (by kernel_rfl)) ?_
                   try go_wp2
                   go_roundg k3
                   case measure => have := HJ2.out; have := HK2.out; have := HK3.out; omega
                   case rel => exact ⟨((((rd_T38 t473 x9_3).f0) == ((rd_T38 t476 0).f0) && (((rd_T38 t473 x9_3).f1) == ((rd_T38 t476 0).f1) && (((rd_T38 t473 x9_3).f2) == ((rd_T38 t476 0).f2) && (((rd_T38 t473 x9_3).f3) == ((rd_T38 t476 0).f3) && (((rd_T38 t473 x9_3).f4) == ((rd_T38 t476 0).f4) && ((((rd_T38 t473 x9_3).f5).toList) == (((rd_T38 t476 0).f5).toList)))))))), (wrap64 (x9_3 + 1)), (by first | rfl | (simp; done) | (simp [*]; done)), (by first | rfl | (simp; done) | (simp [*]; done)), H', ⟨by have := HJ2.out; have := HK2.out; have := HK3.out; omega⟩, ⟨by (with_reducible repeat (first | apply ra_ | apply rn_ | apply rd_)); exact HO_6.out⟩, ⟨by (with_reducible repeat (first | apply ra_ | apply rn_ | apply rd_)); exact HO_7.out⟩, ⟨by repeat (first | (with_reducible first | exact HB.out | apply wa_ | apply wn_ | apply wd_) | exact HB.out)⟩⟩
                 · rw [if_neg c36] at H
                   exact absurd (of_decide_eq_true c27b0) c36
             · rw [if_neg c25] at H
               have c25b0 : decide (((rd_T38 t473 x9_3).f4) ≤ a1) = false := decide_eq_false c25
               clear c25
               by_cases c47 : x8_3 = true
               · subst c47
                 have H1 : (hopperlaw12_GreedyHeads.l1 k3 l0 a1 t473 t476 true (wrap64 (x9_3 + 1))) = some r := by rw [if_pos rfl] at H; exact H
                 clear H
                 have H := H1
                 clear H1
                 have H' := A_ H
                 clear H
                 obtain ⟨Ao48, co48, eo48⟩ := Kd.R_slice HO_6.out
                 subst eo48
                 have p479 : 0 ≤ (x9_3 : Int) := of_decide_eq_true (by first | (with_reducible assumption) | assumption)
                 have q479 : x9_3 < (t473.length : Int) := of_decide_eq_true (by first | (with_reducible assumption) | assumption)
                 obtain ⟨ad479, e479, hx479_0, hx479_1, hx479_2, hx479_3, hx479_4, hx479_5⟩ := at_T38 (Kd.R_reads' HO_6.out).2.2 x9_3 p479 q479
                 cases e479
                 replace p479 := eq_true p479
                 replace q479 := eq_true q479
                 try go_wp2
                 have n0_ := A_ (rd_ HO_6.out); have n1_ := A_ (rd_ HO_7.out); have n2_ := A_ (wd_ HB.out); replace HO_6 := n0_; replace HO_7 := n1_; replace HB := n2_; clear n0_ n1_ n2_
                 refine start_ (n := 16) (S := fun w' => True) (ds := []) #[F,F,F,F,F,F,F,F,F,F,F,F,F,F,F,F] (by kernel_rfl) rfl rfl trivial (fun hHeld => ?_); refine with_tabW hopperlaw12_GreedyHeads.tab15 hopperlaw12_GreedyHeads.bits15 (fun HT_ HW_ => ?_)
                 generalize wr.drew = w49 at HO_6 HO_7 HB hHeld ⊢
                 refine pq_ 0 50 HT_ ?_
                 refine pq_ 1 51 HT_ ?_
                 refine pu_ 2 52 HT_ ?_
                 refine pu_ 3 53 HT_ ?_
                 refine pu_ 4 54 HT_ ?_
                 refine pu_ 5 55 HT_ ?_
                 refine pu_ 6 56 HT_ ?_
                 refine pu_ 7 57 HT_ ?_
                 refine pu_ 8 58 HT_ ?_
                 refine pu_ 9 59 HT_ ?_
                 refine pu_ 10 60 HT_ ?_
                 refine pu_ 11 61 HT_ ?_
                 refine pu_ 12 62 HT_ ?_
                 refine pu_ 13 63 HT_ ?_
                 refine pu_ 14 64 HT_ ?_
                 refine pq_ 15 65 HT_ ?_
                 refine done_ (done_of HT_.out (by kernel_rfl)) ?_
                 try go_wp2
                 have n0_ := A_ (rd_ HO_6.out); have n1_ := A_ (rd_ HO_7.out); have n2_ := A_ (wd_ HB.out); replace HO_6 := n0_; replace HO_7 := n1_; replace HB := n2_; clear n0_ n1_ n2_
                 refine start_ (n := 17) (S := fun w' => True) (ds := []) #[F,F,F,F,F,F,F,F,F,F,F,F,F,F,F,F,F] (by kernel_rfl) rfl rfl trivial (fun hHeld => ?_); refine with_tabW hopperlaw12_GreedyHeads.tab17 hopperlaw12_GreedyHeads.bits17 (fun HT_ HW_ => ?_)
                 generalize w49.drew = w50 at HO_6 HO_7 HB hHeld ⊢
                 refine pq_ 0 66 HT_ ?_
                 refine pq_ 1 67 HT_ ?_
                 refine pu_ 2 68 HT_ ?_
                 refine pu_ 3 69 HT_ ?_
                 refine pu_ 4 70 HT_ ?_
                 refine pu_ 5 71 HT_ ?_
                 refine pu_ 6 72 HT_ ?_
                 refine pu_ 7 73 HT_ ?_
                 refine pu_ 8 74 HT_ ?_
                 refine pu_ 9 75 HT_ ?_
                 refine pu_ 10 76 HT_ ?_
                 refine pu_ 11 77 HT_ ?_
                 refine pu_ 12 78 HT_ ?_
                 refine pu_ 13 79 HT_ ?_
                 refine pu_ 14 80 HT_ ?_
                 refine pq_ 15 81 HT_ ?_
                 refine pq_ 16 8 HT_ ?_
                 refine done_ (done_of HT_.out (by kernel_rfl)) ?_
                 try go_wp2
                 go_roundg k3
                 case measure => have := HJ2.out; have := HK2.out; have := HK3.out; omega
                 case rel => exact ⟨(true), (wrap64 (x9_3 + 1)), (by first | rfl | (simp; done) | (simp [*]; done)), (by first | rfl | (simp; done) | (simp [*]; done)), H', ⟨by have := HJ2.out; have := HK2.out; have := HK3.out; omega⟩, ⟨by (with_reducible repeat (first | apply ra_ | apply rn_ | apply rd_)); exact HO_6.out⟩, ⟨by (with_reducible repeat (first | apply ra_ | apply rn_ | apply rd_)); exact HO_7.out⟩, ⟨by repeat (first | (with_reducible first | exact HB.out | apply wa_ | apply wn_ | apply wd_) | exact HB.out)⟩⟩
               · replace c47 := Bool.eq_false_iff.mpr c47
                 subst c47
                 have H1 : (if (t476.length : Int) > 0 then (if 0 < (t476.length : Int) then (hopperlaw12_GreedyHeads.l1 k3 l0 a1 t473 t476 (((rd_T38 t473 x9_3).f0) == ((rd_T38 t476 0).f0) && (((rd_T38 t473 x9_3).f1) == ((rd_T38 t476 0).f1) && (((rd_T38 t473 x9_3).f2) == ((rd_T38 t476 0).f2) && (((rd_T38 t473 x9_3).f3) == ((rd_T38 t476 0).f3) && (((rd_T38 t473 x9_3).f4) == ((rd_T38 t476 0).f4) && ((((rd_T38 t473 x9_3).f5).toList) == (((rd_T38 t476 0).f5).toList))))))) (wrap64 (x9_3 + 1))) else (none)) else (hopperlaw12_GreedyHeads.l1 k3 l0 a1 t473 t476 false (wrap64 (x9_3 + 1)))) = some r := by rw [if_neg (show ¬ (false = true) by decide)] at H; exact H
                 clear H
                 have H := H1
                 clear H1
                 by_cases c51 : (t476.length : Int) > 0
                 · rw [if_pos c51] at H
                   have c51b0 : decide (0 < (t476.length : Int)) = true := decide_eq_true c51
                   have c51b1 : decide (0 < t476.length) = true := decide_eq_true (by omega)
                   clear c51
                   by_cases c52 : 0 < (t476.length : Int)
                   rotate_left
                   · rw [if_neg c52] at H
                     exact absurd H (by simp)
                   rw [if_pos c52] at H
                   have c52b0 : decide (0 < (t476.length : Int)) = true := decide_eq_true c52
                   have c52b1 : decide (0 < t476.length) = true := decide_eq_true (by omega)
                   clear c52
                   have H' := A_ H
                   clear H
                   obtain ⟨Ao53, co53, eo53⟩ := Kd.R_slice HO_6.out
                   subst eo53
                   have p479 : 0 ≤ (x9_3 : Int) := of_decide_eq_true (by first | (with_reducible assumption) | assumption)
                   have q479 : x9_3 < (t473.length : Int) := of_decide_eq_true (by first | (with_reducible assumption) | assumption)
                   obtain ⟨ad479, e479, hx479_0, hx479_1, hx479_2, hx479_3, hx479_4, hx479_5⟩ := at_T38 (Kd.R_reads' HO_6.out).2.2 x9_3 p479 q479
                   cases e479
                   replace p479 := eq_true p479
                   replace q479 := eq_true q479
                   try go_wp2
                   have n0_ := A_ (rd_ HO_6.out); have n1_ := A_ (rd_ HO_7.out); have n2_ := A_ (wd_ HB.out); replace HO_6 := n0_; replace HO_7 := n1_; replace HB := n2_; clear n0_ n1_ n2_
                   refine start_ (n := 16) (S := fun w' => True) (ds := []) #[F,F,F,F,F,F,F,F,F,F,F,F,F,F,F,F] (by kernel_rfl) rfl rfl trivial (fun hHeld => ?_); refine with_tabW hopperlaw12_GreedyHeads.tab15 hopperlaw12_GreedyHeads.bits15 (fun HT_ HW_ => ?_)
                   generalize wr.drew = w54 at HO_6 HO_7 HB hHeld ⊢
                   refine pq_ 0 50 HT_ ?_
                   refine pq_ 1 51 HT_ ?_
                   refine pu_ 2 52 HT_ ?_
                   refine pu_ 3 53 HT_ ?_
                   refine pu_ 4 54 HT_ ?_
                   refine pu_ 5 55 HT_ ?_
                   refine pu_ 6 56 HT_ ?_
                   refine pu_ 7 57 HT_ ?_
                   refine pu_ 8 58 HT_ ?_
                   refine pu_ 9 59 HT_ ?_
                   refine pu_ 10 60 HT_ ?_
                   refine pu_ 11 61 HT_ ?_
                   refine pu_ 12 62 HT_ ?_
                   refine pu_ 13 63 HT_ ?_
                   refine pu_ 14 64 HT_ ?_
                   refine pq_ 15 65 HT_ ?_
                   refine done_ (done_of HT_.out (by kernel_rfl)) ?_
                   try go_wp2
                   have n0_ := A_ (rd_ HO_6.out); have n1_ := A_ (rd_ HO_7.out); have n2_ := A_ (wd_ HB.out); replace HO_6 := n0_; replace HO_7 := n1_; replace HB := n2_; clear n0_ n1_ n2_
                   obtain ⟨Ao56, co56, eo56⟩ := Kd.R_slice HO_7.out
                   (first | subst eo56 | (injection eo56 with f1_ f2_ f3_; have f4_ := f1_.symm; have f5_ := f3_.symm; clear f1_ f2_ f3_; subst f4_; subst f5_))
                   have p485 : 0 ≤ (x9_3 : Int) := of_decide_eq_true (by first | (with_reducible assumption) | assumption)
                   have q485 : x9_3 < (t473.length : Int) := of_decide_eq_true (by first | (with_reducible assumption) | assumption)
                   obtain ⟨ad485, e485, hx485_0, hx485_1, hx485_2, hx485_3, hx485_4, hx485_5⟩ := at_T38 (Kd.R_reads' HO_6.out).2.2 x9_3 p485 q485
                   obtain rfl : ad479 = ad485 := (by injection e485)
                   replace p485 := eq_true p485
                   replace q485 := eq_true q485
                   have p486 : 0 ≤ (0 : Int) := (by omega)
                   have q486 : 0 < (t476.length : Int) := of_decide_eq_true (by first | (with_reducible assumption) | assumption)
                   obtain ⟨ad486, e486, hx486_0, hx486_1, hx486_2, hx486_3, hx486_4, hx486_5⟩ := at_T38 (Kd.R_reads' HO_7.out).2.2 0 p486 q486
                   cases e486
                   have qi486 : (0 < t476.length) = True := eq_true (by omega)
                   (try rw [show ((0 : Int)).toNat = 0 from rfl] at hx486_0)
                   (try rw [show 0 * 6 = 0 from rfl] at hx486_0)
                   (try rw [Addr.add_zero'] at hx486_0)
                   (try rw [show ((0 : Int)).toNat = 0 from rfl] at hx486_1)
                   (try rw [show 0 * 6 = 0 from rfl] at hx486_1)
                   (try rw [Addr.add_zero'] at hx486_1)
                   (try rw [show ((0 : Int)).toNat = 0 from rfl] at hx486_2)
                   (try rw [show 0 * 6 = 0 from rfl] at hx486_2)
                   (try rw [Addr.add_zero'] at hx486_2)
                   (try rw [show ((0 : Int)).toNat = 0 from rfl] at hx486_3)
                   (try rw [show 0 * 6 = 0 from rfl] at hx486_3)
                   (try rw [Addr.add_zero'] at hx486_3)
                   (try rw [show ((0 : Int)).toNat = 0 from rfl] at hx486_4)
                   (try rw [show 0 * 6 = 0 from rfl] at hx486_4)
                   (try rw [Addr.add_zero'] at hx486_4)
                   (try rw [show ((0 : Int)).toNat = 0 from rfl] at hx486_5)
                   (try rw [show 0 * 6 = 0 from rfl] at hx486_5)
                   (try rw [Addr.add_zero'] at hx486_5)
                   replace p486 := eq_true p486
                   replace q486 := eq_true q486
                   refine start_ (n := 17) (S := fun w' => w'.cell? (ad479.add ((x9_3).toNat * 6)) = some (.int .i64 ((rd_T38 t473 x9_3).f0)) ∧ w'.cell? ⟨(ad479.add ((x9_3).toNat * 6)).block, (ad479.add ((x9_3).toNat * 6)).off + 1, none⟩ = some (.int .i64 ((rd_T38 t473 x9_3).f1)) ∧ w'.cell? ⟨(ad479.add ((x9_3).toNat * 6)).block, (ad479.add ((x9_3).toNat * 6)).off + 2, none⟩ = some (.int .i64 ((rd_T38 t473 x9_3).f2)) ∧ w'.cell? ⟨(ad479.add ((x9_3).toNat * 6)).block, (ad479.add ((x9_3).toNat * 6)).off + 3, none⟩ = some (.int .i64 ((rd_T38 t473 x9_3).f3)) ∧ w'.cell? ⟨(ad479.add ((x9_3).toNat * 6)).block, (ad479.add ((x9_3).toNat * 6)).off + 4, none⟩ = some (.int .i64 ((rd_T38 t473 x9_3).f4)) ∧ w'.cell? ⟨(ad479.add ((x9_3).toNat * 6)).block, (ad479.add ((x9_3).toNat * 6)).off + 5, none⟩ = some (.string ((rd_T38 t473 x9_3).f5)) ∧ w'.cell? ad486 = some (.int .i64 ((rd_T38 t476 0).f0)) ∧ w'.cell? ⟨ad486.block, ad486.off + 1, none⟩ = some (.int .i64 ((rd_T38 t476 0).f1)) ∧ w'.cell? ⟨ad486.block, ad486.off + 2, none⟩ = some (.int .i64 ((rd_T38 t476 0).f2)) ∧ w'.cell? ⟨ad486.block, ad486.off + 3, none⟩ = some (.int .i64 ((rd_T38 t476 0).f3)) ∧ w'.cell? ⟨ad486.block, ad486.off + 4, none⟩ = some (.int .i64 ((rd_T38 t476 0).f4)) ∧ w'.cell? ⟨ad486.block, ad486.off + 5, none⟩ = some (.string ((rd_T38 t476 0).f5))) (ds := []) #[F,F,F,F,F,F,F,F,F,F,F,F,F,F,F,F,F] (by kernel_rfl) rfl rfl ⟨hx485_0, hx485_1, hx485_2, hx485_3, hx485_4, hx485_5, hx486_0, hx486_1, hx486_2, hx486_3, hx486_4, hx486_5⟩ (fun hHeld => ?_); refine with_tabW hopperlaw12_GreedyHeads.tab17 hopperlaw12_GreedyHeads.bits17 (fun HT_ HW_ => ?_)
                   generalize w54.drew = w55 at HO_6 HO_7 HB hx485_0 hx485_1 hx485_2 hx485_3 hx485_4 hx485_5 hx486_0 hx486_1 hx486_2 hx486_3 hx486_4 hx486_5 hHeld ⊢
                   refine pq_ 0 66 HT_ ?_
                   refine pq_ 1 67 HT_ ?_
                   refine pq_ 2 68 HT_ ?_
                   refine pq_ 3 69 HT_ ?_
                   refine pq_ 4 70 HT_ ?_
                   refine pq_ 5 71 HT_ ?_
                   refine pq_ 6 72 HT_ ?_
                   refine pq_ 7 73 HT_ ?_
                   refine pq_ 8 74 HT_ ?_
                   refine pq_ 10 76 HT_ ?_
                   refine pq_ 11 77 HT_ ?_
                   refine tk_ 9 75 HT_ HW_ hHeld ?_
                   refine tk_ 12 78 HT_ HW_ hHeld ?_
                   refine pq_ 13 79 HT_ ?_
                   refine pq_ 14 80 HT_ ?_
                   refine pq_ 15 81 HT_ ?_
                   refine pq_ 16 8 HT_ ?_
                   refine done_ (done_of HT_.out (by kernel_rfl)) ?_
                   try go_wp2
                   go_roundg k3
                   case measure => have := HJ2.out; have := HK2.out; have := HK3.out; omega
                   case rel => exact ⟨((((rd_T38 t473 x9_3).f0) == ((rd_T38 t476 0).f0) && (((rd_T38 t473 x9_3).f1) == ((rd_T38 t476 0).f1) && (((rd_T38 t473 x9_3).f2) == ((rd_T38 t476 0).f2) && (((rd_T38 t473 x9_3).f3) == ((rd_T38 t476 0).f3) && (((rd_T38 t473 x9_3).f4) == ((rd_T38 t476 0).f4) && ((((rd_T38 t473 x9_3).f5).toList) == (((rd_T38 t476 0).f5).toList)))))))), (wrap64 (x9_3 + 1)), (by first | rfl | (simp; done) | (simp [*]; done)), (by first | rfl | (simp; done) | (simp [*]; done)), H', ⟨by have := HJ2.out; have := HK2.out; have := HK3.out; omega⟩, ⟨by (with_reducible repeat (first | apply ra_ | apply rn_ | apply rd_)); exact HO_6.out⟩, ⟨by (with_reducible repeat (first | apply ra_ | apply rn_ | apply rd_)); exact HO_7.out⟩, ⟨by repeat (first | (with_reducible first | exact HB.out | apply wa_ | apply wn_ | apply wd_) | exact HB.out)⟩⟩
                 · rw [if_neg c51] at H
                   have c51b0 : decide (0 < (t476.length : Int)) = false := decide_eq_false c51
                   have c51b1 : decide (0 < t476.length) = false := decide_eq_false (by omega)
                   clear c51
                   have H' := A_ H
                   clear H
                   obtain ⟨Ao57, co57, eo57⟩ := Kd.R_slice HO_6.out
                   subst eo57
                   have p479 : 0 ≤ (x9_3 : Int) := of_decide_eq_true (by first | (with_reducible assumption) | assumption)
                   have q479 : x9_3 < (t473.length : Int) := of_decide_eq_true (by first | (with_reducible assumption) | assumption)
                   obtain ⟨ad479, e479, hx479_0, hx479_1, hx479_2, hx479_3, hx479_4, hx479_5⟩ := at_T38 (Kd.R_reads' HO_6.out).2.2 x9_3 p479 q479
                   cases e479
                   replace p479 := eq_true p479
                   replace q479 := eq_true q479
                   try go_wp2
                   have n0_ := A_ (rd_ HO_6.out); have n1_ := A_ (rd_ HO_7.out); have n2_ := A_ (wd_ HB.out); replace HO_6 := n0_; replace HO_7 := n1_; replace HB := n2_; clear n0_ n1_ n2_
                   refine start_ (n := 16) (S := fun w' => True) (ds := []) #[F,F,F,F,F,F,F,F,F,F,F,F,F,F,F,F] (by kernel_rfl) rfl rfl trivial (fun hHeld => ?_); refine with_tabW hopperlaw12_GreedyHeads.tab15 hopperlaw12_GreedyHeads.bits15 (fun HT_ HW_ => ?_)
                   generalize wr.drew = w58 at HO_6 HO_7 HB hHeld ⊢
                   refine pq_ 0 50 HT_ ?_
                   refine pq_ 1 51 HT_ ?_
                   refine pu_ 2 52 HT_ ?_
                   refine pu_ 3 53 HT_ ?_
                   refine pu_ 4 54 HT_ ?_
                   refine pu_ 5 55 HT_ ?_
                   refine pu_ 6 56 HT_ ?_
                   refine pu_ 7 57 HT_ ?_
                   refine pu_ 8 58 HT_ ?_
                   refine pu_ 9 59 HT_ ?_
                   refine pu_ 10 60 HT_ ?_
                   refine pu_ 11 61 HT_ ?_
                   refine pu_ 12 62 HT_ ?_
                   refine pu_ 13 63 HT_ ?_
                   refine pu_ 14 64 HT_ ?_
                   refine pq_ 15 65 HT_ ?_
                   refine done_ (done_of HT_.out (by kernel_rfl)) ?_
                   try go_wp2
                   have n0_ := A_ (rd_ HO_6.out); have n1_ := A_ (rd_ HO_7.out); have n2_ := A_ (wd_ HB.out); replace HO_6 := n0_; replace HO_7 := n1_; replace HB := n2_; clear n0_ n1_ n2_
                   obtain ⟨Ao60, co60, eo60⟩ := Kd.R_slice HO_7.out
                   (first | subst eo60 | (injection eo60 with f1_ f2_ f3_; have f4_ := f1_.symm; have f5_ := f3_.symm; clear f1_ f2_ f3_; subst f4_; subst f5_))
                   refine start_ (n := 17) (S := fun w' => True) (ds := []) #[F,F,F,F,F,F,F,F,F,F,F,F,F,F,F,F,F] (by kernel_rfl) rfl rfl trivial (fun hHeld => ?_); refine with_tabW hopperlaw12_GreedyHeads.tab17 hopperlaw12_GreedyHeads.bits17 (fun HT_ HW_ => ?_)
                   generalize w58.drew = w59 at HO_6 HO_7 HB hHeld ⊢
                   refine pq_ 0 66 HT_ ?_
                   refine pq_ 1 67 HT_ ?_
                   refine pq_ 2 68 HT_ ?_
                   refine pq_ 3 69 HT_ ?_
                   refine pq_ 4 70 HT_ ?_
                   refine pq_ 5 71 HT_ ?_
                   refine pu_ 6 72 HT_ ?_
                   refine pu_ 7 73 HT_ ?_
                   refine pu_ 8 74 HT_ ?_
                   refine pu_ 9 75 HT_ ?_
                   refine pu_ 10 76 HT_ ?_
                   refine pu_ 11 77 HT_ ?_
                   refine pu_ 12 78 HT_ ?_
                   refine pu_ 13 79 HT_ ?_
                   refine pq_ 14 80 HT_ ?_
                   refine pq_ 15 81 HT_ ?_
                   refine pq_ 16 8 HT_ ?_
                   refine done_ (done_of HT_.out (by kernel_rfl)) ?_
                   try go_wp2
                   go_roundg k3
                   case measure => have := HJ2.out; have := HK2.out; have := HK3.out; omega
                   case rel => exact ⟨(false), (wrap64 (x9_3 + 1)), (by first | rfl | (simp; done) | (simp [*]; done)), (by first | rfl | (simp; done) | (simp [*]; done)), H', ⟨by have := HJ2.out; have := HK2.out; have := HK3.out; omega⟩, ⟨by (with_reducible repeat (first | apply ra_ | apply rn_ | apply rd_)); exact HO_6.out⟩, ⟨by (with_reducible repeat (first | apply ra_ | apply rn_ | apply rd_)); exact HO_7.out⟩, ⟨by repeat (first | (with_reducible first | exact HB.out | apply wa_ | apply wn_ | apply wd_) | exact HB.out)⟩⟩
           · rw [if_neg c23] at H
             have c23b0 : decide (x9_3 < (t473.length : Int)) = false := decide_eq_false c23
             clear c23
             by_cases c61 : (x8_3 == (decide ((t476.length : Int) > 0))) = true
             rotate_left
             · rw [if_neg c61] at H
               exact absurd H (by simp)

             rw [if_pos c61] at H
             have c61b0 : (x8_3 == (decide ((t476.length : Int) > 0))) = true := c61
             (try (have c61b1 : decide (x8_3 = (decide ((t476.length : Int) > 0))) = true := by simpa using c61))
             (try (have c61b2 : (x8_3 == (decide ((t476.length : Int) > 0))) = true := by simpa using c61))
             have c61b9 : (x8_3 = decide (0 < t476.length)) = True := eq_true (by rw [eq_of_beq c61]; exact decide_eq_decide.2 (by omega))
             clear c61
             by_cases c62 : (t473.length : Int) ≤ (l0.length : Int)
             rotate_left
             · rw [if_neg c62] at H
               exact absurd H (by simp)
             rw [if_pos c62] at H
             have c62b0 : decide ((t473.length : Int) ≤ (l0.length : Int)) = true := decide_eq_true c62
             have c62b1 : decide (t473.length ≤ l0.length) = true := decide_eq_true (Int.ofNat_le.mp c62)
             clear c62
             replace H := Option.bind_eq_some_iff.mp H
             obtain ⟨t487, A630, H⟩ := H
             replace H : (some t487) = some r := H
             have A63 := A_ A630
             clear A630
             obtain rfl := Option.some.inj H
             obtain ⟨Ao64, co64, eo64⟩ := Kd.R_slice HO_6.out
             subst eo64
             obtain ⟨Ao65, co65, eo65⟩ := Kd.R_slice HO_7.out
             subst eo65
             go_wp2_with (first | (go_at_call 10; (with_reducible refine (hopperlaw12_live.calls k3  t487 _ A63.out).mono ?_); rintro e w66 ⟨rfl, hb⟩; replace HO_6 := A_ (Kd.R_below (pr_ HO_6.out) hb); replace HO_7 := A_ (Kd.R_below (pr_ HO_7.out) hb); replace HB := A_ (below_step bw_ hb); (try clear hb); (try clear hb2); (try clear hk); (try clear hi)))
             go_ret
             exact ⟨by first | rfl | (simp [errW_none, errW_some] <;> rfl) | (simp [*, errW_none, errW_some] <;> rfl), by repeat (first | (with_reducible first | exact HB.out | apply wa_ | apply wn_ | apply wd_) | exact HB.out)⟩
open Go.Proofs.Ytahopljippfadaa.Row (okI okB okS okL) in
/-- THE ONE PURE STATEMENT of hopperlaw12_GreedyHeads. -/
def hopperlaw12_GreedyHeads.Pure : Prop := ∀ (l0 : List (S35)) (a1 : Int), (okL ok35) l0 → (okI .i64) a1 → ∃ k, hopperlaw12_GreedyHeads.f k l0 a1 = some true

end Go.Proofs.Ytahopljippfadaa.D
