/- Written by this session's own program over the kit's print: functions of Go told as plain functions, or the row of one statement; proved for every input, with no condition of ours. -/
import Derived.Test.YtahopljippfadaaDx0
import Derived.Test.YtahopljippfadaaDx2
import Derived.Test.YtahopljippfadaaDx8
import Derived.Test.YtahopljippfadaaDx9
import Derived.Test.YtahopljippfadaaDx10
import Derived.Test.YtahopljippfadaaDx12
import Derived.Test.YtahopljippfadaaDx18
namespace Go.Proofs.Ytahopljippfadaa.D
open Go.RowKit Go.Proofs.YtahopljippfadaaW.PrintWords Go.Proofs.YtahopljippfadaaW.PrintLast Go.Proofs.YtahopljippfadaaW.PrintMore
attribute [local go_sem] max2_int min2_int max_two min_two max_three min_three max_four min_four   -- for this text's walks alone
set_option linter.unusedVariables false
set_option linter.unusedSimpArgs false

/-! ### hopperlaw12_GreedyTakes: function 4 -/
mutual
def hopperlaw12_GreedyTakes.j0 : Nat → List (S35) → Int → Bool → Option (Bool)
 | 0, _, _, _ => none
 | k + 1, x0, x1, x20 => if x20 = true then ((hopperlaw12_live.f k).bind fun t408 => (some t408)) else (hopperlaw12_GreedyTakes.l0 k x0 x1 0)
def hopperlaw12_GreedyTakes.l0 : Nat → List (S35) → Int → Int → Option (Bool)
 | 0, _, _, _ => none
 | k + 1, x0, x1, x5 => if x5 < (x0.length : Int) then (hopperlaw12_GreedyTakes.l1 k x0 x1 x5 0) else ((greedy_Template.f x0 x1).bind fun t415 => (hopperlaw12_GreedyTakes.l2 k x0 t415 x1 0))
def hopperlaw12_GreedyTakes.l1 : Nat → List (S35) → Int → Int → Int → Option (Bool)
 | 0, _, _, _, _ => none
 | k + 1, x0, x1, x5, x6 => if x6 < x5 then (if 0 ≤ x6 then (if x6 < (x0.length : Int) then (if 0 ≤ x5 then (if x5 < (x0.length : Int) then (if ((rd_T35 x0 x6).f0) = ((rd_T35 x0 x5).f0) then ((hopperlaw12_live.f k).bind fun t411 => (some t411)) else (hopperlaw12_GreedyTakes.l1 k x0 x1 x5 (wrap64 (x6 + 1)))) else (none)) else (none)) else (none)) else (none)) else (if 0 ≤ x5 then (if x5 < (x0.length : Int) then ((hopperref05_Check.f k ((rd_T35 x0 x5).f0) ((rd_T35 x0 x5).f1) ((rd_T35 x0 x5).f2) 16).bind fun t413 => (if t413 = true then (hopperlaw12_GreedyTakes.l0 k x0 x1 (wrap64 (x5 + 1))) else ((hopperlaw12_live.f k).bind fun t414 => (some t414)))) else (none)) else (none))
def hopperlaw12_GreedyTakes.l2 : Nat → List (S35) → List (S38) → Int → Int → Option (Bool)
 | 0, _, _, _, _ => none
 | k + 1, x0, x7, x8, x9 => if x9 < (x7.length : Int) then (if 0 ≤ x9 then (if ((rd_T38 x7 x9).f4) < 1 then (none) else (if ((rd_T38 x7 x9).f4) > x8 then (none) else (hopperlaw12_GreedyTakes.l2 k x0 x7 (wrap64 (x8 - ((rd_T38 x7 x9).f4))) (wrap64 (x9 + 1))))) else (none)) else ((greedy_Follows.f x0 x7).bind fun t421 => (if t421 = true then (hopperlaw12_GreedyTakes.l3 k x0 x7 x8 0) else (none)))
def hopperlaw12_GreedyTakes.l3 : Nat → List (S35) → List (S38) → Int → Int → Option (Bool)
 | 0, _, _, _, _ => none
 | k + 1, x0, x7, x8, x10 => if x10 < (x0.length : Int) then (hopperlaw12_GreedyTakes.l4 k x0 x7 x8 x10 0 0) else ((hopperlaw12_live.f k).bind fun t422 => (some t422))
def hopperlaw12_GreedyTakes.l4 : Nat → List (S35) → List (S38) → Int → Int → Int → Int → Option (Bool)
 | 0, _, _, _, _, _, _ => none
 | k + 1, x0, x7, x8, x10, x11, x12 => if x12 < (x7.length : Int) then (if 0 ≤ x12 then (if 0 ≤ x10 then (if x10 < (x0.length : Int) then (if ((rd_T38 x7 x12).f0) = ((rd_T35 x0 x10).f0) then (hopperlaw12_GreedyTakes.l4 k x0 x7 x8 x10 (wrap64 (x11 + 1)) (wrap64 (x12 + 1))) else (hopperlaw12_GreedyTakes.l4 k x0 x7 x8 x10 x11 (wrap64 (x12 + 1)))) else (none)) else (none)) else (none)) else (if 0 ≤ x10 then (if x10 < (x0.length : Int) then ((hopperref05_Ready.f k ((rd_T35 x0 x10).f0) ((rd_T35 x0 x10).f1) ((rd_T35 x0 x10).f2)).bind fun t426 => (if x11 > (t426.length : Int) then (none) else (if x11 < (t426.length : Int) then (if 0 ≤ x11 then (if ((rd_T38 t426 x11).f4) ≤ x8 then (none) else (hopperlaw12_GreedyTakes.l3 k x0 x7 x8 (wrap64 (x10 + 1)))) else (none)) else (hopperlaw12_GreedyTakes.l3 k x0 x7 x8 (wrap64 (x10 + 1)))))) else (none)) else (none))
end
def hopperlaw12_GreedyTakes.f (k : Nat) (l0 : List (S35)) (a1 : Int) : Option (Bool) := (hopperref11_Few.f k l0 20).bind fun t407 => (if t407 = true then (hopperlaw12_GreedyTakes.j0 k l0 a1 (decide (a1 < 0))) else (hopperlaw12_GreedyTakes.j0 k l0 a1 true))
theorem hopperlaw12_GreedyTakes.mono_l : ∀ k, (∀ y0 y1 y2, LeO (hopperlaw12_GreedyTakes.j0 k y0 y1 y2) (hopperlaw12_GreedyTakes.j0 (k + 1) y0 y1 y2)) ∧ (∀ y0 y1 y2, LeO (hopperlaw12_GreedyTakes.l0 k y0 y1 y2) (hopperlaw12_GreedyTakes.l0 (k + 1) y0 y1 y2)) ∧ (∀ y0 y1 y2 y3, LeO (hopperlaw12_GreedyTakes.l1 k y0 y1 y2 y3) (hopperlaw12_GreedyTakes.l1 (k + 1) y0 y1 y2 y3)) ∧ (∀ y0 y1 y2 y3, LeO (hopperlaw12_GreedyTakes.l2 k y0 y1 y2 y3) (hopperlaw12_GreedyTakes.l2 (k + 1) y0 y1 y2 y3)) ∧ (∀ y0 y1 y2 y3, LeO (hopperlaw12_GreedyTakes.l3 k y0 y1 y2 y3) (hopperlaw12_GreedyTakes.l3 (k + 1) y0 y1 y2 y3)) ∧ (∀ y0 y1 y2 y3 y4 y5, LeO (hopperlaw12_GreedyTakes.l4 k y0 y1 y2 y3 y4 y5) (hopperlaw12_GreedyTakes.l4 (k + 1) y0 y1 y2 y3 y4 y5))
 | 0 => ⟨fun _ _ _ r h => by simp [hopperlaw12_GreedyTakes.j0] at h, fun _ _ _ r h => by simp [hopperlaw12_GreedyTakes.l0] at h, fun _ _ _ _ r h => by simp [hopperlaw12_GreedyTakes.l1] at h, fun _ _ _ _ r h => by simp [hopperlaw12_GreedyTakes.l2] at h, fun _ _ _ _ r h => by simp [hopperlaw12_GreedyTakes.l3] at h, fun _ _ _ _ _ _ r h => by simp [hopperlaw12_GreedyTakes.l4] at h⟩
 | k + 1 => by
  obtain ⟨ih0, ih1, ih2, ih3, ih4, ih5⟩ := hopperlaw12_GreedyTakes.mono_l k
  refine ⟨?_, ?_, ?_, ?_, ?_, ?_⟩
  · intro y0 y1 y2
    unfold hopperlaw12_GreedyTakes.j0
    repeat' first
    | (with_reducible exact ih0 _ _ _)
    | (with_reducible exact ih1 _ _ _)
    | (with_reducible exact ih2 _ _ _ _)
    | (with_reducible exact ih3 _ _ _ _)
    | (with_reducible exact ih4 _ _ _ _)
    | (with_reducible exact ih5 _ _ _ _ _ _)
    | (with_reducible exact hopperlaw12_live.mono _)
    | (with_reducible exact hopperref05_Check.mono _ _ _ _ _)
    | (with_reducible exact hopperref05_Ready.mono _ _ _ _)
    | (with_reducible exact hopperref11_Few.mono _ _ _)
    | (with_reducible exact LeO.refl _)
    | (with_reducible exact LeO.none _)
    | (with_reducible refine LeO.ite ?_ ?_)
    | (with_reducible refine LeO.bind ?_ (fun _ => ?_))
    | exact ih0 _ _ _
    | exact ih1 _ _ _
    | exact ih2 _ _ _ _
    | exact ih3 _ _ _ _
    | exact ih4 _ _ _ _
    | exact ih5 _ _ _ _ _ _
    | exact hopperlaw12_live.mono _
    | exact hopperref05_Check.mono _ _ _ _ _
    | exact hopperref05_Ready.mono _ _ _ _
    | exact hopperref11_Few.mono _ _ _
    | exact LeO.none _
    | refine LeO.ite ?_ ?_
    | refine LeO.bind ?_ (fun _ => ?_)
  · intro y0 y1 y2
    unfold hopperlaw12_GreedyTakes.l0
    repeat' first
    | (with_reducible exact ih0 _ _ _)
    | (with_reducible exact ih1 _ _ _)
    | (with_reducible exact ih2 _ _ _ _)
    | (with_reducible exact ih3 _ _ _ _)
    | (with_reducible exact ih4 _ _ _ _)
    | (with_reducible exact ih5 _ _ _ _ _ _)
    | (with_reducible exact hopperlaw12_live.mono _)
    | (with_reducible exact hopperref05_Check.mono _ _ _ _ _)
    | (with_reducible exact hopperref05_Ready.mono _ _ _ _)
    | (with_reducible exact hopperref11_Few.mono _ _ _)
    | (with_reducible exact LeO.refl _)
    | (with_reducible exact LeO.none _)
    | (with_reducible refine LeO.ite ?_ ?_)
    | (with_reducible refine LeO.bind ?_ (fun _ => ?_))
    | exact ih0 _ _ _
    | exact ih1 _ _ _
    | exact ih2 _ _ _ _
    | exact ih3 _ _ _ _
    | exact ih4 _ _ _ _
    | exact ih5 _ _ _ _ _ _
    | exact hopperlaw12_live.mono _
    | exact hopperref05_Check.mono _ _ _ _ _
    | exact hopperref05_Ready.mono _ _ _ _
    | exact hopperref11_Few.mono _ _ _
    | exact LeO.none _
    | refine LeO.ite ?_ ?_
    | refine LeO.bind ?_ (fun _ => ?_)
  · intro y0 y1 y2 y3
    unfold hopperlaw12_GreedyTakes.l1
    repeat' first
    | (with_reducible exact ih0 _ _ _)
    | (with_reducible exact ih1 _ _ _)
    | (with_reducible exact ih2 _ _ _ _)
    | (with_reducible exact ih3 _ _ _ _)
    | (with_reducible exact ih4 _ _ _ _)
    | (with_reducible exact ih5 _ _ _ _ _ _)
    | (with_reducible exact hopperlaw12_live.mono _)
    | (with_reducible exact hopperref05_Check.mono _ _ _ _ _)
    | (with_reducible exact hopperref05_Ready.mono _ _ _ _)
    | (with_reducible exact hopperref11_Few.mono _ _ _)
    | (with_reducible exact LeO.refl _)
    | (with_reducible exact LeO.none _)
    | (with_reducible refine LeO.ite ?_ ?_)
    | (with_reducible refine LeO.bind ?_ (fun _ => ?_))
    | exact ih0 _ _ _
    | exact ih1 _ _ _
    | exact ih2 _ _ _ _
    | exact ih3 _ _ _ _
    | exact ih4 _ _ _ _
    | exact ih5 _ _ _ _ _ _
    | exact hopperlaw12_live.mono _
    | exact hopperref05_Check.mono _ _ _ _ _
    | exact hopperref05_Ready.mono _ _ _ _
    | exact hopperref11_Few.mono _ _ _
    | exact LeO.none _
    | refine LeO.ite ?_ ?_
    | refine LeO.bind ?_ (fun _ => ?_)
  · intro y0 y1 y2 y3
    unfold hopperlaw12_GreedyTakes.l2
    repeat' first
    | (with_reducible exact ih0 _ _ _)
    | (with_reducible exact ih1 _ _ _)
    | (with_reducible exact ih2 _ _ _ _)
    | (with_reducible exact ih3 _ _ _ _)
    | (with_reducible exact ih4 _ _ _ _)
    | (with_reducible exact ih5 _ _ _ _ _ _)
    | (with_reducible exact hopperlaw12_live.mono _)
    | (with_reducible exact hopperref05_Check.mono _ _ _ _ _)
    | (with_reducible exact hopperref05_Ready.mono _ _ _ _)
    | (with_reducible exact hopperref11_Few.mono _ _ _)
    | (with_reducible exact LeO.refl _)
    | (with_reducible exact LeO.none _)
    | (with_reducible refine LeO.ite ?_ ?_)
    | (with_reducible refine LeO.bind ?_ (fun _ => ?_))
    | exact ih0 _ _ _
    | exact ih1 _ _ _
    | exact ih2 _ _ _ _
    | exact ih3 _ _ _ _
    | exact ih4 _ _ _ _
    | exact ih5 _ _ _ _ _ _
    | exact hopperlaw12_live.mono _
    | exact hopperref05_Check.mono _ _ _ _ _
    | exact hopperref05_Ready.mono _ _ _ _
    | exact hopperref11_Few.mono _ _ _
    | exact LeO.none _
    | refine LeO.ite ?_ ?_
    | refine LeO.bind ?_ (fun _ => ?_)
  · intro y0 y1 y2 y3
    unfold hopperlaw12_GreedyTakes.l3
    repeat' first
    | (with_reducible exact ih0 _ _ _)
    | (with_reducible exact ih1 _ _ _)
    | (with_reducible exact ih2 _ _ _ _)
    | (with_reducible exact ih3 _ _ _ _)
    | (with_reducible exact ih4 _ _ _ _)
    | (with_reducible exact ih5 _ _ _ _ _ _)
    | (with_reducible exact hopperlaw12_live.mono _)
    | (with_reducible exact hopperref05_Check.mono _ _ _ _ _)
    | (with_reducible exact hopperref05_Ready.mono _ _ _ _)
    | (with_reducible exact hopperref11_Few.mono _ _ _)
    | (with_reducible exact LeO.refl _)
    | (with_reducible exact LeO.none _)
    | (with_reducible refine LeO.ite ?_ ?_)
    | (with_reducible refine LeO.bind ?_ (fun _ => ?_))
    | exact ih0 _ _ _
    | exact ih1 _ _ _
    | exact ih2 _ _ _ _
    | exact ih3 _ _ _ _
    | exact ih4 _ _ _ _
    | exact ih5 _ _ _ _ _ _
    | exact hopperlaw12_live.mono _
    | exact hopperref05_Check.mono _ _ _ _ _
    | exact hopperref05_Ready.mono _ _ _ _
    | exact hopperref11_Few.mono _ _ _
    | exact LeO.none _
    | refine LeO.ite ?_ ?_
    | refine LeO.bind ?_ (fun _ => ?_)
  · intro y0 y1 y2 y3 y4 y5
    unfold hopperlaw12_GreedyTakes.l4
    repeat' first
    | (with_reducible exact ih0 _ _ _)
    | (with_reducible exact ih1 _ _ _)
    | (with_reducible exact ih2 _ _ _ _)
    | (with_reducible exact ih3 _ _ _ _)
    | (with_reducible exact ih4 _ _ _ _)
    | (with_reducible exact ih5 _ _ _ _ _ _)
    | (with_reducible exact hopperlaw12_live.mono _)
    | (with_reducible exact hopperref05_Check.mono _ _ _ _ _)
    | (with_reducible exact hopperref05_Ready.mono _ _ _ _)
    | (with_reducible exact hopperref11_Few.mono _ _ _)
    | (with_reducible exact LeO.refl _)
    | (with_reducible exact LeO.none _)
    | (with_reducible refine LeO.ite ?_ ?_)
    | (with_reducible refine LeO.bind ?_ (fun _ => ?_))
    | exact ih0 _ _ _
    | exact ih1 _ _ _
    | exact ih2 _ _ _ _
    | exact ih3 _ _ _ _
    | exact ih4 _ _ _ _
    | exact ih5 _ _ _ _ _ _
    | exact hopperlaw12_live.mono _
    | exact hopperref05_Check.mono _ _ _ _ _
    | exact hopperref05_Ready.mono _ _ _ _
    | exact hopperref11_Few.mono _ _ _
    | exact LeO.none _
    | refine LeO.ite ?_ ?_
    | refine LeO.bind ?_ (fun _ => ?_)
theorem hopperlaw12_GreedyTakes.mono : ∀ a0 a1 k, LeO (hopperlaw12_GreedyTakes.f k a0 a1) (hopperlaw12_GreedyTakes.f (k + 1) a0 a1) := by
 intro a0 a1 k
 obtain ⟨ih0, ih1, ih2, ih3, ih4, ih5⟩ := hopperlaw12_GreedyTakes.mono_l k
 unfold hopperlaw12_GreedyTakes.f
 repeat' first
  | (with_reducible exact ih0 _ _ _)
  | (with_reducible exact ih1 _ _ _)
  | (with_reducible exact ih2 _ _ _ _)
  | (with_reducible exact ih3 _ _ _ _)
  | (with_reducible exact ih4 _ _ _ _)
  | (with_reducible exact ih5 _ _ _ _ _ _)
  | (with_reducible exact hopperlaw12_live.mono _)
  | (with_reducible exact hopperref05_Check.mono _ _ _ _ _)
  | (with_reducible exact hopperref05_Ready.mono _ _ _ _)
  | (with_reducible exact hopperref11_Few.mono _ _ _)
  | (with_reducible exact LeO.refl _)
  | (with_reducible exact LeO.none _)
  | (with_reducible refine LeO.ite ?_ ?_)
  | (with_reducible refine LeO.bind ?_ (fun _ => ?_))
  | exact ih0 _ _ _
  | exact ih1 _ _ _
  | exact ih2 _ _ _ _
  | exact ih3 _ _ _ _
  | exact ih4 _ _ _ _
  | exact ih5 _ _ _ _ _ _
  | exact hopperlaw12_live.mono _
  | exact hopperref05_Check.mono _ _ _ _ _
  | exact hopperref05_Ready.mono _ _ _ _
  | exact hopperref11_Few.mono _ _ _
  | exact LeO.none _
  | refine LeO.ite ?_ ?_
  | refine LeO.bind ?_ (fun _ => ?_)
set_option maxHeartbeats 8000000 in
set_option maxRecDepth 100000 in
theorem hopperlaw12_GreedyTakes.calls (k : Nat) (A0 : Option Addr) (c0 : Nat) (l0 : List (S35)) (a1 : Int) (r : Bool) (w : World) (hr0 : Kd.C k35 w A0 l0.length l0) (hc0 : l0.length ≤ c0) (h : hopperlaw12_GreedyTakes.f k l0 a1 = some r) :
 Calls Try.prog 4 #[.slice A0 l0.length c0, .int .i64 a1] w fun e w' => e = .returned (.bool r) ∧ Below w.heap.size w w' := by
 have hu35 := Try.underlying35
 have HR0 := A_ hr0
 have HC0 := A_ hc0
 clear hr0 hc0; have HB := A_ (Below.refl w.heap.size w)
 have H : ((hopperref11_Few.f k l0 20).bind fun t407 => (if t407 = true then (hopperlaw12_GreedyTakes.j0 k l0 a1 (decide (a1 < 0))) else (hopperlaw12_GreedyTakes.j0 k l0 a1 true))) = some r := h
 clear h
 have HC3 := A_ H
 clear H
 go_enter Try.func4, Try.ntmps4
 go_upto_region 1 with (fail)
 repeat (go_quiet (fail); go_upto_region 1 with (fail))
 go_cut [20] (fun v20 wc => ∃ (kq : Nat) (x20_2 : Bool), v20 = .bool x20_2 ∧ Aside0 (hopperlaw12_GreedyTakes.j0 kq l0 a1 x20_2 = some r) ∧ Aside0 (kq ≤ k) ∧ Aside0 (Below w.heap.size w wc))
 case first =>
  have H := HC3.out
  clear HC3
  replace H := Option.bind_eq_some_iff.mp H
  obtain ⟨t407, A40, H⟩ := H
  try dsimp only at H
  have A4 := A_ A40
  clear A40
  by_cases c5 : t407 = true
  · subst c5
    have H1 : (hopperlaw12_GreedyTakes.j0 k l0 a1 (decide (a1 < 0))) = some r := by rw [if_pos rfl] at H; exact H
    clear H
    have H := H1
    clear H1
    have H' := A_ H
    clear H
    go_wp2_with (first | (go_at_call 8; (with_reducible refine (hopperref11_Few.calls k _ _ l0 20 true _ ?side1 ?side2 A4.out).mono ?_); (case side1 => repeat (first | exact (Kd.C_below HR0.out HB.out) | (with_reducible refine ca_ ?_ _) | (with_reducible refine cn_ ?_ _) | (with_reducible refine cd_ ?_))); (case side2 => exact HC0.out); rintro e w6 ⟨rfl, hb⟩; replace HB := A_ (below_step bw_ hb); (try clear hb); (try clear hb2); (try clear hk); (try clear hi)))
    repeat (go_quiet (first | (go_at_call 8; (with_reducible refine (hopperref11_Few.calls k _ _ l0 20 true _ ?side1 ?side2 A4.out).mono ?_); (case side1 => repeat (first | exact (Kd.C_below HR0.out HB.out) | (with_reducible refine ca_ ?_ _) | (with_reducible refine cn_ ?_ _) | (with_reducible refine cd_ ?_))); (case side2 => exact HC0.out); rintro e w6 ⟨rfl, hb⟩; replace HB := A_ (below_step bw_ hb); (try clear hb); (try clear hb2); (try clear hk); (try clear hi))); try go_wp2_with (first | (go_at_call 8; (with_reducible refine (hopperref11_Few.calls k _ _ l0 20 true _ ?side1 ?side2 A4.out).mono ?_); (case side1 => repeat (first | exact (Kd.C_below HR0.out HB.out) | (with_reducible refine ca_ ?_ _) | (with_reducible refine cn_ ?_ _) | (with_reducible refine cd_ ?_))); (case side2 => exact HC0.out); rintro e w6 ⟨rfl, hb⟩; replace HB := A_ (below_step bw_ hb); (try clear hb); (try clear hb2); (try clear hk); (try clear hi))))
    go_meet
    case rel => exact ⟨_, (decide (a1 < 0)), (by first | rfl | (simp; done) | (simp [*]; done)), H', ⟨by first | omega | exact Nat.le_refl _⟩, ⟨by repeat (first | (with_reducible first | exact HB.out | apply wa_ | apply wn_ | apply wd_) | exact HB.out)⟩⟩
  · replace c5 := Bool.eq_false_iff.mpr c5
    subst c5
    have H1 : (hopperlaw12_GreedyTakes.j0 k l0 a1 true) = some r := by rw [if_neg (show ¬ (false = true) by decide)] at H; exact H
    clear H
    have H := H1
    clear H1
    have H' := A_ H
    clear H
    go_wp2_with (first | (go_at_call 8; (with_reducible refine (hopperref11_Few.calls k _ _ l0 20 false _ ?side1 ?side2 A4.out).mono ?_); (case side1 => repeat (first | exact (Kd.C_below HR0.out HB.out) | (with_reducible refine ca_ ?_ _) | (with_reducible refine cn_ ?_ _) | (with_reducible refine cd_ ?_))); (case side2 => exact HC0.out); rintro e w7 ⟨rfl, hb⟩; replace HB := A_ (below_step bw_ hb); (try clear hb); (try clear hb2); (try clear hk); (try clear hi)))
    repeat (go_quiet (first | (go_at_call 8; (with_reducible refine (hopperref11_Few.calls k _ _ l0 20 false _ ?side1 ?side2 A4.out).mono ?_); (case side1 => repeat (first | exact (Kd.C_below HR0.out HB.out) | (with_reducible refine ca_ ?_ _) | (with_reducible refine cn_ ?_ _) | (with_reducible refine cd_ ?_))); (case side2 => exact HC0.out); rintro e w7 ⟨rfl, hb⟩; replace HB := A_ (below_step bw_ hb); (try clear hb); (try clear hb2); (try clear hk); (try clear hi))); try go_wp2_with (first | (go_at_call 8; (with_reducible refine (hopperref11_Few.calls k _ _ l0 20 false _ ?side1 ?side2 A4.out).mono ?_); (case side1 => repeat (first | exact (Kd.C_below HR0.out HB.out) | (with_reducible refine ca_ ?_ _) | (with_reducible refine cn_ ?_ _) | (with_reducible refine cd_ ?_))); (case side2 => exact HC0.out); rintro e w7 ⟨rfl, hb⟩; replace HB := A_ (below_step bw_ hb); (try clear hb); (try clear hb2); (try clear hk); (try clear hi))))
    go_meet
    case rel => exact ⟨_, (true), (by first | rfl | (simp; done) | (simp [*]; done)), H', ⟨by first | omega | exact Nat.le_refl _⟩, ⟨by repeat (first | (with_reducible first | exact HB.out | apply wa_ | apply wn_ | apply wd_) | exact HB.out)⟩⟩
 case rest =>
  clear HC3; (try clear p2); (try clear c4); (try clear c5)
  obtain ⟨kq, x20_2, rfl, HA, HJ2, HB⟩ := hcut
  cases kq with
  | zero => exact absurd HA.out (by simp [hopperlaw12_GreedyTakes.j0])
  | succ kj2 =>
   have H := HA.out
   clear HA
   simp only [hopperlaw12_GreedyTakes.j0] at H
   by_cases c8 : x20_2 = true
   · subst c8
     have H1 : ((hopperlaw12_live.f kj2).bind fun t408 => (some t408)) = some r := by rw [if_pos rfl] at H; exact H
     clear H
     have H := H1
     clear H1
     replace H := Option.bind_eq_some_iff.mp H
     obtain ⟨t408, A90, H⟩ := H
     replace H : (some t408) = some r := H
     have A9 := A_ A90
     clear A90
     obtain rfl := Option.some.inj H
     go_wp2_with (first | (go_at_call 10; (with_reducible refine (hopperlaw12_live.calls kj2  t408 _ A9.out).mono ?_); rintro e w10 ⟨rfl, hb⟩; replace HB := A_ (below_step bw_ hb); (try clear hb); (try clear hb2); (try clear hk); (try clear hi)))
     repeat (go_quiet (first | (go_at_call 10; (with_reducible refine (hopperlaw12_live.calls kj2  t408 _ A9.out).mono ?_); rintro e w10 ⟨rfl, hb⟩; replace HB := A_ (below_step bw_ hb); (try clear hb); (try clear hb2); (try clear hk); (try clear hi))); try go_wp2_with (first | (go_at_call 10; (with_reducible refine (hopperlaw12_live.calls kj2  t408 _ A9.out).mono ?_); rintro e w10 ⟨rfl, hb⟩; replace HB := A_ (below_step bw_ hb); (try clear hb); (try clear hb2); (try clear hk); (try clear hi))))
     go_ret
     exact ⟨by first | rfl | (simp [errW_none, errW_some] <;> rfl) | (simp [*, errW_none, errW_some] <;> rfl), by repeat (first | (with_reducible first | exact HB.out | apply wa_ | apply wn_ | apply wd_) | exact HB.out)⟩
   · replace c8 := Bool.eq_false_iff.mpr c8
     subst c8
     have H1 : (hopperlaw12_GreedyTakes.l0 kj2 l0 a1 0) = some r := by rw [if_neg (show ¬ (false = true) by decide)] at H; exact H
     clear H
     have H := H1
     clear H1
     have H' := A_ H
     clear H
     go_wp2
     repeat (go_quiet (fail); try go_wp2)
     go_loopg [5] kj2 (fun kq v5 w' => ∃ (x5_2 : Int), v5 = .int .i64 x5_2 ∧ Aside0 (hopperlaw12_GreedyTakes.l0 kq l0 a1 x5_2 = some r) ∧ Aside0 (kq ≤ kj2) ∧ Aside0 (Below w.heap.size w w'))
     case atStart => exact ⟨(0), (by first | rfl | (simp; done) | (simp [*]; done)), H', ⟨Nat.le_refl _⟩, ⟨by repeat (first | (with_reducible first | exact HB.out | apply wa_ | apply wn_ | apply wd_) | exact HB.out)⟩⟩
     case round =>
      clear H'; (try clear p2); (try clear c4); (try clear c5); (try clear c8); (try clear p2)
      obtain ⟨x5_2, rfl, HA, HK2, HB⟩ := hrel
      cases gk with
      | zero => exact absurd HA.out (by simp [hopperlaw12_GreedyTakes.l0])
      | succ k2 =>
       have H := HA.out
       clear HA
       simp only [hopperlaw12_GreedyTakes.l0] at H
       by_cases c11 : x5_2 < (l0.length : Int)
       · rw [if_pos c11] at H
         have c11b0 : decide (x5_2 < (l0.length : Int)) = true := decide_eq_true c11
         clear c11
         have H' := A_ H
         clear H
         go_wp2
         repeat (go_quiet (fail); try go_wp2)
         go_loopg [6] k2 (fun kq v6 w' => ∃ (x6_3 : Int), v6 = .int .i64 x6_3 ∧ Aside0 (hopperlaw12_GreedyTakes.l1 kq l0 a1 x5_2 x6_3 = some r) ∧ Aside0 (kq ≤ k2) ∧ Aside0 (Below w.heap.size w w'))
         case atStart => exact ⟨(0), (by first | rfl | (simp; done) | (simp [*]; done)), H', ⟨Nat.le_refl _⟩, ⟨by repeat (first | (with_reducible first | exact HB.out | apply wa_ | apply wn_ | apply wd_) | exact HB.out)⟩⟩
         case round =>
          clear H'; (try clear c1); (try clear p2); (try clear c4); (try clear c5); (try clear c8); (try clear c11); (try clear c11b0); (try clear p2)
          obtain ⟨x6_3, rfl, HA, HK3, HB⟩ := hrel
          cases gk with
          | zero => exact absurd HA.out (by simp [hopperlaw12_GreedyTakes.l1])
          | succ k3 =>
           have H := HA.out
           clear HA
           simp only [hopperlaw12_GreedyTakes.l1] at H
           by_cases c12 : x6_3 < x5_2
           · rw [if_pos c12] at H
             have c12b0 : decide (x6_3 < x5_2) = true := decide_eq_true c12
             clear c12
             by_cases c13 : 0 ≤ x6_3
             rotate_left
             · rw [if_neg c13] at H
               exact absurd H (by simp)
             rw [if_pos c13] at H
             have c13b0 : decide (0 ≤ x6_3) = true := decide_eq_true c13
             clear c13
             by_cases c14 : x6_3 < (l0.length : Int)
             rotate_left
             · rw [if_neg c14] at H
               exact absurd H (by simp)
             rw [if_pos c14] at H
             have c14b0 : decide (x6_3 < (l0.length : Int)) = true := decide_eq_true c14
             clear c14
             by_cases c15 : 0 ≤ x5_2
             rotate_left
             · rw [if_neg c15] at H
               exact absurd H (by simp)
             rw [if_pos c15] at H
             have c15b0 : decide (0 ≤ x5_2) = true := decide_eq_true c15
             clear c15
             by_cases c16 : x5_2 < (l0.length : Int)
             rotate_left
             · rw [if_neg c16] at H
               exact absurd H (by simp)
             rw [if_pos c16] at H
             have c16b0 : decide (x5_2 < (l0.length : Int)) = true := decide_eq_true c16
             clear c16
             by_cases c17 : ((rd_T35 l0 x6_3).f0) = ((rd_T35 l0 x5_2).f0)
             · rw [if_pos c17] at H
               have c17b0 : (((rd_T35 l0 x6_3).f0) == ((rd_T35 l0 x5_2).f0)) = true := beq_iff_eq.mpr c17
               have c17b1 : (((rd_T35 l0 x6_3).f0) != ((rd_T35 l0 x5_2).f0)) = false := bne_eq_false_iff_eq.mpr c17
               clear c17
               replace H := Option.bind_eq_some_iff.mp H
               obtain ⟨t411, A180, H⟩ := H
               replace H : (some t411) = some r := H
               have A18 := A_ A180
               clear A180
               obtain rfl := Option.some.inj H
               have p409 : 0 ≤ (x6_3 : Int) := of_decide_eq_true (by first | (with_reducible assumption) | assumption)
               have q409 : x6_3 < (l0.length : Int) := of_decide_eq_true (by first | (with_reducible assumption) | assumption)
               obtain ⟨ad409, A409_2, c409_2, e409, hx409_0, hx409_1, hx409_2, hl409_2, hi409_2⟩ := at_T35 HR0.out x6_3 p409 q409
               cases e409
               replace hx409_0 := on_ HB.out hx409_0
               replace hx409_1 := on_ HB.out hx409_1
               replace hx409_2 := on_ HB.out hx409_2
               have HR409_2 := A_ hi409_2
               have HC409_2 := A_ hl409_2
               clear hi409_2 hl409_2
               replace p409 := eq_true p409
               replace q409 := eq_true q409
               have p410 : 0 ≤ (x5_2 : Int) := of_decide_eq_true (by first | (with_reducible assumption) | assumption)
               have q410 : x5_2 < (l0.length : Int) := of_decide_eq_true (by first | (with_reducible assumption) | assumption)
               obtain ⟨ad410, A410_2, c410_2, e410, hx410_0, hx410_1, hx410_2, hl410_2, hi410_2⟩ := at_T35 HR0.out x5_2 p410 q410
               obtain rfl : ad409 = ad410 := (by injection e410)
               replace hx410_0 := on_ HB.out hx410_0
               replace hx410_1 := on_ HB.out hx410_1
               replace hx410_2 := on_ HB.out hx410_2
               have HR410_2 := A_ hi410_2
               have HC410_2 := A_ hl410_2
               clear hi410_2 hl410_2
               replace p410 := eq_true p410
               replace q410 := eq_true q410
               go_wp2_with (first | (go_at_call 10; (with_reducible refine (hopperlaw12_live.calls k3  t411 _ A18.out).mono ?_); rintro e w19 ⟨rfl, hb⟩; replace HB := A_ (below_step bw_ hb); (try clear hb); (try clear hb2); (try clear hk); (try clear hi)))
               repeat (go_quiet (first | (go_at_call 10; (with_reducible refine (hopperlaw12_live.calls k3  t411 _ A18.out).mono ?_); rintro e w19 ⟨rfl, hb⟩; replace HB := A_ (below_step bw_ hb); (try clear hb); (try clear hb2); (try clear hk); (try clear hi))); try go_wp2_with (first | (go_at_call 10; (with_reducible refine (hopperlaw12_live.calls k3  t411 _ A18.out).mono ?_); rintro e w19 ⟨rfl, hb⟩; replace HB := A_ (below_step bw_ hb); (try clear hb); (try clear hb2); (try clear hk); (try clear hi))))
               go_ret
               exact ⟨by first | rfl | (simp [errW_none, errW_some] <;> rfl) | (simp [*, errW_none, errW_some] <;> rfl), by repeat (first | (with_reducible first | exact HB.out | apply wa_ | apply wn_ | apply wd_) | exact HB.out)⟩
             · rw [if_neg c17] at H
               have c17b0 : (((rd_T35 l0 x6_3).f0) == ((rd_T35 l0 x5_2).f0)) = false := beq_eq_false_iff_ne.mpr c17
               have c17b1 : (((rd_T35 l0 x6_3).f0) != ((rd_T35 l0 x5_2).f0)) = true := bne_iff_ne.mpr c17
               have H' := A_ H
               clear H
               have p409 : 0 ≤ (x6_3 : Int) := of_decide_eq_true (by first | (with_reducible assumption) | assumption)
               have q409 : x6_3 < (l0.length : Int) := of_decide_eq_true (by first | (with_reducible assumption) | assumption)
               obtain ⟨ad409, A409_2, c409_2, e409, hx409_0, hx409_1, hx409_2, hl409_2, hi409_2⟩ := at_T35 HR0.out x6_3 p409 q409
               cases e409
               replace hx409_0 := on_ HB.out hx409_0
               replace hx409_1 := on_ HB.out hx409_1
               replace hx409_2 := on_ HB.out hx409_2
               have HR409_2 := A_ hi409_2
               have HC409_2 := A_ hl409_2
               clear hi409_2 hl409_2
               replace p409 := eq_true p409
               replace q409 := eq_true q409
               have p410 : 0 ≤ (x5_2 : Int) := of_decide_eq_true (by first | (with_reducible assumption) | assumption)
               have q410 : x5_2 < (l0.length : Int) := of_decide_eq_true (by first | (with_reducible assumption) | assumption)
               obtain ⟨ad410, A410_2, c410_2, e410, hx410_0, hx410_1, hx410_2, hl410_2, hi410_2⟩ := at_T35 HR0.out x5_2 p410 q410
               obtain rfl : ad409 = ad410 := (by injection e410)
               replace hx410_0 := on_ HB.out hx410_0
               replace hx410_1 := on_ HB.out hx410_1
               replace hx410_2 := on_ HB.out hx410_2
               have HR410_2 := A_ hi410_2
               have HC410_2 := A_ hl410_2
               clear hi410_2 hl410_2
               replace p410 := eq_true p410
               replace q410 := eq_true q410
               go_wp2
               repeat (go_quiet (fail); try go_wp2)
               go_roundg k3
               case measure => have := HJ2.out; have := HK2.out; have := HK3.out; omega
               case rel => exact ⟨(wrap64 (x6_3 + 1)), (by first | rfl | (simp; done) | (simp [*]; done)), H', ⟨by have := HJ2.out; have := HK2.out; have := HK3.out; omega⟩, ⟨by repeat (first | (with_reducible first | exact HB.out | apply wa_ | apply wn_ | apply wd_) | exact HB.out)⟩⟩
           · rw [if_neg c12] at H
             have c12b0 : decide (x6_3 < x5_2) = false := decide_eq_false c12
             clear c12
             by_cases c20 : 0 ≤ x5_2
             rotate_left
             · rw [if_neg c20] at H
               exact absurd H (by simp)
             rw [if_pos c20] at H
             have c20b0 : decide (0 ≤ x5_2) = true := decide_eq_true c20
             clear c20
             by_cases c21 : x5_2 < (l0.length : Int)
             rotate_left
             · rw [if_neg c21] at H
               exact absurd H (by simp)
             rw [if_pos c21] at H
             have c21b0 : decide (x5_2 < (l0.length : Int)) = true := decide_eq_true c21
             clear c21
             replace H := Option.bind_eq_some_iff.mp H
             obtain ⟨t413, A220, H⟩ := H
             try dsimp only at H
             have A22 := A_ A220
             clear A220
             by_cases c23 : t413 = true
             · subst c23
               have H1 : (hopperlaw12_GreedyTakes.l0 k3 l0 a1 (wrap64 (x5_2 + 1))) = some r := by rw [if_pos rfl] at H; exact H
               clear H
               have H := H1
               clear H1
               have H' := A_ H
               clear H
               have p412 : 0 ≤ (x5_2 : Int) := of_decide_eq_true (by first | (with_reducible assumption) | assumption)
               have q412 : x5_2 < (l0.length : Int) := of_decide_eq_true (by first | (with_reducible assumption) | assumption)
               obtain ⟨ad412, A412_2, c412_2, e412, hx412_0, hx412_1, hx412_2, hl412_2, hi412_2⟩ := at_T35 HR0.out x5_2 p412 q412
               cases e412
               replace hx412_0 := on_ HB.out hx412_0
               replace hx412_1 := on_ HB.out hx412_1
               replace hx412_2 := on_ HB.out hx412_2
               have HR412_2 := A_ hi412_2
               have HC412_2 := A_ hl412_2
               clear hi412_2 hl412_2
               replace p412 := eq_true p412
               replace q412 := eq_true q412
               go_wp2_with (first | (go_at_call 20; (with_reducible refine (hopperref05_Check.calls k3 ((rd_T35 l0 x5_2).f0) ((rd_T35 l0 x5_2).f1) _ _ ((rd_T35 l0 x5_2).f2) 16 true _ ?side1 ?side2 A22.out).mono ?_); (case side1 => repeat (first | exact (Kd.C_below HR412_2.out HB.out) | (with_reducible refine ca_ ?_ _) | (with_reducible refine cn_ ?_ _) | (with_reducible refine cd_ ?_))); (case side2 => exact HC412_2.out); rintro e w24 ⟨rfl, hb⟩; replace HB := A_ (below_step bw_ hb); (try clear hb); (try clear hb2); (try clear hk); (try clear hi)))
               repeat (go_quiet (first | (go_at_call 20; (with_reducible refine (hopperref05_Check.calls k3 ((rd_T35 l0 x5_2).f0) ((rd_T35 l0 x5_2).f1) _ _ ((rd_T35 l0 x5_2).f2) 16 true _ ?side1 ?side2 A22.out).mono ?_); (case side1 => repeat (first | exact (Kd.C_below HR412_2.out HB.out) | (with_reducible refine ca_ ?_ _) | (with_reducible refine cn_ ?_ _) | (with_reducible refine cd_ ?_))); (case side2 => exact HC412_2.out); rintro e w24 ⟨rfl, hb⟩; replace HB := A_ (below_step bw_ hb); (try clear hb); (try clear hb2); (try clear hk); (try clear hi))); try go_wp2_with (first | (go_at_call 20; (with_reducible refine (hopperref05_Check.calls k3 ((rd_T35 l0 x5_2).f0) ((rd_T35 l0 x5_2).f1) _ _ ((rd_T35 l0 x5_2).f2) 16 true _ ?side1 ?side2 A22.out).mono ?_); (case side1 => repeat (first | exact (Kd.C_below HR412_2.out HB.out) | (with_reducible refine ca_ ?_ _) | (with_reducible refine cn_ ?_ _) | (with_reducible refine cd_ ?_))); (case side2 => exact HC412_2.out); rintro e w24 ⟨rfl, hb⟩; replace HB := A_ (below_step bw_ hb); (try clear hb); (try clear hb2); (try clear hk); (try clear hi))))
               go_roundg k3
               case measure => have := HJ2.out; have := HK2.out; have := HK3.out; omega
               case rel => exact ⟨(wrap64 (x5_2 + 1)), (by first | rfl | (simp; done) | (simp [*]; done)), H', ⟨by have := HJ2.out; have := HK2.out; have := HK3.out; omega⟩, ⟨by repeat (first | (with_reducible first | exact HB.out | apply wa_ | apply wn_ | apply wd_) | exact HB.out)⟩⟩
             · replace c23 := Bool.eq_false_iff.mpr c23
               subst c23
               have H1 : ((hopperlaw12_live.f k3).bind fun t414 => (some t414)) = some r := by rw [if_neg (show ¬ (false = true) by decide)] at H; exact H
               clear H
               have H := H1
               clear H1
               replace H := Option.bind_eq_some_iff.mp H
               obtain ⟨t414, A250, H⟩ := H
               replace H : (some t414) = some r := H
               have A25 := A_ A250
               clear A250
               obtain rfl := Option.some.inj H
               have p412 : 0 ≤ (x5_2 : Int) := of_decide_eq_true (by first | (with_reducible assumption) | assumption)
               have q412 : x5_2 < (l0.length : Int) := of_decide_eq_true (by first | (with_reducible assumption) | assumption)
               obtain ⟨ad412, A412_2, c412_2, e412, hx412_0, hx412_1, hx412_2, hl412_2, hi412_2⟩ := at_T35 HR0.out x5_2 p412 q412
               cases e412
               replace hx412_0 := on_ HB.out hx412_0
               replace hx412_1 := on_ HB.out hx412_1
               replace hx412_2 := on_ HB.out hx412_2
               have HR412_2 := A_ hi412_2
               have HC412_2 := A_ hl412_2
               clear hi412_2 hl412_2
               replace p412 := eq_true p412
               replace q412 := eq_true q412
               go_wp2_with (first | (go_at_call 20; (with_reducible refine (hopperref05_Check.calls k3 ((rd_T35 l0 x5_2).f0) ((rd_T35 l0 x5_2).f1) _ _ ((rd_T35 l0 x5_2).f2) 16 false _ ?side1 ?side2 A22.out).mono ?_); (case side1 => repeat (first | exact (Kd.C_below HR412_2.out HB.out) | (with_reducible refine ca_ ?_ _) | (with_reducible refine cn_ ?_ _) | (with_reducible refine cd_ ?_))); (case side2 => exact HC412_2.out); rintro e w26 ⟨rfl, hb⟩; replace HB := A_ (below_step bw_ hb); (try clear hb); (try clear hb2); (try clear hk); (try clear hi)) | (go_at_call 10; (with_reducible refine (hopperlaw12_live.calls k3  t414 _ A25.out).mono ?_); rintro e w27 ⟨rfl, hb⟩; replace HB := A_ (below_step bw_ hb); (try clear hb); (try clear hb2); (try clear hk); (try clear hi)))
               repeat (go_quiet (first | (go_at_call 20; (with_reducible refine (hopperref05_Check.calls k3 ((rd_T35 l0 x5_2).f0) ((rd_T35 l0 x5_2).f1) _ _ ((rd_T35 l0 x5_2).f2) 16 false _ ?side1 ?side2 A22.out).mono ?_); (case side1 => repeat (first | exact (Kd.C_below HR412_2.out HB.out) | (with_reducible refine ca_ ?_ _) | (with_reducible refine cn_ ?_ _) | (with_reducible refine cd_ ?_))); (case side2 => exact HC412_2.out); rintro e w26 ⟨rfl, hb⟩; replace HB := A_ (below_step bw_ hb); (try clear hb); (try clear hb2); (try clear hk); (try clear hi)) | (go_at_call 10; (with_reducible refine (hopperlaw12_live.calls k3  t414 _ A25.out).mono ?_); rintro e w27 ⟨rfl, hb⟩; replace HB := A_ (below_step bw_ hb); (try clear hb); (try clear hb2); (try clear hk); (try clear hi))); try go_wp2_with (first | (go_at_call 20; (with_reducible refine (hopperref05_Check.calls k3 ((rd_T35 l0 x5_2).f0) ((rd_T35 l0 x5_2).f1) _ _ ((rd_T35 l0 x5_2).f2) 16 false _ ?side1 ?side2 A22.out).mono ?_); (case side1 => repeat (first | exact (Kd.C_below HR412_2.out HB.out) | (with_reducible refine ca_ ?_ _) | (with_reducible refine cn_ ?_ _) | (with_reducible refine cd_ ?_))); (case side2 => exact HC412_2.out); rintro e w26 ⟨rfl, hb⟩; replace HB := A_ (below_step bw_ hb); (try clear hb); (try clear hb2); (try clear hk); (try clear hi)) | (go_at_call 10; (with_reducible refine (hopperlaw12_live.calls k3  t414 _ A25.out).mono ?_); rintro e w27 ⟨rfl, hb⟩; replace HB := A_ (below_step bw_ hb); (try clear hb); (try clear hb2); (try clear hk); (try clear hi))))
               go_ret
               exact ⟨by first | rfl | (simp [errW_none, errW_some] <;> rfl) | (simp [*, errW_none, errW_some] <;> rfl), by repeat (first | (with_reducible first | exact HB.out | apply wa_ | apply wn_ | apply wd_) | exact HB.out)⟩
       · rw [if_neg c11] at H
         have c11b0 : decide (x5_2 < (l0.length : Int)) = false := decide_eq_false c11
         clear c11
         replace H := Option.bind_eq_some_iff.mp H
         obtain ⟨t415, A280, H⟩ := H
         try dsimp only at H
         have A28 := A_ A280
         clear A280
         have H' := A_ H
         clear H
         go_wp2_with (first | (go_at_call 16; (with_reducible refine (greedy_Template.calls _ _ l0 a1 t415 _ ?side1 ?side2 A28.out).mono ?_); (case side1 => repeat (first | exact (Kd.C_below HR0.out HB.out) | (with_reducible refine ca_ ?_ _) | (with_reducible refine cn_ ?_ _) | (with_reducible refine cd_ ?_))); (case side2 => exact HC0.out); rintro e w29 ⟨v416, rfl, ho0, hb⟩; have HO417 := A_ (Kd.R_lower ho0 (below_size bw_)); replace HB := A_ (below_step bw_ hb); (try clear hb); (try clear hb2); (try clear hk); (try clear hi); (try clear ho0)))
         repeat (go_quiet (first | (go_at_call 16; (with_reducible refine (greedy_Template.calls _ _ l0 a1 t415 _ ?side1 ?side2 A28.out).mono ?_); (case side1 => repeat (first | exact (Kd.C_below HR0.out HB.out) | (with_reducible refine ca_ ?_ _) | (with_reducible refine cn_ ?_ _) | (with_reducible refine cd_ ?_))); (case side2 => exact HC0.out); rintro e w29 ⟨v416, rfl, ho0, hb⟩; have HO417 := A_ (Kd.R_lower ho0 (below_size bw_)); replace HB := A_ (below_step bw_ hb); (try clear hb); (try clear hb2); (try clear hk); (try clear hi); (try clear ho0))); try go_wp2_with (first | (go_at_call 16; (with_reducible refine (greedy_Template.calls _ _ l0 a1 t415 _ ?side1 ?side2 A28.out).mono ?_); (case side1 => repeat (first | exact (Kd.C_below HR0.out HB.out) | (with_reducible refine ca_ ?_ _) | (with_reducible refine cn_ ?_ _) | (with_reducible refine cd_ ?_))); (case side2 => exact HC0.out); rintro e w29 ⟨v416, rfl, ho0, hb⟩; have HO417 := A_ (Kd.R_lower ho0 (below_size bw_)); replace HB := A_ (below_step bw_ hb); (try clear hb); (try clear hb2); (try clear hk); (try clear hi); (try clear ho0))))
         go_loopg [8, 9] k2 (fun kq v8 v9 w' => ∃ (x8_3 : Int) (x9_3 : Int), v8 = .int .i64 x8_3 ∧ v9 = .int .i64 x9_3 ∧ Aside0 (hopperlaw12_GreedyTakes.l2 kq l0 t415 x8_3 x9_3 = some r) ∧ Aside0 (kq ≤ k2) ∧ Aside0 (Kd.R k38 38 w' w.heap.size (fun _ => True) v416 t415) ∧ Aside0 (Below w.heap.size w w'))
         case atStart => exact ⟨(a1), (0), (by first | rfl | (simp; done) | (simp [*]; done)), (by first | rfl | (simp; done) | (simp [*]; done)), H', ⟨Nat.le_refl _⟩, ⟨by (with_reducible repeat (first | apply ra_ | apply rn_ | apply rd_)); exact HO417.out⟩, ⟨by repeat (first | (with_reducible first | exact HB.out | apply wa_ | apply wn_ | apply wd_) | exact HB.out)⟩⟩
         case round =>
          clear H'; (try clear c1); (try clear c2); (try clear p2); (try clear c4); (try clear p4); (try clear q4); (try clear hx4); (try clear c5); (try clear p6); (try clear c8); (try clear c11); (try clear c11b0); (try clear c12); (try clear c12b0); (try clear c13); (try clear c13b0); (try clear c14); (try clear c14b0); (try clear c15); (try clear c15b0); (try clear c16); (try clear c16b0); (try clear c17); (try clear c17b0); (try clear c17b1); (try clear c20); (try clear c20b0); (try clear c21); (try clear c21b0); (try clear c23); (try clear hx409_0); (try clear hx409_1); (try clear hx409_2); (try clear hx410_0); (try clear hx410_1); (try clear hx410_2); (try clear hx412_0); (try clear hx412_1); (try clear hx412_2); (try clear p2); (try clear p409); (try clear p410); (try clear p412); (try clear q409); (try clear q410); (try clear q412)
          obtain ⟨x8_3, x9_3, rfl, rfl, HA, HK3, HO_7, HB⟩ := hrel
          cases gk with
          | zero => exact absurd HA.out (by simp [hopperlaw12_GreedyTakes.l2])
          | succ k3 =>
           have H := HA.out
           clear HA
           simp only [hopperlaw12_GreedyTakes.l2] at H
           by_cases c30 : x9_3 < (t415.length : Int)
           · rw [if_pos c30] at H
             have c30b0 : decide (x9_3 < (t415.length : Int)) = true := decide_eq_true c30
             clear c30
             by_cases c31 : 0 ≤ x9_3
             rotate_left
             · rw [if_neg c31] at H
               exact absurd H (by simp)
             rw [if_pos c31] at H
             have c31b0 : decide (0 ≤ x9_3) = true := decide_eq_true c31
             clear c31
             by_cases c32 : ((rd_T38 t415 x9_3).f4) < 1
             · rw [if_pos c32] at H
               exact absurd H (by simp)
             rw [if_neg c32] at H
             have c32b0 : decide (((rd_T38 t415 x9_3).f4) < 1) = false := decide_eq_false c32
             clear c32
             by_cases c33 : ((rd_T38 t415 x9_3).f4) > x8_3
             · rw [if_pos c33] at H
               exact absurd H (by simp)
             rw [if_neg c33] at H
             have c33b0 : decide (x8_3 < ((rd_T38 t415 x9_3).f4)) = false := decide_eq_false c33
             clear c33
             have H' := A_ H
             clear H
             obtain ⟨Ao34, co34, eo34⟩ := Kd.R_slice HO_7.out
             subst eo34
             have p418 : 0 ≤ (x9_3 : Int) := of_decide_eq_true (by first | (with_reducible assumption) | assumption)
             have q418 : x9_3 < (t415.length : Int) := of_decide_eq_true (by first | (with_reducible assumption) | assumption)
             obtain ⟨ad418, e418, hx418_0, hx418_1, hx418_2, hx418_3, hx418_4, hx418_5⟩ := at_T38 (Kd.R_reads' HO_7.out).2.2 x9_3 p418 q418
             cases e418
             replace p418 := eq_true p418
             replace q418 := eq_true q418
             have p419 : 0 ≤ (x9_3 : Int) := of_decide_eq_true (by first | (with_reducible assumption) | assumption)
             have q419 : x9_3 < (t415.length : Int) := of_decide_eq_true (by first | (with_reducible assumption) | assumption)
             obtain ⟨ad419, e419, hx419_0, hx419_1, hx419_2, hx419_3, hx419_4, hx419_5⟩ := at_T38 (Kd.R_reads' HO_7.out).2.2 x9_3 p419 q419
             obtain rfl : ad418 = ad419 := (by injection e419)
             replace p419 := eq_true p419
             replace q419 := eq_true q419
             have p420 : 0 ≤ (x9_3 : Int) := of_decide_eq_true (by first | (with_reducible assumption) | assumption)
             have q420 : x9_3 < (t415.length : Int) := of_decide_eq_true (by first | (with_reducible assumption) | assumption)
             obtain ⟨ad420, e420, hx420_0, hx420_1, hx420_2, hx420_3, hx420_4, hx420_5⟩ := at_T38 (Kd.R_reads' HO_7.out).2.2 x9_3 p420 q420
             obtain rfl : ad418 = ad420 := (by injection e420)
             replace p420 := eq_true p420
             replace q420 := eq_true q420
             go_wp2
             repeat (go_quiet (fail); try go_wp2)
             go_roundg k3
             case measure => have := HJ2.out; have := HK2.out; have := HK3.out; omega
             case rel => exact ⟨(wrap64 (x8_3 - ((rd_T38 t415 x9_3).f4))), (wrap64 (x9_3 + 1)), (by first | rfl | (simp; done) | (simp [*]; done)), (by first | rfl | (simp; done) | (simp [*]; done)), H', ⟨by have := HJ2.out; have := HK2.out; have := HK3.out; omega⟩, ⟨by (with_reducible repeat (first | apply ra_ | apply rn_ | apply rd_)); exact HO_7.out⟩, ⟨by repeat (first | (with_reducible first | exact HB.out | apply wa_ | apply wn_ | apply wd_) | exact HB.out)⟩⟩
           · rw [if_neg c30] at H
             have c30b0 : decide (x9_3 < (t415.length : Int)) = false := decide_eq_false c30
             clear c30
             replace H := Option.bind_eq_some_iff.mp H
             obtain ⟨t421, A350, H⟩ := H
             try dsimp only at H
             have A35 := A_ A350
             clear A350
             by_cases c36 : t421 = true
             rotate_left
             · replace c36 := Bool.eq_false_iff.mpr c36
               subst c36
               have H1 : (none) = some r := by rw [if_neg (show ¬ (false = true) by decide)] at H; exact H
               clear H
               have H := H1
               clear H1
               exact absurd H (by simp)

             subst c36
             have H1 : (hopperlaw12_GreedyTakes.l3 k3 l0 t415 x8_3 0) = some r := by rw [if_pos rfl] at H; exact H
             clear H
             have H := H1
             clear H1
             have H' := A_ H
             clear H
             obtain ⟨Ao37, co37, eo37⟩ := Kd.R_slice HO_7.out
             subst eo37
             go_wp2_with (first | (go_at_call 18; (with_reducible refine (greedy_Follows.calls _ _ l0 _ _ t415 true _ ?side1 ?side2 ?side3 ?side4 A35.out).mono ?_); (case side1 => repeat (first | exact (Kd.C_below HR0.out HB.out) | (with_reducible refine ca_ ?_ _) | (with_reducible refine cn_ ?_ _) | (with_reducible refine cd_ ?_))); (case side2 => exact HC0.out); (case side3 => repeat (first | exact (Kd.R_reads' HO_7.out).2.2 | (with_reducible refine ca_ ?_ _) | (with_reducible refine cn_ ?_ _) | (with_reducible refine cd_ ?_))); (case side4 => exact (Kd.R_reads' HO_7.out).2.1); rintro e w38 ⟨rfl, hb⟩; replace HO_7 := A_ (Kd.R_below (pr_ HO_7.out) hb); replace HB := A_ (below_step bw_ hb); (try clear hb); (try clear hb2); (try clear hk); (try clear hi)))
             repeat (go_quiet (first | (go_at_call 18; (with_reducible refine (greedy_Follows.calls _ _ l0 _ _ t415 true _ ?side1 ?side2 ?side3 ?side4 A35.out).mono ?_); (case side1 => repeat (first | exact (Kd.C_below HR0.out HB.out) | (with_reducible refine ca_ ?_ _) | (with_reducible refine cn_ ?_ _) | (with_reducible refine cd_ ?_))); (case side2 => exact HC0.out); (case side3 => repeat (first | exact (Kd.R_reads' HO_7.out).2.2 | (with_reducible refine ca_ ?_ _) | (with_reducible refine cn_ ?_ _) | (with_reducible refine cd_ ?_))); (case side4 => exact (Kd.R_reads' HO_7.out).2.1); rintro e w38 ⟨rfl, hb⟩; replace HO_7 := A_ (Kd.R_below (pr_ HO_7.out) hb); replace HB := A_ (below_step bw_ hb); (try clear hb); (try clear hb2); (try clear hk); (try clear hi))); try go_wp2_with (first | (go_at_call 18; (with_reducible refine (greedy_Follows.calls _ _ l0 _ _ t415 true _ ?side1 ?side2 ?side3 ?side4 A35.out).mono ?_); (case side1 => repeat (first | exact (Kd.C_below HR0.out HB.out) | (with_reducible refine ca_ ?_ _) | (with_reducible refine cn_ ?_ _) | (with_reducible refine cd_ ?_))); (case side2 => exact HC0.out); (case side3 => repeat (first | exact (Kd.R_reads' HO_7.out).2.2 | (with_reducible refine ca_ ?_ _) | (with_reducible refine cn_ ?_ _) | (with_reducible refine cd_ ?_))); (case side4 => exact (Kd.R_reads' HO_7.out).2.1); rintro e w38 ⟨rfl, hb⟩; replace HO_7 := A_ (Kd.R_below (pr_ HO_7.out) hb); replace HB := A_ (below_step bw_ hb); (try clear hb); (try clear hb2); (try clear hk); (try clear hi))))
             go_loopg [10] k3 (fun kq v10 w' => ∃ (x10_4 : Int), v10 = .int .i64 x10_4 ∧ Aside0 (hopperlaw12_GreedyTakes.l3 kq l0 t415 x8_3 x10_4 = some r) ∧ Aside0 (kq ≤ k3) ∧ Aside0 (Kd.R k38 38 w' w.heap.size (fun _ => True) (.slice Ao37 t415.length co37) t415) ∧ Aside0 (Below w.heap.size w w'))
             case atStart => exact ⟨(0), (by first | rfl | (simp; done) | (simp [*]; done)), H', ⟨Nat.le_refl _⟩, ⟨by (with_reducible repeat (first | apply ra_ | apply rn_ | apply rd_)); exact HO_7.out⟩, ⟨by repeat (first | (with_reducible first | exact HB.out | apply wa_ | apply wn_ | apply wd_) | exact HB.out)⟩⟩
             case round =>
              clear H'; (try clear c1); (try clear c2); (try clear p2); (try clear c3); (try clear c4); (try clear p4); (try clear q4); (try clear hx4); (try clear c5); (try clear p6); (try clear c8); (try clear c11); (try clear c11b0); (try clear c12); (try clear c12b0); (try clear c13); (try clear c13b0); (try clear c14); (try clear c14b0); (try clear c15); (try clear c15b0); (try clear c16); (try clear c16b0); (try clear c17); (try clear c17b0); (try clear c17b1); (try clear c20); (try clear c20b0); (try clear c21); (try clear c21b0); (try clear c23); (try clear c30); (try clear c30b0); (try clear c31); (try clear c31b0); (try clear c32); (try clear c32b0); (try clear c33); (try clear c33b0); (try clear c36); (try clear hx409_0); (try clear hx409_1); (try clear hx409_2); (try clear hx410_0); (try clear hx410_1); (try clear hx410_2); (try clear hx412_0); (try clear hx412_1); (try clear hx412_2); (try clear hx418_0); (try clear hx418_1); (try clear hx418_2); (try clear hx418_3); (try clear hx418_4); (try clear hx418_5); (try clear hx419_0); (try clear hx419_1); (try clear hx419_2); (try clear hx419_3); (try clear hx419_4); (try clear hx419_5); (try clear hx420_0); (try clear hx420_1); (try clear hx420_2); (try clear hx420_3); (try clear hx420_4); (try clear hx420_5); (try clear p2); (try clear p4); (try clear p409); (try clear p410); (try clear p412); (try clear p418); (try clear p419); (try clear p420); (try clear p6); (try clear q4); (try clear q409); (try clear q410); (try clear q412); (try clear q418); (try clear q419); (try clear q420)
              obtain ⟨x10_4, rfl, HA, HK4, HO_7, HB⟩ := hrel
              cases gk with
              | zero => exact absurd HA.out (by simp [hopperlaw12_GreedyTakes.l3])
              | succ k4 =>
               have H := HA.out
               clear HA
               simp only [hopperlaw12_GreedyTakes.l3] at H
               by_cases c39 : x10_4 < (l0.length : Int)
               · rw [if_pos c39] at H
                 have c39b0 : decide (x10_4 < (l0.length : Int)) = true := decide_eq_true c39
                 clear c39
                 have H' := A_ H
                 clear H
                 go_wp2
                 repeat (go_quiet (fail); try go_wp2)
                 go_loopg [11, 12] k4 (fun kq v11 v12 w' => ∃ (x11_5 : Int) (x12_5 : Int), v11 = .int .i64 x11_5 ∧ v12 = .int .i64 x12_5 ∧ Aside0 (hopperlaw12_GreedyTakes.l4 kq l0 t415 x8_3 x10_4 x11_5 x12_5 = some r) ∧ Aside0 (kq ≤ k4) ∧ Aside0 (Kd.R k38 38 w' w.heap.size (fun _ => True) (.slice Ao37 t415.length co37) t415) ∧ Aside0 (Below w.heap.size w w'))
                 case atStart => exact ⟨(0), (0), (by first | rfl | (simp; done) | (simp [*]; done)), (by first | rfl | (simp; done) | (simp [*]; done)), H', ⟨Nat.le_refl _⟩, ⟨by (with_reducible repeat (first | apply ra_ | apply rn_ | apply rd_)); exact HO_7.out⟩, ⟨by repeat (first | (with_reducible first | exact HB.out | apply wa_ | apply wn_ | apply wd_) | exact HB.out)⟩⟩
                 case round =>
                  clear H'; (try clear c1); (try clear c2); (try clear p2); (try clear c3); (try clear c4); (try clear p4); (try clear q4); (try clear hx4); (try clear c5); (try clear p6); (try clear c8); (try clear c11); (try clear c11b0); (try clear c12); (try clear c12b0); (try clear c13); (try clear c13b0); (try clear c14); (try clear c14b0); (try clear c15); (try clear c15b0); (try clear c16); (try clear c16b0); (try clear c17); (try clear c17b0); (try clear c17b1); (try clear c20); (try clear c20b0); (try clear c21); (try clear c21b0); (try clear c23); (try clear c30); (try clear c30b0); (try clear c31); (try clear c31b0); (try clear c32); (try clear c32b0); (try clear c33); (try clear c33b0); (try clear c36); (try clear c39); (try clear c39b0); (try clear hx409_0); (try clear hx409_1); (try clear hx409_2); (try clear hx410_0); (try clear hx410_1); (try clear hx410_2); (try clear hx412_0); (try clear hx412_1); (try clear hx412_2); (try clear hx418_0); (try clear hx418_1); (try clear hx418_2); (try clear hx418_3); (try clear hx418_4); (try clear hx418_5); (try clear hx419_0); (try clear hx419_1); (try clear hx419_2); (try clear hx419_3); (try clear hx419_4); (try clear hx419_5); (try clear hx420_0); (try clear hx420_1); (try clear hx420_2); (try clear hx420_3); (try clear hx420_4); (try clear hx420_5); (try clear p2); (try clear p4); (try clear p409); (try clear p410); (try clear p412); (try clear p418); (try clear p419); (try clear p420); (try clear p6); (try clear q4); (try clear q409); (try clear q410); (try clear q412); (try clear q418); (try clear q419); (try clear q420)
                  obtain ⟨x11_5, x12_5, rfl, rfl, HA, HK5, HO_7, HB⟩ := hrel
                  cases gk with
                  | zero => exact absurd HA.out (by simp [hopperlaw12_GreedyTakes.l4])
                  | succ k5 =>
                   have H := HA.out
                   clear HA
                   simp only [hopperlaw12_GreedyTakes.l4] at H
                   by_cases c40 : x12_5 < (t415.length : Int)
                   · rw [if_pos c40] at H
                     have c40b0 : decide (x12_5 < (t415.length : Int)) = true := decide_eq_true c40
                     clear c40
                     by_cases c41 : 0 ≤ x12_5
                     rotate_left
                     · rw [if_neg c41] at H
                       exact absurd H (by simp)
                     rw [if_pos c41] at H
                     have c41b0 : decide (0 ≤ x12_5) = true := decide_eq_true c41
                     clear c41
                     by_cases c42 : 0 ≤ x10_4
                     rotate_left
                     · rw [if_neg c42] at H
                       exact absurd H (by simp)
                     rw [if_pos c42] at H
                     have c42b0 : decide (0 ≤ x10_4) = true := decide_eq_true c42
                     clear c42
                     by_cases c43 : x10_4 < (l0.length : Int)
                     rotate_left
                     · rw [if_neg c43] at H
                       exact absurd H (by simp)
                     rw [if_pos c43] at H
                     have c43b0 : decide (x10_4 < (l0.length : Int)) = true := decide_eq_true c43
                     clear c43
                     by_cases c44 : ((rd_T38 t415 x12_5).f0) = ((rd_T35 l0 x10_4).f0)
                     · rw [if_pos c44] at H
                       have c44b0 : (((rd_T38 t415 x12_5).f0) == ((rd_T35 l0 x10_4).f0)) = true := beq_iff_eq.mpr c44
                       have c44b1 : (((rd_T38 t415 x12_5).f0) != ((rd_T35 l0 x10_4).f0)) = false := bne_eq_false_iff_eq.mpr c44
                       clear c44
                       have H' := A_ H
                       clear H
                       have p423 : 0 ≤ (x12_5 : Int) := of_decide_eq_true (by first | (with_reducible assumption) | assumption)
                       have q423 : x12_5 < (t415.length : Int) := of_decide_eq_true (by first | (with_reducible assumption) | assumption)
                       obtain ⟨ad423, e423, hx423_0, hx423_1, hx423_2, hx423_3, hx423_4, hx423_5⟩ := at_T38 (Kd.R_reads' HO_7.out).2.2 x12_5 p423 q423
                       cases e423
                       replace p423 := eq_true p423
                       replace q423 := eq_true q423
                       have p424 : 0 ≤ (x10_4 : Int) := of_decide_eq_true (by first | (with_reducible assumption) | assumption)
                       have q424 : x10_4 < (l0.length : Int) := of_decide_eq_true (by first | (with_reducible assumption) | assumption)
                       obtain ⟨ad424, A424_2, c424_2, e424, hx424_0, hx424_1, hx424_2, hl424_2, hi424_2⟩ := at_T35 HR0.out x10_4 p424 q424
                       cases e424
                       replace hx424_0 := on_ HB.out hx424_0
                       replace hx424_1 := on_ HB.out hx424_1
                       replace hx424_2 := on_ HB.out hx424_2
                       have HR424_2 := A_ hi424_2
                       have HC424_2 := A_ hl424_2
                       clear hi424_2 hl424_2
                       replace p424 := eq_true p424
                       replace q424 := eq_true q424
                       go_wp2
                       repeat (go_quiet (fail); try go_wp2)
                       go_roundg k5
                       case measure => have := HJ2.out; have := HK2.out; have := HK3.out; have := HK4.out; have := HK5.out; omega
                       case rel => exact ⟨(wrap64 (x11_5 + 1)), (wrap64 (x12_5 + 1)), (by first | rfl | (simp; done) | (simp [*]; done)), (by first | rfl | (simp; done) | (simp [*]; done)), H', ⟨by have := HJ2.out; have := HK2.out; have := HK3.out; have := HK4.out; have := HK5.out; omega⟩, ⟨by (with_reducible repeat (first | apply ra_ | apply rn_ | apply rd_)); exact HO_7.out⟩, ⟨by repeat (first | (with_reducible first | exact HB.out | apply wa_ | apply wn_ | apply wd_) | exact HB.out)⟩⟩
                     · rw [if_neg c44] at H
                       have c44b0 : (((rd_T38 t415 x12_5).f0) == ((rd_T35 l0 x10_4).f0)) = false := beq_eq_false_iff_ne.mpr c44
                       have c44b1 : (((rd_T38 t415 x12_5).f0) != ((rd_T35 l0 x10_4).f0)) = true := bne_iff_ne.mpr c44
                       have H' := A_ H
                       clear H
                       have p423 : 0 ≤ (x12_5 : Int) := of_decide_eq_true (by first | (with_reducible assumption) | assumption)
                       have q423 : x12_5 < (t415.length : Int) := of_decide_eq_true (by first | (with_reducible assumption) | assumption)
                       obtain ⟨ad423, e423, hx423_0, hx423_1, hx423_2, hx423_3, hx423_4, hx423_5⟩ := at_T38 (Kd.R_reads' HO_7.out).2.2 x12_5 p423 q423
                       cases e423
                       replace p423 := eq_true p423
                       replace q423 := eq_true q423
                       have p424 : 0 ≤ (x10_4 : Int) := of_decide_eq_true (by first | (with_reducible assumption) | assumption)
                       have q424 : x10_4 < (l0.length : Int) := of_decide_eq_true (by first | (with_reducible assumption) | assumption)
                       obtain ⟨ad424, A424_2, c424_2, e424, hx424_0, hx424_1, hx424_2, hl424_2, hi424_2⟩ := at_T35 HR0.out x10_4 p424 q424
                       cases e424
                       replace hx424_0 := on_ HB.out hx424_0
                       replace hx424_1 := on_ HB.out hx424_1
                       replace hx424_2 := on_ HB.out hx424_2
                       have HR424_2 := A_ hi424_2
                       have HC424_2 := A_ hl424_2
                       clear hi424_2 hl424_2
                       replace p424 := eq_true p424
                       replace q424 := eq_true q424
                       go_wp2
                       repeat (go_quiet (fail); try go_wp2)
                       go_roundg k5
                       case measure => have := HJ2.out; have := HK2.out; have := HK3.out; have := HK4.out; have := HK5.out; omega
                       case rel => exact ⟨(x11_5), (wrap64 (x12_5 + 1)), (by first | rfl | (simp; done) | (simp [*]; done)), (by first | rfl | (simp; done) | (simp [*]; done)), H', ⟨by have := HJ2.out; have := HK2.out; have := HK3.out; have := HK4.out; have := HK5.out; omega⟩, ⟨by (with_reducible repeat (first | apply ra_ | apply rn_ | apply rd_)); exact HO_7.out⟩, ⟨by repeat (first | (with_reducible first | exact HB.out | apply wa_ | apply wn_ | apply wd_) | exact HB.out)⟩⟩
                   · rw [if_neg c40] at H
                     have c40b0 : decide (x12_5 < (t415.length : Int)) = false := decide_eq_false c40
                     clear c40
                     by_cases c45 : 0 ≤ x10_4
                     rotate_left
                     · rw [if_neg c45] at H
                       exact absurd H (by simp)
                     rw [if_pos c45] at H
                     have c45b0 : decide (0 ≤ x10_4) = true := decide_eq_true c45
                     clear c45
                     by_cases c46 : x10_4 < (l0.length : Int)
                     rotate_left
                     · rw [if_neg c46] at H
                       exact absurd H (by simp)
                     rw [if_pos c46] at H
                     have c46b0 : decide (x10_4 < (l0.length : Int)) = true := decide_eq_true c46
                     clear c46
                     replace H := Option.bind_eq_some_iff.mp H
                     obtain ⟨t426, A470, H⟩ := H
                     try dsimp only at H
                     have A47 := A_ A470
                     clear A470
                     by_cases c48 : x11_5 > (t426.length : Int)
                     · rw [if_pos c48] at H
                       exact absurd H (by simp)
                     rw [if_neg c48] at H
                     have c48b0 : decide ((t426.length : Int) < x11_5) = false := decide_eq_false c48
                     clear c48
                     by_cases c49 : x11_5 < (t426.length : Int)
                     · rw [if_pos c49] at H
                       have c49b0 : decide (x11_5 < (t426.length : Int)) = true := decide_eq_true c49
                       clear c49
                       by_cases c50 : 0 ≤ x11_5
                       rotate_left
                       · rw [if_neg c50] at H
                         exact absurd H (by simp)
                       rw [if_pos c50] at H
                       have c50b0 : decide (0 ≤ x11_5) = true := decide_eq_true c50
                       clear c50
                       by_cases c51 : ((rd_T38 t426 x11_5).f4) ≤ x8_3
                       · rw [if_pos c51] at H
                         exact absurd H (by simp)
                       rw [if_neg c51] at H
                       have c51b0 : decide (((rd_T38 t426 x11_5).f4) ≤ x8_3) = false := decide_eq_false c51
                       clear c51
                       have H' := A_ H
                       clear H
                       have p425 : 0 ≤ (x10_4 : Int) := of_decide_eq_true (by first | (with_reducible assumption) | assumption)
                       have q425 : x10_4 < (l0.length : Int) := of_decide_eq_true (by first | (with_reducible assumption) | assumption)
                       obtain ⟨ad425, A425_2, c425_2, e425, hx425_0, hx425_1, hx425_2, hl425_2, hi425_2⟩ := at_T35 HR0.out x10_4 p425 q425
                       cases e425
                       replace hx425_0 := on_ HB.out hx425_0
                       replace hx425_1 := on_ HB.out hx425_1
                       replace hx425_2 := on_ HB.out hx425_2
                       have HR425_2 := A_ hi425_2
                       have HC425_2 := A_ hl425_2
                       clear hi425_2 hl425_2
                       replace p425 := eq_true p425
                       replace q425 := eq_true q425
                       go_wp2_with (first | (go_at_call 21; (with_reducible refine (hopperref05_Ready.calls k5 ((rd_T35 l0 x10_4).f0) ((rd_T35 l0 x10_4).f1) _ _ ((rd_T35 l0 x10_4).f2) t426 _ ?side1 ?side2 A47.out).mono ?_); (case side1 => repeat (first | exact (Kd.C_below HR425_2.out HB.out) | (with_reducible refine ca_ ?_ _) | (with_reducible refine cn_ ?_ _) | (with_reducible refine cd_ ?_))); (case side2 => exact HC425_2.out); rintro e w52 ⟨v427, rfl, ho0, hb⟩; have n0_ := A_ (Kd.R_elder' (pr_ HO_7.out) (Kd.R_base ho0) hb); have n1_ := A_ (Kd.R_lower (Kd.R_new' ho0 (Kd.R_lt (pr_ HO_7.out))) (below_size bw_)); have n2_ := A_ (below_step bw_ hb); replace HO_7 := n0_; have HO428 := n1_; replace HB := n2_; clear n0_ n1_ n2_; (try clear hb); (try clear hb2); (try clear hk); (try clear hi); (try clear ho0); obtain ⟨Ao53, co53, eo53⟩ := Kd.R_slice HO428.out; subst eo53; have p429 : 0 ≤ (x11_5 : Int) := of_decide_eq_true (by first | (with_reducible assumption) | assumption); have q429 : x11_5 < (t426.length : Int) := of_decide_eq_true (by first | (with_reducible assumption) | assumption); obtain ⟨ad429, e429, hx429_0, hx429_1, hx429_2, hx429_3, hx429_4, hx429_5⟩ := at_T38 (Kd.R_reads' HO428.out).2.2 x11_5 p429 q429; cases e429; replace p429 := eq_true p429; replace q429 := eq_true q429))
                       repeat (go_quiet (first | (go_at_call 21; (with_reducible refine (hopperref05_Ready.calls k5 ((rd_T35 l0 x10_4).f0) ((rd_T35 l0 x10_4).f1) _ _ ((rd_T35 l0 x10_4).f2) t426 _ ?side1 ?side2 A47.out).mono ?_); (case side1 => repeat (first | exact (Kd.C_below HR425_2.out HB.out) | (with_reducible refine ca_ ?_ _) | (with_reducible refine cn_ ?_ _) | (with_reducible refine cd_ ?_))); (case side2 => exact HC425_2.out); rintro e w52 ⟨v427, rfl, ho0, hb⟩; have n0_ := A_ (Kd.R_elder' (pr_ HO_7.out) (Kd.R_base ho0) hb); have n1_ := A_ (Kd.R_lower (Kd.R_new' ho0 (Kd.R_lt (pr_ HO_7.out))) (below_size bw_)); have n2_ := A_ (below_step bw_ hb); replace HO_7 := n0_; have HO428 := n1_; replace HB := n2_; clear n0_ n1_ n2_; (try clear hb); (try clear hb2); (try clear hk); (try clear hi); (try clear ho0); obtain ⟨Ao53, co53, eo53⟩ := Kd.R_slice HO428.out; subst eo53; have p429 : 0 ≤ (x11_5 : Int) := of_decide_eq_true (by first | (with_reducible assumption) | assumption); have q429 : x11_5 < (t426.length : Int) := of_decide_eq_true (by first | (with_reducible assumption) | assumption); obtain ⟨ad429, e429, hx429_0, hx429_1, hx429_2, hx429_3, hx429_4, hx429_5⟩ := at_T38 (Kd.R_reads' HO428.out).2.2 x11_5 p429 q429; cases e429; replace p429 := eq_true p429; replace q429 := eq_true q429)); try go_wp2_with (first | (go_at_call 21; (with_reducible refine (hopperref05_Ready.calls k5 ((rd_T35 l0 x10_4).f0) ((rd_T35 l0 x10_4).f1) _ _ ((rd_T35 l0 x10_4).f2) t426 _ ?side1 ?side2 A47.out).mono ?_); (case side1 => repeat (first | exact (Kd.C_below HR425_2.out HB.out) | (with_reducible refine ca_ ?_ _) | (with_reducible refine cn_ ?_ _) | (with_reducible refine cd_ ?_))); (case side2 => exact HC425_2.out); rintro e w52 ⟨v427, rfl, ho0, hb⟩; have n0_ := A_ (Kd.R_elder' (pr_ HO_7.out) (Kd.R_base ho0) hb); have n1_ := A_ (Kd.R_lower (Kd.R_new' ho0 (Kd.R_lt (pr_ HO_7.out))) (below_size bw_)); have n2_ := A_ (below_step bw_ hb); replace HO_7 := n0_; have HO428 := n1_; replace HB := n2_; clear n0_ n1_ n2_; (try clear hb); (try clear hb2); (try clear hk); (try clear hi); (try clear ho0); obtain ⟨Ao53, co53, eo53⟩ := Kd.R_slice HO428.out; subst eo53; have p429 : 0 ≤ (x11_5 : Int) := of_decide_eq_true (by first | (with_reducible assumption) | assumption); have q429 : x11_5 < (t426.length : Int) := of_decide_eq_true (by first | (with_reducible assumption) | assumption); obtain ⟨ad429, e429, hx429_0, hx429_1, hx429_2, hx429_3, hx429_4, hx429_5⟩ := at_T38 (Kd.R_reads' HO428.out).2.2 x11_5 p429 q429; cases e429; replace p429 := eq_true p429; replace q429 := eq_true q429)))
                       go_roundg k5
                       case measure => have := HJ2.out; have := HK2.out; have := HK3.out; have := HK4.out; have := HK5.out; omega
                       case rel => exact ⟨(wrap64 (x10_4 + 1)), (by first | rfl | (simp; done) | (simp [*]; done)), H', ⟨by have := HJ2.out; have := HK2.out; have := HK3.out; have := HK4.out; have := HK5.out; omega⟩, ⟨by (with_reducible repeat (first | apply ra_ | apply rn_ | apply rd_)); exact Kd.R_mono HO_7.out (fun _ hk => trivial)⟩, ⟨by repeat (first | (with_reducible first | exact HB.out | apply wa_ | apply wn_ | apply wd_) | exact HB.out)⟩⟩
                     · rw [if_neg c49] at H
                       have c49b0 : decide (x11_5 < (t426.length : Int)) = false := decide_eq_false c49
                       clear c49
                       have H' := A_ H
                       clear H
                       have p425 : 0 ≤ (x10_4 : Int) := of_decide_eq_true (by first | (with_reducible assumption) | assumption)
                       have q425 : x10_4 < (l0.length : Int) := of_decide_eq_true (by first | (with_reducible assumption) | assumption)
                       obtain ⟨ad425, A425_2, c425_2, e425, hx425_0, hx425_1, hx425_2, hl425_2, hi425_2⟩ := at_T35 HR0.out x10_4 p425 q425
                       cases e425
                       replace hx425_0 := on_ HB.out hx425_0
                       replace hx425_1 := on_ HB.out hx425_1
                       replace hx425_2 := on_ HB.out hx425_2
                       have HR425_2 := A_ hi425_2
                       have HC425_2 := A_ hl425_2
                       clear hi425_2 hl425_2
                       replace p425 := eq_true p425
                       replace q425 := eq_true q425
                       go_wp2_with (first | (go_at_call 21; (with_reducible refine (hopperref05_Ready.calls k5 ((rd_T35 l0 x10_4).f0) ((rd_T35 l0 x10_4).f1) _ _ ((rd_T35 l0 x10_4).f2) t426 _ ?side1 ?side2 A47.out).mono ?_); (case side1 => repeat (first | exact (Kd.C_below HR425_2.out HB.out) | (with_reducible refine ca_ ?_ _) | (with_reducible refine cn_ ?_ _) | (with_reducible refine cd_ ?_))); (case side2 => exact HC425_2.out); rintro e w54 ⟨v427, rfl, ho0, hb⟩; have n0_ := A_ (Kd.R_elder' (pr_ HO_7.out) (Kd.R_base ho0) hb); have n1_ := A_ (Kd.R_lower (Kd.R_new' ho0 (Kd.R_lt (pr_ HO_7.out))) (below_size bw_)); have n2_ := A_ (below_step bw_ hb); replace HO_7 := n0_; have HO428 := n1_; replace HB := n2_; clear n0_ n1_ n2_; (try clear hb); (try clear hb2); (try clear hk); (try clear hi); (try clear ho0); obtain ⟨Ao55, co55, eo55⟩ := Kd.R_slice HO428.out; subst eo55))
                       repeat (go_quiet (first | (go_at_call 21; (with_reducible refine (hopperref05_Ready.calls k5 ((rd_T35 l0 x10_4).f0) ((rd_T35 l0 x10_4).f1) _ _ ((rd_T35 l0 x10_4).f2) t426 _ ?side1 ?side2 A47.out).mono ?_); (case side1 => repeat (first | exact (Kd.C_below HR425_2.out HB.out) | (with_reducible refine ca_ ?_ _) | (with_reducible refine cn_ ?_ _) | (with_reducible refine cd_ ?_))); (case side2 => exact HC425_2.out); rintro e w54 ⟨v427, rfl, ho0, hb⟩; have n0_ := A_ (Kd.R_elder' (pr_ HO_7.out) (Kd.R_base ho0) hb); have n1_ := A_ (Kd.R_lower (Kd.R_new' ho0 (Kd.R_lt (pr_ HO_7.out))) (below_size bw_)); have n2_ := A_ (below_step bw_ hb); replace HO_7 := n0_; have HO428 := n1_; replace HB := n2_; clear n0_ n1_ n2_; (try clear hb); (try clear hb2); (try clear hk); (try clear hi); (try clear ho0); obtain ⟨Ao55, co55, eo55⟩ := Kd.R_slice HO428.out; subst eo55)); try go_wp2_with (first | (go_at_call 21; (with_reducible refine (hopperref05_Ready.calls k5 ((rd_T35 l0 x10_4).f0) ((rd_T35 l0 x10_4).f1) _ _ ((rd_T35 l0 x10_4).f2) t426 _ ?side1 ?side2 A47.out).mono ?_); (case side1 => repeat (first | exact (Kd.C_below HR425_2.out HB.out) | (with_reducible refine ca_ ?_ _) | (with_reducible refine cn_ ?_ _) | (with_reducible refine cd_ ?_))); (case side2 => exact HC425_2.out); rintro e w54 ⟨v427, rfl, ho0, hb⟩; have n0_ := A_ (Kd.R_elder' (pr_ HO_7.out) (Kd.R_base ho0) hb); have n1_ := A_ (Kd.R_lower (Kd.R_new' ho0 (Kd.R_lt (pr_ HO_7.out))) (below_size bw_)); have n2_ := A_ (below_step bw_ hb); replace HO_7 := n0_; have HO428 := n1_; replace HB := n2_; clear n0_ n1_ n2_; (try clear hb); (try clear hb2); (try clear hk); (try clear hi); (try clear ho0); obtain ⟨Ao55, co55, eo55⟩ := Kd.R_slice HO428.out; subst eo55)))
                       go_roundg k5
                       case measure => have := HJ2.out; have := HK2.out; have := HK3.out; have := HK4.out; have := HK5.out; omega
                       case rel => exact ⟨(wrap64 (x10_4 + 1)), (by first | rfl | (simp; done) | (simp [*]; done)), H', ⟨by have := HJ2.out; have := HK2.out; have := HK3.out; have := HK4.out; have := HK5.out; omega⟩, ⟨by (with_reducible repeat (first | apply ra_ | apply rn_ | apply rd_)); exact Kd.R_mono HO_7.out (fun _ hk => trivial)⟩, ⟨by repeat (first | (with_reducible first | exact HB.out | apply wa_ | apply wn_ | apply wd_) | exact HB.out)⟩⟩
               · rw [if_neg c39] at H
                 have c39b0 : decide (x10_4 < (l0.length : Int)) = false := decide_eq_false c39
                 clear c39
                 replace H := Option.bind_eq_some_iff.mp H
                 obtain ⟨t422, A560, H⟩ := H
                 replace H : (some t422) = some r := H
                 have A56 := A_ A560
                 clear A560
                 obtain rfl := Option.some.inj H
                 go_wp2_with (first | (go_at_call 10; (with_reducible refine (hopperlaw12_live.calls k4  t422 _ A56.out).mono ?_); rintro e w57 ⟨rfl, hb⟩; replace HO_7 := A_ (Kd.R_below (pr_ HO_7.out) hb); replace HB := A_ (below_step bw_ hb); (try clear hb); (try clear hb2); (try clear hk); (try clear hi)))
                 repeat (go_quiet (first | (go_at_call 10; (with_reducible refine (hopperlaw12_live.calls k4  t422 _ A56.out).mono ?_); rintro e w57 ⟨rfl, hb⟩; replace HO_7 := A_ (Kd.R_below (pr_ HO_7.out) hb); replace HB := A_ (below_step bw_ hb); (try clear hb); (try clear hb2); (try clear hk); (try clear hi))); try go_wp2_with (first | (go_at_call 10; (with_reducible refine (hopperlaw12_live.calls k4  t422 _ A56.out).mono ?_); rintro e w57 ⟨rfl, hb⟩; replace HO_7 := A_ (Kd.R_below (pr_ HO_7.out) hb); replace HB := A_ (below_step bw_ hb); (try clear hb); (try clear hb2); (try clear hk); (try clear hi))))
                 go_ret
                 exact ⟨by first | rfl | (simp [errW_none, errW_some] <;> rfl) | (simp [*, errW_none, errW_some] <;> rfl), by repeat (first | (with_reducible first | exact HB.out | apply wa_ | apply wn_ | apply wd_) | exact HB.out)⟩
open Go.Proofs.Ytahopljippfadaa.Row (okI okB okS okL) in
/-- THE ONE PURE STATEMENT of hopperlaw12_GreedyTakes. -/
def hopperlaw12_GreedyTakes.Pure : Prop := ∀ (l0 : List (S35)) (a1 : Int), (okL ok35) l0 → (okI .i64) a1 → ∃ k, hopperlaw12_GreedyTakes.f k l0 a1 = some true

end Go.Proofs.Ytahopljippfadaa.D
