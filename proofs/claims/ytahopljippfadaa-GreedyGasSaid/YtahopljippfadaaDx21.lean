/- Written by this session's own program over the kit's print: functions of Go told as plain functions, or the row of one statement; proved for every input, with no condition of ours. -/
import Derived.Test.YtahopljippfadaaDx0
import Derived.Test.YtahopljippfadaaDx2
import Derived.Test.YtahopljippfadaaDx8
import Derived.Test.YtahopljippfadaaDx10
import Derived.Test.YtahopljippfadaaDx18
namespace Go.Proofs.Ytahopljippfadaa.D
open Go.RowKit Go.Proofs.YtahopljippfadaaW.PrintWords Go.Proofs.YtahopljippfadaaW.PrintLast Go.Proofs.YtahopljippfadaaW.PrintMore
attribute [local go_sem] max2_int min2_int max_two min_two max_three min_three max_four min_four   -- for this text's walks alone
set_option linter.unusedVariables false
set_option linter.unusedSimpArgs false

/-! ### hopperlaw12_GreedyGas: function 6 -/
mutual
def hopperlaw12_GreedyGas.j0 : Nat → List (S35) → Int → Bool → Option (Bool)
 | 0, _, _, _ => none
 | k + 1, x0, x1, x21 => if x21 = true then ((hopperlaw12_live.f k).bind fun t453 => (some t453)) else (hopperlaw12_GreedyGas.l0 k x0 x1 0)
def hopperlaw12_GreedyGas.l0 : Nat → List (S35) → Int → Int → Option (Bool)
 | 0, _, _, _ => none
 | k + 1, x0, x1, x5 => if x5 < (x0.length : Int) then (if 0 ≤ x5 then ((hopperref05_Check.f k ((rd_T35 x0 x5).f0) ((rd_T35 x0 x5).f1) ((rd_T35 x0 x5).f2) 16).bind fun t455 => (if t455 = true then (hopperlaw12_GreedyGas.l0 k x0 x1 (wrap64 (x5 + 1))) else ((hopperlaw12_live.f k).bind fun t456 => (some t456)))) else (none)) else ((greedy_Template.f x0 x1).bind fun t457 => ((greedy_Totals.f k t457).bind fun bt460 => ((greedy_Totals.f k ([] : List (S38))).bind fun bt462 => ((greedy_Template.f x0 0).bind fun t464 => (if (t464.length : Int) = 0 then (if bt460.2 ≤ x1 then (if bt462.2 = 0 then (if (t457.length : Int) ≤ 1000 then ((hopperlaw12_live.f k).bind fun t467 => (some t467)) else (none)) else (none)) else (none)) else (none))))))
end
def hopperlaw12_GreedyGas.f (k : Nat) (l0 : List (S35)) (a1 : Int) : Option (Bool) := (hopperref11_Few.f k l0 20).bind fun t452 => (if t452 = true then (if a1 < 0 then (hopperlaw12_GreedyGas.j0 k l0 a1 true) else (hopperlaw12_GreedyGas.j0 k l0 a1 (decide (a1 > 1099511627776)))) else (hopperlaw12_GreedyGas.j0 k l0 a1 true))
theorem hopperlaw12_GreedyGas.mono_l : ∀ k, (∀ y0 y1 y2, LeO (hopperlaw12_GreedyGas.j0 k y0 y1 y2) (hopperlaw12_GreedyGas.j0 (k + 1) y0 y1 y2)) ∧ (∀ y0 y1 y2, LeO (hopperlaw12_GreedyGas.l0 k y0 y1 y2) (hopperlaw12_GreedyGas.l0 (k + 1) y0 y1 y2))
 | 0 => ⟨fun _ _ _ r h => by simp [hopperlaw12_GreedyGas.j0] at h, fun _ _ _ r h => by simp [hopperlaw12_GreedyGas.l0] at h⟩
 | k + 1 => by
  obtain ⟨ih0, ih1⟩ := hopperlaw12_GreedyGas.mono_l k
  refine ⟨?_, ?_⟩
  · intro y0 y1 y2
    unfold hopperlaw12_GreedyGas.j0
    repeat' first
    | (with_reducible exact ih0 _ _ _)
    | (with_reducible exact ih1 _ _ _)
    | (with_reducible exact greedy_Totals.mono _ _)
    | (with_reducible exact hopperlaw12_live.mono _)
    | (with_reducible exact hopperref05_Check.mono _ _ _ _ _)
    | (with_reducible exact hopperref11_Few.mono _ _ _)
    | (with_reducible exact LeO.refl _)
    | (with_reducible exact LeO.none _)
    | (with_reducible refine LeO.ite ?_ ?_)
    | (with_reducible refine LeO.bind ?_ (fun _ => ?_))
    | exact ih0 _ _ _
    | exact ih1 _ _ _
    | exact greedy_Totals.mono _ _
    | exact hopperlaw12_live.mono _
    | exact hopperref05_Check.mono _ _ _ _ _
    | exact hopperref11_Few.mono _ _ _
    | exact LeO.none _
    | refine LeO.ite ?_ ?_
    | refine LeO.bind ?_ (fun _ => ?_)
  · intro y0 y1 y2
    unfold hopperlaw12_GreedyGas.l0
    repeat' first
    | (with_reducible exact ih0 _ _ _)
    | (with_reducible exact ih1 _ _ _)
    | (with_reducible exact greedy_Totals.mono _ _)
    | (with_reducible exact hopperlaw12_live.mono _)
    | (with_reducible exact hopperref05_Check.mono _ _ _ _ _)
    | (with_reducible exact hopperref11_Few.mono _ _ _)
    | (with_reducible exact LeO.refl _)
    | (with_reducible exact LeO.none _)
    | (with_reducible refine LeO.ite ?_ ?_)
    | (with_reducible refine LeO.bind ?_ (fun _ => ?_))
    | exact ih0 _ _ _
    | exact ih1 _ _ _
    | exact greedy_Totals.mono _ _
    | exact hopperlaw12_live.mono _
    | exact hopperref05_Check.mono _ _ _ _ _
    | exact hopperref11_Few.mono _ _ _
    | exact LeO.none _
    | refine LeO.ite ?_ ?_
    | refine LeO.bind ?_ (fun _ => ?_)
theorem hopperlaw12_GreedyGas.mono : ∀ a0 a1 k, LeO (hopperlaw12_GreedyGas.f k a0 a1) (hopperlaw12_GreedyGas.f (k + 1) a0 a1) := by
 intro a0 a1 k
 obtain ⟨ih0, ih1⟩ := hopperlaw12_GreedyGas.mono_l k
 unfold hopperlaw12_GreedyGas.f
 repeat' first
  | (with_reducible exact ih0 _ _ _)
  | (with_reducible exact ih1 _ _ _)
  | (with_reducible exact greedy_Totals.mono _ _)
  | (with_reducible exact hopperlaw12_live.mono _)
  | (with_reducible exact hopperref05_Check.mono _ _ _ _ _)
  | (with_reducible exact hopperref11_Few.mono _ _ _)
  | (with_reducible exact LeO.refl _)
  | (with_reducible exact LeO.none _)
  | (with_reducible refine LeO.ite ?_ ?_)
  | (with_reducible refine LeO.bind ?_ (fun _ => ?_))
  | exact ih0 _ _ _
  | exact ih1 _ _ _
  | exact greedy_Totals.mono _ _
  | exact hopperlaw12_live.mono _
  | exact hopperref05_Check.mono _ _ _ _ _
  | exact hopperref11_Few.mono _ _ _
  | exact LeO.none _
  | refine LeO.ite ?_ ?_
  | refine LeO.bind ?_ (fun _ => ?_)
set_option maxHeartbeats 8000000 in
set_option maxRecDepth 100000 in
theorem hopperlaw12_GreedyGas.calls (k : Nat) (A0 : Option Addr) (c0 : Nat) (l0 : List (S35)) (a1 : Int) (r : Bool) (w : World) (hr0 : Kd.C k35 w A0 l0.length l0) (hc0 : l0.length ≤ c0) (h : hopperlaw12_GreedyGas.f k l0 a1 = some r) :
 Calls Try.prog 6 #[.slice A0 l0.length c0, .int .i64 a1] w fun e w' => e = .returned (.bool r) ∧ Below w.heap.size w w' := by
 have hu35 := Try.underlying35
 have HR0 := A_ hr0
 have HC0 := A_ hc0
 clear hr0 hc0; have HB := A_ (Below.refl w.heap.size w)
 have H : ((hopperref11_Few.f k l0 20).bind fun t452 => (if t452 = true then (if a1 < 0 then (hopperlaw12_GreedyGas.j0 k l0 a1 true) else (hopperlaw12_GreedyGas.j0 k l0 a1 (decide (a1 > 1099511627776)))) else (hopperlaw12_GreedyGas.j0 k l0 a1 true))) = some r := h
 clear h
 have HC3 := A_ H
 clear H
 go_enter Try.func6, Try.ntmps6
 go_upto_region 1 with (fail)
 go_cut [21] (fun v21 wc => ∃ (kq : Nat) (x21_2 : Bool), v21 = .bool x21_2 ∧ Aside0 (hopperlaw12_GreedyGas.j0 kq l0 a1 x21_2 = some r) ∧ Aside0 (kq ≤ k) ∧ Aside0 (Below w.heap.size w wc))
 case first =>
  have H := HC3.out
  clear HC3
  replace H := Option.bind_eq_some_iff.mp H
  obtain ⟨t452, A40, H⟩ := H
  try dsimp only at H
  have A4 := A_ A40
  clear A40
  by_cases c5 : t452 = true
  rotate_left
  · replace c5 := Bool.eq_false_iff.mpr c5
    subst c5
    have H1 : (hopperlaw12_GreedyGas.j0 k l0 a1 true) = some r := by rw [if_neg (show ¬ (false = true) by decide)] at H; exact H
    clear H
    have H := H1
    clear H1
    have H' := A_ H
    clear H
    go_wp2_with (first | ((with_reducible refine gate_callee (f := 8) rfl ?_); refine goesL_ (some 12) rfl rfl Try.func8 (by kernel_rfl) rfl #[.slice A0 l0.length c0, .int .i64 20] rfl (by (try simp only [m0_, m1_, m2_]); first | done | rfl) ?_; (with_reducible refine (hopperref11_Few.calls k _ _ l0 20 false _ ?side1 ?side2 A4.out).mono ?_); (case side1 => repeat (first | exact (Kd.C_below HR0.out HB.out) | (with_reducible refine ca_ ?_ _) | (with_reducible refine cn_ ?_ _) | (with_reducible refine cd_ ?_))); (case side2 => exact HC0.out); rintro e w9 ⟨rfl, hb⟩; refine ⟨_, rfl, ?_⟩; replace HB := A_ (below_step bw_ hb); (try clear hb); (try clear hb2); (try clear hk); (try clear hi)))
    go_meet
    case rel => exact ⟨_, (true), (by first | rfl | (simp; done) | (simp [*]; done)), H', ⟨by first | omega | exact Nat.le_refl _⟩, ⟨by repeat (first | (with_reducible first | exact HB.out | apply wa_ | apply wn_ | apply wd_) | exact HB.out)⟩⟩
  subst c5
  have H1 : (if a1 < 0 then (hopperlaw12_GreedyGas.j0 k l0 a1 true) else (hopperlaw12_GreedyGas.j0 k l0 a1 (decide (a1 > 1099511627776)))) = some r := by rw [if_pos rfl] at H; exact H
  clear H
  have H := H1
  clear H1
  by_cases c6 : a1 < 0
  · rw [if_pos c6] at H
    have c6b0 : decide (a1 < 0) = true := decide_eq_true c6
    clear c6
    (first | rw [c6b0] | (simp only [i64_w, i32_w]; rw [c6b0]) | skip)
    have H' := A_ H
    clear H
    go_wp2_with (first | ((with_reducible refine gate_callee (f := 8) rfl ?_); refine goesL_ (some 12) rfl rfl Try.func8 (by kernel_rfl) rfl #[.slice A0 l0.length c0, .int .i64 20] rfl (by (try simp only [m0_, m1_, m2_]); first | done | rfl) ?_; (with_reducible refine (hopperref11_Few.calls k _ _ l0 20 true _ ?side1 ?side2 A4.out).mono ?_); (case side1 => repeat (first | exact (Kd.C_below HR0.out HB.out) | (with_reducible refine ca_ ?_ _) | (with_reducible refine cn_ ?_ _) | (with_reducible refine cd_ ?_))); (case side2 => exact HC0.out); rintro e w7 ⟨rfl, hb⟩; refine ⟨_, rfl, ?_⟩; replace HB := A_ (below_step bw_ hb); (try clear hb); (try clear hb2); (try clear hk); (try clear hi)))
    go_meet
    case rel => exact ⟨_, (true), (by first | rfl | (simp; done) | (simp [*]; done)), H', ⟨by first | omega | exact Nat.le_refl _⟩, ⟨by repeat (first | (with_reducible first | exact HB.out | apply wa_ | apply wn_ | apply wd_) | exact HB.out)⟩⟩
  · rw [if_neg c6] at H
    have c6b0 : decide (a1 < 0) = false := decide_eq_false c6
    clear c6
    (first | rw [c6b0] | (simp only [i64_w, i32_w]; rw [c6b0]) | skip)
    have H' := A_ H
    clear H
    go_wp2_with (first | ((with_reducible refine gate_callee (f := 8) rfl ?_); refine goesL_ (some 12) rfl rfl Try.func8 (by kernel_rfl) rfl #[.slice A0 l0.length c0, .int .i64 20] rfl (by (try simp only [m0_, m1_, m2_]); first | done | rfl) ?_; (with_reducible refine (hopperref11_Few.calls k _ _ l0 20 true _ ?side1 ?side2 A4.out).mono ?_); (case side1 => repeat (first | exact (Kd.C_below HR0.out HB.out) | (with_reducible refine ca_ ?_ _) | (with_reducible refine cn_ ?_ _) | (with_reducible refine cd_ ?_))); (case side2 => exact HC0.out); rintro e w8 ⟨rfl, hb⟩; refine ⟨_, rfl, ?_⟩; replace HB := A_ (below_step bw_ hb); (try clear hb); (try clear hb2); (try clear hk); (try clear hi)))
    go_meet
    case rel => exact ⟨_, (decide (a1 > 1099511627776)), (by first | rfl | (simp; done) | (simp [*]; done)), H', ⟨by first | omega | exact Nat.le_refl _⟩, ⟨by repeat (first | (with_reducible first | exact HB.out | apply wa_ | apply wn_ | apply wd_) | exact HB.out)⟩⟩
 case rest =>
  clear HC3; (try clear p2); (try clear c5); (try clear c6); (try clear c6b0); (try clear c8)
  obtain ⟨kq, x21_2, rfl, HA, HJ2, HB⟩ := hcut
  cases kq with
  | zero => exact absurd HA.out (by simp [hopperlaw12_GreedyGas.j0])
  | succ kj2 =>
   have H := HA.out
   clear HA
   simp only [hopperlaw12_GreedyGas.j0] at H
   by_cases c10 : x21_2 = true
   · subst c10
     have H1 : ((hopperlaw12_live.f kj2).bind fun t453 => (some t453)) = some r := by rw [if_pos rfl] at H; exact H
     clear H
     have H := H1
     clear H1
     replace H := Option.bind_eq_some_iff.mp H
     obtain ⟨t453, A110, H⟩ := H
     replace H : (some t453) = some r := H
     have A11 := A_ A110
     clear A110
     obtain rfl := Option.some.inj H
     go_wp2_with (first | ((with_reducible refine gate_callee (f := 10) rfl ?_); refine goesL_ (some 22) rfl rfl Try.func10 (by kernel_rfl) rfl #[] rfl (by (try simp only [m0_, m1_, m2_]); first | done | rfl) ?_; (with_reducible refine (hopperlaw12_live.calls kj2  t453 _ A11.out).mono ?_); rintro e w12 ⟨rfl, hb⟩; refine ⟨_, rfl, ?_⟩; replace HB := A_ (below_step bw_ hb); (try clear hb); (try clear hb2); (try clear hk); (try clear hi)))
     go_ret
     exact ⟨by first | rfl | (simp [errW_none, errW_some] <;> rfl) | (simp [*, errW_none, errW_some] <;> rfl), by repeat (first | (with_reducible first | exact HB.out | apply wa_ | apply wn_ | apply wd_) | exact HB.out)⟩
   · replace c10 := Bool.eq_false_iff.mpr c10
     subst c10
     have H1 : (hopperlaw12_GreedyGas.l0 kj2 l0 a1 0) = some r := by rw [if_neg (show ¬ (false = true) by decide)] at H; exact H
     clear H
     have H := H1
     clear H1
     have H' := A_ H
     clear H
     go_wp2
     go_loopg [5] kj2 (fun kq v5 w' => ∃ (x5_2 : Int), v5 = .int .i64 x5_2 ∧ Aside0 (hopperlaw12_GreedyGas.l0 kq l0 a1 x5_2 = some r) ∧ Aside0 (kq ≤ kj2) ∧ Aside0 (Below w.heap.size w w'))
     case atStart => exact ⟨(0), (by first | rfl | (simp; done) | (simp [*]; done)), H', ⟨Nat.le_refl _⟩, ⟨by repeat (first | (with_reducible first | exact HB.out | apply wa_ | apply wn_ | apply wd_) | exact HB.out)⟩⟩
     case round =>
      clear H'; (try clear c1); (try clear p2); (try clear c5); (try clear c6); (try clear c6b0); (try clear c8); (try clear c10); (try clear p2)
      obtain ⟨x5_2, rfl, HA, HK2, HB⟩ := hrel
      cases gk with
      | zero => exact absurd HA.out (by simp [hopperlaw12_GreedyGas.l0])
      | succ k2 =>
       have H := HA.out
       clear HA
       simp only [hopperlaw12_GreedyGas.l0] at H
       by_cases c13 : x5_2 < (l0.length : Int)
       · rw [if_pos c13] at H
         have c13b0 : decide (x5_2 < (l0.length : Int)) = true := decide_eq_true c13
         clear c13
         by_cases c14 : 0 ≤ x5_2
         rotate_left
         · rw [if_neg c14] at H
           exact absurd H (by simp)
         rw [if_pos c14] at H
         have c14b0 : decide (0 ≤ x5_2) = true := decide_eq_true c14
         clear c14
         replace H := Option.bind_eq_some_iff.mp H
         obtain ⟨t455, A150, H⟩ := H
         try dsimp only at H
         have A15 := A_ A150
         clear A150
         by_cases c16 : t455 = true
         · subst c16
           have H1 : (hopperlaw12_GreedyGas.l0 k2 l0 a1 (wrap64 (x5_2 + 1))) = some r := by rw [if_pos rfl] at H; exact H
           clear H
           have H := H1
           clear H1
           have H' := A_ H
           clear H
           have p454 : 0 ≤ (x5_2 : Int) := of_decide_eq_true (by first | (with_reducible assumption) | assumption)
           have q454 : x5_2 < (l0.length : Int) := of_decide_eq_true (by first | (with_reducible assumption) | assumption)
           obtain ⟨ad454, A454_2, c454_2, e454, hx454_0, hx454_1, hx454_2, hl454_2, hi454_2⟩ := at_T35 HR0.out x5_2 p454 q454
           cases e454
           replace hx454_0 := on_ HB.out hx454_0
           replace hx454_1 := on_ HB.out hx454_1
           replace hx454_2 := on_ HB.out hx454_2
           have HR454_2 := A_ hi454_2
           have HC454_2 := A_ hl454_2
           clear hi454_2 hl454_2
           replace p454 := eq_true p454
           replace q454 := eq_true q454
           go_wp2_with (first | ((with_reducible refine gate_callee (f := 20) rfl ?_); refine goesL_ (some 33) rfl rfl Try.func20 (by kernel_rfl) rfl #[.agg #[.int .i64 ((rd_T35 l0 x5_2).f0), .int .i64 ((rd_T35 l0 x5_2).f1), .slice A454_2 ((rd_T35 l0 x5_2).f2).length c454_2], .int .i64 16] rfl (by (try simp only [m0_, m1_, m2_]); first | done | rfl) ?_; (with_reducible refine (hopperref05_Check.calls k2 ((rd_T35 l0 x5_2).f0) ((rd_T35 l0 x5_2).f1) _ _ ((rd_T35 l0 x5_2).f2) 16 true _ ?side1 ?side2 A15.out).mono ?_); (case side1 => repeat (first | exact (Kd.C_below HR454_2.out HB.out) | (with_reducible refine ca_ ?_ _) | (with_reducible refine cn_ ?_ _) | (with_reducible refine cd_ ?_))); (case side2 => exact HC454_2.out); rintro e w17 ⟨rfl, hb⟩; refine ⟨_, rfl, ?_⟩; replace HB := A_ (below_step bw_ hb); (try clear hb); (try clear hb2); (try clear hk); (try clear hi)))
           go_roundg k2
           case measure => have := HJ2.out; have := HK2.out; omega
           case rel => exact ⟨(wrap64 (x5_2 + 1)), (by first | rfl | (simp; done) | (simp [*]; done)), H', ⟨by have := HJ2.out; have := HK2.out; omega⟩, ⟨by repeat (first | (with_reducible first | exact HB.out | apply wa_ | apply wn_ | apply wd_) | exact HB.out)⟩⟩
         · replace c16 := Bool.eq_false_iff.mpr c16
           subst c16
           have H1 : ((hopperlaw12_live.f k2).bind fun t456 => (some t456)) = some r := by rw [if_neg (show ¬ (false = true) by decide)] at H; exact H
           clear H
           have H := H1
           clear H1
           replace H := Option.bind_eq_some_iff.mp H
           obtain ⟨t456, A180, H⟩ := H
           replace H : (some t456) = some r := H
           have A18 := A_ A180
           clear A180
           obtain rfl := Option.some.inj H
           have p454 : 0 ≤ (x5_2 : Int) := of_decide_eq_true (by first | (with_reducible assumption) | assumption)
           have q454 : x5_2 < (l0.length : Int) := of_decide_eq_true (by first | (with_reducible assumption) | assumption)
           obtain ⟨ad454, A454_2, c454_2, e454, hx454_0, hx454_1, hx454_2, hl454_2, hi454_2⟩ := at_T35 HR0.out x5_2 p454 q454
           cases e454
           replace hx454_0 := on_ HB.out hx454_0
           replace hx454_1 := on_ HB.out hx454_1
           replace hx454_2 := on_ HB.out hx454_2
           have HR454_2 := A_ hi454_2
           have HC454_2 := A_ hl454_2
           clear hi454_2 hl454_2
           replace p454 := eq_true p454
           replace q454 := eq_true q454
           go_wp2_with (first | ((with_reducible refine gate_callee (f := 20) rfl ?_); refine goesL_ (some 33) rfl rfl Try.func20 (by kernel_rfl) rfl #[.agg #[.int .i64 ((rd_T35 l0 x5_2).f0), .int .i64 ((rd_T35 l0 x5_2).f1), .slice A454_2 ((rd_T35 l0 x5_2).f2).length c454_2], .int .i64 16] rfl (by (try simp only [m0_, m1_, m2_]); first | done | rfl) ?_; (with_reducible refine (hopperref05_Check.calls k2 ((rd_T35 l0 x5_2).f0) ((rd_T35 l0 x5_2).f1) _ _ ((rd_T35 l0 x5_2).f2) 16 false _ ?side1 ?side2 A15.out).mono ?_); (case side1 => repeat (first | exact (Kd.C_below HR454_2.out HB.out) | (with_reducible refine ca_ ?_ _) | (with_reducible refine cn_ ?_ _) | (with_reducible refine cd_ ?_))); (case side2 => exact HC454_2.out); rintro e w19 ⟨rfl, hb⟩; refine ⟨_, rfl, ?_⟩; replace HB := A_ (below_step bw_ hb); (try clear hb); (try clear hb2); (try clear hk); (try clear hi)) | ((with_reducible refine gate_callee (f := 10) rfl ?_); refine goesL_ (some 35) rfl rfl Try.func10 (by kernel_rfl) rfl #[] rfl (by (try simp only [m0_, m1_, m2_]); first | done | rfl) ?_; (with_reducible refine (hopperlaw12_live.calls k2  t456 _ A18.out).mono ?_); rintro e w20 ⟨rfl, hb⟩; refine ⟨_, rfl, ?_⟩; replace HB := A_ (below_step bw_ hb); (try clear hb); (try clear hb2); (try clear hk); (try clear hi)))
           go_ret
           exact ⟨by first | rfl | (simp [errW_none, errW_some] <;> rfl) | (simp [*, errW_none, errW_some] <;> rfl), by repeat (first | (with_reducible first | exact HB.out | apply wa_ | apply wn_ | apply wd_) | exact HB.out)⟩
       · rw [if_neg c13] at H
         have c13b0 : decide (x5_2 < (l0.length : Int)) = false := decide_eq_false c13
         clear c13
         replace H := Option.bind_eq_some_iff.mp H
         obtain ⟨t457, A210, H⟩ := H
         try dsimp only at H
         have A21 := A_ A210
         clear A210
         replace H := Option.bind_eq_some_iff.mp H
         obtain ⟨⟨t460, t461⟩, A220, H⟩ := H
         try dsimp only at H
         have A22 := A_ A220
         clear A220
         replace H := Option.bind_eq_some_iff.mp H
         obtain ⟨⟨t462, t463⟩, A230, H⟩ := H
         try dsimp only at H
         have A23 := A_ A230
         clear A230
         replace H := Option.bind_eq_some_iff.mp H
         obtain ⟨t464, A240, H⟩ := H
         try dsimp only at H
         have A24 := A_ A240
         clear A240
         by_cases c25 : (t464.length : Int) = 0
         rotate_left
         · rw [if_neg c25] at H
           exact absurd H (by simp)

         rw [if_pos c25] at H
         have c25b0 : ((t464.length : Int) == 0) = true := beq_iff_eq.mpr c25
         have c25b1 : ((t464.length : Int) != 0) = false := bne_eq_false_iff_eq.mpr c25
         clear c25
         by_cases c26 : t461 ≤ a1
         rotate_left
         · rw [if_neg c26] at H
           exact absurd H (by simp)
         rw [if_pos c26] at H
         have c26b0 : decide (t461 ≤ a1) = true := decide_eq_true c26
         clear c26
         by_cases c27 : t463 = 0
         rotate_left
         · rw [if_neg c27] at H
           exact absurd H (by simp)
         rw [if_pos c27] at H
         have c27b0 : (t463 == 0) = true := beq_iff_eq.mpr c27
         have c27b1 : (t463 != 0) = false := bne_eq_false_iff_eq.mpr c27
         clear c27
         by_cases c28 : (t457.length : Int) ≤ 1000
         rotate_left
         · rw [if_neg c28] at H
           exact absurd H (by simp)
         rw [if_pos c28] at H
         have c28b0 : decide ((t457.length : Int) ≤ 1000) = true := decide_eq_true c28
         have c28b1 : decide (t457.length ≤ 1000) = true := decide_eq_true (by omega)
         clear c28
         replace H := Option.bind_eq_some_iff.mp H
         obtain ⟨t467, A290, H⟩ := H
         replace H : (some t467) = some r := H
         have A29 := A_ A290
         clear A290
         obtain rfl := Option.some.inj H
         go_wp2_with (first | ((with_reducible refine gate_callee (f := 16) rfl ?_); refine goesL_ (some 38) rfl rfl Try.func16 (by kernel_rfl) rfl #[.slice A0 l0.length c0, .int .i64 a1] rfl (by (try simp only [m0_, m1_, m2_]); first | done | rfl) ?_; (with_reducible refine (greedy_Template.calls _ _ l0 a1 t457 _ ?side1 ?side2 A21.out).mono ?_); (case side1 => repeat (first | exact (Kd.C_below HR0.out HB.out) | (with_reducible refine ca_ ?_ _) | (with_reducible refine cn_ ?_ _) | (with_reducible refine cd_ ?_))); (case side2 => exact HC0.out); rintro e w30 ⟨v458, rfl, ho0, hb⟩; refine ⟨_, rfl, ?_⟩; have HO459 := A_ (Kd.R_lower ho0 (below_size bw_)); replace HB := A_ (below_step bw_ hb); (try clear hb); (try clear hb2); (try clear hk); (try clear hi); (try clear ho0); obtain ⟨Ao31, co31, eo31⟩ := Kd.R_slice HO459.out; subst eo31) | ((with_reducible refine gate_callee (f := 11) rfl ?_); refine goesL_ (some 41) rfl rfl Try.func11 (by kernel_rfl) rfl #[.slice Ao31 t457.length co31] rfl (by (try simp only [m0_, m1_, m2_]); first | done | rfl) ?_; (with_reducible refine (greedy_Totals.calls k2 _ _ t457 t460 t461 _ ?side1 ?side2 A22.out).mono ?_); (case side1 => repeat (first | exact (Kd.R_reads' HO459.out).2.2 | (with_reducible refine ca_ ?_ _) | (with_reducible refine cn_ ?_ _) | (with_reducible refine cd_ ?_))); (case side2 => exact (Kd.R_reads' HO459.out).2.1); rintro e w32 ⟨rfl, hb⟩; refine ⟨_, rfl, ?_⟩; replace HO459 := A_ (Kd.R_below (pr_ HO459.out) hb); replace HB := A_ (below_step bw_ hb); (try clear hb); (try clear hb2); (try clear hk); (try clear hi)) | ((with_reducible refine gate_callee (f := 11) rfl ?_); refine goesL_ (some 45) rfl rfl Try.func11 (by kernel_rfl) rfl #[.slice none 0 0] rfl (by (try simp only [m0_, m1_, m2_]); first | done | rfl) ?_; (refine (greedy_Totals.calls k2 _ _ ([] : List (S38)) t462 t463 _ ?side1 ?side2 A23.out).mono ?_); (case side1 => exact Kd.C_nil _ _); (case side2 => exact Nat.le_refl _); rintro e w33 ⟨rfl, hb⟩; refine ⟨_, rfl, ?_⟩; replace HO459 := A_ (Kd.R_below (pr_ HO459.out) hb); replace HB := A_ (below_step bw_ hb); (try clear hb); (try clear hb2); (try clear hk); (try clear hi)) | ((with_reducible refine gate_callee (f := 16) rfl ?_); refine goesL_ (some 49) rfl rfl Try.func16 (by kernel_rfl) rfl #[.slice A0 l0.length c0, .int .i64 0] rfl (by (try simp only [m0_, m1_, m2_]); first | done | rfl) ?_; (with_reducible refine (greedy_Template.calls _ _ l0 0 t464 _ ?side1 ?side2 A24.out).mono ?_); (case side1 => repeat (first | exact (Kd.C_below HR0.out HB.out) | (with_reducible refine ca_ ?_ _) | (with_reducible refine cn_ ?_ _) | (with_reducible refine cd_ ?_))); (case side2 => exact HC0.out); rintro e w34 ⟨v465, rfl, ho0, hb⟩; refine ⟨_, rfl, ?_⟩; have n0_ := A_ (Kd.R_elder' (pr_ HO459.out) (Kd.R_base ho0) hb); have n1_ := A_ (Kd.R_lower (Kd.R_new' ho0 (Kd.R_lt (pr_ HO459.out))) (below_size bw_)); have n2_ := A_ (below_step bw_ hb); replace HO459 := n0_; have HO466 := n1_; replace HB := n2_; clear n0_ n1_ n2_; (try clear hb); (try clear hb2); (try clear hk); (try clear hi); (try clear ho0); obtain ⟨Ao35, co35, eo35⟩ := Kd.R_slice HO466.out; subst eo35) | (go_at_call 10; (with_reducible refine (hopperlaw12_live.calls k2  t467 _ A29.out).mono ?_); rintro e w36 ⟨rfl, hb⟩; replace HO459 := A_ (Kd.R_below (pr_ HO459.out) hb); replace HO466 := A_ (Kd.R_below (pr_ HO466.out) hb); replace HB := A_ (below_step bw_ hb); (try clear hb); (try clear hb2); (try clear hk); (try clear hi)))
         go_ret
         exact ⟨by first | rfl | (simp [errW_none, errW_some] <;> rfl) | (simp [*, errW_none, errW_some] <;> rfl), by repeat (first | (with_reducible first | exact HB.out | apply wa_ | apply wn_ | apply wd_) | exact HB.out)⟩
open Go.Proofs.Ytahopljippfadaa.Row (okI okB okS okL) in
/-- THE ONE PURE STATEMENT of hopperlaw12_GreedyGas. -/
def hopperlaw12_GreedyGas.Pure : Prop := ∀ (l0 : List (S35)) (a1 : Int), (okL ok35) l0 → (okI .i64) a1 → ∃ k, hopperlaw12_GreedyGas.f k l0 a1 = some true

end Go.Proofs.Ytahopljippfadaa.D
