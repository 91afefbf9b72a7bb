/- Written by this session's own program over the kit's print: functions of Go told as plain functions, or the row of one statement; proved for every input, with no condition of ours. -/
import Derived.Test.YtnjnogkhbadioaaDx0
import Derived.Test.YtnjnogkhbadioaaDx2
import Derived.Test.YtnjnogkhbadioaaDx7
import Derived.Test.YtnjnogkhbadioaaDx10
import Derived.Test.YtnjnogkhbadioaaDx16
namespace Go.Proofs.Ytnjnogkhbadioaa.D
open Go.RowKit Go.Proofs.YtnjnogkhbadioaaW.PrintWords Go.Proofs.YtnjnogkhbadioaaW.PrintLast Go.Proofs.YtnjnogkhbadioaaW.PrintMore
attribute [local go_sem] max2_int min2_int max_two min_two max_three min_three max_four min_four   -- for this text's walks alone
set_option linter.unusedVariables false
set_option linter.unusedSimpArgs false

/-! ### hopperlaw11_ShardSlots: function 6 -/
mutual
def hopperlaw11_ShardSlots.l0 : Nat → List (S26) → Int → Int → Int → Option (Bool)
 | 0, _, _, _, _ => none
 | k + 1, x0, x3, x4, x5 => if x5 < (x0.length : Int) then (if 0 ≤ x5 then ((hopperref11_Few.f k ((rd_T26 x0 x5).f0) 20).bind fun t379 => (if t379 = true then (hopperlaw11_ShardSlots.j1 k x0 x3 x4 x5 (decide ((x0.length : Int) > 8))) else (hopperlaw11_ShardSlots.j1 k x0 x3 x4 x5 true))) else (none)) else ((hopperlaw11_Own.f k x0).bind fun t384 => ((shard_Join.f t384).bind fun t387 => (hopperlaw11_ShardSlots.l1 k x3 x4 t387 1)))
def hopperlaw11_ShardSlots.j1 : Nat → List (S26) → Int → Int → Int → Bool → Option (Bool)
 | 0, _, _, _, _, _ => none
 | k + 1, x0, x3, x4, x5, x25 => if x25 = true then ((hopperlaw11_live.f).bind fun t380 => (some t380)) else (if 0 ≤ x5 then (if x5 < (x0.length : Int) then ((shard_Slots.f k ((rd_T26 x0 x5).f0) ((rd_T26 x0 x5).f1)).bind fun t382 => (hopperlaw11_ShardSlots.l0 k x0 (wrap64 (x3 + t382)) (wrap64 (x4 + (((rd_T26 x0 x5).f0).length : Int))) (wrap64 (x5 + 1)))) else (none)) else (none))
def hopperlaw11_ShardSlots.l1 : Nat → Int → Int → List (S46) → Int → Option (Bool)
 | 0, _, _, _, _ => none
 | k + 1, x3, x4, x6, x7 => if x7 < (x6.length : Int) then (if 0 ≤ (wrap64 (x7 - 1)) then (if (wrap64 (x7 - 1)) < (x6.length : Int) then (if 0 ≤ x7 then (if ((rd_T46 x6 (wrap64 (x7 - 1))).f0) > ((rd_T46 x6 x7).f0) then (none) else (hopperlaw11_ShardSlots.l1 k x3 x4 x6 (wrap64 (x7 + 1)))) else (none)) else (none)) else (none)) else (if (x6.length : Int) = x4 then ((shard_Slots.f k x6 0).bind fun t392 => (if t392 = x3 then ((hopperlaw11_live.f).bind fun t393 => (some t393)) else (none))) else (none))
end
def hopperlaw11_ShardSlots.f (k : Nat) (l0 : List (S26)) : Option (Bool) := hopperlaw11_ShardSlots.l0 k l0 0 0 0
theorem hopperlaw11_ShardSlots.mono_l : ∀ k, (∀ y0 y1 y2 y3, LeO (hopperlaw11_ShardSlots.l0 k y0 y1 y2 y3) (hopperlaw11_ShardSlots.l0 (k + 1) y0 y1 y2 y3)) ∧ (∀ y0 y1 y2 y3 y4, LeO (hopperlaw11_ShardSlots.j1 k y0 y1 y2 y3 y4) (hopperlaw11_ShardSlots.j1 (k + 1) y0 y1 y2 y3 y4)) ∧ (∀ y0 y1 y2 y3, LeO (hopperlaw11_ShardSlots.l1 k y0 y1 y2 y3) (hopperlaw11_ShardSlots.l1 (k + 1) y0 y1 y2 y3))
 | 0 => ⟨fun _ _ _ _ r h => by simp [hopperlaw11_ShardSlots.l0] at h, fun _ _ _ _ _ r h => by simp [hopperlaw11_ShardSlots.j1] at h, fun _ _ _ _ r h => by simp [hopperlaw11_ShardSlots.l1] at h⟩
 | k + 1 => by
  obtain ⟨ih0, ih1, ih2⟩ := hopperlaw11_ShardSlots.mono_l k
  refine ⟨?_, ?_, ?_⟩
  · intro y0 y1 y2 y3
    unfold hopperlaw11_ShardSlots.l0
    repeat' first
    | (with_reducible exact ih0 _ _ _ _)
    | (with_reducible exact ih1 _ _ _ _ _)
    | (with_reducible exact ih2 _ _ _ _)
    | (with_reducible exact hopperlaw11_Own.mono _ _)
    | (with_reducible exact hopperref11_Few.mono _ _ _)
    | (with_reducible exact shard_Slots.mono _ _ _)
    | (with_reducible exact LeO.refl _)
    | (with_reducible exact LeO.none _)
    | (with_reducible refine LeO.ite ?_ ?_)
    | (with_reducible refine LeO.bind ?_ (fun _ => ?_))
    | exact ih0 _ _ _ _
    | exact ih1 _ _ _ _ _
    | exact ih2 _ _ _ _
    | exact hopperlaw11_Own.mono _ _
    | exact hopperref11_Few.mono _ _ _
    | exact shard_Slots.mono _ _ _
    | exact LeO.none _
    | refine LeO.ite ?_ ?_
    | refine LeO.bind ?_ (fun _ => ?_)
  · intro y0 y1 y2 y3 y4
    unfold hopperlaw11_ShardSlots.j1
    repeat' first
    | (with_reducible exact ih0 _ _ _ _)
    | (with_reducible exact ih1 _ _ _ _ _)
    | (with_reducible exact ih2 _ _ _ _)
    | (with_reducible exact hopperlaw11_Own.mono _ _)
    | (with_reducible exact hopperref11_Few.mono _ _ _)
    | (with_reducible exact shard_Slots.mono _ _ _)
    | (with_reducible exact LeO.refl _)
    | (with_reducible exact LeO.none _)
    | (with_reducible refine LeO.ite ?_ ?_)
    | (with_reducible refine LeO.bind ?_ (fun _ => ?_))
    | exact ih0 _ _ _ _
    | exact ih1 _ _ _ _ _
    | exact ih2 _ _ _ _
    | exact hopperlaw11_Own.mono _ _
    | exact hopperref11_Few.mono _ _ _
    | exact shard_Slots.mono _ _ _
    | exact LeO.none _
    | refine LeO.ite ?_ ?_
    | refine LeO.bind ?_ (fun _ => ?_)
  · intro y0 y1 y2 y3
    unfold hopperlaw11_ShardSlots.l1
    repeat' first
    | (with_reducible exact ih0 _ _ _ _)
    | (with_reducible exact ih1 _ _ _ _ _)
    | (with_reducible exact ih2 _ _ _ _)
    | (with_reducible exact hopperlaw11_Own.mono _ _)
    | (with_reducible exact hopperref11_Few.mono _ _ _)
    | (with_reducible exact shard_Slots.mono _ _ _)
    | (with_reducible exact LeO.refl _)
    | (with_reducible exact LeO.none _)
    | (with_reducible refine LeO.ite ?_ ?_)
    | (with_reducible refine LeO.bind ?_ (fun _ => ?_))
    | exact ih0 _ _ _ _
    | exact ih1 _ _ _ _ _
    | exact ih2 _ _ _ _
    | exact hopperlaw11_Own.mono _ _
    | exact hopperref11_Few.mono _ _ _
    | exact shard_Slots.mono _ _ _
    | exact LeO.none _
    | refine LeO.ite ?_ ?_
    | refine LeO.bind ?_ (fun _ => ?_)
theorem hopperlaw11_ShardSlots.mono : ∀ a0 k, LeO (hopperlaw11_ShardSlots.f k a0) (hopperlaw11_ShardSlots.f (k + 1) a0) := by
 intro a0 k
 obtain ⟨ih0, ih1, ih2⟩ := hopperlaw11_ShardSlots.mono_l k
 unfold hopperlaw11_ShardSlots.f
 repeat' first
  | (with_reducible exact ih0 _ _ _ _)
  | (with_reducible exact ih1 _ _ _ _ _)
  | (with_reducible exact ih2 _ _ _ _)
  | (with_reducible exact hopperlaw11_Own.mono _ _)
  | (with_reducible exact hopperref11_Few.mono _ _ _)
  | (with_reducible exact shard_Slots.mono _ _ _)
  | (with_reducible exact LeO.refl _)
  | (with_reducible exact LeO.none _)
  | (with_reducible refine LeO.ite ?_ ?_)
  | (with_reducible refine LeO.bind ?_ (fun _ => ?_))
  | exact ih0 _ _ _ _
  | exact ih1 _ _ _ _ _
  | exact ih2 _ _ _ _
  | exact hopperlaw11_Own.mono _ _
  | exact hopperref11_Few.mono _ _ _
  | exact shard_Slots.mono _ _ _
  | exact LeO.none _
  | refine LeO.ite ?_ ?_
  | refine LeO.bind ?_ (fun _ => ?_)
set_option maxHeartbeats 8000000 in
set_option maxRecDepth 100000 in
theorem hopperlaw11_ShardSlots.calls (k : Nat) (A0 : Option Addr) (c0 : Nat) (l0 : List (S26)) (r : Bool) (w : World) (hr0 : Kd.C k26 w A0 l0.length l0) (hc0 : l0.length ≤ c0) (h : hopperlaw11_ShardSlots.f k l0 = some r) :
 Calls Try.prog 6 #[.slice A0 l0.length c0] w fun e w' => e = .returned (.bool r) ∧ Below w.heap.size w w' := by
 have hu26 := Try.underlying26
 have hu48 := Try.underlying48
 have HR0 := A_ hr0
 have HC0 := A_ hc0
 clear hr0 hc0; have HB := A_ (Below.refl w.heap.size w)
 have H : (hopperlaw11_ShardSlots.l0 k l0 0 0 0) = some r := h
 clear h
 have H' := A_ H
 clear H
 go_enter Try.func6, Try.ntmps6
 go_wp2
 repeat (go_quiet (fail); try go_wp2)
 go_loopg [3, 4, 5] k (fun kq v3 v4 v5 w' => ∃ (x3_1 : Int) (x4_1 : Int) (x5_1 : Int), v3 = .int .i64 x3_1 ∧ v4 = .int .i64 x4_1 ∧ v5 = .int .i64 x5_1 ∧ Aside0 (hopperlaw11_ShardSlots.l0 kq l0 x3_1 x4_1 x5_1 = some r) ∧ Aside0 (kq ≤ k) ∧ Aside0 (Below w.heap.size w w'))
 case atStart => exact ⟨(0), (0), (0), (by first | rfl | (simp; done) | (simp [*]; done)), (by first | rfl | (simp; done) | (simp [*]; done)), (by first | rfl | (simp; done) | (simp [*]; done)), H', ⟨Nat.le_refl _⟩, ⟨by repeat (first | (with_reducible first | exact HB.out | apply wa_ | apply wn_ | apply wd_) | exact HB.out)⟩⟩
 case round =>
  clear H'
  obtain ⟨x3_1, x4_1, x5_1, rfl, rfl, rfl, HA, HK1, HB⟩ := hrel
  cases gk with
  | zero => exact absurd HA.out (by simp [hopperlaw11_ShardSlots.l0])
  | succ k1 =>
   have H := HA.out
   clear HA
   simp only [hopperlaw11_ShardSlots.l0] at H
   by_cases c2 : x5_1 < (l0.length : Int)
   · rw [if_pos c2] at H
     have c2b0 : decide (x5_1 < (l0.length : Int)) = true := decide_eq_true c2
     clear c2
     have HC3 := A_ H
     clear H
     go_upto_region 6 with (fail)
     repeat (go_quiet (fail); go_upto_region 6 with (fail))
     go_cut [25] (fun v25 wc => ∃ (kq : Nat) (x25_2 : Bool), v25 = .bool x25_2 ∧ Aside0 (hopperlaw11_ShardSlots.j1 kq l0 x3_1 x4_1 x5_1 x25_2 = some r) ∧ Aside0 (kq ≤ k1) ∧ Aside0 (Below w.heap.size w wc))
     case first =>
      have H := HC3.out
      clear HC3
      by_cases c4 : 0 ≤ x5_1
      rotate_left
      · rw [if_neg c4] at H
        exact absurd H (by simp)
      rw [if_pos c4] at H
      have c4b0 : decide (0 ≤ x5_1) = true := decide_eq_true c4
      clear c4
      (first | rw [c4b0] | (simp only [i64_w, i32_w]; rw [c4b0]) | skip)
      replace H := Option.bind_eq_some_iff.mp H
      obtain ⟨t379, A50, H⟩ := H
      try dsimp only at H
      have A5 := A_ A50
      clear A50
      by_cases c6 : t379 = true
      · subst c6
        have H1 : (hopperlaw11_ShardSlots.j1 k1 l0 x3_1 x4_1 x5_1 (decide ((l0.length : Int) > 8))) = some r := by rw [if_pos rfl] at H; exact H
        clear H
        have H := H1
        clear H1
        have H' := A_ H
        clear H
        have p378 : 0 ≤ (x5_1 : Int) := of_decide_eq_true (by first | (with_reducible assumption) | assumption)
        have q378 : x5_1 < (l0.length : Int) := of_decide_eq_true (by first | (with_reducible assumption) | assumption)
        obtain ⟨ad378, A378_0, c378_0, e378, hx378_0, hx378_1, hl378_0, hi378_0⟩ := at_T26 HR0.out x5_1 p378 q378
        cases e378
        replace hx378_0 := on_ HB.out hx378_0
        replace hx378_1 := on_ HB.out hx378_1
        have HR378_0 := A_ hi378_0
        have HC378_0 := A_ hl378_0
        clear hi378_0 hl378_0
        replace p378 := eq_true p378
        replace q378 := eq_true q378
        go_wp2_with (first | (go_at_call 7; (with_reducible refine (hopperref11_Few.calls k1 _ _ ((rd_T26 l0 x5_1).f0) 20 true _ ?side1 ?side2 A5.out).mono ?_); (case side1 => repeat (first | exact (Kd.C_below HR378_0.out HB.out) | (with_reducible refine ca_ ?_ _) | (with_reducible refine cn_ ?_ _) | (with_reducible refine cd_ ?_))); (case side2 => exact HC378_0.out); rintro e w7 ⟨rfl, hb⟩; replace HB := A_ (below_step bw_ hb); (try clear hb); (try clear hb2); (try clear hk); (try clear hi)))
        repeat (go_quiet (first | (go_at_call 7; (with_reducible refine (hopperref11_Few.calls k1 _ _ ((rd_T26 l0 x5_1).f0) 20 true _ ?side1 ?side2 A5.out).mono ?_); (case side1 => repeat (first | exact (Kd.C_below HR378_0.out HB.out) | (with_reducible refine ca_ ?_ _) | (with_reducible refine cn_ ?_ _) | (with_reducible refine cd_ ?_))); (case side2 => exact HC378_0.out); rintro e w7 ⟨rfl, hb⟩; replace HB := A_ (below_step bw_ hb); (try clear hb); (try clear hb2); (try clear hk); (try clear hi))); try go_wp2_with (first | (go_at_call 7; (with_reducible refine (hopperref11_Few.calls k1 _ _ ((rd_T26 l0 x5_1).f0) 20 true _ ?side1 ?side2 A5.out).mono ?_); (case side1 => repeat (first | exact (Kd.C_below HR378_0.out HB.out) | (with_reducible refine ca_ ?_ _) | (with_reducible refine cn_ ?_ _) | (with_reducible refine cd_ ?_))); (case side2 => exact HC378_0.out); rintro e w7 ⟨rfl, hb⟩; replace HB := A_ (below_step bw_ hb); (try clear hb); (try clear hb2); (try clear hk); (try clear hi))))
        go_meet
        case rel => exact ⟨_, (decide ((l0.length : Int) > 8)), (by first | rfl | (simp; done) | (simp [*]; done)), H', ⟨by have := HK1.out; first | omega | exact Nat.le_refl _⟩, ⟨by repeat (first | (with_reducible first | exact HB.out | apply wa_ | apply wn_ | apply wd_) | exact HB.out)⟩⟩
      · replace c6 := Bool.eq_false_iff.mpr c6
        subst c6
        have H1 : (hopperlaw11_ShardSlots.j1 k1 l0 x3_1 x4_1 x5_1 true) = some r := by rw [if_neg (show ¬ (false = true) by decide)] at H; exact H
        clear H
        have H := H1
        clear H1
        have H' := A_ H
        clear H
        have p378 : 0 ≤ (x5_1 : Int) := of_decide_eq_true (by first | (with_reducible assumption) | assumption)
        have q378 : x5_1 < (l0.length : Int) := of_decide_eq_true (by first | (with_reducible assumption) | assumption)
        obtain ⟨ad378, A378_0, c378_0, e378, hx378_0, hx378_1, hl378_0, hi378_0⟩ := at_T26 HR0.out x5_1 p378 q378
        cases e378
        replace hx378_0 := on_ HB.out hx378_0
        replace hx378_1 := on_ HB.out hx378_1
        have HR378_0 := A_ hi378_0
        have HC378_0 := A_ hl378_0
        clear hi378_0 hl378_0
        replace p378 := eq_true p378
        replace q378 := eq_true q378
        go_wp2_with (first | (go_at_call 7; (with_reducible refine (hopperref11_Few.calls k1 _ _ ((rd_T26 l0 x5_1).f0) 20 false _ ?side1 ?side2 A5.out).mono ?_); (case side1 => repeat (first | exact (Kd.C_below HR378_0.out HB.out) | (with_reducible refine ca_ ?_ _) | (with_reducible refine cn_ ?_ _) | (with_reducible refine cd_ ?_))); (case side2 => exact HC378_0.out); rintro e w8 ⟨rfl, hb⟩; replace HB := A_ (below_step bw_ hb); (try clear hb); (try clear hb2); (try clear hk); (try clear hi)))
        repeat (go_quiet (first | (go_at_call 7; (with_reducible refine (hopperref11_Few.calls k1 _ _ ((rd_T26 l0 x5_1).f0) 20 false _ ?side1 ?side2 A5.out).mono ?_); (case side1 => repeat (first | exact (Kd.C_below HR378_0.out HB.out) | (with_reducible refine ca_ ?_ _) | (with_reducible refine cn_ ?_ _) | (with_reducible refine cd_ ?_))); (case side2 => exact HC378_0.out); rintro e w8 ⟨rfl, hb⟩; replace HB := A_ (below_step bw_ hb); (try clear hb); (try clear hb2); (try clear hk); (try clear hi))); try go_wp2_with (first | (go_at_call 7; (with_reducible refine (hopperref11_Few.calls k1 _ _ ((rd_T26 l0 x5_1).f0) 20 false _ ?side1 ?side2 A5.out).mono ?_); (case side1 => repeat (first | exact (Kd.C_below HR378_0.out HB.out) | (with_reducible refine ca_ ?_ _) | (with_reducible refine cn_ ?_ _) | (with_reducible refine cd_ ?_))); (case side2 => exact HC378_0.out); rintro e w8 ⟨rfl, hb⟩; replace HB := A_ (below_step bw_ hb); (try clear hb); (try clear hb2); (try clear hk); (try clear hi))))
        go_meet
        case rel => exact ⟨_, (true), (by first | rfl | (simp; done) | (simp [*]; done)), H', ⟨by have := HK1.out; first | omega | exact Nat.le_refl _⟩, ⟨by repeat (first | (with_reducible first | exact HB.out | apply wa_ | apply wn_ | apply wd_) | exact HB.out)⟩⟩
     case rest =>
      clear HC3; (try clear c2); (try clear c2b0); (try clear p2); (try clear c3); (try clear p3); (try clear q3); (try clear hx3); (try clear c4); (try clear c4b0); (try clear c6); (try clear hx378_0); (try clear hx378_1); (try clear p378); (try clear q378)
      obtain ⟨kq, x25_2, rfl, HA, HJ2, HB⟩ := hcut
      cases kq with
      | zero => exact absurd HA.out (by simp [hopperlaw11_ShardSlots.j1])
      | succ kj2 =>
       have H := HA.out
       clear HA
       simp only [hopperlaw11_ShardSlots.j1] at H
       by_cases c9 : x25_2 = true
       · subst c9
         have H1 : ((hopperlaw11_live.f).bind fun t380 => (some t380)) = some r := by rw [if_pos rfl] at H; exact H
         clear H
         have H := H1
         clear H1
         replace H := Option.bind_eq_some_iff.mp H
         obtain ⟨t380, A100, H⟩ := H
         replace H : (some t380) = some r := H
         have A10 := A_ A100
         clear A100
         obtain rfl := Option.some.inj H
         go_wp2_with (first | (go_at_call 8; (with_reducible refine (hopperlaw11_live.calls  t380 _ A10.out).mono ?_); rintro e w11 ⟨rfl, hb⟩; replace HB := A_ (below_step bw_ hb); (try clear hb); (try clear hb2); (try clear hk); (try clear hi)))
         repeat (go_quiet (first | (go_at_call 8; (with_reducible refine (hopperlaw11_live.calls  t380 _ A10.out).mono ?_); rintro e w11 ⟨rfl, hb⟩; replace HB := A_ (below_step bw_ hb); (try clear hb); (try clear hb2); (try clear hk); (try clear hi))); try go_wp2_with (first | (go_at_call 8; (with_reducible refine (hopperlaw11_live.calls  t380 _ A10.out).mono ?_); rintro e w11 ⟨rfl, hb⟩; replace HB := A_ (below_step bw_ hb); (try clear hb); (try clear hb2); (try clear hk); (try clear hi))))
         go_ret
         exact ⟨by first | rfl | (simp [errW_none, errW_some] <;> rfl) | (simp [*, errW_none, errW_some] <;> rfl), by repeat (first | (with_reducible first | exact HB.out | apply wa_ | apply wn_ | apply wd_) | exact HB.out)⟩
       · replace c9 := Bool.eq_false_iff.mpr c9
         subst c9
         have H1 : (if 0 ≤ x5_1 then (if x5_1 < (l0.length : Int) then ((shard_Slots.f kj2 ((rd_T26 l0 x5_1).f0) ((rd_T26 l0 x5_1).f1)).bind fun t382 => (hopperlaw11_ShardSlots.l0 kj2 l0 (wrap64 (x3_1 + t382)) (wrap64 (x4_1 + (((rd_T26 l0 x5_1).f0).length : Int))) (wrap64 (x5_1 + 1)))) else (none)) else (none)) = some r := by rw [if_neg (show ¬ (false = true) by decide)] at H; exact H
         clear H
         have H := H1
         clear H1
         by_cases c12 : 0 ≤ x5_1
         rotate_left
         · rw [if_neg c12] at H
           exact absurd H (by simp)
         rw [if_pos c12] at H
         have c12b0 : decide (0 ≤ x5_1) = true := decide_eq_true c12
         clear c12
         by_cases c13 : x5_1 < (l0.length : Int)
         rotate_left
         · rw [if_neg c13] at H
           exact absurd H (by simp)
         rw [if_pos c13] at H
         have c13b0 : decide (x5_1 < (l0.length : Int)) = true := decide_eq_true c13
         clear c13
         replace H := Option.bind_eq_some_iff.mp H
         obtain ⟨t382, A140, H⟩ := H
         try dsimp only at H
         have A14 := A_ A140
         clear A140
         have H' := A_ H
         clear H
         have p381 : 0 ≤ (x5_1 : Int) := of_decide_eq_true (by first | (with_reducible assumption) | assumption)
         have q381 : x5_1 < (l0.length : Int) := of_decide_eq_true (by first | (with_reducible assumption) | assumption)
         obtain ⟨ad381, A381_0, c381_0, e381, hx381_0, hx381_1, hl381_0, hi381_0⟩ := at_T26 HR0.out x5_1 p381 q381
         cases e381
         replace hx381_0 := on_ HB.out hx381_0
         replace hx381_1 := on_ HB.out hx381_1
         have HR381_0 := A_ hi381_0
         have HC381_0 := A_ hl381_0
         clear hi381_0 hl381_0
         replace p381 := eq_true p381
         replace q381 := eq_true q381
         go_wp2_with (first | (go_at_call 23; (with_reducible refine (shard_Slots.calls kj2 _ _ ((rd_T26 l0 x5_1).f0) ((rd_T26 l0 x5_1).f1) t382 _ ?side1 ?side2 A14.out).mono ?_); (case side1 => repeat (first | exact (Kd.C_below HR381_0.out HB.out) | (with_reducible refine ca_ ?_ _) | (with_reducible refine cn_ ?_ _) | (with_reducible refine cd_ ?_))); (case side2 => exact HC381_0.out); rintro e w15 ⟨rfl, hb⟩; replace HB := A_ (below_step bw_ hb); (try clear hb); (try clear hb2); (try clear hk); (try clear hi); have p383 : 0 ≤ (x5_1 : Int) := of_decide_eq_true (by first | (with_reducible assumption) | assumption); have q383 : x5_1 < (l0.length : Int) := of_decide_eq_true (by first | (with_reducible assumption) | assumption); obtain ⟨ad383, A383_0, c383_0, e383, hx383_0, hx383_1, hl383_0, hi383_0⟩ := at_T26 HR0.out x5_1 p383 q383; obtain rfl : ad381 = ad383 := (by injection e383); replace hx383_0 := on_ HB.out hx383_0; replace hx383_1 := on_ HB.out hx383_1; have HR383_0 := A_ hi383_0; have HC383_0 := A_ hl383_0; clear hi383_0 hl383_0; replace p383 := eq_true p383; replace q383 := eq_true q383))
         repeat (go_quiet (first | (go_at_call 23; (with_reducible refine (shard_Slots.calls kj2 _ _ ((rd_T26 l0 x5_1).f0) ((rd_T26 l0 x5_1).f1) t382 _ ?side1 ?side2 A14.out).mono ?_); (case side1 => repeat (first | exact (Kd.C_below HR381_0.out HB.out) | (with_reducible refine ca_ ?_ _) | (with_reducible refine cn_ ?_ _) | (with_reducible refine cd_ ?_))); (case side2 => exact HC381_0.out); rintro e w15 ⟨rfl, hb⟩; replace HB := A_ (below_step bw_ hb); (try clear hb); (try clear hb2); (try clear hk); (try clear hi); have p383 : 0 ≤ (x5_1 : Int) := of_decide_eq_true (by first | (with_reducible assumption) | assumption); have q383 : x5_1 < (l0.length : Int) := of_decide_eq_true (by first | (with_reducible assumption) | assumption); obtain ⟨ad383, A383_0, c383_0, e383, hx383_0, hx383_1, hl383_0, hi383_0⟩ := at_T26 HR0.out x5_1 p383 q383; obtain rfl : ad381 = ad383 := (by injection e383); replace hx383_0 := on_ HB.out hx383_0; replace hx383_1 := on_ HB.out hx383_1; have HR383_0 := A_ hi383_0; have HC383_0 := A_ hl383_0; clear hi383_0 hl383_0; replace p383 := eq_true p383; replace q383 := eq_true q383)); try go_wp2_with (first | (go_at_call 23; (with_reducible refine (shard_Slots.calls kj2 _ _ ((rd_T26 l0 x5_1).f0) ((rd_T26 l0 x5_1).f1) t382 _ ?side1 ?side2 A14.out).mono ?_); (case side1 => repeat (first | exact (Kd.C_below HR381_0.out HB.out) | (with_reducible refine ca_ ?_ _) | (with_reducible refine cn_ ?_ _) | (with_reducible refine cd_ ?_))); (case side2 => exact HC381_0.out); rintro e w15 ⟨rfl, hb⟩; replace HB := A_ (below_step bw_ hb); (try clear hb); (try clear hb2); (try clear hk); (try clear hi); have p383 : 0 ≤ (x5_1 : Int) := of_decide_eq_true (by first | (with_reducible assumption) | assumption); have q383 : x5_1 < (l0.length : Int) := of_decide_eq_true (by first | (with_reducible assumption) | assumption); obtain ⟨ad383, A383_0, c383_0, e383, hx383_0, hx383_1, hl383_0, hi383_0⟩ := at_T26 HR0.out x5_1 p383 q383; obtain rfl : ad381 = ad383 := (by injection e383); replace hx383_0 := on_ HB.out hx383_0; replace hx383_1 := on_ HB.out hx383_1; have HR383_0 := A_ hi383_0; have HC383_0 := A_ hl383_0; clear hi383_0 hl383_0; replace p383 := eq_true p383; replace q383 := eq_true q383)))
         go_roundg kj2
         case measure => have := HK1.out; have := HJ2.out; omega
         case rel => exact ⟨(wrap64 (x3_1 + t382)), (wrap64 (x4_1 + (((rd_T26 l0 x5_1).f0).length : Int))), (wrap64 (x5_1 + 1)), (by first | rfl | (simp; done) | (simp [*]; done)), (by first | rfl | (simp; done) | (simp [*]; done)), (by first | rfl | (simp; done) | (simp [*]; done)), H', ⟨by have := HK1.out; have := HJ2.out; omega⟩, ⟨by repeat (first | (with_reducible first | exact HB.out | apply wa_ | apply wn_ | apply wd_) | exact HB.out)⟩⟩
   · rw [if_neg c2] at H
     have c2b0 : decide (x5_1 < (l0.length : Int)) = false := decide_eq_false c2
     clear c2
     replace H := Option.bind_eq_some_iff.mp H
     obtain ⟨t384, A160, H⟩ := H
     try dsimp only at H
     have A16 := A_ A160
     clear A160
     replace H := Option.bind_eq_some_iff.mp H
     obtain ⟨t387, A170, H⟩ := H
     try dsimp only at H
     have A17 := A_ A170
     clear A170
     have H' := A_ H
     clear H
     go_wp2_with (first | (go_at_call 10; (with_reducible refine (hopperlaw11_Own.calls k1 (fun k_ => k_ < w.heap.size) _ _ l0 t384 _ ?side1 A16.out).mono ?_); (case side1 => exact Kd.V_mk HC0.out (Kd.F_below (Kd.C_F k26_heap HR0.out) bw_)); rintro e w18 ⟨v385, rfl, ho0, hb⟩; have HO386 := A_ (Kd.N_lower (Kd.N_mono (ok' := fun k_ => True) ho0 (fun k_ hk_ => trivial)) (below_size bw_)); replace HB := A_ (below_step bw_ hb); (try clear hb); (try clear hb2); (try clear hk); (try clear hi); (try clear ho0); obtain ⟨Ao19, co19, eo19⟩ := Kd.N_slice HO386.out; subst eo19) | (go_at_call 9; (with_reducible refine (shard_Join.calls (fun k_ => True) _ _ t384 t387 _ ?side1 A17.out).mono ?_); (case side1 => exact Kd.N_V (HO386.out)); rintro e w20 ⟨v388, rfl, ho0, hb⟩; replace HO386 := A_ (Kd.N_elder' (by (with_reducible repeat (first | apply Kd.N_alloc | apply Kd.N_drewN | apply Kd.N_drew)); exact HO386.out) (Kd.N_base ho0) hb); have HO389 := A_ (Kd.N_lower (Kd.N_mono (ok' := fun k_ => True) ho0 (fun k_ hk_ => trivial)) (below_size bw_)); replace HB := A_ (below_step bw_ hb); (try clear hb); (try clear hb2); (try clear hk); (try clear hi); (try clear ho0)))
     repeat (go_quiet (first | (go_at_call 10; (with_reducible refine (hopperlaw11_Own.calls k1 (fun k_ => k_ < w.heap.size) _ _ l0 t384 _ ?side1 A16.out).mono ?_); (case side1 => exact Kd.V_mk HC0.out (Kd.F_below (Kd.C_F k26_heap HR0.out) bw_)); rintro e w18 ⟨v385, rfl, ho0, hb⟩; have HO386 := A_ (Kd.N_lower (Kd.N_mono (ok' := fun k_ => True) ho0 (fun k_ hk_ => trivial)) (below_size bw_)); replace HB := A_ (below_step bw_ hb); (try clear hb); (try clear hb2); (try clear hk); (try clear hi); (try clear ho0); obtain ⟨Ao19, co19, eo19⟩ := Kd.N_slice HO386.out; subst eo19) | (go_at_call 9; (with_reducible refine (shard_Join.calls (fun k_ => True) _ _ t384 t387 _ ?side1 A17.out).mono ?_); (case side1 => exact Kd.N_V (HO386.out)); rintro e w20 ⟨v388, rfl, ho0, hb⟩; replace HO386 := A_ (Kd.N_elder' (by (with_reducible repeat (first | apply Kd.N_alloc | apply Kd.N_drewN | apply Kd.N_drew)); exact HO386.out) (Kd.N_base ho0) hb); have HO389 := A_ (Kd.N_lower (Kd.N_mono (ok' := fun k_ => True) ho0 (fun k_ hk_ => trivial)) (below_size bw_)); replace HB := A_ (below_step bw_ hb); (try clear hb); (try clear hb2); (try clear hk); (try clear hi); (try clear ho0))); try go_wp2_with (first | (go_at_call 10; (with_reducible refine (hopperlaw11_Own.calls k1 (fun k_ => k_ < w.heap.size) _ _ l0 t384 _ ?side1 A16.out).mono ?_); (case side1 => exact Kd.V_mk HC0.out (Kd.F_below (Kd.C_F k26_heap HR0.out) bw_)); rintro e w18 ⟨v385, rfl, ho0, hb⟩; have HO386 := A_ (Kd.N_lower (Kd.N_mono (ok' := fun k_ => True) ho0 (fun k_ hk_ => trivial)) (below_size bw_)); replace HB := A_ (below_step bw_ hb); (try clear hb); (try clear hb2); (try clear hk); (try clear hi); (try clear ho0); obtain ⟨Ao19, co19, eo19⟩ := Kd.N_slice HO386.out; subst eo19) | (go_at_call 9; (with_reducible refine (shard_Join.calls (fun k_ => True) _ _ t384 t387 _ ?side1 A17.out).mono ?_); (case side1 => exact Kd.N_V (HO386.out)); rintro e w20 ⟨v388, rfl, ho0, hb⟩; replace HO386 := A_ (Kd.N_elder' (by (with_reducible repeat (first | apply Kd.N_alloc | apply Kd.N_drewN | apply Kd.N_drew)); exact HO386.out) (Kd.N_base ho0) hb); have HO389 := A_ (Kd.N_lower (Kd.N_mono (ok' := fun k_ => True) ho0 (fun k_ hk_ => trivial)) (below_size bw_)); replace HB := A_ (below_step bw_ hb); (try clear hb); (try clear hb2); (try clear hk); (try clear hi); (try clear ho0))))
     go_loopg [7] k1 (fun kq v7 w' => ∃ (x7_2 : Int), v7 = .int .i64 x7_2 ∧ Aside0 (hopperlaw11_ShardSlots.l1 kq x3_1 x4_1 t387 x7_2 = some r) ∧ Aside0 (kq ≤ k1) ∧ Aside0 (Kd.N k46 46 w' w.heap.size (fun _ => True) v388 t387) ∧ Aside0 (Below w.heap.size w w'))
     case atStart => exact ⟨(1), (by first | rfl | (simp; done) | (simp [*]; done)), H', ⟨Nat.le_refl _⟩, ⟨by (with_reducible repeat (first | apply Kd.N_alloc | apply Kd.N_drewN | apply Kd.N_drew)); exact HO389.out⟩, ⟨by repeat (first | (with_reducible first | exact HB.out | apply wa_ | apply wn_ | apply wd_) | exact HB.out)⟩⟩
     case round =>
      clear H'; (try clear c1); (try clear c2); (try clear c2b0); (try clear p2); (try clear c3); (try clear p3); (try clear q3); (try clear hx3); (try clear c4); (try clear c4b0); (try clear c6); (try clear p6); (try clear c9); (try clear c12); (try clear c12b0); (try clear c13); (try clear c13b0); (try clear hx378_0); (try clear hx378_1); (try clear hx381_0); (try clear hx381_1); (try clear hx383_0); (try clear hx383_1); (try clear p2); (try clear p3); (try clear p378); (try clear p381); (try clear p383); (try clear q3); (try clear q378); (try clear q381); (try clear q383)
      obtain ⟨x7_2, rfl, HA, HK2, HO_6, HB⟩ := hrel
      cases gk with
      | zero => exact absurd HA.out (by simp [hopperlaw11_ShardSlots.l1])
      | succ k2 =>
       have H := HA.out
       clear HA
       simp only [hopperlaw11_ShardSlots.l1] at H
       by_cases c21 : x7_2 < (t387.length : Int)
       · rw [if_pos c21] at H
         have c21b0 : decide (x7_2 < (t387.length : Int)) = true := decide_eq_true c21
         clear c21
         obtain ⟨ji22, hji22⟩ : ∃ j_ : Int, (wrap64 (x7_2 - 1)) = j_ := ⟨_, rfl⟩
         replace H : (if 0 ≤ (ji22) then (if (ji22) < (t387.length : Int) then (if 0 ≤ x7_2 then (if ((rd_T46 t387 (ji22)).f0) > ((rd_T46 t387 x7_2).f0) then (none) else (hopperlaw11_ShardSlots.l1 k2 x3_1 x4_1 t387 (wrap64 (x7_2 + 1)))) else (none)) else (none)) else (none)) = some r := by first | (rw [hji22] at H; exact H) | (simp only [hji22] at H ⊢; exact H)
         have hji22w : (IntKind.i64.wrap (x7_2 - 1)) = ji22 := (i64_w _).trans hji22
         by_cases c23 : 0 ≤ (ji22)
         rotate_left
         · rw [if_neg c23] at H
           exact absurd H (by simp)
         rw [if_pos c23] at H
         have c23b0 : decide (0 ≤ (ji22)) = true := decide_eq_true c23
         clear c23
         by_cases c24 : (ji22) < (t387.length : Int)
         rotate_left
         · rw [if_neg c24] at H
           exact absurd H (by simp)
         rw [if_pos c24] at H
         have c24b0 : decide ((ji22) < (t387.length : Int)) = true := decide_eq_true c24
         clear c24
         by_cases c25 : 0 ≤ x7_2
         rotate_left
         · rw [if_neg c25] at H
           exact absurd H (by simp)
         rw [if_pos c25] at H
         have c25b0 : decide (0 ≤ x7_2) = true := decide_eq_true c25
         clear c25
         by_cases c26 : ((rd_T46 t387 (ji22)).f0) > ((rd_T46 t387 x7_2).f0)
         · rw [if_pos c26] at H
           exact absurd H (by simp)
         rw [if_neg c26] at H
         have c26b0 : decide (((rd_T46 t387 x7_2).f0) < ((rd_T46 t387 (ji22)).f0)) = false := decide_eq_false c26
         clear c26
         have H' := A_ H
         clear H
         obtain ⟨Ao27, co27, eo27⟩ := Kd.N_slice HO_6.out
         subst eo27
         have p390 : 0 ≤ ((ji22) : Int) := of_decide_eq_true (by first | (with_reducible assumption) | assumption)
         have q390 : (ji22) < (t387.length : Int) := of_decide_eq_true (by first | (with_reducible assumption) | assumption)
         obtain ⟨ad390, A390_2, c390_2, e390, hx390_0, hx390_1, hx390_2, hl390_2, hi390_2⟩ := at_T46 (Kd.N_reads' HO_6.out).2.2 (ji22) p390 q390
         cases e390
         obtain ⟨ce390, hce390, hMe390, hcc390⟩ := Kd.N_get HO_6.out z46 (ji22) p390 (by first | exact q390 | exact of_decide_eq_true (by first | (with_reducible assumption) | assumption) | (have e_ := (Kd.N_reads' HO_6.out).1; omega))
         obtain ⟨ua390_2, uc390_2, rfl, ul390_2, ge390_2⟩ := k46_openF hMe390
         have hv390_2 := hcc390 2 _ rfl
         rw [add_field _ _ 2 (by omega)] at hv390_2
         replace hv390_2 := Option.some.inj (hv390_2.symm.trans hx390_2)
         injection hv390_2 with hva_ hvn_ hvc_
         rw [hva_] at ge390_2
         rw [hvc_] at ul390_2
         have HL390_2 := A_ (show Kd.V k32 32 _ w.heap.size _ _ ((rd_T46 t387 (ji22)).f2) from Kd.V_mk ul390_2 ge390_2)
         clear hva_ hvn_ hvc_ ge390_2 ul390_2; clear hcc390 hce390
         have HR390_2 := A_ hi390_2
         have HC390_2 := A_ hl390_2
         clear hi390_2 hl390_2
         replace p390 := eq_true p390
         replace q390 := eq_true q390
         have p391 : 0 ≤ (x7_2 : Int) := of_decide_eq_true (by first | (with_reducible assumption) | assumption)
         have q391 : x7_2 < (t387.length : Int) := of_decide_eq_true (by first | (with_reducible assumption) | assumption)
         obtain ⟨ad391, A391_2, c391_2, e391, hx391_0, hx391_1, hx391_2, hl391_2, hi391_2⟩ := at_T46 (Kd.N_reads' HO_6.out).2.2 x7_2 p391 q391
         obtain rfl : ad390 = ad391 := (by injection e391)
         obtain ⟨ce391, hce391, hMe391, hcc391⟩ := Kd.N_get HO_6.out z46 x7_2 p391 (by first | exact q391 | exact of_decide_eq_true (by first | (with_reducible assumption) | assumption) | (have e_ := (Kd.N_reads' HO_6.out).1; omega))
         obtain ⟨ua391_2, uc391_2, rfl, ul391_2, ge391_2⟩ := k46_openF hMe391
         have hv391_2 := hcc391 2 _ rfl
         rw [add_field _ _ 2 (by omega)] at hv391_2
         replace hv391_2 := Option.some.inj (hv391_2.symm.trans hx391_2)
         injection hv391_2 with hva_ hvn_ hvc_
         rw [hva_] at ge391_2
         rw [hvc_] at ul391_2
         have HL391_2 := A_ (show Kd.V k32 32 _ w.heap.size _ _ ((rd_T46 t387 x7_2).f2) from Kd.V_mk ul391_2 ge391_2)
         clear hva_ hvn_ hvc_ ge391_2 ul391_2; clear hcc391 hce391
         have HR391_2 := A_ hi391_2
         have HC391_2 := A_ hl391_2
         clear hi391_2 hl391_2
         replace p391 := eq_true p391
         replace q391 := eq_true q391
         go_wp2
         repeat (go_quiet (fail); try go_wp2)
         go_roundg k2
         case measure => have := HK1.out; have := HK2.out; omega
         case rel => exact ⟨(wrap64 (x7_2 + 1)), (by first | rfl | (simp; done) | (simp [*]; done)), H', ⟨by have := HK1.out; have := HK2.out; omega⟩, ⟨by (with_reducible repeat (first | apply Kd.N_alloc | apply Kd.N_drewN | apply Kd.N_drew)); exact HO_6.out⟩, ⟨by repeat (first | (with_reducible first | exact HB.out | apply wa_ | apply wn_ | apply wd_) | exact HB.out)⟩⟩
       · rw [if_neg c21] at H
         have c21b0 : decide (x7_2 < (t387.length : Int)) = false := decide_eq_false c21
         clear c21
         by_cases c28 : (t387.length : Int) = x4_1
         rotate_left
         · rw [if_neg c28] at H
           exact absurd H (by simp)

         rw [if_pos c28] at H
         have c28b0 : ((t387.length : Int) == x4_1) = true := beq_iff_eq.mpr c28
         have c28b1 : ((t387.length : Int) != x4_1) = false := bne_eq_false_iff_eq.mpr c28
         clear c28
         replace H := Option.bind_eq_some_iff.mp H
         obtain ⟨t392, A290, H⟩ := H
         try dsimp only at H
         have A29 := A_ A290
         clear A290
         by_cases c30 : t392 = x3_1
         rotate_left
         · rw [if_neg c30] at H
           exact absurd H (by simp)
         rw [if_pos c30] at H
         have c30b0 : (t392 == x3_1) = true := beq_iff_eq.mpr c30
         have c30b1 : (t392 != x3_1) = false := bne_eq_false_iff_eq.mpr c30
         clear c30
         replace H := Option.bind_eq_some_iff.mp H
         obtain ⟨t393, A310, H⟩ := H
         replace H : (some t393) = some r := H
         have A31 := A_ A310
         clear A310
         obtain rfl := Option.some.inj H
         obtain ⟨Ao32, co32, eo32⟩ := Kd.N_slice HO_6.out
         subst eo32
         go_wp2_with (first | (go_at_call 23; (with_reducible refine (shard_Slots.calls k2 _ _ t387 0 t392 _ ?side1 ?side2 A29.out).mono ?_); (case side1 => repeat (first | exact (Kd.N_reads' HO_6.out).2.2 | (with_reducible refine ca_ ?_ _) | (with_reducible refine cn_ ?_ _) | (with_reducible refine cd_ ?_))); (case side2 => exact (Kd.N_reads' HO_6.out).2.1); rintro e w33 ⟨rfl, hb⟩; replace HO_6 := A_ (Kd.N_below (by (with_reducible repeat (first | apply Kd.N_alloc | apply Kd.N_drewN | apply Kd.N_drew)); exact HO_6.out) hb); replace HB := A_ (below_step bw_ hb); (try clear hb); (try clear hb2); (try clear hk); (try clear hi)) | (go_at_call 8; (with_reducible refine (hopperlaw11_live.calls  t393 _ A31.out).mono ?_); rintro e w34 ⟨rfl, hb⟩; replace HO_6 := A_ (Kd.N_below (by (with_reducible repeat (first | apply Kd.N_alloc | apply Kd.N_drewN | apply Kd.N_drew)); exact HO_6.out) hb); replace HB := A_ (below_step bw_ hb); (try clear hb); (try clear hb2); (try clear hk); (try clear hi)))
         repeat (go_quiet (first | (go_at_call 23; (with_reducible refine (shard_Slots.calls k2 _ _ t387 0 t392 _ ?side1 ?side2 A29.out).mono ?_); (case side1 => repeat (first | exact (Kd.N_reads' HO_6.out).2.2 | (with_reducible refine ca_ ?_ _) | (with_reducible refine cn_ ?_ _) | (with_reducible refine cd_ ?_))); (case side2 => exact (Kd.N_reads' HO_6.out).2.1); rintro e w33 ⟨rfl, hb⟩; replace HO_6 := A_ (Kd.N_below (by (with_reducible repeat (first | apply Kd.N_alloc | apply Kd.N_drewN | apply Kd.N_drew)); exact HO_6.out) hb); replace HB := A_ (below_step bw_ hb); (try clear hb); (try clear hb2); (try clear hk); (try clear hi)) | (go_at_call 8; (with_reducible refine (hopperlaw11_live.calls  t393 _ A31.out).mono ?_); rintro e w34 ⟨rfl, hb⟩; replace HO_6 := A_ (Kd.N_below (by (with_reducible repeat (first | apply Kd.N_alloc | apply Kd.N_drewN | apply Kd.N_drew)); exact HO_6.out) hb); replace HB := A_ (below_step bw_ hb); (try clear hb); (try clear hb2); (try clear hk); (try clear hi))); try go_wp2_with (first | (go_at_call 23; (with_reducible refine (shard_Slots.calls k2 _ _ t387 0 t392 _ ?side1 ?side2 A29.out).mono ?_); (case side1 => repeat (first | exact (Kd.N_reads' HO_6.out).2.2 | (with_reducible refine ca_ ?_ _) | (with_reducible refine cn_ ?_ _) | (with_reducible refine cd_ ?_))); (case side2 => exact (Kd.N_reads' HO_6.out).2.1); rintro e w33 ⟨rfl, hb⟩; replace HO_6 := A_ (Kd.N_below (by (with_reducible repeat (first | apply Kd.N_alloc | apply Kd.N_drewN | apply Kd.N_drew)); exact HO_6.out) hb); replace HB := A_ (below_step bw_ hb); (try clear hb); (try clear hb2); (try clear hk); (try clear hi)) | (go_at_call 8; (with_reducible refine (hopperlaw11_live.calls  t393 _ A31.out).mono ?_); rintro e w34 ⟨rfl, hb⟩; replace HO_6 := A_ (Kd.N_below (by (with_reducible repeat (first | apply Kd.N_alloc | apply Kd.N_drewN | apply Kd.N_drew)); exact HO_6.out) hb); replace HB := A_ (below_step bw_ hb); (try clear hb); (try clear hb2); (try clear hk); (try clear hi))))
         go_ret
         exact ⟨by first | rfl | (simp [errW_none, errW_some] <;> rfl) | (simp [*, errW_none, errW_some] <;> rfl), by repeat (first | (with_reducible first | exact HB.out | apply wa_ | apply wn_ | apply wd_) | exact HB.out)⟩
open Go.Proofs.Ytnjnogkhbadioaa.Row (okI okB okS okL) in
/-- THE ONE PURE STATEMENT of hopperlaw11_ShardSlots. -/
def hopperlaw11_ShardSlots.Pure : Prop := ∀ (l0 : List (S26)), (okL ok26) l0 → ∃ k, hopperlaw11_ShardSlots.f k l0 = some true

end Go.Proofs.Ytnjnogkhbadioaa.D
