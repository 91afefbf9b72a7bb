/- Written by this session's own program over the kit's print: functions of Go told as plain functions, or the row of one statement; proved for every input, with no condition of ours. -/
import Derived.Test.YtnjnogkhbadioaaDx0
import Derived.Test.YtnjnogkhbadioaaDx1
import Derived.Test.YtnjnogkhbadioaaDx2
import Derived.Test.YtnjnogkhbadioaaDx3
import Derived.Test.YtnjnogkhbadioaaDx5
import Derived.Test.YtnjnogkhbadioaaDx10
import Derived.Test.YtnjnogkhbadioaaDx13
import Derived.Test.YtnjnogkhbadioaaDx14
import Derived.Test.YtnjnogkhbadioaaDx16
import Derived.Test.YtnjnogkhbadioaaDx17
namespace Go.Proofs.Ytnjnogkhbadioaa.D
open Go.RowKit Go.Proofs.YtnjnogkhbadioaaW.PrintWords Go.Proofs.YtnjnogkhbadioaaW.PrintLast Go.Proofs.YtnjnogkhbadioaaW.PrintMore
attribute [local go_sem] max2_int min2_int max_two min_two max_three min_three max_four min_four   -- for this text's walks alone
set_option linter.unusedVariables false
set_option linter.unusedSimpArgs false

attribute [local go_sem high] eqA32
/-! ### hopperlaw11_ShardJoins: function 3 -/
def hopperlaw11_ShardJoins.l0 : Nat → List (S26) → Int → Option (Bool)
 | 0, _, _ => none
 | k + 1, x0, x3 => if x3 < (x0.length : Int) then (if 0 ≤ x3 then ((hopperref11_Few.f k ((rd_T26 x0 x3).f0) 20).bind fun t338 => (if t338 = true then (if (x0.length : Int) > 8 then ((hopperlaw11_live.f).bind fun t339 => (some t339)) else (hopperlaw11_ShardJoins.l0 k x0 (wrap64 (x3 + 1)))) else ((hopperlaw11_live.f).bind fun t340 => (some t340)))) else (none)) else ((hopperlaw11_Own.f k x0).bind fun t341 => ((shard_Join.f t341).bind fun t344 => ((shard_Worst.f k t344).bind fun bt347 => ((hopperref11_Join.f k x0).bind fun t355 => ((hopperref11_Worst.f k t355).bind fun bt358 => ((hopperref11_Join.f k x0).bind fun t366 => ((hopperref11_Accounts.f k t344 t366).bind fun t369 => (if t369 = true then (if (bt347.1 == bt358.1 && (bt347.2.1 == bt358.2.1 && (bt347.2.2.1 == bt358.2.2.1 && (bt347.2.2.2.1 == bt358.2.2.2.1 && (bt347.2.2.2.2.1 == bt358.2.2.2.2.1 && (bt347.2.2.2.2.2.1.toList == bt358.2.2.2.2.2.1.toList)))))) = true then (if (bt347.2.2.2.2.2.2 == bt358.2.2.2.2.2.2) = true then ((shard_Lasts.f k t344).bind fun t370 => ((hopperref11_Lasts.f k t344).bind fun t373 => ((hopperref04_Txs.f k t370 t373).bind fun t376 => (if t376 = true then ((hopperlaw11_live.f).bind fun t377 => (some t377)) else (none))))) else (none)) else (none)) else (none)))))))))
def hopperlaw11_ShardJoins.f (k : Nat) (l0 : List (S26)) : Option (Bool) := hopperlaw11_ShardJoins.l0 k l0 0
theorem hopperlaw11_ShardJoins.mono_l : ∀ k, (∀ y0 y1, LeO (hopperlaw11_ShardJoins.l0 k y0 y1) (hopperlaw11_ShardJoins.l0 (k + 1) y0 y1))
 | 0 => fun _ _ r h => by simp [hopperlaw11_ShardJoins.l0] at h
 | k + 1 => by
  have ih0 := hopperlaw11_ShardJoins.mono_l k
  · intro y0 y1
    unfold hopperlaw11_ShardJoins.l0
    repeat' first
    | (with_reducible exact ih0 _ _)
    | (with_reducible exact hopperlaw11_Own.mono _ _)
    | (with_reducible exact hopperref04_Txs.mono _ _ _)
    | (with_reducible exact hopperref11_Accounts.mono _ _ _)
    | (with_reducible exact hopperref11_Few.mono _ _ _)
    | (with_reducible exact hopperref11_Join.mono _ _)
    | (with_reducible exact hopperref11_Lasts.mono _ _)
    | (with_reducible exact hopperref11_Worst.mono _ _)
    | (with_reducible exact shard_Lasts.mono _ _)
    | (with_reducible exact shard_Worst.mono _ _)
    | (with_reducible exact LeO.refl _)
    | (with_reducible exact LeO.none _)
    | (with_reducible refine LeO.ite ?_ ?_)
    | (with_reducible refine LeO.bind ?_ (fun _ => ?_))
    | exact ih0 _ _
    | exact hopperlaw11_Own.mono _ _
    | exact hopperref04_Txs.mono _ _ _
    | exact hopperref11_Accounts.mono _ _ _
    | exact hopperref11_Few.mono _ _ _
    | exact hopperref11_Join.mono _ _
    | exact hopperref11_Lasts.mono _ _
    | exact hopperref11_Worst.mono _ _
    | exact shard_Lasts.mono _ _
    | exact shard_Worst.mono _ _
    | exact LeO.none _
    | refine LeO.ite ?_ ?_
    | refine LeO.bind ?_ (fun _ => ?_)
theorem hopperlaw11_ShardJoins.mono : ∀ a0 k, LeO (hopperlaw11_ShardJoins.f k a0) (hopperlaw11_ShardJoins.f (k + 1) a0) := by
 intro a0 k
 have ih0 := hopperlaw11_ShardJoins.mono_l k
 unfold hopperlaw11_ShardJoins.f
 repeat' first
  | (with_reducible exact ih0 _ _)
  | (with_reducible exact hopperlaw11_Own.mono _ _)
  | (with_reducible exact hopperref04_Txs.mono _ _ _)
  | (with_reducible exact hopperref11_Accounts.mono _ _ _)
  | (with_reducible exact hopperref11_Few.mono _ _ _)
  | (with_reducible exact hopperref11_Join.mono _ _)
  | (with_reducible exact hopperref11_Lasts.mono _ _)
  | (with_reducible exact hopperref11_Worst.mono _ _)
  | (with_reducible exact shard_Lasts.mono _ _)
  | (with_reducible exact shard_Worst.mono _ _)
  | (with_reducible exact LeO.refl _)
  | (with_reducible exact LeO.none _)
  | (with_reducible refine LeO.ite ?_ ?_)
  | (with_reducible refine LeO.bind ?_ (fun _ => ?_))
  | exact ih0 _ _
  | exact hopperlaw11_Own.mono _ _
  | exact hopperref04_Txs.mono _ _ _
  | exact hopperref11_Accounts.mono _ _ _
  | exact hopperref11_Few.mono _ _ _
  | exact hopperref11_Join.mono _ _
  | exact hopperref11_Lasts.mono _ _
  | exact hopperref11_Worst.mono _ _
  | exact shard_Lasts.mono _ _
  | exact shard_Worst.mono _ _
  | exact LeO.none _
  | refine LeO.ite ?_ ?_
  | refine LeO.bind ?_ (fun _ => ?_)
set_option maxHeartbeats 8000000 in
set_option maxRecDepth 100000 in
theorem hopperlaw11_ShardJoins.calls (k : Nat) (A0 : Option Addr) (c0 : Nat) (l0 : List (S26)) (r : Bool) (w : World) (hr0 : Kd.C k26 w A0 l0.length l0) (hc0 : l0.length ≤ c0) (h : hopperlaw11_ShardJoins.f k l0 = some r) :
 Calls Try.prog 3 #[.slice A0 l0.length c0] w fun e w' => e = .returned (.bool r) ∧ Below w.heap.size w w' := by
 have hu32 := Try.underlying32
 have HR0 := A_ hr0
 have HC0 := A_ hc0
 clear hr0 hc0; have HB := A_ (Below.refl w.heap.size w)
 have H : (hopperlaw11_ShardJoins.l0 k l0 0) = some r := h
 clear h
 have H' := A_ H
 clear H
 go_enter Try.func3, Try.ntmps3
 go_wp2
 go_loopg [3] k (fun kq v3 w' => ∃ (x3_1 : Int), v3 = .int .i64 x3_1 ∧ Aside0 (hopperlaw11_ShardJoins.l0 kq l0 x3_1 = some r) ∧ Aside0 (kq ≤ k) ∧ Aside0 (Below w.heap.size w w'))
 case atStart => exact ⟨(0), (by first | rfl | (simp; done) | (simp [*]; done)), H', ⟨Nat.le_refl _⟩, ⟨by repeat (first | (with_reducible first | exact HB.out | apply wa_ | apply wn_ | apply wd_) | exact HB.out)⟩⟩
 case round =>
  clear H'
  obtain ⟨x3_1, rfl, HA, HK1, HB⟩ := hrel
  cases gk with
  | zero => exact absurd HA.out (by simp [hopperlaw11_ShardJoins.l0])
  | succ k1 =>
   have H := HA.out
   clear HA
   simp only [hopperlaw11_ShardJoins.l0] at H
   by_cases c2 : x3_1 < (l0.length : Int)
   · rw [if_pos c2] at H
     have c2b0 : decide (x3_1 < (l0.length : Int)) = true := decide_eq_true c2
     clear c2
     by_cases c3 : 0 ≤ x3_1
     rotate_left
     · rw [if_neg c3] at H
       exact absurd H (by simp)
     rw [if_pos c3] at H
     have c3b0 : decide (0 ≤ x3_1) = true := decide_eq_true c3
     clear c3
     replace H := Option.bind_eq_some_iff.mp H
     obtain ⟨t338, A40, H⟩ := H
     try dsimp only at H
     have A4 := A_ A40
     clear A40
     by_cases c5 : t338 = true
     · subst c5
       have H1 : (if (l0.length : Int) > 8 then ((hopperlaw11_live.f).bind fun t339 => (some t339)) else (hopperlaw11_ShardJoins.l0 k1 l0 (wrap64 (x3_1 + 1)))) = some r := by rw [if_pos rfl] at H; exact H
       clear H
       have H := H1
       clear H1
       by_cases c6 : (l0.length : Int) > 8
       · rw [if_pos c6] at H
         have c6b0 : decide (8 < (l0.length : Int)) = true := decide_eq_true c6
         have c6b1 : decide (8 < l0.length) = true := decide_eq_true (by omega)
         clear c6
         replace H := Option.bind_eq_some_iff.mp H
         obtain ⟨t339, A70, H⟩ := H
         replace H : (some t339) = some r := H
         have A7 := A_ A70
         clear A70
         obtain rfl := Option.some.inj H
         have p337 : 0 ≤ (x3_1 : Int) := of_decide_eq_true (by first | (with_reducible assumption) | assumption)
         have q337 : x3_1 < (l0.length : Int) := of_decide_eq_true (by first | (with_reducible assumption) | assumption)
         obtain ⟨ad337, A337_0, c337_0, e337, hx337_0, hx337_1, hl337_0, hi337_0⟩ := at_T26 HR0.out x3_1 p337 q337
         cases e337
         replace hx337_0 := on_ HB.out hx337_0
         replace hx337_1 := on_ HB.out hx337_1
         have HR337_0 := A_ hi337_0
         have HC337_0 := A_ hl337_0
         clear hi337_0 hl337_0
         replace p337 := eq_true p337
         replace q337 := eq_true q337
         go_wp2_with (first | ((with_reducible refine gate_callee (f := 7) rfl ?_); refine goesL_ (some 20) rfl rfl Try.func7 (by kernel_rfl) rfl #[.slice A337_0 ((rd_T26 l0 x3_1).f0).length c337_0, .int .i64 20] rfl (by (try simp only [m0_, m1_, m2_]); first | done | rfl) ?_; (with_reducible refine (hopperref11_Few.calls k1 _ _ ((rd_T26 l0 x3_1).f0) 20 true _ ?side1 ?side2 A4.out).mono ?_); (case side1 => repeat (first | exact (Kd.C_below HR337_0.out HB.out) | (with_reducible refine ca_ ?_ _) | (with_reducible refine cn_ ?_ _) | (with_reducible refine cd_ ?_))); (case side2 => exact HC337_0.out); rintro e w8 ⟨rfl, hb⟩; refine ⟨_, rfl, ?_⟩; replace HB := A_ (below_step bw_ hb); (try clear hb); (try clear hb2); (try clear hk); (try clear hi)) | ((with_reducible refine gate_callee (f := 8) rfl ?_); refine goesL_ (some 27) rfl rfl Try.func8 (by kernel_rfl) rfl #[] rfl (by (try simp only [m0_, m1_, m2_]); first | done | rfl) ?_; (with_reducible refine (hopperlaw11_live.calls  t339 _ A7.out).mono ?_); rintro e w9 ⟨rfl, hb⟩; refine ⟨_, rfl, ?_⟩; replace HB := A_ (below_step bw_ hb); (try clear hb); (try clear hb2); (try clear hk); (try clear hi)))
         go_ret
         exact ⟨by first | rfl | (simp [errW_none, errW_some] <;> rfl) | (simp [*, errW_none, errW_some] <;> rfl), by repeat (first | (with_reducible first | exact HB.out | apply wa_ | apply wn_ | apply wd_) | exact HB.out)⟩
       · rw [if_neg c6] at H
         have c6b0 : decide (8 < (l0.length : Int)) = false := decide_eq_false c6
         have c6b1 : decide (8 < l0.length) = false := decide_eq_false (by omega)
         clear c6
         have H' := A_ H
         clear H
         have p337 : 0 ≤ (x3_1 : Int) := of_decide_eq_true (by first | (with_reducible assumption) | assumption)
         have q337 : x3_1 < (l0.length : Int) := of_decide_eq_true (by first | (with_reducible assumption) | assumption)
         obtain ⟨ad337, A337_0, c337_0, e337, hx337_0, hx337_1, hl337_0, hi337_0⟩ := at_T26 HR0.out x3_1 p337 q337
         cases e337
         replace hx337_0 := on_ HB.out hx337_0
         replace hx337_1 := on_ HB.out hx337_1
         have HR337_0 := A_ hi337_0
         have HC337_0 := A_ hl337_0
         clear hi337_0 hl337_0
         replace p337 := eq_true p337
         replace q337 := eq_true q337
         go_wp2_with (first | ((with_reducible refine gate_callee (f := 7) rfl ?_); refine goesL_ (some 20) rfl rfl Try.func7 (by kernel_rfl) rfl #[.slice A337_0 ((rd_T26 l0 x3_1).f0).length c337_0, .int .i64 20] rfl (by (try simp only [m0_, m1_, m2_]); first | done | rfl) ?_; (with_reducible refine (hopperref11_Few.calls k1 _ _ ((rd_T26 l0 x3_1).f0) 20 true _ ?side1 ?side2 A4.out).mono ?_); (case side1 => repeat (first | exact (Kd.C_below HR337_0.out HB.out) | (with_reducible refine ca_ ?_ _) | (with_reducible refine cn_ ?_ _) | (with_reducible refine cd_ ?_))); (case side2 => exact HC337_0.out); rintro e w10 ⟨rfl, hb⟩; refine ⟨_, rfl, ?_⟩; replace HB := A_ (below_step bw_ hb); (try clear hb); (try clear hb2); (try clear hk); (try clear hi)))
         go_roundg k1
         case measure => have := HK1.out; omega
         case rel => exact ⟨(wrap64 (x3_1 + 1)), (by first | rfl | (simp; done) | (simp [*]; done)), H', ⟨by have := HK1.out; omega⟩, ⟨by repeat (first | (with_reducible first | exact HB.out | apply wa_ | apply wn_ | apply wd_) | exact HB.out)⟩⟩
     · replace c5 := Bool.eq_false_iff.mpr c5
       subst c5
       have H1 : ((hopperlaw11_live.f).bind fun t340 => (some t340)) = some r := by rw [if_neg (show ¬ (false = true) by decide)] at H; exact H
       clear H
       have H := H1
       clear H1
       replace H := Option.bind_eq_some_iff.mp H
       obtain ⟨t340, A110, H⟩ := H
       replace H : (some t340) = some r := H
       have A11 := A_ A110
       clear A110
       obtain rfl := Option.some.inj H
       have p337 : 0 ≤ (x3_1 : Int) := of_decide_eq_true (by first | (with_reducible assumption) | assumption)
       have q337 : x3_1 < (l0.length : Int) := of_decide_eq_true (by first | (with_reducible assumption) | assumption)
       obtain ⟨ad337, A337_0, c337_0, e337, hx337_0, hx337_1, hl337_0, hi337_0⟩ := at_T26 HR0.out x3_1 p337 q337
       cases e337
       replace hx337_0 := on_ HB.out hx337_0
       replace hx337_1 := on_ HB.out hx337_1
       have HR337_0 := A_ hi337_0
       have HC337_0 := A_ hl337_0
       clear hi337_0 hl337_0
       replace p337 := eq_true p337
       replace q337 := eq_true q337
       go_wp2_with (first | ((with_reducible refine gate_callee (f := 7) rfl ?_); refine goesL_ (some 20) rfl rfl Try.func7 (by kernel_rfl) rfl #[.slice A337_0 ((rd_T26 l0 x3_1).f0).length c337_0, .int .i64 20] rfl (by (try simp only [m0_, m1_, m2_]); first | done | rfl) ?_; (with_reducible refine (hopperref11_Few.calls k1 _ _ ((rd_T26 l0 x3_1).f0) 20 false _ ?side1 ?side2 A4.out).mono ?_); (case side1 => repeat (first | exact (Kd.C_below HR337_0.out HB.out) | (with_reducible refine ca_ ?_ _) | (with_reducible refine cn_ ?_ _) | (with_reducible refine cd_ ?_))); (case side2 => exact HC337_0.out); rintro e w12 ⟨rfl, hb⟩; refine ⟨_, rfl, ?_⟩; replace HB := A_ (below_step bw_ hb); (try clear hb); (try clear hb2); (try clear hk); (try clear hi)) | ((with_reducible refine gate_callee (f := 8) rfl ?_); refine goesL_ (some 27) rfl rfl Try.func8 (by kernel_rfl) rfl #[] rfl (by (try simp only [m0_, m1_, m2_]); first | done | rfl) ?_; (with_reducible refine (hopperlaw11_live.calls  t340 _ A11.out).mono ?_); rintro e w13 ⟨rfl, hb⟩; refine ⟨_, rfl, ?_⟩; replace HB := A_ (below_step bw_ hb); (try clear hb); (try clear hb2); (try clear hk); (try clear hi)))
       go_ret
       exact ⟨by first | rfl | (simp [errW_none, errW_some] <;> rfl) | (simp [*, errW_none, errW_some] <;> rfl), by repeat (first | (with_reducible first | exact HB.out | apply wa_ | apply wn_ | apply wd_) | exact HB.out)⟩
   · rw [if_neg c2] at H
     have c2b0 : decide (x3_1 < (l0.length : Int)) = false := decide_eq_false c2
     clear c2
     replace H := Option.bind_eq_some_iff.mp H
     obtain ⟨t341, A140, H⟩ := H
     try dsimp only at H
     have A14 := A_ A140
     clear A140
     replace H := Option.bind_eq_some_iff.mp H
     obtain ⟨t344, A150, H⟩ := H
     try dsimp only at H
     have A15 := A_ A150
     clear A150
     replace H := Option.bind_eq_some_iff.mp H
     obtain ⟨⟨t347, t348, t349, t350, t351, t352, t353⟩, A160, H⟩ := H
     try dsimp only at H
     have A16 := A_ A160
     clear A160
     replace H := Option.bind_eq_some_iff.mp H
     obtain ⟨t355, A170, H⟩ := H
     try dsimp only at H
     have A17 := A_ A170
     clear A170
     replace H := Option.bind_eq_some_iff.mp H
     obtain ⟨⟨t358, t359, t360, t361, t362, t363, t364⟩, A180, H⟩ := H
     try dsimp only at H
     have A18 := A_ A180
     clear A180
     replace H := Option.bind_eq_some_iff.mp H
     obtain ⟨t366, A190, H⟩ := H
     try dsimp only at H
     have A19 := A_ A190
     clear A190
     replace H := Option.bind_eq_some_iff.mp H
     obtain ⟨t369, A200, H⟩ := H
     try dsimp only at H
     have A20 := A_ A200
     clear A200
     by_cases c21 : t369 = true
     rotate_left
     · replace c21 := Bool.eq_false_iff.mpr c21
       subst c21
       have H1 : (none) = some r := by rw [if_neg (show ¬ (false = true) by decide)] at H; exact H
       clear H
       have H := H1
       clear H1
       exact absurd H (by simp)

     subst c21
     have H1 : (if (t347 == t358 && (t348 == t359 && (t349 == t360 && (t350 == t361 && (t351 == t362 && (t352.toList == t363.toList)))))) = true then (if (t353 == t364) = true then ((shard_Lasts.f k1 t344).bind fun t370 => ((hopperref11_Lasts.f k1 t344).bind fun t373 => ((hopperref04_Txs.f k1 t370 t373).bind fun t376 => (if t376 = true then ((hopperlaw11_live.f).bind fun t377 => (some t377)) else (none))))) else (none)) else (none)) = some r := by rw [if_pos rfl] at H; exact H
     clear H
     have H := H1
     clear H1
     by_cases c22 : (t347 == t358 && (t348 == t359 && (t349 == t360 && (t350 == t361 && (t351 == t362 && (t352.toList == t363.toList)))))) = true
     rotate_left
     · rw [if_neg c22] at H
       exact absurd H (by simp)
     rw [if_pos c22] at H
     have c22b0 : (t347 == t358 && (t348 == t359 && (t349 == t360 && (t350 == t361 && (t351 == t362 && (t352.toList == t363.toList)))))) = true := c22
     obtain ⟨c22q0, c22q1, c22q2, c22q3, c22q4, c22q5⟩ := six_ c22b0
     clear c22
     by_cases c23 : (t353 == t364) = true
     rotate_left
     · rw [if_neg c23] at H
       exact absurd H (by simp)
     rw [if_pos c23] at H
     have c23b0 : (t353 == t364) = true := c23
     (try (have c23b1 : decide (t353 = t364) = true := by simpa using c23))
     (try (have c23b2 : (t353 == t364) = true := by simpa using c23))
     clear c23
     replace H := Option.bind_eq_some_iff.mp H
     obtain ⟨t370, A240, H⟩ := H
     try dsimp only at H
     have A24 := A_ A240
     clear A240
     replace H := Option.bind_eq_some_iff.mp H
     obtain ⟨t373, A250, H⟩ := H
     try dsimp only at H
     have A25 := A_ A250
     clear A250
     replace H := Option.bind_eq_some_iff.mp H
     obtain ⟨t376, A260, H⟩ := H
     try dsimp only at H
     have A26 := A_ A260
     clear A260
     by_cases c27 : t376 = true
     rotate_left
     · replace c27 := Bool.eq_false_iff.mpr c27
       subst c27
       have H1 : (none) = some r := by rw [if_neg (show ¬ (false = true) by decide)] at H; exact H
       clear H
       have H := H1
       clear H1
       exact absurd H (by simp)
     subst c27
     have H1 : ((hopperlaw11_live.f).bind fun t377 => (some t377)) = some r := by rw [if_pos rfl] at H; exact H
     clear H
     have H := H1
     clear H1
     replace H := Option.bind_eq_some_iff.mp H
     obtain ⟨t377, A280, H⟩ := H
     replace H : (some t377) = some r := H
     have A28 := A_ A280
     clear A280
     obtain rfl := Option.some.inj H
     go_wp2_with (first | ((with_reducible refine gate_callee (f := 10) rfl ?_); refine goesL_ (some 29) rfl rfl Try.func10 (by kernel_rfl) rfl #[.slice A0 l0.length c0] rfl (by (try simp only [m0_, m1_, m2_]); first | done | rfl) ?_; (with_reducible refine (hopperlaw11_Own.calls k1 (fun k_ => k_ < w.heap.size) _ _ l0 t341 _ ?side1 A14.out).mono ?_); (case side1 => exact Kd.V_mk HC0.out (Kd.F_below (Kd.C_F k26_heap HR0.out) bw_)); rintro e w29 ⟨v342, rfl, ho0, hb⟩; refine ⟨_, rfl, ?_⟩; have HO343 := A_ (Kd.N_lower (Kd.N_mono (ok' := fun k_ => True) ho0 (fun k_ hk_ => trivial)) (below_size bw_)); replace HB := A_ (below_step bw_ hb); (try clear hb); (try clear hb2); (try clear hk); (try clear hi); (try clear ho0); obtain ⟨Ao30, co30, eo30⟩ := Kd.N_slice HO343.out; subst eo30) | ((with_reducible refine gate_callee (f := 9) rfl ?_); refine goesL_ (some 30) rfl rfl Try.func9 (by kernel_rfl) rfl #[.slice Ao30 t341.length co30] rfl (by (try simp only [m0_, m1_, m2_]); first | done | rfl) ?_; (with_reducible refine (shard_Join.calls (fun k_ => True) _ _ t341 t344 _ ?side1 A15.out).mono ?_); (case side1 => exact Kd.N_V (HO343.out)); rintro e w31 ⟨v345, rfl, ho0, hb⟩; refine ⟨_, rfl, ?_⟩; replace HO343 := A_ (Kd.N_elder' (by (with_reducible repeat (first | apply Kd.N_alloc | apply Kd.N_drewN | apply Kd.N_drew)); exact HO343.out) (Kd.N_base ho0) hb); have HO346 := A_ (Kd.N_lower (Kd.N_mono (ok' := fun k_ => True) ho0 (fun k_ hk_ => trivial)) (below_size bw_)); replace HB := A_ (below_step bw_ hb); (try clear hb); (try clear hb2); (try clear hk); (try clear hi); (try clear ho0); obtain ⟨Ao32, co32, eo32⟩ := Kd.N_slice HO346.out; subst eo32) | ((with_reducible refine gate_callee (f := 11) rfl ?_); refine goesL_ (some 33) rfl rfl Try.func11 (by kernel_rfl) rfl #[.slice Ao32 t344.length co32] rfl (by (try simp only [m0_, m1_, m2_]); first | done | rfl) ?_; (with_reducible refine (shard_Worst.calls k1 _ _ t344 t347 t348 t349 t350 t351 t352 t353 _ ?side1 ?side2 A16.out).mono ?_); (case side1 => repeat (first | exact (Kd.N_reads' HO346.out).2.2 | (with_reducible refine ca_ ?_ _) | (with_reducible refine cn_ ?_ _) | (with_reducible refine cd_ ?_))); (case side2 => exact (Kd.N_reads' HO346.out).2.1); rintro e w33 ⟨rfl, hb⟩; refine ⟨_, rfl, ?_⟩; replace HO343 := A_ (Kd.N_below (by (with_reducible repeat (first | apply Kd.N_alloc | apply Kd.N_drewN | apply Kd.N_drew)); exact HO343.out) hb); replace HO346 := A_ (Kd.N_below (by (with_reducible repeat (first | apply Kd.N_alloc | apply Kd.N_drewN | apply Kd.N_drew)); exact HO346.out) hb); replace HB := A_ (below_step bw_ hb); (try clear hb); (try clear hb2); (try clear hk); (try clear hi)) | ((with_reducible refine gate_dst (N := 5) rfl ?_); (try (refine gate_guard (by rfl) ?_; dsimp only)); refine box_event ?hg (N := 5) ?hd (cs := #[.int .i64 0, .int .i64 0, .int .i64 0, .int .i64 0, .int .i64 0, .string (⟨#[]⟩ : ByteArray)]) (t := 32) ?hr ?_; (case hd => rfl); (case hg => rfl); (case hr => first | (go_simp; done) | (go_simp; rfl)); intro gb354 hg w34 hbox hb; have n0_ := A_ (Kd.N_below (Kd.N_elderB (by (with_reducible repeat (first | apply Kd.N_alloc | apply Kd.N_drewN | apply Kd.N_drew)); exact HO343.out) gb354 (Nat.le_of_eq hg.symm)) hb); have n1_ := A_ (Kd.N_below (Kd.N_elderB (by (with_reducible repeat (first | apply Kd.N_alloc | apply Kd.N_drewN | apply Kd.N_drew)); exact HO346.out) gb354 (Nat.le_of_eq hg.symm)) hb); have n2_ := A_ (below_step bw_ hb); have n3_ := A_ (hbox); have n4_ := A_ (gz_ (w := w) hg); have n5_ := A_ (gz_ (w := w) hg); replace HO343 := n0_; replace HO346 := n1_; replace HB := n2_; have BK354 := n3_; have GW354 := n4_; have GE354 := n5_; clear n0_ n1_ n2_ n3_ n4_ n5_; clear hb hbox hg; have hcz35_0 : w34.cell? ⟨gb354, 0, none⟩ = some (.int .i64 0) := e_ BK354 0; have hcz35_1 : w34.cell? ⟨gb354, 1, none⟩ = some (.int .i64 0) := e_ BK354 1; have hcz35_2 : w34.cell? ⟨gb354, 2, none⟩ = some (.int .i64 0) := e_ BK354 2; have hcz35_3 : w34.cell? ⟨gb354, 3, none⟩ = some (.int .i64 0) := e_ BK354 3; have hcz35_4 : w34.cell? ⟨gb354, 4, none⟩ = some (.int .i64 0) := e_ BK354 4; have hcz35_5 : w34.cell? ⟨gb354, 5, none⟩ = some (.string (⟨#[]⟩ : ByteArray)) := e_ BK354 5; obtain ⟨hfz35_0, hfz35_1, hfz35_2, hfz35_3, hfz35_4, hfz35_5⟩ := z6_ BK354) | ((with_reducible refine gate_store (t := 32) (p := 5) rfl ?_); refine store_event (t := 32) (p := 5) (v := ?vo_w36) (w1 := ((((((w34.setCell ⟨gb354, 0, none⟩ (.int .i64 t347)).setCell ⟨gb354, 1, none⟩ (.int .i64 t348)).setCell ⟨gb354, 2, none⟩ (.int .i64 t349)).setCell ⟨gb354, 3, none⟩ (.int .i64 t350)).setCell ⟨gb354, 4, none⟩ (.int .i64 t351)).setCell ⟨gb354, 5, none⟩ (.string t352))) ?hg ?ho ?hn ?hr ?_; (case ho => rfl); (case hg => rfl); (case hn => rfl); (case hr => first | (go_simp; done) | (go_simp; rfl)); intro w36 hw; have n0_ : Aside0 (Kd.N k48 48 w36 w.heap.size (fun k_ => some k_ ≠ (.slice Ao32 t344.length co32 : Value).ownBlock ∧ k_ ≠ gb354) (.slice Ao30 t341.length co30) t341) := ⟨(by rw [hw]; exact (by (with_reducible repeat (first | apply Kd.N_alloc | apply Kd.N_drewN | apply Kd.N_drew)); exact Kd.N_mono (Kd.N_far (p := ⟨gb354, 5, none⟩) (Kd.N_far (p := ⟨gb354, 4, none⟩) (Kd.N_far (p := ⟨gb354, 3, none⟩) (Kd.N_far (p := ⟨gb354, 2, none⟩) (Kd.N_far (p := ⟨gb354, 1, none⟩) (Kd.N_far (p := ⟨gb354, 0, none⟩) (Kd.N_mono HO343.out (fun k_ hk => (⟨hk, hk.2⟩ : _ ∧ k_ ≠ gb354))) (fun _ hk => hk.2) (.int .i64 t347)) (fun _ hk => hk.2) (.int .i64 t348)) (fun _ hk => hk.2) (.int .i64 t349)) (fun _ hk => hk.2) (.int .i64 t350)) (fun _ hk => hk.2) (.int .i64 t351)) (fun _ hk => hk.2) (.string t352)) (fun _ hk => ⟨hk.1.1.2, hk.1.2⟩)))⟩; have n1_ : Aside0 (Kd.N k46 46 w36 w.heap.size (fun k_ => k_ ≠ gb354) (.slice Ao32 t344.length co32) t344) := ⟨(by rw [hw]; exact (by (with_reducible repeat (first | apply Kd.N_alloc | apply Kd.N_drewN | apply Kd.N_drew)); exact Kd.N_mono (Kd.N_far (p := ⟨gb354, 5, none⟩) (Kd.N_far (p := ⟨gb354, 4, none⟩) (Kd.N_far (p := ⟨gb354, 3, none⟩) (Kd.N_far (p := ⟨gb354, 2, none⟩) (Kd.N_far (p := ⟨gb354, 1, none⟩) (Kd.N_far (p := ⟨gb354, 0, none⟩) (Kd.N_mono HO346.out (fun k_ hk => (⟨hk, hk.2⟩ : _ ∧ k_ ≠ gb354))) (fun _ hk => hk.2) (.int .i64 t347)) (fun _ hk => hk.2) (.int .i64 t348)) (fun _ hk => hk.2) (.int .i64 t349)) (fun _ hk => hk.2) (.int .i64 t350)) (fun _ hk => hk.2) (.int .i64 t351)) (fun _ hk => hk.2) (.string t352)) (fun _ hk => hk.1.2)))⟩; have n2_ : Aside0 (w36.heap[gb354]? = some (.cells #[.int .i64 t347, .int .i64 t348, .int .i64 t349, .int .i64 t350, .int .i64 t351, .string t352] 32 (0, 0))) := ⟨(by rw [hw]; exact (by exact pk_ (b6_ BK354.out)))⟩; have n3_ : Aside0 (Below w.heap.size w w36) := ⟨(by rw [hw]; exact bw_)⟩; clear hw; replace HO343 := n0_; replace HO346 := n1_; replace BK354 := n2_; replace HB := n3_; clear n0_ n1_ n2_ n3_) | ((with_reducible refine gate_callee (f := 13) rfl ?_); refine goesL_ (some 38) rfl rfl Try.func13 (by kernel_rfl) rfl #[.slice A0 l0.length c0] rfl (by (try simp only [m0_, m1_, m2_]); first | done | rfl) ?_; (with_reducible refine (hopperref11_Join.calls k1 (fun k_ => k_ < w.heap.size) _ _ l0 t355 _ ?side1 A17.out).mono ?_); (case side1 => exact Kd.V_mk HC0.out (Kd.F_below (Kd.C_F k26_heap HR0.out) bw_)); rintro e w37 ⟨v356, rfl, ho0, hb⟩; refine ⟨_, rfl, ?_⟩; have n0_ := A_ (Kd.N_elder' (by (with_reducible repeat (first | apply Kd.N_alloc | apply Kd.N_drewN | apply Kd.N_drew)); exact HO343.out) (Kd.N_base ho0) hb); have n1_ := A_ (Kd.N_elder' (by (with_reducible repeat (first | apply Kd.N_alloc | apply Kd.N_drewN | apply Kd.N_drew)); exact HO346.out) (Kd.N_base ho0) hb); have n2_ := A_ (Kd.N_lower (Kd.N_mono (ok' := fun k_ => some k_ ≠ (.slice Ao30 t341.length co30 : Value).ownBlock ∧ some k_ ≠ (.slice Ao32 t344.length co32 : Value).ownBlock ∧ k_ ≠ gb354) ho0 (fun k_ hk_ => ⟨Or.elim hk_ (fun hs_ => fun e_ => Nat.not_le.2 hs_ (Kd.N_base HO343.out k_ e_.symm)) (fun hn_ => (Kd.fresh' (Kd.N_lt (by (with_reducible repeat (first | apply Kd.N_alloc | apply Kd.N_drewN | apply Kd.N_drew)); exact HO343.out)) k_ hn_)), Or.elim hk_ (fun hs_ => fun e_ => Nat.not_le.2 hs_ (Kd.N_base HO346.out k_ e_.symm)) (fun hn_ => (Kd.fresh' (Kd.N_lt (by (with_reducible repeat (first | apply Kd.N_alloc | apply Kd.N_drewN | apply Kd.N_drew)); exact HO346.out)) k_ hn_)), Or.elim hk_ (fun hs_ => fun e_ => Nat.not_le.2 hs_ (by rw [e_]; exact GW354.out)) (fun hn_ => (Kd.freshB (g := gb354) (o := .cells #[.int .i64 t347, .int .i64 t348, .int .i64 t349, .int .i64 t350, .int .i64 t351, .string t352] 32 (0, 0)) (by (with_reducible repeat (first | refine bn_ ?_ _ | refine bd_ ?_ | refine ba_ ?_ _)); exact BK354.out) k_ hn_))⟩)) (below_size bw_)); have n3_ := A_ (kb_ BK354 hb); have n4_ := A_ (below_step bw_ hb); replace HO343 := n0_; replace HO346 := n1_; have HO357 := n2_; replace BK354 := n3_; replace HB := n4_; clear n0_ n1_ n2_ n3_ n4_; (try clear hb); (try clear hb2); (try clear hk); (try clear hi); (try clear ho0); obtain ⟨Ao38, co38, eo38⟩ := Kd.N_slice HO357.out; subst eo38) | ((with_reducible refine gate_callee (f := 12) rfl ?_); refine goesL_ (some 39) rfl rfl Try.func12 (by kernel_rfl) rfl #[.slice Ao38 t355.length co38] rfl (by (try simp only [m0_, m1_, m2_]); first | done | rfl) ?_; (with_reducible refine (hopperref11_Worst.calls k1 _ _ t355 t358 t359 t360 t361 t362 t363 t364 _ ?side1 ?side2 A18.out).mono ?_); (case side1 => repeat (first | exact (Kd.N_reads' HO357.out).2.2 | (with_reducible refine ca_ ?_ _) | (with_reducible refine cn_ ?_ _) | (with_reducible refine cd_ ?_))); (case side2 => exact (Kd.N_reads' HO357.out).2.1); rintro e w39 ⟨rfl, hb⟩; refine ⟨_, rfl, ?_⟩; replace HO343 := A_ (Kd.N_below (by (with_reducible repeat (first | apply Kd.N_alloc | apply Kd.N_drewN | apply Kd.N_drew)); exact HO343.out) hb); replace HO346 := A_ (Kd.N_below (by (with_reducible repeat (first | apply Kd.N_alloc | apply Kd.N_drewN | apply Kd.N_drew)); exact HO346.out) hb); replace HO357 := A_ (Kd.N_below (by (with_reducible repeat (first | apply Kd.N_alloc | apply Kd.N_drewN | apply Kd.N_drew)); exact HO357.out) hb); replace BK354 := A_ (kb_ BK354 hb); replace HB := A_ (below_step bw_ hb); (try clear hb); (try clear hb2); (try clear hk); (try clear hi)) | ((with_reducible refine gate_dst (N := 7) rfl ?_); (try (refine gate_guard (by rfl) ?_; dsimp only)); refine box_event ?hg (N := 7) ?hd (cs := #[.int .i64 0, .int .i64 0, .int .i64 0, .int .i64 0, .int .i64 0, .string (⟨#[]⟩ : ByteArray)]) (t := 32) ?hr ?_; (case hd => rfl); (case hg => rfl); (case hr => first | (go_simp; done) | (go_simp; rfl)); intro gb365 hg w40 hbox hb; have n0_ := A_ (Kd.N_below (Kd.N_elderB (by (with_reducible repeat (first | apply Kd.N_alloc | apply Kd.N_drewN | apply Kd.N_drew)); exact HO343.out) gb365 (Nat.le_of_eq hg.symm)) hb); have n1_ := A_ (Kd.N_below (Kd.N_elderB (by (with_reducible repeat (first | apply Kd.N_alloc | apply Kd.N_drewN | apply Kd.N_drew)); exact HO346.out) gb365 (Nat.le_of_eq hg.symm)) hb); have n2_ := A_ (Kd.N_below (Kd.N_elderB (by (with_reducible repeat (first | apply Kd.N_alloc | apply Kd.N_drewN | apply Kd.N_drew)); exact HO357.out) gb365 (Nat.le_of_eq hg.symm)) hb); have n3_ := A_ (kb_ BK354 hb); have n4_ := A_ (below_step bw_ hb); have n5_ := A_ (hbox); have n6_ := A_ (gz_ (w := w) hg); have n7_ := A_ (gz_ (w := w) hg); have n8_ := A_ (nl_ BK354 hg); have n9_ := A_ (ng_ BK354 hg); replace HO343 := n0_; replace HO346 := n1_; replace HO357 := n2_; replace BK354 := n3_; replace HB := n4_; have BK365 := n5_; have GW365 := n6_; have GE365 := n7_; have NB354_365 := n8_; have NB365_354 := n9_; clear n0_ n1_ n2_ n3_ n4_ n5_ n6_ n7_ n8_ n9_; clear hb hbox hg; have hnb41 := NB365_354.out; have hnc41 := NB354_365.out; have hcz42_0 : w40.cell? ⟨gb365, 0, none⟩ = some (.int .i64 0) := e_ BK365 0; have hcz42_1 : w40.cell? ⟨gb365, 1, none⟩ = some (.int .i64 0) := e_ BK365 1; have hcz42_2 : w40.cell? ⟨gb365, 2, none⟩ = some (.int .i64 0) := e_ BK365 2; have hcz42_3 : w40.cell? ⟨gb365, 3, none⟩ = some (.int .i64 0) := e_ BK365 3; have hcz42_4 : w40.cell? ⟨gb365, 4, none⟩ = some (.int .i64 0) := e_ BK365 4; have hcz42_5 : w40.cell? ⟨gb365, 5, none⟩ = some (.string (⟨#[]⟩ : ByteArray)) := e_ BK365 5; obtain ⟨hfz42_0, hfz42_1, hfz42_2, hfz42_3, hfz42_4, hfz42_5⟩ := z6_ BK365) | ((with_reducible refine gate_store (t := 32) (p := 7) rfl ?_); refine store_event (t := 32) (p := 7) (v := ?vo_w43) (w1 := ((((((w40.setCell ⟨gb365, 0, none⟩ (.int .i64 t358)).setCell ⟨gb365, 1, none⟩ (.int .i64 t359)).setCell ⟨gb365, 2, none⟩ (.int .i64 t360)).setCell ⟨gb365, 3, none⟩ (.int .i64 t361)).setCell ⟨gb365, 4, none⟩ (.int .i64 t362)).setCell ⟨gb365, 5, none⟩ (.string t363))) ?hg ?ho ?hn ?hr ?_; (case ho => rfl); (case hg => rfl); (case hn => rfl); (case hr => first | (go_simp; done) | (go_simp; rfl)); intro w43 hw; have n0_ : Aside0 (Kd.N k48 48 w43 w.heap.size (fun k_ => some k_ ≠ (.slice Ao32 t344.length co32 : Value).ownBlock ∧ some k_ ≠ (.slice Ao38 t355.length co38 : Value).ownBlock ∧ k_ ≠ gb354 ∧ k_ ≠ gb365) (.slice Ao30 t341.length co30) t341) := ⟨(by rw [hw]; exact (by (with_reducible repeat (first | apply Kd.N_alloc | apply Kd.N_drewN | apply Kd.N_drew)); exact Kd.N_mono (Kd.N_far (p := ⟨gb365, 5, none⟩) (Kd.N_far (p := ⟨gb365, 4, none⟩) (Kd.N_far (p := ⟨gb365, 3, none⟩) (Kd.N_far (p := ⟨gb365, 2, none⟩) (Kd.N_far (p := ⟨gb365, 1, none⟩) (Kd.N_far (p := ⟨gb365, 0, none⟩) (Kd.N_mono HO343.out (fun k_ hk => (⟨hk, hk.2⟩ : _ ∧ k_ ≠ gb365))) (fun _ hk => hk.2) (.int .i64 t358)) (fun _ hk => hk.2) (.int .i64 t359)) (fun _ hk => hk.2) (.int .i64 t360)) (fun _ hk => hk.2) (.int .i64 t361)) (fun _ hk => hk.2) (.int .i64 t362)) (fun _ hk => hk.2) (.string t363)) (fun _ hk => ⟨hk.1.1.1.1, ⟨hk.1.1.2, ⟨hk.1.1.1.2, hk.1.2⟩⟩⟩)))⟩; have n1_ : Aside0 (Kd.N k46 46 w43 w.heap.size (fun k_ => some k_ ≠ (.slice Ao38 t355.length co38 : Value).ownBlock ∧ k_ ≠ gb354 ∧ k_ ≠ gb365) (.slice Ao32 t344.length co32) t344) := ⟨(by rw [hw]; exact (by (with_reducible repeat (first | apply Kd.N_alloc | apply Kd.N_drewN | apply Kd.N_drew)); exact Kd.N_mono (Kd.N_far (p := ⟨gb365, 5, none⟩) (Kd.N_far (p := ⟨gb365, 4, none⟩) (Kd.N_far (p := ⟨gb365, 3, none⟩) (Kd.N_far (p := ⟨gb365, 2, none⟩) (Kd.N_far (p := ⟨gb365, 1, none⟩) (Kd.N_far (p := ⟨gb365, 0, none⟩) (Kd.N_mono HO346.out (fun k_ hk => (⟨hk, hk.2⟩ : _ ∧ k_ ≠ gb365))) (fun _ hk => hk.2) (.int .i64 t358)) (fun _ hk => hk.2) (.int .i64 t359)) (fun _ hk => hk.2) (.int .i64 t360)) (fun _ hk => hk.2) (.int .i64 t361)) (fun _ hk => hk.2) (.int .i64 t362)) (fun _ hk => hk.2) (.string t363)) (fun _ hk => ⟨hk.1.1.2, ⟨hk.1.1.1, hk.1.2⟩⟩)))⟩; have n2_ : Aside0 (Kd.N k46 46 w43 w.heap.size (fun k_ => some k_ ≠ (.slice Ao30 t341.length co30 : Value).ownBlock ∧ some k_ ≠ (.slice Ao32 t344.length co32 : Value).ownBlock ∧ k_ ≠ gb354 ∧ k_ ≠ gb365) (.slice Ao38 t355.length co38) t355) := ⟨(by rw [hw]; exact (by (with_reducible repeat (first | apply Kd.N_alloc | apply Kd.N_drewN | apply Kd.N_drew)); exact Kd.N_mono (Kd.N_far (p := ⟨gb365, 5, none⟩) (Kd.N_far (p := ⟨gb365, 4, none⟩) (Kd.N_far (p := ⟨gb365, 3, none⟩) (Kd.N_far (p := ⟨gb365, 2, none⟩) (Kd.N_far (p := ⟨gb365, 1, none⟩) (Kd.N_far (p := ⟨gb365, 0, none⟩) (Kd.N_mono HO357.out (fun k_ hk => (⟨hk, hk.2⟩ : _ ∧ k_ ≠ gb365))) (fun _ hk => hk.2) (.int .i64 t358)) (fun _ hk => hk.2) (.int .i64 t359)) (fun _ hk => hk.2) (.int .i64 t360)) (fun _ hk => hk.2) (.int .i64 t361)) (fun _ hk => hk.2) (.int .i64 t362)) (fun _ hk => hk.2) (.string t363)) (fun _ hk => ⟨hk.1.1.1, ⟨hk.1.1.2.1, ⟨hk.1.1.2.2, hk.1.2⟩⟩⟩)))⟩; have n3_ : Aside0 (w43.heap[gb354]? = some (.cells #[.int .i64 t347, .int .i64 t348, .int .i64 t349, .int .i64 t350, .int .i64 t351, .string t352] 32 (0, 0))) := ⟨(by rw [hw]; exact bk_)⟩; have n4_ : Aside0 (w43.heap[gb365]? = some (.cells #[.int .i64 t358, .int .i64 t359, .int .i64 t360, .int .i64 t361, .int .i64 t362, .string t363] 32 (0, 0))) := ⟨(by rw [hw]; exact (by exact pk_ (b6_ BK365.out)))⟩; have n5_ : Aside0 (Below w.heap.size w w43) := ⟨(by rw [hw]; exact bw_)⟩; clear hw; replace HO343 := n0_; replace HO346 := n1_; replace HO357 := n2_; replace BK354 := n3_; replace BK365 := n4_; replace HB := n5_; clear n0_ n1_ n2_ n3_ n4_ n5_) | ((with_reducible refine gate_callee (f := 13) rfl ?_); refine goesL_ (some 44) rfl rfl Try.func13 (by kernel_rfl) rfl #[.slice A0 l0.length c0] rfl (by (try simp only [m0_, m1_, m2_]); first | done | rfl) ?_; (with_reducible refine (hopperref11_Join.calls k1 (fun k_ => k_ < w.heap.size) _ _ l0 t366 _ ?side1 A19.out).mono ?_); (case side1 => exact Kd.V_mk HC0.out (Kd.F_below (Kd.C_F k26_heap HR0.out) bw_)); rintro e w44 ⟨v367, rfl, ho0, hb⟩; refine ⟨_, rfl, ?_⟩; have n0_ := A_ (Kd.N_elder' (by (with_reducible repeat (first | apply Kd.N_alloc | apply Kd.N_drewN | apply Kd.N_drew)); exact HO343.out) (Kd.N_base ho0) hb); have n1_ := A_ (Kd.N_elder' (by (with_reducible repeat (first | apply Kd.N_alloc | apply Kd.N_drewN | apply Kd.N_drew)); exact HO346.out) (Kd.N_base ho0) hb); have n2_ := A_ (Kd.N_elder' (by (with_reducible repeat (first | apply Kd.N_alloc | apply Kd.N_drewN | apply Kd.N_drew)); exact HO357.out) (Kd.N_base ho0) hb); have n3_ := A_ (Kd.N_lower (Kd.N_mono (ok' := fun k_ => some k_ ≠ (.slice Ao30 t341.length co30 : Value).ownBlock ∧ some k_ ≠ (.slice Ao32 t344.length co32 : Value).ownBlock ∧ some k_ ≠ (.slice Ao38 t355.length co38 : Value).ownBlock ∧ k_ ≠ gb354 ∧ k_ ≠ gb365) ho0 (fun k_ hk_ => ⟨Or.elim hk_ (fun hs_ => fun e_ => Nat.not_le.2 hs_ (Kd.N_base HO343.out k_ e_.symm)) (fun hn_ => (Kd.fresh' (Kd.N_lt (by (with_reducible repeat (first | apply Kd.N_alloc | apply Kd.N_drewN | apply Kd.N_drew)); exact HO343.out)) k_ hn_)), Or.elim hk_ (fun hs_ => fun e_ => Nat.not_le.2 hs_ (Kd.N_base HO346.out k_ e_.symm)) (fun hn_ => (Kd.fresh' (Kd.N_lt (by (with_reducible repeat (first | apply Kd.N_alloc | apply Kd.N_drewN | apply Kd.N_drew)); exact HO346.out)) k_ hn_)), Or.elim hk_ (fun hs_ => fun e_ => Nat.not_le.2 hs_ (Kd.N_base HO357.out k_ e_.symm)) (fun hn_ => (Kd.fresh' (Kd.N_lt (by (with_reducible repeat (first | apply Kd.N_alloc | apply Kd.N_drewN | apply Kd.N_drew)); exact HO357.out)) k_ hn_)), Or.elim hk_ (fun hs_ => fun e_ => Nat.not_le.2 hs_ (by rw [e_]; exact GW354.out)) (fun hn_ => (Kd.freshB (g := gb354) (o := .cells #[.int .i64 t347, .int .i64 t348, .int .i64 t349, .int .i64 t350, .int .i64 t351, .string t352] 32 (0, 0)) (by (with_reducible repeat (first | refine bn_ ?_ _ | refine bd_ ?_ | refine ba_ ?_ _)); exact BK354.out) k_ hn_)), Or.elim hk_ (fun hs_ => fun e_ => Nat.not_le.2 hs_ (by rw [e_]; exact GW365.out)) (fun hn_ => (Kd.freshB (g := gb365) (o := .cells #[.int .i64 t358, .int .i64 t359, .int .i64 t360, .int .i64 t361, .int .i64 t362, .string t363] 32 (0, 0)) (by (with_reducible repeat (first | refine bn_ ?_ _ | refine bd_ ?_ | refine ba_ ?_ _)); exact BK365.out) k_ hn_))⟩)) (below_size bw_)); have n4_ := A_ (kb_ BK354 hb); have n5_ := A_ (kb_ BK365 hb); have n6_ := A_ (below_step bw_ hb); replace HO343 := n0_; replace HO346 := n1_; replace HO357 := n2_; have HO368 := n3_; replace BK354 := n4_; replace BK365 := n5_; replace HB := n6_; clear n0_ n1_ n2_ n3_ n4_ n5_ n6_; (try clear hb); (try clear hb2); (try clear hk); (try clear hi); (try clear ho0); obtain ⟨Ao45, co45, eo45⟩ := Kd.N_slice HO368.out; subst eo45) | ((with_reducible refine gate_callee (f := 14) rfl ?_); refine goesL_ (some 45) rfl rfl Try.func14 (by kernel_rfl) rfl #[.slice Ao32 t344.length co32, .slice Ao45 t366.length co45] rfl (by (try simp only [m0_, m1_, m2_]); first | done | rfl) ?_; (with_reducible refine (hopperref11_Accounts.calls k1 _ _ t344 _ _ t366 true _ ?side1 ?side2 ?side3 ?side4 A20.out).mono ?_); (case side1 => repeat (first | exact (Kd.N_reads' HO346.out).2.2 | (with_reducible refine ca_ ?_ _) | (with_reducible refine cn_ ?_ _) | (with_reducible refine cd_ ?_))); (case side2 => exact (Kd.N_reads' HO346.out).2.1); (case side3 => repeat (first | exact (Kd.N_reads' HO368.out).2.2 | (with_reducible refine ca_ ?_ _) | (with_reducible refine cn_ ?_ _) | (with_reducible refine cd_ ?_))); (case side4 => exact (Kd.N_reads' HO368.out).2.1); rintro e w46 ⟨rfl, hb⟩; refine ⟨_, rfl, ?_⟩; replace HO343 := A_ (Kd.N_below (by (with_reducible repeat (first | apply Kd.N_alloc | apply Kd.N_drewN | apply Kd.N_drew)); exact HO343.out) hb); replace HO346 := A_ (Kd.N_below (by (with_reducible repeat (first | apply Kd.N_alloc | apply Kd.N_drewN | apply Kd.N_drew)); exact HO346.out) hb); replace HO357 := A_ (Kd.N_below (by (with_reducible repeat (first | apply Kd.N_alloc | apply Kd.N_drewN | apply Kd.N_drew)); exact HO357.out) hb); replace HO368 := A_ (Kd.N_below (by (with_reducible repeat (first | apply Kd.N_alloc | apply Kd.N_drewN | apply Kd.N_drew)); exact HO368.out) hb); replace BK354 := A_ (kb_ BK354 hb); replace BK365 := A_ (kb_ BK365 hb); replace HB := A_ (below_step bw_ hb); (try clear hb); (try clear hb2); (try clear hk); (try clear hi); have hcz47_0 : w46.cell? ⟨gb354, 0, none⟩ = some (.int .i64 t347) := e_ BK354 0; have hcz47_1 : w46.cell? ⟨gb354, 1, none⟩ = some (.int .i64 t348) := e_ BK354 1; have hcz47_2 : w46.cell? ⟨gb354, 2, none⟩ = some (.int .i64 t349) := e_ BK354 2; have hcz47_3 : w46.cell? ⟨gb354, 3, none⟩ = some (.int .i64 t350) := e_ BK354 3; have hcz47_4 : w46.cell? ⟨gb354, 4, none⟩ = some (.int .i64 t351) := e_ BK354 4; have hcz47_5 : w46.cell? ⟨gb354, 5, none⟩ = some (.string t352) := e_ BK354 5; obtain ⟨hfz47_0, hfz47_1, hfz47_2, hfz47_3, hfz47_4, hfz47_5⟩ := z6_ BK354; have hcz48_0 : w46.cell? ⟨gb365, 0, none⟩ = some (.int .i64 t358) := e_ BK365 0; have hcz48_1 : w46.cell? ⟨gb365, 1, none⟩ = some (.int .i64 t359) := e_ BK365 1; have hcz48_2 : w46.cell? ⟨gb365, 2, none⟩ = some (.int .i64 t360) := e_ BK365 2; have hcz48_3 : w46.cell? ⟨gb365, 3, none⟩ = some (.int .i64 t361) := e_ BK365 3; have hcz48_4 : w46.cell? ⟨gb365, 4, none⟩ = some (.int .i64 t362) := e_ BK365 4; have hcz48_5 : w46.cell? ⟨gb365, 5, none⟩ = some (.string t363) := e_ BK365 5; obtain ⟨hfz48_0, hfz48_1, hfz48_2, hfz48_3, hfz48_4, hfz48_5⟩ := z6_ BK365) | (go_at_call 16; (with_reducible refine (shard_Lasts.calls k1 _ _ t344 t370 _ ?side1 ?side2 A24.out).mono ?_); (case side1 => repeat (first | exact (Kd.N_reads' HO346.out).2.2 | (with_reducible refine ca_ ?_ _) | (with_reducible refine cn_ ?_ _) | (with_reducible refine cd_ ?_))); (case side2 => exact (Kd.N_reads' HO346.out).2.1); rintro e w49 ⟨v371, rfl, ho0, hb⟩; replace HO343 := A_ (Kd.N_elder' (by (with_reducible repeat (first | apply Kd.N_alloc | apply Kd.N_drewN | apply Kd.N_drew)); exact HO343.out) (Kd.R_base ho0) hb); replace HO346 := A_ (Kd.N_elder' (by (with_reducible repeat (first | apply Kd.N_alloc | apply Kd.N_drewN | apply Kd.N_drew)); exact HO346.out) (Kd.R_base ho0) hb); replace HO357 := A_ (Kd.N_elder' (by (with_reducible repeat (first | apply Kd.N_alloc | apply Kd.N_drewN | apply Kd.N_drew)); exact HO357.out) (Kd.R_base ho0) hb); replace HO368 := A_ (Kd.N_elder' (by (with_reducible repeat (first | apply Kd.N_alloc | apply Kd.N_drewN | apply Kd.N_drew)); exact HO368.out) (Kd.R_base ho0) hb); have HO372 := A_ (Kd.R_lower (Kd.R_newB (Kd.R_newB ho0 (g := gb354) (o := .cells #[.int .i64 t347, .int .i64 t348, .int .i64 t349, .int .i64 t350, .int .i64 t351, .string t352] 32 (0, 0)) (by (with_reducible repeat (first | refine bn_ ?_ _ | refine bd_ ?_ | refine ba_ ?_ _)); exact BK354.out)) (g := gb365) (o := .cells #[.int .i64 t358, .int .i64 t359, .int .i64 t360, .int .i64 t361, .int .i64 t362, .string t363] 32 (0, 0)) (by (with_reducible repeat (first | refine bn_ ?_ _ | refine bd_ ?_ | refine ba_ ?_ _)); exact BK365.out)) (below_size bw_)); replace BK354 := A_ (kb_ BK354 hb); replace BK365 := A_ (kb_ BK365 hb); replace HB := A_ (below_step bw_ hb); (try clear hb); (try clear hb2); (try clear hk); (try clear hi); (try clear ho0)) | (go_at_call 17; (with_reducible refine (hopperref11_Lasts.calls k1 _ _ t344 t373 _ ?side1 ?side2 A25.out).mono ?_); (case side1 => repeat (first | exact (Kd.N_reads' HO346.out).2.2 | (with_reducible refine ca_ ?_ _) | (with_reducible refine cn_ ?_ _) | (with_reducible refine cd_ ?_))); (case side2 => exact (Kd.N_reads' HO346.out).2.1); rintro e w50 ⟨v374, rfl, ho0, hb⟩; have n0_ := A_ (Kd.N_elder' (by (with_reducible repeat (first | apply Kd.N_alloc | apply Kd.N_drewN | apply Kd.N_drew)); exact HO343.out) (Kd.R_base ho0) hb); have n1_ := A_ (Kd.N_elder' (by (with_reducible repeat (first | apply Kd.N_alloc | apply Kd.N_drewN | apply Kd.N_drew)); exact HO346.out) (Kd.R_base ho0) hb); have n2_ := A_ (Kd.N_elder' (by (with_reducible repeat (first | apply Kd.N_alloc | apply Kd.N_drewN | apply Kd.N_drew)); exact HO357.out) (Kd.R_base ho0) hb); have n3_ := A_ (Kd.N_elder' (by (with_reducible repeat (first | apply Kd.N_alloc | apply Kd.N_drewN | apply Kd.N_drew)); exact HO368.out) (Kd.R_base ho0) hb); have n4_ := A_ (Kd.R_elder' (pr_ HO372.out) (Kd.R_base ho0) hb); have n5_ := A_ (Kd.R_lower (Kd.R_newB (Kd.R_newB (Kd.R_new' ho0 (Kd.R_lt (pr_ HO372.out))) (g := gb354) (o := .cells #[.int .i64 t347, .int .i64 t348, .int .i64 t349, .int .i64 t350, .int .i64 t351, .string t352] 32 (0, 0)) (by (with_reducible repeat (first | refine bn_ ?_ _ | refine bd_ ?_ | refine ba_ ?_ _)); exact BK354.out)) (g := gb365) (o := .cells #[.int .i64 t358, .int .i64 t359, .int .i64 t360, .int .i64 t361, .int .i64 t362, .string t363] 32 (0, 0)) (by (with_reducible repeat (first | refine bn_ ?_ _ | refine bd_ ?_ | refine ba_ ?_ _)); exact BK365.out)) (below_size bw_)); have n6_ := A_ (kb_ BK354 hb); have n7_ := A_ (kb_ BK365 hb); have n8_ := A_ (below_step bw_ hb); replace HO343 := n0_; replace HO346 := n1_; replace HO357 := n2_; replace HO368 := n3_; replace HO372 := n4_; have HO375 := n5_; replace BK354 := n6_; replace BK365 := n7_; replace HB := n8_; clear n0_ n1_ n2_ n3_ n4_ n5_ n6_ n7_ n8_; (try clear hb); (try clear hb2); (try clear hk); (try clear hi); (try clear ho0); obtain ⟨Ao51, co51, eo51⟩ := Kd.R_slice HO372.out; subst eo51; obtain ⟨Ao52, co52, eo52⟩ := Kd.R_slice HO375.out; subst eo52) | (go_at_call 15; (with_reducible refine (hopperref04_Txs.calls k1 _ _ t370 _ _ t373 true _ ?side1 ?side2 ?side3 ?side4 A26.out).mono ?_); (case side1 => repeat (first | exact (Kd.R_reads' HO372.out).2.2 | (with_reducible refine ca_ ?_ _) | (with_reducible refine cn_ ?_ _) | (with_reducible refine cd_ ?_))); (case side2 => exact (Kd.R_reads' HO372.out).2.1); (case side3 => repeat (first | exact (Kd.R_reads' HO375.out).2.2 | (with_reducible refine ca_ ?_ _) | (with_reducible refine cn_ ?_ _) | (with_reducible refine cd_ ?_))); (case side4 => exact (Kd.R_reads' HO375.out).2.1); rintro e w' ⟨rfl, ⟨nd, rfl⟩⟩) | (go_at_call 8; (with_reducible refine (hopperlaw11_live.calls  t377 _ A28.out).mono ?_); rintro e w53 ⟨rfl, hb⟩; replace HO343 := A_ (Kd.N_below (by (with_reducible repeat (first | apply Kd.N_alloc | apply Kd.N_drewN | apply Kd.N_drew)); exact HO343.out) hb); replace HO346 := A_ (Kd.N_below (by (with_reducible repeat (first | apply Kd.N_alloc | apply Kd.N_drewN | apply Kd.N_drew)); exact HO346.out) hb); replace HO357 := A_ (Kd.N_below (by (with_reducible repeat (first | apply Kd.N_alloc | apply Kd.N_drewN | apply Kd.N_drew)); exact HO357.out) hb); replace HO368 := A_ (Kd.N_below (by (with_reducible repeat (first | apply Kd.N_alloc | apply Kd.N_drewN | apply Kd.N_drew)); exact HO368.out) hb); replace HO372 := A_ (Kd.R_below (pr_ HO372.out) hb); replace HO375 := A_ (Kd.R_below (pr_ HO375.out) hb); replace BK354 := A_ (kb_ BK354 hb); replace BK365 := A_ (kb_ BK365 hb); replace HB := A_ (below_step bw_ hb); (try clear hb); (try clear hb2); (try clear hk); (try clear hi)))
     go_ret
     exact ⟨by first | rfl | (simp [errW_none, errW_some] <;> rfl) | (simp [*, errW_none, errW_some] <;> rfl), by repeat (first | (with_reducible first | exact HB.out | apply wa_ | apply wn_ | apply wd_ | refine ws_ ?_ GE354.out | refine ws_ ?_ GE365.out) | exact HB.out)⟩
open Go.Proofs.Ytnjnogkhbadioaa.Row (okI okB okS okL) in
/-- THE ONE PURE STATEMENT of hopperlaw11_ShardJoins. -/
def hopperlaw11_ShardJoins.Pure : Prop := ∀ (l0 : List (S26)), (okL ok26) l0 → ∃ k, hopperlaw11_ShardJoins.f k l0 = some true

end Go.Proofs.Ytnjnogkhbadioaa.D
