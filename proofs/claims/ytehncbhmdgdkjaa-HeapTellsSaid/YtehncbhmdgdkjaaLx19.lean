/- Written by this session's own program over the kit's print: functions of Go told as plain functions, or the row of one statement; proved for every input, with no condition of ours. -/
import Derived.Test.YtehncbhmdgdkjaaLx0
import Derived.Test.YtehncbhmdgdkjaaLx18
namespace Go.Proofs.Ytehncbhmdgdkjaa.L
open Go.RowKit Go.Proofs.YtehncbhmdgdkjaaW.PrintWords Go.Proofs.YtehncbhmdgdkjaaW.PrintLast Go.Proofs.YtehncbhmdgdkjaaW.PrintMore
attribute [local go_sem] max2_int min2_int max_two min_two max_three min_three max_four min_four   -- for this text's walks alone
set_option linter.unusedVariables false
set_option linter.unusedSimpArgs false

/-! ### hopperref06_below: function 83 -/
def hopperref06_below.f (k : Nat) (l0 : List (S24)) (a1 : Int) : Option (Int) := if (wrap64 ((wrap64 (2 * a1)) + 1)) ≥ (l0.length : Int) then (some (-1)) else (if (wrap64 ((wrap64 ((wrap64 (2 * a1)) + 1)) + 1)) < (l0.length : Int) then (if 0 ≤ (wrap64 ((wrap64 ((wrap64 (2 * a1)) + 1)) + 1)) then (if 0 ≤ (wrap64 ((wrap64 (2 * a1)) + 1)) then (if (wrap64 ((wrap64 (2 * a1)) + 1)) < (l0.length : Int) then ((hopperref04_Better.f k ((rd_T24 l0 (wrap64 ((wrap64 ((wrap64 (2 * a1)) + 1)) + 1))).f0) ((rd_T24 l0 (wrap64 ((wrap64 ((wrap64 (2 * a1)) + 1)) + 1))).f1) ((rd_T24 l0 (wrap64 ((wrap64 ((wrap64 (2 * a1)) + 1)) + 1))).f2) ((rd_T24 l0 (wrap64 ((wrap64 ((wrap64 (2 * a1)) + 1)) + 1))).f3) ((rd_T24 l0 (wrap64 ((wrap64 ((wrap64 (2 * a1)) + 1)) + 1))).f4) ((rd_T24 l0 (wrap64 ((wrap64 ((wrap64 (2 * a1)) + 1)) + 1))).f5) ((rd_T24 l0 (wrap64 ((wrap64 (2 * a1)) + 1))).f0) ((rd_T24 l0 (wrap64 ((wrap64 (2 * a1)) + 1))).f1) ((rd_T24 l0 (wrap64 ((wrap64 (2 * a1)) + 1))).f2) ((rd_T24 l0 (wrap64 ((wrap64 (2 * a1)) + 1))).f3) ((rd_T24 l0 (wrap64 ((wrap64 (2 * a1)) + 1))).f4) ((rd_T24 l0 (wrap64 ((wrap64 (2 * a1)) + 1))).f5)).bind fun t380 => (if t380 = true then (some (wrap64 ((wrap64 ((wrap64 (2 * a1)) + 1)) + 1))) else (some (wrap64 ((wrap64 (2 * a1)) + 1))))) else (none)) else (none)) else (none)) else (some (wrap64 ((wrap64 (2 * a1)) + 1))))
theorem hopperref06_below.mono : ∀ a0 a1 k, LeO (hopperref06_below.f k a0 a1) (hopperref06_below.f (k + 1) a0 a1) := by
 intro a0 a1 k
 unfold hopperref06_below.f
 repeat' first
  | (with_reducible exact hopperref04_Better.mono _ _ _ _ _ _ _ _ _ _ _ _ _)
  | (with_reducible exact LeO.refl _)
  | (with_reducible exact LeO.none _)
  | (with_reducible refine LeO.ite ?_ ?_)
  | (with_reducible refine LeO.bind ?_ (fun _ => ?_))
  | exact hopperref04_Better.mono _ _ _ _ _ _ _ _ _ _ _ _ _
  | exact LeO.none _
  | refine LeO.ite ?_ ?_
  | refine LeO.bind ?_ (fun _ => ?_)
def hopperref06_below.T4 : Bool × List (List Nat × List Nat) := (true, [([], []), ([0], [0]), ([], []), ([2], [2]), ([1, 3], [1, 3]), ([4], [4]), ([5], [5]), ([5], [5]), ([7, 5], [5, 7]), ([6, 8, 5], [5, 6, 8]), ([9, 5], [5, 9]), ([5], [5]), ([5], [5]), ([11, 12, 5], [5, 11, 12]), ([13, 5], [5, 13]), ([10, 14, 5, 5], [5, 10, 14]), ([5, 15], [5, 15])])
def hopperref06_below.B4 : List Nat := [0, 1, 0, 4, 15, 31, 63, 63, 191, 511, 1023, 63, 63, 6207, 14399, 32767, 65535]
theorem hopperref06_below.tab4 : rtab .any (opsOf Try.f83 4) = hopperref06_below.T4 := by kernel_rfl
theorem hopperref06_below.bits4 : waitsOk hopperref06_below.T4.2 hopperref06_below.B4 = true := by kernel_rfl
set_option maxHeartbeats 8000000 in
set_option maxRecDepth 100000 in
theorem hopperref06_below.calls (k : Nat) (A0 : Option Addr) (c0 : Nat) (l0 : List (S24)) (a1 : Int) (r : Int) (w : World) (hr0 : Kd.C k24 w A0 l0.length l0) (hc0 : l0.length ≤ c0) (h : hopperref06_below.f k l0 a1 = some r) :
 Calls Try.prog 83 #[.slice A0 l0.length c0, .int .i64 a1] w fun e w' => e = .returned (.int .i64 r) ∧ Below w.heap.size w w' := by
 have hu24 := Try.underlying24
 have HR0 := A_ hr0
 have HC0 := A_ hc0
 clear hr0 hc0; have HB := A_ (Below.refl w.heap.size w)
 have H : (if (wrap64 ((wrap64 (2 * a1)) + 1)) ≥ (l0.length : Int) then (some (-1)) else (if (wrap64 ((wrap64 ((wrap64 (2 * a1)) + 1)) + 1)) < (l0.length : Int) then (if 0 ≤ (wrap64 ((wrap64 ((wrap64 (2 * a1)) + 1)) + 1)) then (if 0 ≤ (wrap64 ((wrap64 (2 * a1)) + 1)) then (if (wrap64 ((wrap64 (2 * a1)) + 1)) < (l0.length : Int) then ((hopperref04_Better.f k ((rd_T24 l0 (wrap64 ((wrap64 ((wrap64 (2 * a1)) + 1)) + 1))).f0) ((rd_T24 l0 (wrap64 ((wrap64 ((wrap64 (2 * a1)) + 1)) + 1))).f1) ((rd_T24 l0 (wrap64 ((wrap64 ((wrap64 (2 * a1)) + 1)) + 1))).f2) ((rd_T24 l0 (wrap64 ((wrap64 ((wrap64 (2 * a1)) + 1)) + 1))).f3) ((rd_T24 l0 (wrap64 ((wrap64 ((wrap64 (2 * a1)) + 1)) + 1))).f4) ((rd_T24 l0 (wrap64 ((wrap64 ((wrap64 (2 * a1)) + 1)) + 1))).f5) ((rd_T24 l0 (wrap64 ((wrap64 (2 * a1)) + 1))).f0) ((rd_T24 l0 (wrap64 ((wrap64 (2 * a1)) + 1))).f1) ((rd_T24 l0 (wrap64 ((wrap64 (2 * a1)) + 1))).f2) ((rd_T24 l0 (wrap64 ((wrap64 (2 * a1)) + 1))).f3) ((rd_T24 l0 (wrap64 ((wrap64 (2 * a1)) + 1))).f4) ((rd_T24 l0 (wrap64 ((wrap64 (2 * a1)) + 1))).f5)).bind fun t380 => (if t380 = true then (some (wrap64 ((wrap64 ((wrap64 (2 * a1)) + 1)) + 1))) else (some (wrap64 ((wrap64 (2 * a1)) + 1))))) else (none)) else (none)) else (none)) else (some (wrap64 ((wrap64 (2 * a1)) + 1))))) = some r := h
 clear h
 by_cases c3 : (wrap64 ((wrap64 (2 * a1)) + 1)) ≥ (l0.length : Int)
 · rw [if_pos c3] at H
   have c3b0 : decide ((l0.length : Int) ≤ (wrap64 ((wrap64 (2 * a1)) + 1))) = true := decide_eq_true c3
   clear c3
   obtain rfl := Option.some.inj H
   go_enter Try.func83, Try.ntmps83
   go_wp2
   go_ret
   exact ⟨by first | rfl | (simp [errW_none, errW_some] <;> rfl) | (simp [*, errW_none, errW_some] <;> rfl), by repeat (first | (with_reducible first | exact HB.out | apply wa_ | apply wn_ | apply wd_) | exact HB.out)⟩
 rw [if_neg c3] at H
 have c3b0 : decide ((l0.length : Int) ≤ (wrap64 ((wrap64 (2 * a1)) + 1))) = false := decide_eq_false c3
 clear c3
 by_cases c4 : (wrap64 ((wrap64 ((wrap64 (2 * a1)) + 1)) + 1)) < (l0.length : Int)
 · rw [if_pos c4] at H
   have c4b0 : decide ((wrap64 ((wrap64 ((wrap64 (2 * a1)) + 1)) + 1)) < (l0.length : Int)) = true := decide_eq_true c4
   clear c4
   obtain ⟨ji5, hji5⟩ : ∃ j_ : Int, (wrap64 ((wrap64 ((wrap64 (2 * a1)) + 1)) + 1)) = j_ := ⟨_, rfl⟩
   replace H : (if 0 ≤ (ji5) then (if 0 ≤ (wrap64 ((wrap64 (2 * a1)) + 1)) then (if (wrap64 ((wrap64 (2 * a1)) + 1)) < (l0.length : Int) then ((hopperref04_Better.f k ((rd_T24 l0 (ji5)).f0) ((rd_T24 l0 (ji5)).f1) ((rd_T24 l0 (ji5)).f2) ((rd_T24 l0 (ji5)).f3) ((rd_T24 l0 (ji5)).f4) ((rd_T24 l0 (ji5)).f5) ((rd_T24 l0 (wrap64 ((wrap64 (2 * a1)) + 1))).f0) ((rd_T24 l0 (wrap64 ((wrap64 (2 * a1)) + 1))).f1) ((rd_T24 l0 (wrap64 ((wrap64 (2 * a1)) + 1))).f2) ((rd_T24 l0 (wrap64 ((wrap64 (2 * a1)) + 1))).f3) ((rd_T24 l0 (wrap64 ((wrap64 (2 * a1)) + 1))).f4) ((rd_T24 l0 (wrap64 ((wrap64 (2 * a1)) + 1))).f5)).bind fun t380 => (if t380 = true then (some ji5) else (some (wrap64 ((wrap64 (2 * a1)) + 1))))) else (none)) else (none)) else (none)) = some r := by first | (rw [hji5] at H; exact H) | (simp only [hji5] at H ⊢; exact H)
   (try rw [hji5] at c4b0)
   have hji5w : (IntKind.i64.wrap ((wrap64 ((wrap64 (2 * a1)) + 1)) + 1)) = ji5 := (i64_w _).trans hji5
   by_cases c6 : 0 ≤ (ji5)
   rotate_left
   · rw [if_neg c6] at H
     exact absurd H (by simp)
   rw [if_pos c6] at H
   have c6b0 : decide (0 ≤ (ji5)) = true := decide_eq_true c6
   clear c6
   obtain ⟨ji7, hji7⟩ : ∃ j_ : Int, (wrap64 ((wrap64 (2 * a1)) + 1)) = j_ := ⟨_, rfl⟩
   replace H : (if 0 ≤ (ji7) then (if (ji7) < (l0.length : Int) then ((hopperref04_Better.f k ((rd_T24 l0 (ji5)).f0) ((rd_T24 l0 (ji5)).f1) ((rd_T24 l0 (ji5)).f2) ((rd_T24 l0 (ji5)).f3) ((rd_T24 l0 (ji5)).f4) ((rd_T24 l0 (ji5)).f5) ((rd_T24 l0 (ji7)).f0) ((rd_T24 l0 (ji7)).f1) ((rd_T24 l0 (ji7)).f2) ((rd_T24 l0 (ji7)).f3) ((rd_T24 l0 (ji7)).f4) ((rd_T24 l0 (ji7)).f5)).bind fun t380 => (if t380 = true then (some ji5) else (some ji7))) else (none)) else (none)) = some r := by first | (rw [hji7] at H; exact H) | (simp only [hji7] at H ⊢; exact H)
   (try rw [hji7] at c3b0)
   (try rw [hji7] at c4b0)
   have hji7w : (IntKind.i64.wrap ((wrap64 (2 * a1)) + 1)) = ji7 := (i64_w _).trans hji7
   have hjz : wrap64 (ji7 + 1) = ji5 := by rw [← hji7]; exact hji5
   have hjzw : IntKind.i64.wrap (ji7 + 1) = ji5 := (i64_w _).trans hjz
   by_cases c8 : 0 ≤ (ji7)
   rotate_left
   · rw [if_neg c8] at H
     exact absurd H (by simp)
   rw [if_pos c8] at H
   have c8b0 : decide (0 ≤ (ji7)) = true := decide_eq_true c8
   clear c8
   by_cases c9 : (ji7) < (l0.length : Int)
   rotate_left
   · rw [if_neg c9] at H
     exact absurd H (by simp)
   rw [if_pos c9] at H
   have c9b0 : decide ((ji7) < (l0.length : Int)) = true := decide_eq_true c9
   clear c9
   replace H := Option.bind_eq_some_iff.mp H
   obtain ⟨t380, A100, H⟩ := H
   try dsimp only at H
   have A10 := A_ A100
   clear A100
   by_cases c11 : t380 = true
   · subst c11
     have H1 : (some ji5) = some r := by rw [if_pos rfl] at H; exact H
     clear H
     have H := H1
     clear H1
     obtain rfl := Option.some.inj H
     go_enter Try.func83, Try.ntmps83
     try go_wp2
     have n0_ := A_ (wd_ HB.out); replace HB := n0_; clear n0_
     have p378 : 0 ≤ ((ji5) : Int) := of_decide_eq_true (by first | (with_reducible assumption) | assumption)
     have q378 : (ji5) < (l0.length : Int) := of_decide_eq_true (by first | (with_reducible assumption) | assumption)
     obtain ⟨ad378, e378, hx378_0, hx378_1, hx378_2, hx378_3, hx378_4, hx378_5⟩ := at_T24 HR0.out (ji5) p378 q378
     have hw378_5 := hx378_5
     have hw378_4 := hx378_4
     have hw378_3 := hx378_3
     have hw378_2 := hx378_2
     have hw378_1 := hx378_1
     have hw378_0 := hx378_0
     cases e378
     replace hx378_0 := on_ HB.out hx378_0
     replace hx378_1 := on_ HB.out hx378_1
     replace hx378_2 := on_ HB.out hx378_2
     replace hx378_3 := on_ HB.out hx378_3
     replace hx378_4 := on_ HB.out hx378_4
     replace hx378_5 := on_ HB.out hx378_5
     replace p378 := eq_true p378
     replace q378 := eq_true q378
     have p379 : 0 ≤ ((ji7) : Int) := of_decide_eq_true (by first | (with_reducible assumption) | assumption)
     have q379 : (ji7) < (l0.length : Int) := of_decide_eq_true (by first | (with_reducible assumption) | assumption)
     obtain ⟨ad379, e379, hx379_0, hx379_1, hx379_2, hx379_3, hx379_4, hx379_5⟩ := at_T24 HR0.out (ji7) p379 q379
     have hw379_5 := hx379_5
     have hw379_4 := hx379_4
     have hw379_3 := hx379_3
     have hw379_2 := hx379_2
     have hw379_1 := hx379_1
     have hw379_0 := hx379_0
     obtain rfl : ad378 = ad379 := (by injection e379)
     replace hx379_0 := on_ HB.out hx379_0
     replace hx379_1 := on_ HB.out hx379_1
     replace hx379_2 := on_ HB.out hx379_2
     replace hx379_3 := on_ HB.out hx379_3
     replace hx379_4 := on_ HB.out hx379_4
     replace hx379_5 := on_ HB.out hx379_5
     replace p379 := eq_true p379
     replace q379 := eq_true q379
     refine start_ (n := 17) (S := fun w' => w'.cell? (ad378.add (((ji5)).toNat * 6)) = some (.int .i64 ((rd_T24 l0 (ji5)).f0)) ∧ w'.cell? ⟨(ad378.add (((ji5)).toNat * 6)).block, (ad378.add (((ji5)).toNat * 6)).off + 1, none⟩ = some (.int .i64 ((rd_T24 l0 (ji5)).f1)) ∧ w'.cell? ⟨(ad378.add (((ji5)).toNat * 6)).block, (ad378.add (((ji5)).toNat * 6)).off + 2, none⟩ = some (.int .i64 ((rd_T24 l0 (ji5)).f2)) ∧ w'.cell? ⟨(ad378.add (((ji5)).toNat * 6)).block, (ad378.add (((ji5)).toNat * 6)).off + 3, none⟩ = some (.int .i64 ((rd_T24 l0 (ji5)).f3)) ∧ w'.cell? ⟨(ad378.add (((ji5)).toNat * 6)).block, (ad378.add (((ji5)).toNat * 6)).off + 4, none⟩ = some (.int .i64 ((rd_T24 l0 (ji5)).f4)) ∧ w'.cell? ⟨(ad378.add (((ji5)).toNat * 6)).block, (ad378.add (((ji5)).toNat * 6)).off + 5, none⟩ = some (.string ((rd_T24 l0 (ji5)).f5)) ∧ w'.cell? (ad378.add (((ji7)).toNat * 6)) = some (.int .i64 ((rd_T24 l0 (ji7)).f0)) ∧ w'.cell? ⟨(ad378.add (((ji7)).toNat * 6)).block, (ad378.add (((ji7)).toNat * 6)).off + 1, none⟩ = some (.int .i64 ((rd_T24 l0 (ji7)).f1)) ∧ w'.cell? ⟨(ad378.add (((ji7)).toNat * 6)).block, (ad378.add (((ji7)).toNat * 6)).off + 2, none⟩ = some (.int .i64 ((rd_T24 l0 (ji7)).f2)) ∧ w'.cell? ⟨(ad378.add (((ji7)).toNat * 6)).block, (ad378.add (((ji7)).toNat * 6)).off + 3, none⟩ = some (.int .i64 ((rd_T24 l0 (ji7)).f3)) ∧ w'.cell? ⟨(ad378.add (((ji7)).toNat * 6)).block, (ad378.add (((ji7)).toNat * 6)).off + 4, none⟩ = some (.int .i64 ((rd_T24 l0 (ji7)).f4)) ∧ w'.cell? ⟨(ad378.add (((ji7)).toNat * 6)).block, (ad378.add (((ji7)).toNat * 6)).off + 5, none⟩ = some (.string ((rd_T24 l0 (ji7)).f5))) (ds := []) #[F,F,F,F,F,F,F,F,F,F,F,F,F,F,F,F,F] (by kernel_rfl) rfl rfl ⟨((HB.out.cell (World.block_lt_of_cell? w _ hw378_0)).trans hw378_0), ((HB.out.cell (World.block_lt_of_cell? w _ hw378_1)).trans hw378_1), ((HB.out.cell (World.block_lt_of_cell? w _ hw378_2)).trans hw378_2), ((HB.out.cell (World.block_lt_of_cell? w _ hw378_3)).trans hw378_3), ((HB.out.cell (World.block_lt_of_cell? w _ hw378_4)).trans hw378_4), ((HB.out.cell (World.block_lt_of_cell? w _ hw378_5)).trans hw378_5), ((HB.out.cell (World.block_lt_of_cell? w _ hw379_0)).trans hw379_0), ((HB.out.cell (World.block_lt_of_cell? w _ hw379_1)).trans hw379_1), ((HB.out.cell (World.block_lt_of_cell? w _ hw379_2)).trans hw379_2), ((HB.out.cell (World.block_lt_of_cell? w _ hw379_3)).trans hw379_3), ((HB.out.cell (World.block_lt_of_cell? w _ hw379_4)).trans hw379_4), ((HB.out.cell (World.block_lt_of_cell? w _ hw379_5)).trans hw379_5)⟩ (fun hHeld => ?_); refine with_tabW hopperref06_below.tab4 hopperref06_below.bits4 (fun HT_ HW_ => ?_)
     generalize w.drew = w12 at HB hx378_0 hx378_1 hx378_2 hx378_3 hx378_4 hx378_5 hx379_0 hx379_1 hx379_2 hx379_3 hx379_4 hx379_5 hHeld ⊢
     refine pq_ 0 13 HT_ ?_
     refine pq_ 1 14 HT_ ?_
     refine pq_ 2 15 HT_ ?_
     refine pq_ 3 16 HT_ ?_
     refine pq_ 4 17 HT_ ?_
     refine pq_ 5 18 HT_ ?_
     refine pq_ 6 19 HT_ ?_
     refine pq_ 7 20 HT_ ?_
     refine pq_ 8 21 HT_ ?_
     refine pq_ 9 22 HT_ ?_
     refine pq_ 11 24 HT_ ?_
     refine pq_ 12 25 HT_ ?_
     refine pq_ 13 26 HT_ ?_
     refine tk_ 10 23 HT_ HW_ hHeld ?_
     refine tk_ 14 27 HT_ HW_ hHeld ?_
     refine one_ (i := 15) (N := some 28) #[T,T,T,T,T,T,T,T,T,T,T,T,T,T,T,T,F] rfl rfl (one_of HT_.out (by kernel_rfl)) (by decide) (fun K hK => ?_)
     refine goes_ Try.func49 (by kernel_rfl) rfl #[.agg #[.int .i64 ((rd_T24 l0 (ji5)).f0), .int .i64 ((rd_T24 l0 (ji5)).f1), .int .i64 ((rd_T24 l0 (ji5)).f2), .int .i64 ((rd_T24 l0 (ji5)).f3), .int .i64 ((rd_T24 l0 (ji5)).f4), .string ((rd_T24 l0 (ji5)).f5)], .agg #[.int .i64 ((rd_T24 l0 (ji7)).f0), .int .i64 ((rd_T24 l0 (ji7)).f1), .int .i64 ((rd_T24 l0 (ji7)).f2), .int .i64 ((rd_T24 l0 (ji7)).f3), .int .i64 ((rd_T24 l0 (ji7)).f4), .string ((rd_T24 l0 (ji7)).f5)]] (by rfl) rfl rfl (by (try simp only [m0_, m1_, m2_]); first | done | (simp only [hji5, hji7]; rfl) | rfl | (simp only [List.length_drop, List.length_take]; rfl)) ?_
     with_reducible refine (hopperref04_Better.calls k ((rd_T24 l0 (ji5)).f0) ((rd_T24 l0 (ji5)).f1) ((rd_T24 l0 (ji5)).f2) ((rd_T24 l0 (ji5)).f3) ((rd_T24 l0 (ji5)).f4) ((rd_T24 l0 (ji5)).f5) ((rd_T24 l0 (ji7)).f0) ((rd_T24 l0 (ji7)).f1) ((rd_T24 l0 (ji7)).f2) ((rd_T24 l0 (ji7)).f3) ((rd_T24 l0 (ji7)).f4) ((rd_T24 l0 (ji7)).f5) true _ A10.out).mono ?_
     rintro e w13 ⟨rfl, hb⟩
     refine ⟨_, rfl, ?_⟩
     have n0_ := A_ (below_step bw_ hb); replace HB := n0_; clear n0_
     (try clear hb)
     (try clear hb2)
     (try clear hk)
     (try clear hi)
     refine hK.out _ _ ⟨((HB.out.cell (World.block_lt_of_cell? w _ hw378_0)).trans hw378_0), ((HB.out.cell (World.block_lt_of_cell? w _ hw378_1)).trans hw378_1), ((HB.out.cell (World.block_lt_of_cell? w _ hw378_2)).trans hw378_2), ((HB.out.cell (World.block_lt_of_cell? w _ hw378_3)).trans hw378_3), ((HB.out.cell (World.block_lt_of_cell? w _ hw378_4)).trans hw378_4), ((HB.out.cell (World.block_lt_of_cell? w _ hw378_5)).trans hw378_5), ((HB.out.cell (World.block_lt_of_cell? w _ hw379_0)).trans hw379_0), ((HB.out.cell (World.block_lt_of_cell? w _ hw379_1)).trans hw379_1), ((HB.out.cell (World.block_lt_of_cell? w _ hw379_2)).trans hw379_2), ((HB.out.cell (World.block_lt_of_cell? w _ hw379_3)).trans hw379_3), ((HB.out.cell (World.block_lt_of_cell? w _ hw379_4)).trans hw379_4), ((HB.out.cell (World.block_lt_of_cell? w _ hw379_5)).trans hw379_5)⟩ (fun hHeld => ?_)
     clear hK K
     refine norm_ (a' := ?_) ?_ ?_
     rotate_left
     · show Act.put _ (some 28) _ = _
       simp only [Act.put, s0_, s1_, s2_, i64_w, i32_w]
       rfl
     refine pq_ 16 29 HT_ ?_
     refine done_ (done_of HT_.out (by kernel_rfl)) ?_
     try go_wp2
     go_ret
     exact ⟨by first | rfl | (simp [errW_none, errW_some] <;> rfl) | (simp only [← hji5, ← hji7]; first | rfl | (simp [errW_none, errW_some] <;> rfl)) | (simp [*, errW_none, errW_some] <;> rfl), by repeat (first | (with_reducible first | exact HB.out | apply wa_ | apply wn_ | apply wd_) | exact HB.out)⟩
   · replace c11 := Bool.eq_false_iff.mpr c11
     subst c11
     have H1 : (some ji7) = some r := by rw [if_neg (show ¬ (false = true) by decide)] at H; exact H
     clear H
     have H := H1
     clear H1
     obtain rfl := Option.some.inj H
     go_enter Try.func83, Try.ntmps83
     try go_wp2
     have n0_ := A_ (wd_ HB.out); replace HB := n0_; clear n0_
     have p378 : 0 ≤ ((ji5) : Int) := of_decide_eq_true (by first | (with_reducible assumption) | assumption)
     have q378 : (ji5) < (l0.length : Int) := of_decide_eq_true (by first | (with_reducible assumption) | assumption)
     obtain ⟨ad378, e378, hx378_0, hx378_1, hx378_2, hx378_3, hx378_4, hx378_5⟩ := at_T24 HR0.out (ji5) p378 q378
     have hw378_5 := hx378_5
     have hw378_4 := hx378_4
     have hw378_3 := hx378_3
     have hw378_2 := hx378_2
     have hw378_1 := hx378_1
     have hw378_0 := hx378_0
     cases e378
     replace hx378_0 := on_ HB.out hx378_0
     replace hx378_1 := on_ HB.out hx378_1
     replace hx378_2 := on_ HB.out hx378_2
     replace hx378_3 := on_ HB.out hx378_3
     replace hx378_4 := on_ HB.out hx378_4
     replace hx378_5 := on_ HB.out hx378_5
     replace p378 := eq_true p378
     replace q378 := eq_true q378
     have p379 : 0 ≤ ((ji7) : Int) := of_decide_eq_true (by first | (with_reducible assumption) | assumption)
     have q379 : (ji7) < (l0.length : Int) := of_decide_eq_true (by first | (with_reducible assumption) | assumption)
     obtain ⟨ad379, e379, hx379_0, hx379_1, hx379_2, hx379_3, hx379_4, hx379_5⟩ := at_T24 HR0.out (ji7) p379 q379
     have hw379_5 := hx379_5
     have hw379_4 := hx379_4
     have hw379_3 := hx379_3
     have hw379_2 := hx379_2
     have hw379_1 := hx379_1
     have hw379_0 := hx379_0
     obtain rfl : ad378 = ad379 := (by injection e379)
     replace hx379_0 := on_ HB.out hx379_0
     replace hx379_1 := on_ HB.out hx379_1
     replace hx379_2 := on_ HB.out hx379_2
     replace hx379_3 := on_ HB.out hx379_3
     replace hx379_4 := on_ HB.out hx379_4
     replace hx379_5 := on_ HB.out hx379_5
     replace p379 := eq_true p379
     replace q379 := eq_true q379
     refine start_ (n := 17) (S := fun w' => w'.cell? (ad378.add (((ji5)).toNat * 6)) = some (.int .i64 ((rd_T24 l0 (ji5)).f0)) ∧ w'.cell? ⟨(ad378.add (((ji5)).toNat * 6)).block, (ad378.add (((ji5)).toNat * 6)).off + 1, none⟩ = some (.int .i64 ((rd_T24 l0 (ji5)).f1)) ∧ w'.cell? ⟨(ad378.add (((ji5)).toNat * 6)).block, (ad378.add (((ji5)).toNat * 6)).off + 2, none⟩ = some (.int .i64 ((rd_T24 l0 (ji5)).f2)) ∧ w'.cell? ⟨(ad378.add (((ji5)).toNat * 6)).block, (ad378.add (((ji5)).toNat * 6)).off + 3, none⟩ = some (.int .i64 ((rd_T24 l0 (ji5)).f3)) ∧ w'.cell? ⟨(ad378.add (((ji5)).toNat * 6)).block, (ad378.add (((ji5)).toNat * 6)).off + 4, none⟩ = some (.int .i64 ((rd_T24 l0 (ji5)).f4)) ∧ w'.cell? ⟨(ad378.add (((ji5)).toNat * 6)).block, (ad378.add (((ji5)).toNat * 6)).off + 5, none⟩ = some (.string ((rd_T24 l0 (ji5)).f5)) ∧ w'.cell? (ad378.add (((ji7)).toNat * 6)) = some (.int .i64 ((rd_T24 l0 (ji7)).f0)) ∧ w'.cell? ⟨(ad378.add (((ji7)).toNat * 6)).block, (ad378.add (((ji7)).toNat * 6)).off + 1, none⟩ = some (.int .i64 ((rd_T24 l0 (ji7)).f1)) ∧ w'.cell? ⟨(ad378.add (((ji7)).toNat * 6)).block, (ad378.add (((ji7)).toNat * 6)).off + 2, none⟩ = some (.int .i64 ((rd_T24 l0 (ji7)).f2)) ∧ w'.cell? ⟨(ad378.add (((ji7)).toNat * 6)).block, (ad378.add (((ji7)).toNat * 6)).off + 3, none⟩ = some (.int .i64 ((rd_T24 l0 (ji7)).f3)) ∧ w'.cell? ⟨(ad378.add (((ji7)).toNat * 6)).block, (ad378.add (((ji7)).toNat * 6)).off + 4, none⟩ = some (.int .i64 ((rd_T24 l0 (ji7)).f4)) ∧ w'.cell? ⟨(ad378.add (((ji7)).toNat * 6)).block, (ad378.add (((ji7)).toNat * 6)).off + 5, none⟩ = some (.string ((rd_T24 l0 (ji7)).f5))) (ds := []) #[F,F,F,F,F,F,F,F,F,F,F,F,F,F,F,F,F] (by kernel_rfl) rfl rfl ⟨((HB.out.cell (World.block_lt_of_cell? w _ hw378_0)).trans hw378_0), ((HB.out.cell (World.block_lt_of_cell? w _ hw378_1)).trans hw378_1), ((HB.out.cell (World.block_lt_of_cell? w _ hw378_2)).trans hw378_2), ((HB.out.cell (World.block_lt_of_cell? w _ hw378_3)).trans hw378_3), ((HB.out.cell (World.block_lt_of_cell? w _ hw378_4)).trans hw378_4), ((HB.out.cell (World.block_lt_of_cell? w _ hw378_5)).trans hw378_5), ((HB.out.cell (World.block_lt_of_cell? w _ hw379_0)).trans hw379_0), ((HB.out.cell (World.block_lt_of_cell? w _ hw379_1)).trans hw379_1), ((HB.out.cell (World.block_lt_of_cell? w _ hw379_2)).trans hw379_2), ((HB.out.cell (World.block_lt_of_cell? w _ hw379_3)).trans hw379_3), ((HB.out.cell (World.block_lt_of_cell? w _ hw379_4)).trans hw379_4), ((HB.out.cell (World.block_lt_of_cell? w _ hw379_5)).trans hw379_5)⟩ (fun hHeld => ?_); refine with_tabW hopperref06_below.tab4 hopperref06_below.bits4 (fun HT_ HW_ => ?_)
     generalize w.drew = w14 at HB hx378_0 hx378_1 hx378_2 hx378_3 hx378_4 hx378_5 hx379_0 hx379_1 hx379_2 hx379_3 hx379_4 hx379_5 hHeld ⊢
     refine pq_ 0 13 HT_ ?_
     refine pq_ 1 14 HT_ ?_
     refine pq_ 2 15 HT_ ?_
     refine pq_ 3 16 HT_ ?_
     refine pq_ 4 17 HT_ ?_
     refine pq_ 5 18 HT_ ?_
     refine pq_ 6 19 HT_ ?_
     refine pq_ 7 20 HT_ ?_
     refine pq_ 8 21 HT_ ?_
     refine pq_ 9 22 HT_ ?_
     refine pq_ 11 24 HT_ ?_
     refine pq_ 12 25 HT_ ?_
     refine pq_ 13 26 HT_ ?_
     refine tk_ 10 23 HT_ HW_ hHeld ?_
     refine tk_ 14 27 HT_ HW_ hHeld ?_
     refine one_ (i := 15) (N := some 28) #[T,T,T,T,T,T,T,T,T,T,T,T,T,T,T,T,F] rfl rfl (one_of HT_.out (by kernel_rfl)) (by decide) (fun K hK => ?_)
     refine goes_ Try.func49 (by kernel_rfl) rfl #[.agg #[.int .i64 ((rd_T24 l0 (ji5)).f0), .int .i64 ((rd_T24 l0 (ji5)).f1), .int .i64 ((rd_T24 l0 (ji5)).f2), .int .i64 ((rd_T24 l0 (ji5)).f3), .int .i64 ((rd_T24 l0 (ji5)).f4), .string ((rd_T24 l0 (ji5)).f5)], .agg #[.int .i64 ((rd_T24 l0 (ji7)).f0), .int .i64 ((rd_T24 l0 (ji7)).f1), .int .i64 ((rd_T24 l0 (ji7)).f2), .int .i64 ((rd_T24 l0 (ji7)).f3), .int .i64 ((rd_T24 l0 (ji7)).f4), .string ((rd_T24 l0 (ji7)).f5)]] (by rfl) rfl rfl (by (try simp only [m0_, m1_, m2_]); first | done | (simp only [hji5, hji7]; rfl) | rfl | (simp only [List.length_drop, List.length_take]; rfl)) ?_
     with_reducible refine (hopperref04_Better.calls k ((rd_T24 l0 (ji5)).f0) ((rd_T24 l0 (ji5)).f1) ((rd_T24 l0 (ji5)).f2) ((rd_T24 l0 (ji5)).f3) ((rd_T24 l0 (ji5)).f4) ((rd_T24 l0 (ji5)).f5) ((rd_T24 l0 (ji7)).f0) ((rd_T24 l0 (ji7)).f1) ((rd_T24 l0 (ji7)).f2) ((rd_T24 l0 (ji7)).f3) ((rd_T24 l0 (ji7)).f4) ((rd_T24 l0 (ji7)).f5) false _ A10.out).mono ?_
     rintro e w15 ⟨rfl, hb⟩
     refine ⟨_, rfl, ?_⟩
     have n0_ := A_ (below_step bw_ hb); replace HB := n0_; clear n0_
     (try clear hb)
     (try clear hb2)
     (try clear hk)
     (try clear hi)
     refine hK.out _ _ ⟨((HB.out.cell (World.block_lt_of_cell? w _ hw378_0)).trans hw378_0), ((HB.out.cell (World.block_lt_of_cell? w _ hw378_1)).trans hw378_1), ((HB.out.cell (World.block_lt_of_cell? w _ hw378_2)).trans hw378_2), ((HB.out.cell (World.block_lt_of_cell? w _ hw378_3)).trans hw378_3), ((HB.out.cell (World.block_lt_of_cell? w _ hw378_4)).trans hw378_4), ((HB.out.cell (World.block_lt_of_cell? w _ hw378_5)).trans hw378_5), ((HB.out.cell (World.block_lt_of_cell? w _ hw379_0)).trans hw379_0), ((HB.out.cell (World.block_lt_of_cell? w _ hw379_1)).trans hw379_1), ((HB.out.cell (World.block_lt_of_cell? w _ hw379_2)).trans hw379_2), ((HB.out.cell (World.block_lt_of_cell? w _ hw379_3)).trans hw379_3), ((HB.out.cell (World.block_lt_of_cell? w _ hw379_4)).trans hw379_4), ((HB.out.cell (World.block_lt_of_cell? w _ hw379_5)).trans hw379_5)⟩ (fun hHeld => ?_)
     clear hK K
     refine norm_ (a' := ?_) ?_ ?_
     rotate_left
     · show Act.put _ (some 28) _ = _
       simp only [Act.put, s0_, s1_, s2_, i64_w, i32_w]
       rfl
     refine pq_ 16 29 HT_ ?_
     refine done_ (done_of HT_.out (by kernel_rfl)) ?_
     try go_wp2
     go_ret
     exact ⟨by first | rfl | (simp [errW_none, errW_some] <;> rfl) | (simp only [← hji5, ← hji7]; first | rfl | (simp [errW_none, errW_some] <;> rfl)) | (simp [*, errW_none, errW_some] <;> rfl), by repeat (first | (with_reducible first | exact HB.out | apply wa_ | apply wn_ | apply wd_) | exact HB.out)⟩
 · rw [if_neg c4] at H
   have c4b0 : decide ((wrap64 ((wrap64 ((wrap64 (2 * a1)) + 1)) + 1)) < (l0.length : Int)) = false := decide_eq_false c4
   clear c4
   obtain rfl := Option.some.inj H
   go_enter Try.func83, Try.ntmps83
   try go_wp2
   have n0_ := A_ (wd_ HB.out); replace HB := n0_; clear n0_
   refine start_ (n := 17) (S := fun w' => True) (ds := []) #[F,F,F,F,F,F,F,F,F,F,F,F,F,F,F,F,F] (by kernel_rfl) rfl rfl trivial (fun hHeld => ?_); refine with_tabW hopperref06_below.tab4 hopperref06_below.bits4 (fun HT_ HW_ => ?_)
   generalize w.drew = w16 at HB hHeld ⊢
   refine pq_ 0 13 HT_ ?_
   refine pq_ 1 14 HT_ ?_
   refine pq_ 2 15 HT_ ?_
   refine pq_ 3 16 HT_ ?_
   refine pq_ 4 17 HT_ ?_
   refine pq_ 5 18 HT_ ?_
   refine pu_ 6 19 HT_ ?_
   refine pu_ 7 20 HT_ ?_
   refine pu_ 8 21 HT_ ?_
   refine pu_ 9 22 HT_ ?_
   refine pu_ 10 23 HT_ ?_
   refine pu_ 11 24 HT_ ?_
   refine pu_ 12 25 HT_ ?_
   refine pu_ 13 26 HT_ ?_
   refine pu_ 14 27 HT_ ?_
   refine pu_ 15 28 HT_ ?_
   refine pq_ 16 29 HT_ ?_
   refine done_ (done_of HT_.out (by kernel_rfl)) ?_
   try go_wp2
   go_ret
   exact ⟨by first | rfl | (simp [errW_none, errW_some] <;> rfl) | (simp [*, errW_none, errW_some] <;> rfl), by repeat (first | (with_reducible first | exact HB.out | apply wa_ | apply wn_ | apply wd_) | exact HB.out)⟩

end Go.Proofs.Ytehncbhmdgdkjaa.L
