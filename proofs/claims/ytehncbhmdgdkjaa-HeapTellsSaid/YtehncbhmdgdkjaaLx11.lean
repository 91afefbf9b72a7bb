/- Written by this session's own program over the kit's print: functions of Go told as plain functions, or the row of one statement; proved for every input, with no condition of ours. -/
import Derived.Test.YtehncbhmdgdkjaaLx0
import Derived.Test.YtehncbhmdgdkjaaLx10
namespace Go.Proofs.Ytehncbhmdgdkjaa.L
open Go.RowKit Go.Proofs.YtehncbhmdgdkjaaW.PrintWords Go.Proofs.YtehncbhmdgdkjaaW.PrintLast Go.Proofs.YtehncbhmdgdkjaaW.PrintMore
attribute [local go_sem] max2_int min2_int max_two min_two max_three min_three max_four min_four   -- for this text's walks alone
set_option linter.unusedVariables false
set_option linter.unusedSimpArgs false

/-! ### heap_Worst: function 26 -/
def heap_Worst.l0 : Nat → List (S24) → Int → Int → Int → Option (Int × Bool)
 | 0, _, _, _, _ => none
 | k + 1, x0, x4, x7, x8 => if x8 < x7 then (if 0 ≤ x4 then (if x4 < (x0.length : Int) then (if 0 ≤ x8 then (if x8 < (x0.length : Int) then ((txn_Better.f k ((rd_T24 x0 x4).f0) ((rd_T24 x0 x4).f1) ((rd_T24 x0 x4).f2) ((rd_T24 x0 x4).f3) ((rd_T24 x0 x4).f4) ((rd_T24 x0 x4).f5) ((rd_T24 x0 x8).f0) ((rd_T24 x0 x8).f1) ((rd_T24 x0 x8).f2) ((rd_T24 x0 x8).f3) ((rd_T24 x0 x8).f4) ((rd_T24 x0 x8).f5)).bind fun t136 => (if t136 = true then (heap_Worst.l0 k x0 x8 x7 (wrap64 (x8 + 1))) else (heap_Worst.l0 k x0 x4 x7 (wrap64 (x8 + 1))))) else (none)) else (none)) else (none)) else (none)) else (some (x4, decide ((x0.length : Int) > 0)))
def heap_Worst.f (k : Nat) (l0 : List (S24)) : Option (Int × Bool) := heap_Worst.l0 k l0 0 (l0.length : Int) 0
theorem heap_Worst.mono_l : ∀ k, (∀ y0 y1 y2 y3, LeO (heap_Worst.l0 k y0 y1 y2 y3) (heap_Worst.l0 (k + 1) y0 y1 y2 y3))
 | 0 => fun _ _ _ _ r h => by simp [heap_Worst.l0] at h
 | k + 1 => by
  have ih0 := heap_Worst.mono_l k
  · intro y0 y1 y2 y3
    unfold heap_Worst.l0
    repeat' first
    | (with_reducible exact ih0 _ _ _ _)
    | (with_reducible exact txn_Better.mono _ _ _ _ _ _ _ _ _ _ _ _ _)
    | (with_reducible exact LeO.refl _)
    | (with_reducible exact LeO.none _)
    | (with_reducible refine LeO.ite ?_ ?_)
    | (with_reducible refine LeO.bind ?_ (fun _ => ?_))
    | exact ih0 _ _ _ _
    | exact txn_Better.mono _ _ _ _ _ _ _ _ _ _ _ _ _
    | exact LeO.none _
    | refine LeO.ite ?_ ?_
    | refine LeO.bind ?_ (fun _ => ?_)
theorem heap_Worst.mono : ∀ a0 k, LeO (heap_Worst.f k a0) (heap_Worst.f (k + 1) a0) := by
 intro a0 k
 have ih0 := heap_Worst.mono_l k
 unfold heap_Worst.f
 repeat' first
  | (with_reducible exact ih0 _ _ _ _)
  | (with_reducible exact txn_Better.mono _ _ _ _ _ _ _ _ _ _ _ _ _)
  | (with_reducible exact LeO.refl _)
  | (with_reducible exact LeO.none _)
  | (with_reducible refine LeO.ite ?_ ?_)
  | (with_reducible refine LeO.bind ?_ (fun _ => ?_))
  | exact ih0 _ _ _ _
  | exact txn_Better.mono _ _ _ _ _ _ _ _ _ _ _ _ _
  | exact LeO.none _
  | refine LeO.ite ?_ ?_
  | refine LeO.bind ?_ (fun _ => ?_)
def heap_Worst.T5 : Bool × List (List Nat × List Nat) := (true, [([], []), ([], []), ([0, 1], [0, 1]), ([2], [2]), ([], []), ([], []), ([4, 5], [4, 5]), ([6], [6]), ([3, 7], [3, 7])])
def heap_Worst.B5 : List Nat := [0, 0, 3, 7, 0, 0, 48, 112, 255]
theorem heap_Worst.tab5 : rtab .any (opsOf Try.f26 5) = heap_Worst.T5 := by kernel_rfl
theorem heap_Worst.bits5 : waitsOk heap_Worst.T5.2 heap_Worst.B5 = true := by kernel_rfl
set_option maxHeartbeats 8000000 in
set_option maxRecDepth 100000 in
theorem heap_Worst.calls (k : Nat) (A0 : Option Addr) (c0 : Nat) (l0 : List (S24)) (r1 : Int) (r2 : Bool) (w : World) (hr0 : Kd.C k24 w A0 l0.length l0) (hc0 : l0.length ≤ c0) (h : heap_Worst.f k l0 = some (r1, r2)) :
 Calls Try.prog 26 #[.slice A0 l0.length c0] w fun e w' => e = .returned (.tuple #[.int .i64 r1, .bool r2]) ∧ Below w.heap.size w w' := by
 have hu24 := Try.underlying24
 have HR0 := A_ hr0
 have HC0 := A_ hc0
 clear hr0 hc0; have HB := A_ (Below.refl w.heap.size w)
 have H : (heap_Worst.l0 k l0 0 (l0.length : Int) 0) = some (r1, r2) := h
 clear h
 have H' := A_ H
 clear H
 go_enter Try.func26, Try.ntmps26
 go_wp2
 go_loopg [4, 8] k (fun kq v4 v8 w' => ∃ (x4_1 : Int) (x8_1 : Int), v4 = .int .i64 x4_1 ∧ v8 = .int .i64 x8_1 ∧ Aside0 (heap_Worst.l0 kq l0 x4_1 (l0.length : Int) x8_1 = some (r1, r2)) ∧ Aside0 (kq ≤ k) ∧ Aside0 (Below w.heap.size w w'))
 case atStart => exact ⟨(0), (0), (by first | rfl | (simp; done) | (simp [*]; done)), (by first | rfl | (simp; done) | (simp [*]; done)), H', ⟨Nat.le_refl _⟩, ⟨by repeat (first | (with_reducible first | exact HB.out | apply wa_ | apply wn_ | apply wd_) | exact HB.out)⟩⟩
 case round =>
  clear H'
  obtain ⟨x4_1, x8_1, rfl, rfl, HA, HK1, HB⟩ := hrel
  cases gk with
  | zero => exact absurd HA.out (by simp [heap_Worst.l0])
  | succ k1 =>
   have H := HA.out
   clear HA
   simp only [heap_Worst.l0] at H
   by_cases c2 : x8_1 < (l0.length : Int)
   rotate_left
   · rw [if_neg c2] at H
     have c2b0 : decide (x8_1 < (l0.length : Int)) = false := decide_eq_false c2
     clear c2
     simp only [Option.some.injEq, Prod.mk.injEq] at H
     obtain ⟨rfl, rfl⟩ := H
     go_wp2
     go_ret2
     exact ⟨by first | rfl | (simp [errW_none, errW_some] <;> rfl) | (simp [*, errW_none, errW_some] <;> rfl), by repeat (first | (with_reducible first | exact HB.out | apply wa_ | apply wn_ | apply wd_) | exact HB.out)⟩

   rw [if_pos c2] at H
   have c2b0 : decide (x8_1 < (l0.length : Int)) = true := decide_eq_true c2
   clear c2
   by_cases c3 : 0 ≤ x4_1
   rotate_left
   · rw [if_neg c3] at H
     exact absurd H (by simp)
   rw [if_pos c3] at H
   have c3b0 : decide (0 ≤ x4_1) = true := decide_eq_true c3
   clear c3
   by_cases c4 : x4_1 < (l0.length : Int)
   rotate_left
   · rw [if_neg c4] at H
     exact absurd H (by simp)
   rw [if_pos c4] at H
   have c4b0 : decide (x4_1 < (l0.length : Int)) = true := decide_eq_true c4
   clear c4
   by_cases c5 : 0 ≤ x8_1
   rotate_left
   · rw [if_neg c5] at H
     exact absurd H (by simp)
   rw [if_pos c5] at H
   have c5b0 : decide (0 ≤ x8_1) = true := decide_eq_true c5
   clear c5
   by_cases c6 : x8_1 < (l0.length : Int)
   rotate_left
   · rw [if_neg c6] at H
     exact absurd H (by simp)
   rw [if_pos c6] at H
   have c6b0 : decide (x8_1 < (l0.length : Int)) = true := decide_eq_true c6
   clear c6
   replace H := Option.bind_eq_some_iff.mp H
   obtain ⟨t136, A70, H⟩ := H
   replace H : (if t136 = true then (heap_Worst.l0 k1 l0 x8_1 (l0.length : Int) (wrap64 (x8_1 + 1))) else (heap_Worst.l0 k1 l0 x4_1 (l0.length : Int) (wrap64 (x8_1 + 1)))) = some (r1, r2) := H
   have A7 := A_ A70
   clear A70
   by_cases c8 : t136 = true
   · subst c8
     have H1 : (heap_Worst.l0 k1 l0 x8_1 (l0.length : Int) (wrap64 (x8_1 + 1))) = some (r1, r2) := by rw [if_pos rfl] at H; exact H
     clear H
     have H := H1
     clear H1
     have H' := A_ H
     clear H
     try go_wp2
     have n0_ := A_ (wd_ HB.out); replace HB := n0_; clear n0_
     have p134 : 0 ≤ (x4_1 : Int) := of_decide_eq_true (by first | (with_reducible assumption) | assumption)
     have q134 : x4_1 < (l0.length : Int) := of_decide_eq_true (by first | (with_reducible assumption) | assumption)
     obtain ⟨ad134, e134, hx134_0, hx134_1, hx134_2, hx134_3, hx134_4, hx134_5⟩ := at_T24 HR0.out x4_1 p134 q134
     have hw134_5 := hx134_5
     have hw134_4 := hx134_4
     have hw134_3 := hx134_3
     have hw134_2 := hx134_2
     have hw134_1 := hx134_1
     have hw134_0 := hx134_0
     cases e134
     replace hx134_0 := on_ HB.out hx134_0
     replace hx134_1 := on_ HB.out hx134_1
     replace hx134_2 := on_ HB.out hx134_2
     replace hx134_3 := on_ HB.out hx134_3
     replace hx134_4 := on_ HB.out hx134_4
     replace hx134_5 := on_ HB.out hx134_5
     replace p134 := eq_true p134
     replace q134 := eq_true q134
     have p135 : 0 ≤ (x8_1 : Int) := of_decide_eq_true (by first | (with_reducible assumption) | assumption)
     have q135 : x8_1 < (l0.length : Int) := of_decide_eq_true (by first | (with_reducible assumption) | assumption)
     obtain ⟨ad135, e135, hx135_0, hx135_1, hx135_2, hx135_3, hx135_4, hx135_5⟩ := at_T24 HR0.out x8_1 p135 q135
     have hw135_5 := hx135_5
     have hw135_4 := hx135_4
     have hw135_3 := hx135_3
     have hw135_2 := hx135_2
     have hw135_1 := hx135_1
     have hw135_0 := hx135_0
     obtain rfl : ad134 = ad135 := (by injection e135)
     replace hx135_0 := on_ HB.out hx135_0
     replace hx135_1 := on_ HB.out hx135_1
     replace hx135_2 := on_ HB.out hx135_2
     replace hx135_3 := on_ HB.out hx135_3
     replace hx135_4 := on_ HB.out hx135_4
     replace hx135_5 := on_ HB.out hx135_5
     replace p135 := eq_true p135
     replace q135 := eq_true q135
     refine start_ (n := 9) (S := fun w' => w'.cell? (ad134.add ((x4_1).toNat * 6)) = some (.int .i64 ((rd_T24 l0 x4_1).f0)) ∧ w'.cell? ⟨(ad134.add ((x4_1).toNat * 6)).block, (ad134.add ((x4_1).toNat * 6)).off + 1, none⟩ = some (.int .i64 ((rd_T24 l0 x4_1).f1)) ∧ w'.cell? ⟨(ad134.add ((x4_1).toNat * 6)).block, (ad134.add ((x4_1).toNat * 6)).off + 2, none⟩ = some (.int .i64 ((rd_T24 l0 x4_1).f2)) ∧ w'.cell? ⟨(ad134.add ((x4_1).toNat * 6)).block, (ad134.add ((x4_1).toNat * 6)).off + 3, none⟩ = some (.int .i64 ((rd_T24 l0 x4_1).f3)) ∧ w'.cell? ⟨(ad134.add ((x4_1).toNat * 6)).block, (ad134.add ((x4_1).toNat * 6)).off + 4, none⟩ = some (.int .i64 ((rd_T24 l0 x4_1).f4)) ∧ w'.cell? ⟨(ad134.add ((x4_1).toNat * 6)).block, (ad134.add ((x4_1).toNat * 6)).off + 5, none⟩ = some (.string ((rd_T24 l0 x4_1).f5)) ∧ w'.cell? (ad134.add ((x8_1).toNat * 6)) = some (.int .i64 ((rd_T24 l0 x8_1).f0)) ∧ w'.cell? ⟨(ad134.add ((x8_1).toNat * 6)).block, (ad134.add ((x8_1).toNat * 6)).off + 1, none⟩ = some (.int .i64 ((rd_T24 l0 x8_1).f1)) ∧ w'.cell? ⟨(ad134.add ((x8_1).toNat * 6)).block, (ad134.add ((x8_1).toNat * 6)).off + 2, none⟩ = some (.int .i64 ((rd_T24 l0 x8_1).f2)) ∧ w'.cell? ⟨(ad134.add ((x8_1).toNat * 6)).block, (ad134.add ((x8_1).toNat * 6)).off + 3, none⟩ = some (.int .i64 ((rd_T24 l0 x8_1).f3)) ∧ w'.cell? ⟨(ad134.add ((x8_1).toNat * 6)).block, (ad134.add ((x8_1).toNat * 6)).off + 4, none⟩ = some (.int .i64 ((rd_T24 l0 x8_1).f4)) ∧ w'.cell? ⟨(ad134.add ((x8_1).toNat * 6)).block, (ad134.add ((x8_1).toNat * 6)).off + 5, none⟩ = some (.string ((rd_T24 l0 x8_1).f5))) (ds := []) #[false, false, false, false, false, false, false, false, false] (by kernel_rfl) rfl rfl ⟨((HB.out.cell (World.block_lt_of_cell? w _ hw134_0)).trans hw134_0), ((HB.out.cell (World.block_lt_of_cell? w _ hw134_1)).trans hw134_1), ((HB.out.cell (World.block_lt_of_cell? w _ hw134_2)).trans hw134_2), ((HB.out.cell (World.block_lt_of_cell? w _ hw134_3)).trans hw134_3), ((HB.out.cell (World.block_lt_of_cell? w _ hw134_4)).trans hw134_4), ((HB.out.cell (World.block_lt_of_cell? w _ hw134_5)).trans hw134_5), ((HB.out.cell (World.block_lt_of_cell? w _ hw135_0)).trans hw135_0), ((HB.out.cell (World.block_lt_of_cell? w _ hw135_1)).trans hw135_1), ((HB.out.cell (World.block_lt_of_cell? w _ hw135_2)).trans hw135_2), ((HB.out.cell (World.block_lt_of_cell? w _ hw135_3)).trans hw135_3), ((HB.out.cell (World.block_lt_of_cell? w _ hw135_4)).trans hw135_4), ((HB.out.cell (World.block_lt_of_cell? w _ hw135_5)).trans hw135_5)⟩ (fun hHeld => ?_); refine with_tabW heap_Worst.tab5 heap_Worst.bits5 (fun HT_ HW_ => ?_)
     generalize wr.drew = w9 at HB hx134_0 hx134_1 hx134_2 hx134_3 hx134_4 hx134_5 hx135_0 hx135_1 hx135_2 hx135_3 hx135_4 hx135_5 hHeld ⊢
     refine pq_ 0 11 HT_ ?_
     refine pq_ 1 12 HT_ ?_
     refine pq_ 2 13 HT_ ?_
     refine pq_ 4 15 HT_ ?_
     refine pq_ 5 16 HT_ ?_
     refine pq_ 6 17 HT_ ?_
     refine tk_ 3 14 HT_ HW_ hHeld ?_
     refine tk_ 7 18 HT_ HW_ hHeld ?_
     refine one_ (i := 8) (N := some 19) #[true, true, true, true, true, true, true, true, true] rfl rfl (one_of HT_.out (by kernel_rfl)) (by decide) (fun K hK => ?_)
     refine goes_ Try.func84 (by kernel_rfl) rfl #[.agg #[.int .i64 ((rd_T24 l0 x4_1).f0), .int .i64 ((rd_T24 l0 x4_1).f1), .int .i64 ((rd_T24 l0 x4_1).f2), .int .i64 ((rd_T24 l0 x4_1).f3), .int .i64 ((rd_T24 l0 x4_1).f4), .string ((rd_T24 l0 x4_1).f5)], .agg #[.int .i64 ((rd_T24 l0 x8_1).f0), .int .i64 ((rd_T24 l0 x8_1).f1), .int .i64 ((rd_T24 l0 x8_1).f2), .int .i64 ((rd_T24 l0 x8_1).f3), .int .i64 ((rd_T24 l0 x8_1).f4), .string ((rd_T24 l0 x8_1).f5)]] (by rfl) rfl rfl (by (try simp only [m0_, m1_, m2_]); first | done | rfl) ?_
     with_reducible refine (txn_Better.calls k1 ((rd_T24 l0 x4_1).f0) ((rd_T24 l0 x4_1).f1) ((rd_T24 l0 x4_1).f2) ((rd_T24 l0 x4_1).f3) ((rd_T24 l0 x4_1).f4) ((rd_T24 l0 x4_1).f5) ((rd_T24 l0 x8_1).f0) ((rd_T24 l0 x8_1).f1) ((rd_T24 l0 x8_1).f2) ((rd_T24 l0 x8_1).f3) ((rd_T24 l0 x8_1).f4) ((rd_T24 l0 x8_1).f5) true _ A7.out).mono ?_
     rintro e w10 ⟨rfl, hb⟩
     refine ⟨_, rfl, ?_⟩
     have n0_ := A_ (below_step bw_ hb); replace HB := n0_; clear n0_
     (try clear hb)
     (try clear hb2)
     (try clear hk)
     (try clear hi)
     refine hK.out _ _ ⟨((HB.out.cell (World.block_lt_of_cell? w _ hw134_0)).trans hw134_0), ((HB.out.cell (World.block_lt_of_cell? w _ hw134_1)).trans hw134_1), ((HB.out.cell (World.block_lt_of_cell? w _ hw134_2)).trans hw134_2), ((HB.out.cell (World.block_lt_of_cell? w _ hw134_3)).trans hw134_3), ((HB.out.cell (World.block_lt_of_cell? w _ hw134_4)).trans hw134_4), ((HB.out.cell (World.block_lt_of_cell? w _ hw134_5)).trans hw134_5), ((HB.out.cell (World.block_lt_of_cell? w _ hw135_0)).trans hw135_0), ((HB.out.cell (World.block_lt_of_cell? w _ hw135_1)).trans hw135_1), ((HB.out.cell (World.block_lt_of_cell? w _ hw135_2)).trans hw135_2), ((HB.out.cell (World.block_lt_of_cell? w _ hw135_3)).trans hw135_3), ((HB.out.cell (World.block_lt_of_cell? w _ hw135_4)).trans hw135_4), ((HB.out.cell (World.block_lt_of_cell? w _ hw135_5)).trans hw135_5)⟩ (fun hHeld => ?_)
     clear hK K
     refine norm_ (a' := ?_) ?_ ?_
     rotate_left
     · show Act.put _ (some 19) _ = _
       simp only [Act.put, s0_, s1_, s2_, i64_w, i32_w]
       rfl
     refine done_ (done_of HT_.out (by kernel_rfl)) ?_
     try go_wp2
     go_roundg k1
     case measure => have := HK1.out; omega
     case rel => exact ⟨(x8_1), (wrap64 (x8_1 + 1)), (by first | rfl | (simp; done) | (simp [*]; done)), (by first | rfl | (simp; done) | (simp [*]; done)), H', ⟨by have := HK1.out; omega⟩, ⟨by repeat (first | (with_reducible first | exact HB.out | apply wa_ | apply wn_ | apply wd_) | exact HB.out)⟩⟩
   · replace c8 := Bool.eq_false_iff.mpr c8
     subst c8
     have H1 : (heap_Worst.l0 k1 l0 x4_1 (l0.length : Int) (wrap64 (x8_1 + 1))) = some (r1, r2) := by rw [if_neg (show ¬ (false = true) by decide)] at H; exact H
     clear H
     have H := H1
     clear H1
     have H' := A_ H
     clear H
     try go_wp2
     have n0_ := A_ (wd_ HB.out); replace HB := n0_; clear n0_
     have p134 : 0 ≤ (x4_1 : Int) := of_decide_eq_true (by first | (with_reducible assumption) | assumption)
     have q134 : x4_1 < (l0.length : Int) := of_decide_eq_true (by first | (with_reducible assumption) | assumption)
     obtain ⟨ad134, e134, hx134_0, hx134_1, hx134_2, hx134_3, hx134_4, hx134_5⟩ := at_T24 HR0.out x4_1 p134 q134
     have hw134_5 := hx134_5
     have hw134_4 := hx134_4
     have hw134_3 := hx134_3
     have hw134_2 := hx134_2
     have hw134_1 := hx134_1
     have hw134_0 := hx134_0
     cases e134
     replace hx134_0 := on_ HB.out hx134_0
     replace hx134_1 := on_ HB.out hx134_1
     replace hx134_2 := on_ HB.out hx134_2
     replace hx134_3 := on_ HB.out hx134_3
     replace hx134_4 := on_ HB.out hx134_4
     replace hx134_5 := on_ HB.out hx134_5
     replace p134 := eq_true p134
     replace q134 := eq_true q134
     have p135 : 0 ≤ (x8_1 : Int) := of_decide_eq_true (by first | (with_reducible assumption) | assumption)
     have q135 : x8_1 < (l0.length : Int) := of_decide_eq_true (by first | (with_reducible assumption) | assumption)
     obtain ⟨ad135, e135, hx135_0, hx135_1, hx135_2, hx135_3, hx135_4, hx135_5⟩ := at_T24 HR0.out x8_1 p135 q135
     have hw135_5 := hx135_5
     have hw135_4 := hx135_4
     have hw135_3 := hx135_3
     have hw135_2 := hx135_2
     have hw135_1 := hx135_1
     have hw135_0 := hx135_0
     obtain rfl : ad134 = ad135 := (by injection e135)
     replace hx135_0 := on_ HB.out hx135_0
     replace hx135_1 := on_ HB.out hx135_1
     replace hx135_2 := on_ HB.out hx135_2
     replace hx135_3 := on_ HB.out hx135_3
     replace hx135_4 := on_ HB.out hx135_4
     replace hx135_5 := on_ HB.out hx135_5
     replace p135 := eq_true p135
     replace q135 := eq_true q135
     refine start_ (n := 9) (S := fun w' => w'.cell? (ad134.add ((x4_1).toNat * 6)) = some (.int .i64 ((rd_T24 l0 x4_1).f0)) ∧ w'.cell? ⟨(ad134.add ((x4_1).toNat * 6)).block, (ad134.add ((x4_1).toNat * 6)).off + 1, none⟩ = some (.int .i64 ((rd_T24 l0 x4_1).f1)) ∧ w'.cell? ⟨(ad134.add ((x4_1).toNat * 6)).block, (ad134.add ((x4_1).toNat * 6)).off + 2, none⟩ = some (.int .i64 ((rd_T24 l0 x4_1).f2)) ∧ w'.cell? ⟨(ad134.add ((x4_1).toNat * 6)).block, (ad134.add ((x4_1).toNat * 6)).off + 3, none⟩ = some (.int .i64 ((rd_T24 l0 x4_1).f3)) ∧ w'.cell? ⟨(ad134.add ((x4_1).toNat * 6)).block, (ad134.add ((x4_1).toNat * 6)).off + 4, none⟩ = some (.int .i64 ((rd_T24 l0 x4_1).f4)) ∧ w'.cell? ⟨(ad134.add ((x4_1).toNat * 6)).block, (ad134.add ((x4_1).toNat * 6)).off + 5, none⟩ = some (.string ((rd_T24 l0 x4_1).f5)) ∧ w'.cell? (ad134.add ((x8_1).toNat * 6)) = some (.int .i64 ((rd_T24 l0 x8_1).f0)) ∧ w'.cell? ⟨(ad134.add ((x8_1).toNat * 6)).block, (ad134.add ((x8_1).toNat * 6)).off + 1, none⟩ = some (.int .i64 ((rd_T24 l0 x8_1).f1)) ∧ w'.cell? ⟨(ad134.add ((x8_1).toNat * 6)).block, (ad134.add ((x8_1).toNat * 6)).off + 2, none⟩ = some (.int .i64 ((rd_T24 l0 x8_1).f2)) ∧ w'.cell? ⟨(ad134.add ((x8_1).toNat * 6)).block, (ad134.add ((x8_1).toNat * 6)).off + 3, none⟩ = some (.int .i64 ((rd_T24 l0 x8_1).f3)) ∧ w'.cell? ⟨(ad134.add ((x8_1).toNat * 6)).block, (ad134.add ((x8_1).toNat * 6)).off + 4, none⟩ = some (.int .i64 ((rd_T24 l0 x8_1).f4)) ∧ w'.cell? ⟨(ad134.add ((x8_1).toNat * 6)).block, (ad134.add ((x8_1).toNat * 6)).off + 5, none⟩ = some (.string ((rd_T24 l0 x8_1).f5))) (ds := []) #[false, false, false, false, false, false, false, false, false] (by kernel_rfl) rfl rfl ⟨((HB.out.cell (World.block_lt_of_cell? w _ hw134_0)).trans hw134_0), ((HB.out.cell (World.block_lt_of_cell? w _ hw134_1)).trans hw134_1), ((HB.out.cell (World.block_lt_of_cell? w _ hw134_2)).trans hw134_2), ((HB.out.cell (World.block_lt_of_cell? w _ hw134_3)).trans hw134_3), ((HB.out.cell (World.block_lt_of_cell? w _ hw134_4)).trans hw134_4), ((HB.out.cell (World.block_lt_of_cell? w _ hw134_5)).trans hw134_5), ((HB.out.cell (World.block_lt_of_cell? w _ hw135_0)).trans hw135_0), ((HB.out.cell (World.block_lt_of_cell? w _ hw135_1)).trans hw135_1), ((HB.out.cell (World.block_lt_of_cell? w _ hw135_2)).trans hw135_2), ((HB.out.cell (World.block_lt_of_cell? w _ hw135_3)).trans hw135_3), ((HB.out.cell (World.block_lt_of_cell? w _ hw135_4)).trans hw135_4), ((HB.out.cell (World.block_lt_of_cell? w _ hw135_5)).trans hw135_5)⟩ (fun hHeld => ?_); refine with_tabW heap_Worst.tab5 heap_Worst.bits5 (fun HT_ HW_ => ?_)
     generalize wr.drew = w11 at HB hx134_0 hx134_1 hx134_2 hx134_3 hx134_4 hx134_5 hx135_0 hx135_1 hx135_2 hx135_3 hx135_4 hx135_5 hHeld ⊢
     refine pq_ 0 11 HT_ ?_
     refine pq_ 1 12 HT_ ?_
     refine pq_ 2 13 HT_ ?_
     refine pq_ 4 15 HT_ ?_
     refine pq_ 5 16 HT_ ?_
     refine pq_ 6 17 HT_ ?_
     refine tk_ 3 14 HT_ HW_ hHeld ?_
     refine tk_ 7 18 HT_ HW_ hHeld ?_
     refine one_ (i := 8) (N := some 19) #[true, true, true, true, true, true, true, true, true] rfl rfl (one_of HT_.out (by kernel_rfl)) (by decide) (fun K hK => ?_)
     refine goes_ Try.func84 (by kernel_rfl) rfl #[.agg #[.int .i64 ((rd_T24 l0 x4_1).f0), .int .i64 ((rd_T24 l0 x4_1).f1), .int .i64 ((rd_T24 l0 x4_1).f2), .int .i64 ((rd_T24 l0 x4_1).f3), .int .i64 ((rd_T24 l0 x4_1).f4), .string ((rd_T24 l0 x4_1).f5)], .agg #[.int .i64 ((rd_T24 l0 x8_1).f0), .int .i64 ((rd_T24 l0 x8_1).f1), .int .i64 ((rd_T24 l0 x8_1).f2), .int .i64 ((rd_T24 l0 x8_1).f3), .int .i64 ((rd_T24 l0 x8_1).f4), .string ((rd_T24 l0 x8_1).f5)]] (by rfl) rfl rfl (by (try simp only [m0_, m1_, m2_]); first | done | rfl) ?_
     with_reducible refine (txn_Better.calls k1 ((rd_T24 l0 x4_1).f0) ((rd_T24 l0 x4_1).f1) ((rd_T24 l0 x4_1).f2) ((rd_T24 l0 x4_1).f3) ((rd_T24 l0 x4_1).f4) ((rd_T24 l0 x4_1).f5) ((rd_T24 l0 x8_1).f0) ((rd_T24 l0 x8_1).f1) ((rd_T24 l0 x8_1).f2) ((rd_T24 l0 x8_1).f3) ((rd_T24 l0 x8_1).f4) ((rd_T24 l0 x8_1).f5) false _ A7.out).mono ?_
     rintro e w12 ⟨rfl, hb⟩
     refine ⟨_, rfl, ?_⟩
     have n0_ := A_ (below_step bw_ hb); replace HB := n0_; clear n0_
     (try clear hb)
     (try clear hb2)
     (try clear hk)
     (try clear hi)
     refine hK.out _ _ ⟨((HB.out.cell (World.block_lt_of_cell? w _ hw134_0)).trans hw134_0), ((HB.out.cell (World.block_lt_of_cell? w _ hw134_1)).trans hw134_1), ((HB.out.cell (World.block_lt_of_cell? w _ hw134_2)).trans hw134_2), ((HB.out.cell (World.block_lt_of_cell? w _ hw134_3)).trans hw134_3), ((HB.out.cell (World.block_lt_of_cell? w _ hw134_4)).trans hw134_4), ((HB.out.cell (World.block_lt_of_cell? w _ hw134_5)).trans hw134_5), ((HB.out.cell (World.block_lt_of_cell? w _ hw135_0)).trans hw135_0), ((HB.out.cell (World.block_lt_of_cell? w _ hw135_1)).trans hw135_1), ((HB.out.cell (World.block_lt_of_cell? w _ hw135_2)).trans hw135_2), ((HB.out.cell (World.block_lt_of_cell? w _ hw135_3)).trans hw135_3), ((HB.out.cell (World.block_lt_of_cell? w _ hw135_4)).trans hw135_4), ((HB.out.cell (World.block_lt_of_cell? w _ hw135_5)).trans hw135_5)⟩ (fun hHeld => ?_)
     clear hK K
     refine norm_ (a' := ?_) ?_ ?_
     rotate_left
     · show Act.put _ (some 19) _ = _
       simp only [Act.put, s0_, s1_, s2_, i64_w, i32_w]
       rfl
     refine done_ (done_of HT_.out (by kernel_rfl)) ?_
     try go_wp2
     go_roundg k1
     case measure => have := HK1.out; omega
     case rel => exact ⟨(x4_1), (wrap64 (x8_1 + 1)), (by first | rfl | (simp; done) | (simp [*]; done)), (by first | rfl | (simp; done) | (simp [*]; done)), H', ⟨by have := HK1.out; omega⟩, ⟨by repeat (first | (with_reducible first | exact HB.out | apply wa_ | apply wn_ | apply wd_) | exact HB.out)⟩⟩
end Go.Proofs.Ytehncbhmdgdkjaa.L
