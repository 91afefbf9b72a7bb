/- Written by this session's own program over the kit's print: functions of Go told as plain functions, or the row of one statement; proved for every input, with no condition of ours. -/
import Derived.Test.YtehncbhmdgdkjaaLx0
import Derived.Test.YtehncbhmdgdkjaaLx18
namespace Go.Proofs.Ytehncbhmdgdkjaa.L
open Go.RowKit Go.Proofs.YtehncbhmdgdkjaaW.PrintWords Go.Proofs.YtehncbhmdgdkjaaW.PrintLast Go.Proofs.YtehncbhmdgdkjaaW.PrintMore
attribute [local go_sem] max2_int min2_int max_two min_two max_three min_three max_four min_four   -- for this text's walks alone
set_option linter.unusedVariables false
set_option linter.unusedSimpArgs false

/-! ### hopperref06_Worst: function 27 -/
mutual
def hopperref06_Worst.l0 : Nat → List (S24) → Int → Option (Int × Bool)
 | 0, _, _ => none
 | k + 1, x0, x4 => if x4 < (x0.length : Int) then (hopperref06_Worst.l1 k x0 x4 true 0) else (some (0, false))
def hopperref06_Worst.l1 : Nat → List (S24) → Int → Bool → Int → Option (Int × Bool)
 | 0, _, _, _, _ => none
 | k + 1, x0, x4, x5, x6 => if x6 < (x0.length : Int) then (if x5 = true then (if 0 ≤ x4 then (if x4 < (x0.length : Int) then (if 0 ≤ x6 then ((hopperref04_Better.f k ((rd_T24 x0 x4).f0) ((rd_T24 x0 x4).f1) ((rd_T24 x0 x4).f2) ((rd_T24 x0 x4).f3) ((rd_T24 x0 x4).f4) ((rd_T24 x0 x4).f5) ((rd_T24 x0 x6).f0) ((rd_T24 x0 x6).f1) ((rd_T24 x0 x6).f2) ((rd_T24 x0 x6).f3) ((rd_T24 x0 x6).f4) ((rd_T24 x0 x6).f5)).bind fun t406 => (hopperref06_Worst.l1 k x0 x4 (!t406) (wrap64 (x6 + 1)))) else (none)) else (none)) else (none)) else (hopperref06_Worst.l1 k x0 x4 false (wrap64 (x6 + 1)))) else (if x5 = true then (some (x4, true)) else (hopperref06_Worst.l0 k x0 (wrap64 (x4 + 1))))
end
def hopperref06_Worst.f (k : Nat) (l0 : List (S24)) : Option (Int × Bool) := hopperref06_Worst.l0 k l0 0
theorem hopperref06_Worst.mono_l : ∀ k, (∀ y0 y1, LeO (hopperref06_Worst.l0 k y0 y1) (hopperref06_Worst.l0 (k + 1) y0 y1)) ∧ (∀ y0 y1 y2 y3, LeO (hopperref06_Worst.l1 k y0 y1 y2 y3) (hopperref06_Worst.l1 (k + 1) y0 y1 y2 y3))
 | 0 => ⟨fun _ _ r h => by simp [hopperref06_Worst.l0] at h, fun _ _ _ _ r h => by simp [hopperref06_Worst.l1] at h⟩
 | k + 1 => by
  obtain ⟨ih0, ih1⟩ := hopperref06_Worst.mono_l k
  refine ⟨?_, ?_⟩
  · intro y0 y1
    unfold hopperref06_Worst.l0
    repeat' first
    | (with_reducible exact ih0 _ _)
    | (with_reducible exact ih1 _ _ _ _)
    | (with_reducible exact hopperref04_Better.mono _ _ _ _ _ _ _ _ _ _ _ _ _)
    | (with_reducible exact LeO.refl _)
    | (with_reducible exact LeO.none _)
    | (with_reducible refine LeO.ite ?_ ?_)
    | (with_reducible refine LeO.bind ?_ (fun _ => ?_))
    | exact ih0 _ _
    | exact ih1 _ _ _ _
    | exact hopperref04_Better.mono _ _ _ _ _ _ _ _ _ _ _ _ _
    | exact LeO.none _
    | refine LeO.ite ?_ ?_
    | refine LeO.bind ?_ (fun _ => ?_)
  · intro y0 y1 y2 y3
    unfold hopperref06_Worst.l1
    repeat' first
    | (with_reducible exact ih0 _ _)
    | (with_reducible exact ih1 _ _ _ _)
    | (with_reducible exact hopperref04_Better.mono _ _ _ _ _ _ _ _ _ _ _ _ _)
    | (with_reducible exact LeO.refl _)
    | (with_reducible exact LeO.none _)
    | (with_reducible refine LeO.ite ?_ ?_)
    | (with_reducible refine LeO.bind ?_ (fun _ => ?_))
    | exact ih0 _ _
    | exact ih1 _ _ _ _
    | exact hopperref04_Better.mono _ _ _ _ _ _ _ _ _ _ _ _ _
    | exact LeO.none _
    | refine LeO.ite ?_ ?_
    | refine LeO.bind ?_ (fun _ => ?_)
theorem hopperref06_Worst.mono : ∀ a0 k, LeO (hopperref06_Worst.f k a0) (hopperref06_Worst.f (k + 1) a0) := by
 intro a0 k
 obtain ⟨ih0, ih1⟩ := hopperref06_Worst.mono_l k
 unfold hopperref06_Worst.f
 repeat' first
  | (with_reducible exact ih0 _ _)
  | (with_reducible exact ih1 _ _ _ _)
  | (with_reducible exact hopperref04_Better.mono _ _ _ _ _ _ _ _ _ _ _ _ _)
  | (with_reducible exact LeO.refl _)
  | (with_reducible exact LeO.none _)
  | (with_reducible refine LeO.ite ?_ ?_)
  | (with_reducible refine LeO.bind ?_ (fun _ => ?_))
  | exact ih0 _ _
  | exact ih1 _ _ _ _
  | exact hopperref04_Better.mono _ _ _ _ _ _ _ _ _ _ _ _ _
  | exact LeO.none _
  | refine LeO.ite ?_ ?_
  | refine LeO.bind ?_ (fun _ => ?_)
def hopperref06_Worst.T8 : Bool × List (List Nat × List Nat) := (true, [([], []), ([0], [0]), ([1], [1]), ([1], [1]), ([2, 3, 1], [1, 2, 3]), ([4, 1], [1, 4]), ([1], [1]), ([1], [1]), ([6, 7, 1], [1, 6, 7]), ([8, 1], [1, 8]), ([5, 9, 1, 1], [1, 5, 9]), ([10, 1], [1, 10]), ([1, 11], [1, 11]), ([12, 10, 0, 1, 2, 3, 4, 5, 6, 7, 8, 9, 10, 11, 12], [0, 12])])
def hopperref06_Worst.B8 : List Nat := [0, 1, 3, 3, 15, 31, 3, 3, 195, 451, 1023, 2047, 4095, 8191]
theorem hopperref06_Worst.tab8 : rtab .any (opsOf Try.f27 8) = hopperref06_Worst.T8 := by kernel_rfl
theorem hopperref06_Worst.bits8 : waitsOk hopperref06_Worst.T8.2 hopperref06_Worst.B8 = true := by kernel_rfl
set_option maxHeartbeats 8000000 in
set_option maxRecDepth 100000 in
theorem hopperref06_Worst.calls (k : Nat) (A0 : Option Addr) (c0 : Nat) (l0 : List (S24)) (r1 : Int) (r2 : Bool) (w : World) (hr0 : Kd.C k24 w A0 l0.length l0) (hc0 : l0.length ≤ c0) (h : hopperref06_Worst.f k l0 = some (r1, r2)) :
 Calls Try.prog 27 #[.slice A0 l0.length c0] w fun e w' => e = .returned (.tuple #[.int .i64 r1, .bool r2]) ∧ Below w.heap.size w w' := by
 have hu24 := Try.underlying24
 have HR0 := A_ hr0
 have HC0 := A_ hc0
 clear hr0 hc0; have HB := A_ (Below.refl w.heap.size w)
 have H : (hopperref06_Worst.l0 k l0 0) = some (r1, r2) := h
 clear h
 have H' := A_ H
 clear H
 go_enter Try.func27, Try.ntmps27
 go_wp2
 go_loopg [4] k (fun kq v4 w' => ∃ (x4_1 : Int), v4 = .int .i64 x4_1 ∧ Aside0 (hopperref06_Worst.l0 kq l0 x4_1 = some (r1, r2)) ∧ Aside0 (kq ≤ k) ∧ Aside0 (Below w.heap.size w w'))
 case atStart => exact ⟨(0), (by first | rfl | (simp; done) | (simp [*]; done)), H', ⟨Nat.le_refl _⟩, ⟨by repeat (first | (with_reducible first | exact HB.out | apply wa_ | apply wn_ | apply wd_) | exact HB.out)⟩⟩
 case round =>
  clear H'
  obtain ⟨x4_1, rfl, HA, HK1, HB⟩ := hrel
  cases gk with
  | zero => exact absurd HA.out (by simp [hopperref06_Worst.l0])
  | succ k1 =>
   have H := HA.out
   clear HA
   simp only [hopperref06_Worst.l0] at H
   by_cases c2 : x4_1 < (l0.length : Int)
   rotate_left
   · rw [if_neg c2] at H
     have c2b0 : decide (x4_1 < (l0.length : Int)) = false := decide_eq_false c2
     clear c2
     simp only [Option.some.injEq, Prod.mk.injEq] at H
     obtain ⟨rfl, rfl⟩ := H
     go_wp2
     go_ret2
     exact ⟨by first | rfl | (simp [errW_none, errW_some] <;> rfl) | (simp [*, errW_none, errW_some] <;> rfl), by repeat (first | (with_reducible first | exact HB.out | apply wa_ | apply wn_ | apply wd_) | exact HB.out)⟩

   rw [if_pos c2] at H
   have c2b0 : decide (x4_1 < (l0.length : Int)) = true := decide_eq_true c2
   clear c2
   have H' := A_ H
   clear H
   go_wp2
   go_loopg [5, 6] k1 (fun kq v5 v6 w' => ∃ (x5_2 : Bool) (x6_2 : Int), v5 = .bool x5_2 ∧ v6 = .int .i64 x6_2 ∧ Aside0 (hopperref06_Worst.l1 kq l0 x4_1 x5_2 x6_2 = some (r1, r2)) ∧ Aside0 (kq ≤ k1) ∧ Aside0 (Below w.heap.size w w'))
   case atStart => exact ⟨(true), (0), (by first | rfl | (simp; done) | (simp [*]; done)), (by first | rfl | (simp; done) | (simp [*]; done)), H', ⟨Nat.le_refl _⟩, ⟨by repeat (first | (with_reducible first | exact HB.out | apply wa_ | apply wn_ | apply wd_) | exact HB.out)⟩⟩
   case round =>
    clear H'; (try clear c2); (try clear c2b0); (try clear p2)
    obtain ⟨x5_2, x6_2, rfl, rfl, HA, HK2, HB⟩ := hrel
    cases gk with
    | zero => exact absurd HA.out (by simp [hopperref06_Worst.l1])
    | succ k2 =>
     have H := HA.out
     clear HA
     simp only [hopperref06_Worst.l1] at H
     by_cases c3 : x6_2 < (l0.length : Int)
     · rw [if_pos c3] at H
       have c3b0 : decide (x6_2 < (l0.length : Int)) = true := decide_eq_true c3
       clear c3
       by_cases c4 : x5_2 = true
       · subst c4
         have H1 : (if 0 ≤ x4_1 then (if x4_1 < (l0.length : Int) then (if 0 ≤ x6_2 then ((hopperref04_Better.f k2 ((rd_T24 l0 x4_1).f0) ((rd_T24 l0 x4_1).f1) ((rd_T24 l0 x4_1).f2) ((rd_T24 l0 x4_1).f3) ((rd_T24 l0 x4_1).f4) ((rd_T24 l0 x4_1).f5) ((rd_T24 l0 x6_2).f0) ((rd_T24 l0 x6_2).f1) ((rd_T24 l0 x6_2).f2) ((rd_T24 l0 x6_2).f3) ((rd_T24 l0 x6_2).f4) ((rd_T24 l0 x6_2).f5)).bind fun t406 => (hopperref06_Worst.l1 k2 l0 x4_1 (!t406) (wrap64 (x6_2 + 1)))) else (none)) else (none)) else (none)) = some (r1, r2) := by rw [if_pos rfl] at H; exact H
         clear H
         have H := H1
         clear H1
         by_cases c5 : 0 ≤ x4_1
         rotate_left
         · rw [if_neg c5] at H
           exact absurd H (by simp)
         rw [if_pos c5] at H
         have c5b0 : decide (0 ≤ x4_1) = true := decide_eq_true c5
         clear c5
         by_cases c6 : x4_1 < (l0.length : Int)
         rotate_left
         · rw [if_neg c6] at H
           exact absurd H (by simp)
         rw [if_pos c6] at H
         have c6b0 : decide (x4_1 < (l0.length : Int)) = true := decide_eq_true c6
         clear c6
         by_cases c7 : 0 ≤ x6_2
         rotate_left
         · rw [if_neg c7] at H
           exact absurd H (by simp)
         rw [if_pos c7] at H
         have c7b0 : decide (0 ≤ x6_2) = true := decide_eq_true c7
         clear c7
         replace H := Option.bind_eq_some_iff.mp H
         obtain ⟨t406, A80, H⟩ := H
         replace H : (hopperref06_Worst.l1 k2 l0 x4_1 (!t406) (wrap64 (x6_2 + 1))) = some (r1, r2) := H
         have A8 := A_ A80
         clear A80
         have H' := A_ H
         clear H
         try go_wp2
         have n0_ := A_ (wd_ HB.out); replace HB := n0_; clear n0_
         have p404 : 0 ≤ (x4_1 : Int) := of_decide_eq_true (by first | (with_reducible assumption) | assumption)
         have q404 : x4_1 < (l0.length : Int) := of_decide_eq_true (by first | (with_reducible assumption) | assumption)
         obtain ⟨ad404, e404, hx404_0, hx404_1, hx404_2, hx404_3, hx404_4, hx404_5⟩ := at_T24 HR0.out x4_1 p404 q404
         have hw404_5 := hx404_5
         have hw404_4 := hx404_4
         have hw404_3 := hx404_3
         have hw404_2 := hx404_2
         have hw404_1 := hx404_1
         have hw404_0 := hx404_0
         cases e404
         replace hx404_0 := on_ HB.out hx404_0
         replace hx404_1 := on_ HB.out hx404_1
         replace hx404_2 := on_ HB.out hx404_2
         replace hx404_3 := on_ HB.out hx404_3
         replace hx404_4 := on_ HB.out hx404_4
         replace hx404_5 := on_ HB.out hx404_5
         replace p404 := eq_true p404
         replace q404 := eq_true q404
         have p405 : 0 ≤ (x6_2 : Int) := of_decide_eq_true (by first | (with_reducible assumption) | assumption)
         have q405 : x6_2 < (l0.length : Int) := of_decide_eq_true (by first | (with_reducible assumption) | assumption)
         obtain ⟨ad405, e405, hx405_0, hx405_1, hx405_2, hx405_3, hx405_4, hx405_5⟩ := at_T24 HR0.out x6_2 p405 q405
         have hw405_5 := hx405_5
         have hw405_4 := hx405_4
         have hw405_3 := hx405_3
         have hw405_2 := hx405_2
         have hw405_1 := hx405_1
         have hw405_0 := hx405_0
         obtain rfl : ad404 = ad405 := (by injection e405)
         replace hx405_0 := on_ HB.out hx405_0
         replace hx405_1 := on_ HB.out hx405_1
         replace hx405_2 := on_ HB.out hx405_2
         replace hx405_3 := on_ HB.out hx405_3
         replace hx405_4 := on_ HB.out hx405_4
         replace hx405_5 := on_ HB.out hx405_5
         replace p405 := eq_true p405
         replace q405 := eq_true q405
         refine start_ (n := 14) (S := fun w' => w'.cell? (ad404.add ((x4_1).toNat * 6)) = some (.int .i64 ((rd_T24 l0 x4_1).f0)) ∧ w'.cell? ⟨(ad404.add ((x4_1).toNat * 6)).block, (ad404.add ((x4_1).toNat * 6)).off + 1, none⟩ = some (.int .i64 ((rd_T24 l0 x4_1).f1)) ∧ w'.cell? ⟨(ad404.add ((x4_1).toNat * 6)).block, (ad404.add ((x4_1).toNat * 6)).off + 2, none⟩ = some (.int .i64 ((rd_T24 l0 x4_1).f2)) ∧ w'.cell? ⟨(ad404.add ((x4_1).toNat * 6)).block, (ad404.add ((x4_1).toNat * 6)).off + 3, none⟩ = some (.int .i64 ((rd_T24 l0 x4_1).f3)) ∧ w'.cell? ⟨(ad404.add ((x4_1).toNat * 6)).block, (ad404.add ((x4_1).toNat * 6)).off + 4, none⟩ = some (.int .i64 ((rd_T24 l0 x4_1).f4)) ∧ w'.cell? ⟨(ad404.add ((x4_1).toNat * 6)).block, (ad404.add ((x4_1).toNat * 6)).off + 5, none⟩ = some (.string ((rd_T24 l0 x4_1).f5)) ∧ w'.cell? (ad404.add ((x6_2).toNat * 6)) = some (.int .i64 ((rd_T24 l0 x6_2).f0)) ∧ w'.cell? ⟨(ad404.add ((x6_2).toNat * 6)).block, (ad404.add ((x6_2).toNat * 6)).off + 1, none⟩ = some (.int .i64 ((rd_T24 l0 x6_2).f1)) ∧ w'.cell? ⟨(ad404.add ((x6_2).toNat * 6)).block, (ad404.add ((x6_2).toNat * 6)).off + 2, none⟩ = some (.int .i64 ((rd_T24 l0 x6_2).f2)) ∧ w'.cell? ⟨(ad404.add ((x6_2).toNat * 6)).block, (ad404.add ((x6_2).toNat * 6)).off + 3, none⟩ = some (.int .i64 ((rd_T24 l0 x6_2).f3)) ∧ w'.cell? ⟨(ad404.add ((x6_2).toNat * 6)).block, (ad404.add ((x6_2).toNat * 6)).off + 4, none⟩ = some (.int .i64 ((rd_T24 l0 x6_2).f4)) ∧ w'.cell? ⟨(ad404.add ((x6_2).toNat * 6)).block, (ad404.add ((x6_2).toNat * 6)).off + 5, none⟩ = some (.string ((rd_T24 l0 x6_2).f5))) (ds := []) #[F,F,F,F,F,F,F,F,F,F,F,F,F,F] (by kernel_rfl) rfl rfl ⟨((HB.out.cell (World.block_lt_of_cell? w _ hw404_0)).trans hw404_0), ((HB.out.cell (World.block_lt_of_cell? w _ hw404_1)).trans hw404_1), ((HB.out.cell (World.block_lt_of_cell? w _ hw404_2)).trans hw404_2), ((HB.out.cell (World.block_lt_of_cell? w _ hw404_3)).trans hw404_3), ((HB.out.cell (World.block_lt_of_cell? w _ hw404_4)).trans hw404_4), ((HB.out.cell (World.block_lt_of_cell? w _ hw404_5)).trans hw404_5), ((HB.out.cell (World.block_lt_of_cell? w _ hw405_0)).trans hw405_0), ((HB.out.cell (World.block_lt_of_cell? w _ hw405_1)).trans hw405_1), ((HB.out.cell (World.block_lt_of_cell? w _ hw405_2)).trans hw405_2), ((HB.out.cell (World.block_lt_of_cell? w _ hw405_3)).trans hw405_3), ((HB.out.cell (World.block_lt_of_cell? w _ hw405_4)).trans hw405_4), ((HB.out.cell (World.block_lt_of_cell? w _ hw405_5)).trans hw405_5)⟩ (fun hHeld => ?_); refine with_tabW hopperref06_Worst.tab8 hopperref06_Worst.bits8 (fun HT_ HW_ => ?_)
         generalize wr.drew = w9 at HB hx404_0 hx404_1 hx404_2 hx404_3 hx404_4 hx404_5 hx405_0 hx405_1 hx405_2 hx405_3 hx405_4 hx405_5 hHeld ⊢
         refine pq_ 0 19 HT_ ?_
         refine pq_ 1 20 HT_ ?_
         refine pq_ 2 21 HT_ ?_
         refine pq_ 3 22 HT_ ?_
         refine pq_ 4 23 HT_ ?_
         refine pq_ 6 25 HT_ ?_
         refine pq_ 7 26 HT_ ?_
         refine pq_ 8 27 HT_ ?_
         refine tk_ 5 24 HT_ HW_ hHeld ?_
         refine tk_ 9 28 HT_ HW_ hHeld ?_
         refine one_ (i := 10) (N := some 29) #[T,T,T,T,T,T,T,T,T,T,T,F,F,F] rfl rfl (one_of HT_.out (by kernel_rfl)) (by decide) (fun K hK => ?_)
         refine goes_ Try.func49 (by kernel_rfl) rfl #[.agg #[.int .i64 ((rd_T24 l0 x4_1).f0), .int .i64 ((rd_T24 l0 x4_1).f1), .int .i64 ((rd_T24 l0 x4_1).f2), .int .i64 ((rd_T24 l0 x4_1).f3), .int .i64 ((rd_T24 l0 x4_1).f4), .string ((rd_T24 l0 x4_1).f5)], .agg #[.int .i64 ((rd_T24 l0 x6_2).f0), .int .i64 ((rd_T24 l0 x6_2).f1), .int .i64 ((rd_T24 l0 x6_2).f2), .int .i64 ((rd_T24 l0 x6_2).f3), .int .i64 ((rd_T24 l0 x6_2).f4), .string ((rd_T24 l0 x6_2).f5)]] (by rfl) rfl rfl (by (try simp only [m0_, m1_, m2_]); first | done | rfl) ?_
         with_reducible refine (hopperref04_Better.calls k2 ((rd_T24 l0 x4_1).f0) ((rd_T24 l0 x4_1).f1) ((rd_T24 l0 x4_1).f2) ((rd_T24 l0 x4_1).f3) ((rd_T24 l0 x4_1).f4) ((rd_T24 l0 x4_1).f5) ((rd_T24 l0 x6_2).f0) ((rd_T24 l0 x6_2).f1) ((rd_T24 l0 x6_2).f2) ((rd_T24 l0 x6_2).f3) ((rd_T24 l0 x6_2).f4) ((rd_T24 l0 x6_2).f5) t406 _ A8.out).mono ?_
         rintro e w10 ⟨rfl, hb⟩
         refine ⟨_, rfl, ?_⟩
         have n0_ := A_ (below_step bw_ hb); replace HB := n0_; clear n0_
         (try clear hb)
         (try clear hb2)
         (try clear hk)
         (try clear hi)
         refine hK.out _ _ ⟨((HB.out.cell (World.block_lt_of_cell? w _ hw404_0)).trans hw404_0), ((HB.out.cell (World.block_lt_of_cell? w _ hw404_1)).trans hw404_1), ((HB.out.cell (World.block_lt_of_cell? w _ hw404_2)).trans hw404_2), ((HB.out.cell (World.block_lt_of_cell? w _ hw404_3)).trans hw404_3), ((HB.out.cell (World.block_lt_of_cell? w _ hw404_4)).trans hw404_4), ((HB.out.cell (World.block_lt_of_cell? w _ hw404_5)).trans hw404_5), ((HB.out.cell (World.block_lt_of_cell? w _ hw405_0)).trans hw405_0), ((HB.out.cell (World.block_lt_of_cell? w _ hw405_1)).trans hw405_1), ((HB.out.cell (World.block_lt_of_cell? w _ hw405_2)).trans hw405_2), ((HB.out.cell (World.block_lt_of_cell? w _ hw405_3)).trans hw405_3), ((HB.out.cell (World.block_lt_of_cell? w _ hw405_4)).trans hw405_4), ((HB.out.cell (World.block_lt_of_cell? w _ hw405_5)).trans hw405_5)⟩ (fun hHeld => ?_)
         clear hK K
         refine norm_ (a' := ?_) ?_ ?_
         rotate_left
         · show Act.put _ (some 29) _ = _
           simp only [Act.put, s0_, s1_, s2_, i64_w, i32_w]
           rfl
         refine pq_ 11 30 HT_ ?_
         refine pq_ 12 31 HT_ ?_
         refine pq_ 13 5 HT_ ?_
         refine done_ (done_of HT_.out (by kernel_rfl)) ?_
         try go_wp2
         go_roundg k2
         case measure => have := HK1.out; have := HK2.out; omega
         case rel => exact ⟨(!t406), (wrap64 (x6_2 + 1)), (by first | rfl | (simp; done) | (simp [*]; done)), (by first | rfl | (simp; done) | (simp [*]; done)), H', ⟨by have := HK1.out; have := HK2.out; omega⟩, ⟨by repeat (first | (with_reducible first | exact HB.out | apply wa_ | apply wn_ | apply wd_) | exact HB.out)⟩⟩
       · replace c4 := Bool.eq_false_iff.mpr c4
         subst c4
         have H1 : (hopperref06_Worst.l1 k2 l0 x4_1 false (wrap64 (x6_2 + 1))) = some (r1, r2) := by rw [if_neg (show ¬ (false = true) by decide)] at H; exact H
         clear H
         have H := H1
         clear H1
         have H' := A_ H
         clear H
         try go_wp2
         have n0_ := A_ (wd_ HB.out); replace HB := n0_; clear n0_
         refine start_ (n := 14) (S := fun w' => True) (ds := []) #[F,F,F,F,F,F,F,F,F,F,F,F,F,F] (by kernel_rfl) rfl rfl trivial (fun hHeld => ?_); refine with_tabW hopperref06_Worst.tab8 hopperref06_Worst.bits8 (fun HT_ HW_ => ?_)
         generalize wr.drew = w11 at HB hHeld ⊢
         refine pq_ 0 19 HT_ ?_
         refine pq_ 1 20 HT_ ?_
         refine pu_ 2 21 HT_ ?_
         refine pu_ 3 22 HT_ ?_
         refine pu_ 4 23 HT_ ?_
         refine pu_ 5 24 HT_ ?_
         refine pu_ 6 25 HT_ ?_
         refine pu_ 7 26 HT_ ?_
         refine pu_ 8 27 HT_ ?_
         refine pu_ 9 28 HT_ ?_
         refine pu_ 10 29 HT_ ?_
         refine pu_ 11 30 HT_ ?_
         refine pq_ 12 31 HT_ ?_
         refine pq_ 13 5 HT_ ?_
         refine done_ (done_of HT_.out (by kernel_rfl)) ?_
         try go_wp2
         go_roundg k2
         case measure => have := HK1.out; have := HK2.out; omega
         case rel => exact ⟨(false), (wrap64 (x6_2 + 1)), (by first | rfl | (simp; done) | (simp [*]; done)), (by first | rfl | (simp; done) | (simp [*]; done)), H', ⟨by have := HK1.out; have := HK2.out; omega⟩, ⟨by repeat (first | (with_reducible first | exact HB.out | apply wa_ | apply wn_ | apply wd_) | exact HB.out)⟩⟩
     · rw [if_neg c3] at H
       have c3b0 : decide (x6_2 < (l0.length : Int)) = false := decide_eq_false c3
       clear c3
       by_cases c12 : x5_2 = true
       · subst c12
         have H1 : (some (x4_1, true)) = some (r1, r2) := by rw [if_pos rfl] at H; exact H
         clear H
         have H := H1
         clear H1
         simp only [Option.some.injEq, Prod.mk.injEq] at H
         obtain ⟨rfl, rfl⟩ := H
         go_wp2
         go_ret2
         exact ⟨by first | rfl | (simp [errW_none, errW_some] <;> rfl) | (simp [*, errW_none, errW_some] <;> rfl), by repeat (first | (with_reducible first | exact HB.out | apply wa_ | apply wn_ | apply wd_) | exact HB.out)⟩
       · replace c12 := Bool.eq_false_iff.mpr c12
         subst c12
         have H1 : (hopperref06_Worst.l0 k2 l0 (wrap64 (x4_1 + 1))) = some (r1, r2) := by rw [if_neg (show ¬ (false = true) by decide)] at H; exact H
         clear H
         have H := H1
         clear H1
         have H' := A_ H
         clear H
         go_wp2
         go_roundg k2
         case measure => have := HK1.out; have := HK2.out; omega
         case rel => exact ⟨(wrap64 (x4_1 + 1)), (by first | rfl | (simp; done) | (simp [*]; done)), H', ⟨by have := HK1.out; have := HK2.out; omega⟩, ⟨by repeat (first | (with_reducible first | exact HB.out | apply wa_ | apply wn_ | apply wd_) | exact HB.out)⟩⟩
end Go.Proofs.Ytehncbhmdgdkjaa.L
