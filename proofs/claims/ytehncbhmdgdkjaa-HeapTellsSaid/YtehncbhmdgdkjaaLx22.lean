/- Written by this session's own program over the kit's print: functions of Go told as plain functions, or the row of one statement; proved for every input, with no condition of ours. -/
import Derived.Test.YtehncbhmdgdkjaaLx0
import Derived.Test.YtehncbhmdgdkjaaLx18
namespace Go.Proofs.Ytehncbhmdgdkjaa.L
open Go.RowKit Go.Proofs.YtehncbhmdgdkjaaW.PrintWords Go.Proofs.YtehncbhmdgdkjaaW.PrintLast Go.Proofs.YtehncbhmdgdkjaaW.PrintMore
attribute [local go_sem] max2_int min2_int max_two min_two max_three min_three max_four min_four   -- for this text's walks alone
set_option linter.unusedVariables false
set_option linter.unusedSimpArgs false

/-! ### hopperref06_Check: function 29 -/
def hopperref06_Check.l0 : Nat → List (S24) → Int → Option (Bool)
 | 0, _, _ => none
 | k + 1, x0, x3 => if x3 < (x0.length : Int) then (if 0 ≤ x3 then (if 0 ≤ (wrap64 (Int.tdiv (wrap64 (x3 - 1)) 2)) then (if (wrap64 (Int.tdiv (wrap64 (x3 - 1)) 2)) < (x0.length : Int) then ((hopperref04_Better.f k ((rd_T24 x0 x3).f0) ((rd_T24 x0 x3).f1) ((rd_T24 x0 x3).f2) ((rd_T24 x0 x3).f3) ((rd_T24 x0 x3).f4) ((rd_T24 x0 x3).f5) ((rd_T24 x0 (wrap64 (Int.tdiv (wrap64 (x3 - 1)) 2))).f0) ((rd_T24 x0 (wrap64 (Int.tdiv (wrap64 (x3 - 1)) 2))).f1) ((rd_T24 x0 (wrap64 (Int.tdiv (wrap64 (x3 - 1)) 2))).f2) ((rd_T24 x0 (wrap64 (Int.tdiv (wrap64 (x3 - 1)) 2))).f3) ((rd_T24 x0 (wrap64 (Int.tdiv (wrap64 (x3 - 1)) 2))).f4) ((rd_T24 x0 (wrap64 (Int.tdiv (wrap64 (x3 - 1)) 2))).f5)).bind fun t409 => (if t409 = true then (some false) else (hopperref06_Check.l0 k x0 (wrap64 (x3 + 1))))) else (none)) else (none)) else (none)) else (some true)
def hopperref06_Check.f (k : Nat) (l0 : List (S24)) : Option (Bool) := hopperref06_Check.l0 k l0 1
theorem hopperref06_Check.mono_l : ∀ k, (∀ y0 y1, LeO (hopperref06_Check.l0 k y0 y1) (hopperref06_Check.l0 (k + 1) y0 y1))
 | 0 => fun _ _ r h => by simp [hopperref06_Check.l0] at h
 | k + 1 => by
  have ih0 := hopperref06_Check.mono_l k
  · intro y0 y1
    unfold hopperref06_Check.l0
    repeat' first
    | (with_reducible exact ih0 _ _)
    | (with_reducible exact hopperref04_Better.mono _ _ _ _ _ _ _ _ _ _ _ _ _)
    | (with_reducible exact LeO.refl _)
    | (with_reducible exact LeO.none _)
    | (with_reducible refine LeO.ite ?_ ?_)
    | (with_reducible refine LeO.bind ?_ (fun _ => ?_))
    | exact ih0 _ _
    | exact hopperref04_Better.mono _ _ _ _ _ _ _ _ _ _ _ _ _
    | exact LeO.none _
    | refine LeO.ite ?_ ?_
    | refine LeO.bind ?_ (fun _ => ?_)
theorem hopperref06_Check.mono : ∀ a0 k, LeO (hopperref06_Check.f k a0) (hopperref06_Check.f (k + 1) a0) := by
 intro a0 k
 have ih0 := hopperref06_Check.mono_l k
 unfold hopperref06_Check.f
 repeat' first
  | (with_reducible exact ih0 _ _)
  | (with_reducible exact hopperref04_Better.mono _ _ _ _ _ _ _ _ _ _ _ _ _)
  | (with_reducible exact LeO.refl _)
  | (with_reducible exact LeO.none _)
  | (with_reducible refine LeO.ite ?_ ?_)
  | (with_reducible refine LeO.bind ?_ (fun _ => ?_))
  | exact ih0 _ _
  | exact hopperref04_Better.mono _ _ _ _ _ _ _ _ _ _ _ _ _
  | exact LeO.none _
  | refine LeO.ite ?_ ?_
  | refine LeO.bind ?_ (fun _ => ?_)
def hopperref06_Check.T4 : Bool × List (List Nat × List Nat) := (true, [([], []), ([], []), ([0, 1], [0, 1]), ([2], [2]), ([], []), ([], []), ([5], [5]), ([6], [6]), ([4, 7], [4, 7]), ([8], [8]), ([3, 9], [3, 9])])
def hopperref06_Check.B4 : List Nat := [0, 0, 3, 7, 0, 0, 32, 96, 240, 496, 1023]
theorem hopperref06_Check.tab4 : rtab .any (opsOf Try.f29 4) = hopperref06_Check.T4 := by kernel_rfl
theorem hopperref06_Check.bits4 : waitsOk hopperref06_Check.T4.2 hopperref06_Check.B4 = true := by kernel_rfl
set_option maxHeartbeats 8000000 in
set_option maxRecDepth 100000 in
theorem hopperref06_Check.calls (k : Nat) (A0 : Option Addr) (c0 : Nat) (l0 : List (S24)) (r : Bool) (w : World) (hr0 : Kd.C k24 w A0 l0.length l0) (hc0 : l0.length ≤ c0) (h : hopperref06_Check.f k l0 = some r) :
 Calls Try.prog 29 #[.slice A0 l0.length c0] w fun e w' => e = .returned (.bool r) ∧ Below w.heap.size w w' := by
 have hu24 := Try.underlying24
 have HR0 := A_ hr0
 have HC0 := A_ hc0
 clear hr0 hc0; have HB := A_ (Below.refl w.heap.size w)
 have H : (hopperref06_Check.l0 k l0 1) = some r := h
 clear h
 have H' := A_ H
 clear H
 go_enter Try.func29, Try.ntmps29
 go_wp2
 go_loopg [3] k (fun kq v3 w' => ∃ (x3_1 : Int), v3 = .int .i64 x3_1 ∧ Aside0 (hopperref06_Check.l0 kq l0 x3_1 = some r) ∧ Aside0 (kq ≤ k) ∧ Aside0 (Below w.heap.size w w'))
 case atStart => exact ⟨(1), (by first | rfl | (simp; done) | (simp [*]; done)), H', ⟨Nat.le_refl _⟩, ⟨by repeat (first | (with_reducible first | exact HB.out | apply wa_ | apply wn_ | apply wd_) | exact HB.out)⟩⟩
 case round =>
  clear H'
  obtain ⟨x3_1, rfl, HA, HK1, HB⟩ := hrel
  cases gk with
  | zero => exact absurd HA.out (by simp [hopperref06_Check.l0])
  | succ k1 =>
   have H := HA.out
   clear HA
   simp only [hopperref06_Check.l0] at H
   by_cases c2 : x3_1 < (l0.length : Int)
   rotate_left
   · rw [if_neg c2] at H
     have c2b0 : decide (x3_1 < (l0.length : Int)) = false := decide_eq_false c2
     clear c2
     obtain rfl := Option.some.inj H
     go_wp2
     go_ret
     exact ⟨by first | rfl | (simp [errW_none, errW_some] <;> rfl) | (simp [*, errW_none, errW_some] <;> rfl), by repeat (first | (with_reducible first | exact HB.out | apply wa_ | apply wn_ | apply wd_) | exact HB.out)⟩

   rw [if_pos c2] at H
   have c2b0 : decide (x3_1 < (l0.length : Int)) = true := decide_eq_true c2
   clear c2
   by_cases c3 : 0 ≤ x3_1
   rotate_left
   · rw [if_neg c3] at H
     exact absurd H (by simp)
   rw [if_pos c3] at H
   have c3b0 : decide (0 ≤ x3_1) = true := decide_eq_true c3
   clear c3
   obtain ⟨ji4, hji4⟩ : ∃ j_ : Int, (wrap64 (Int.tdiv (wrap64 (x3_1 - 1)) 2)) = j_ := ⟨_, rfl⟩
   replace H : (if 0 ≤ (ji4) then (if (ji4) < (l0.length : Int) then ((hopperref04_Better.f k1 ((rd_T24 l0 x3_1).f0) ((rd_T24 l0 x3_1).f1) ((rd_T24 l0 x3_1).f2) ((rd_T24 l0 x3_1).f3) ((rd_T24 l0 x3_1).f4) ((rd_T24 l0 x3_1).f5) ((rd_T24 l0 (ji4)).f0) ((rd_T24 l0 (ji4)).f1) ((rd_T24 l0 (ji4)).f2) ((rd_T24 l0 (ji4)).f3) ((rd_T24 l0 (ji4)).f4) ((rd_T24 l0 (ji4)).f5)).bind fun t409 => (if t409 = true then (some false) else (hopperref06_Check.l0 k1 l0 (wrap64 (x3_1 + 1))))) else (none)) else (none)) = some r := by first | (rw [hji4] at H; exact H) | (simp only [hji4] at H ⊢; exact H)
   have hji4w : (IntKind.i64.wrap (Int.tdiv (wrap64 (x3_1 - 1)) 2)) = ji4 := (i64_w _).trans hji4
   by_cases c5 : 0 ≤ (ji4)
   rotate_left
   · rw [if_neg c5] at H
     exact absurd H (by simp)
   rw [if_pos c5] at H
   have c5b0 : decide (0 ≤ (ji4)) = true := decide_eq_true c5
   clear c5
   by_cases c6 : (ji4) < (l0.length : Int)
   rotate_left
   · rw [if_neg c6] at H
     exact absurd H (by simp)
   rw [if_pos c6] at H
   have c6b0 : decide ((ji4) < (l0.length : Int)) = true := decide_eq_true c6
   clear c6
   replace H := Option.bind_eq_some_iff.mp H
   obtain ⟨t409, A70, H⟩ := H
   try dsimp only at H
   have A7 := A_ A70
   clear A70
   by_cases c8 : t409 = true
   · subst c8
     have H1 : (some false) = some r := by rw [if_pos rfl] at H; exact H
     clear H
     have H := H1
     clear H1
     obtain rfl := Option.some.inj H
     try go_wp2
     have n0_ := A_ (wd_ HB.out); replace HB := n0_; clear n0_
     have p407 : 0 ≤ (x3_1 : Int) := of_decide_eq_true (by first | (with_reducible assumption) | assumption)
     have q407 : x3_1 < (l0.length : Int) := of_decide_eq_true (by first | (with_reducible assumption) | assumption)
     obtain ⟨ad407, e407, hx407_0, hx407_1, hx407_2, hx407_3, hx407_4, hx407_5⟩ := at_T24 HR0.out x3_1 p407 q407
     have hw407_5 := hx407_5
     have hw407_4 := hx407_4
     have hw407_3 := hx407_3
     have hw407_2 := hx407_2
     have hw407_1 := hx407_1
     have hw407_0 := hx407_0
     cases e407
     replace hx407_0 := on_ HB.out hx407_0
     replace hx407_1 := on_ HB.out hx407_1
     replace hx407_2 := on_ HB.out hx407_2
     replace hx407_3 := on_ HB.out hx407_3
     replace hx407_4 := on_ HB.out hx407_4
     replace hx407_5 := on_ HB.out hx407_5
     replace p407 := eq_true p407
     replace q407 := eq_true q407
     have p408 : 0 ≤ ((ji4) : Int) := of_decide_eq_true (by first | (with_reducible assumption) | assumption)
     have q408 : (ji4) < (l0.length : Int) := of_decide_eq_true (by first | (with_reducible assumption) | assumption)
     obtain ⟨ad408, e408, hx408_0, hx408_1, hx408_2, hx408_3, hx408_4, hx408_5⟩ := at_T24 HR0.out (ji4) p408 q408
     have hw408_5 := hx408_5
     have hw408_4 := hx408_4
     have hw408_3 := hx408_3
     have hw408_2 := hx408_2
     have hw408_1 := hx408_1
     have hw408_0 := hx408_0
     obtain rfl : ad407 = ad408 := (by injection e408)
     replace hx408_0 := on_ HB.out hx408_0
     replace hx408_1 := on_ HB.out hx408_1
     replace hx408_2 := on_ HB.out hx408_2
     replace hx408_3 := on_ HB.out hx408_3
     replace hx408_4 := on_ HB.out hx408_4
     replace hx408_5 := on_ HB.out hx408_5
     replace p408 := eq_true p408
     replace q408 := eq_true q408
     refine start_ (n := 11) (S := fun w' => w'.cell? (ad407.add ((x3_1).toNat * 6)) = some (.int .i64 ((rd_T24 l0 x3_1).f0)) ∧ w'.cell? ⟨(ad407.add ((x3_1).toNat * 6)).block, (ad407.add ((x3_1).toNat * 6)).off + 1, none⟩ = some (.int .i64 ((rd_T24 l0 x3_1).f1)) ∧ w'.cell? ⟨(ad407.add ((x3_1).toNat * 6)).block, (ad407.add ((x3_1).toNat * 6)).off + 2, none⟩ = some (.int .i64 ((rd_T24 l0 x3_1).f2)) ∧ w'.cell? ⟨(ad407.add ((x3_1).toNat * 6)).block, (ad407.add ((x3_1).toNat * 6)).off + 3, none⟩ = some (.int .i64 ((rd_T24 l0 x3_1).f3)) ∧ w'.cell? ⟨(ad407.add ((x3_1).toNat * 6)).block, (ad407.add ((x3_1).toNat * 6)).off + 4, none⟩ = some (.int .i64 ((rd_T24 l0 x3_1).f4)) ∧ w'.cell? ⟨(ad407.add ((x3_1).toNat * 6)).block, (ad407.add ((x3_1).toNat * 6)).off + 5, none⟩ = some (.string ((rd_T24 l0 x3_1).f5)) ∧ w'.cell? (ad407.add (((ji4)).toNat * 6)) = some (.int .i64 ((rd_T24 l0 (ji4)).f0)) ∧ w'.cell? ⟨(ad407.add (((ji4)).toNat * 6)).block, (ad407.add (((ji4)).toNat * 6)).off + 1, none⟩ = some (.int .i64 ((rd_T24 l0 (ji4)).f1)) ∧ w'.cell? ⟨(ad407.add (((ji4)).toNat * 6)).block, (ad407.add (((ji4)).toNat * 6)).off + 2, none⟩ = some (.int .i64 ((rd_T24 l0 (ji4)).f2)) ∧ w'.cell? ⟨(ad407.add (((ji4)).toNat * 6)).block, (ad407.add (((ji4)).toNat * 6)).off + 3, none⟩ = some (.int .i64 ((rd_T24 l0 (ji4)).f3)) ∧ w'.cell? ⟨(ad407.add (((ji4)).toNat * 6)).block, (ad407.add (((ji4)).toNat * 6)).off + 4, none⟩ = some (.int .i64 ((rd_T24 l0 (ji4)).f4)) ∧ w'.cell? ⟨(ad407.add (((ji4)).toNat * 6)).block, (ad407.add (((ji4)).toNat * 6)).off + 5, none⟩ = some (.string ((rd_T24 l0 (ji4)).f5))) (ds := []) #[F,F,F,F,F,F,F,F,F,F,F] (by kernel_rfl) rfl rfl ⟨((HB.out.cell (World.block_lt_of_cell? w _ hw407_0)).trans hw407_0), ((HB.out.cell (World.block_lt_of_cell? w _ hw407_1)).trans hw407_1), ((HB.out.cell (World.block_lt_of_cell? w _ hw407_2)).trans hw407_2), ((HB.out.cell (World.block_lt_of_cell? w _ hw407_3)).trans hw407_3), ((HB.out.cell (World.block_lt_of_cell? w _ hw407_4)).trans hw407_4), ((HB.out.cell (World.block_lt_of_cell? w _ hw407_5)).trans hw407_5), ((HB.out.cell (World.block_lt_of_cell? w _ hw408_0)).trans hw408_0), ((HB.out.cell (World.block_lt_of_cell? w _ hw408_1)).trans hw408_1), ((HB.out.cell (World.block_lt_of_cell? w _ hw408_2)).trans hw408_2), ((HB.out.cell (World.block_lt_of_cell? w _ hw408_3)).trans hw408_3), ((HB.out.cell (World.block_lt_of_cell? w _ hw408_4)).trans hw408_4), ((HB.out.cell (World.block_lt_of_cell? w _ hw408_5)).trans hw408_5)⟩ (fun hHeld => ?_); refine with_tabW hopperref06_Check.tab4 hopperref06_Check.bits4 (fun HT_ HW_ => ?_)
     generalize wr.drew = w9 at HB hx407_0 hx407_1 hx407_2 hx407_3 hx407_4 hx407_5 hx408_0 hx408_1 hx408_2 hx408_3 hx408_4 hx408_5 hHeld ⊢
     refine pq_ 0 10 HT_ ?_
     refine pq_ 1 11 HT_ ?_
     refine pq_ 2 12 HT_ ?_
     refine pq_ 4 14 HT_ ?_
     refine pq_ 5 15 HT_ ?_
     refine pq_ 6 16 HT_ ?_
     refine pq_ 7 17 HT_ ?_
     refine pq_ 8 18 HT_ ?_
     refine tk_ 3 13 HT_ HW_ hHeld ?_
     refine tk_ 9 19 HT_ HW_ hHeld ?_
     refine one_ (i := 10) (N := some 20) #[T,T,T,T,T,T,T,T,T,T,T] rfl rfl (one_of HT_.out (by kernel_rfl)) (by decide) (fun K hK => ?_)
     refine goes_ Try.func49 (by kernel_rfl) rfl #[.agg #[.int .i64 ((rd_T24 l0 x3_1).f0), .int .i64 ((rd_T24 l0 x3_1).f1), .int .i64 ((rd_T24 l0 x3_1).f2), .int .i64 ((rd_T24 l0 x3_1).f3), .int .i64 ((rd_T24 l0 x3_1).f4), .string ((rd_T24 l0 x3_1).f5)], .agg #[.int .i64 ((rd_T24 l0 (ji4)).f0), .int .i64 ((rd_T24 l0 (ji4)).f1), .int .i64 ((rd_T24 l0 (ji4)).f2), .int .i64 ((rd_T24 l0 (ji4)).f3), .int .i64 ((rd_T24 l0 (ji4)).f4), .string ((rd_T24 l0 (ji4)).f5)]] (by rfl) rfl rfl (by (try simp only [m0_, m1_, m2_]); first | done | (simp only [hji4]; rfl) | rfl | (simp only [List.length_drop, List.length_take]; rfl)) ?_
     with_reducible refine (hopperref04_Better.calls k1 ((rd_T24 l0 x3_1).f0) ((rd_T24 l0 x3_1).f1) ((rd_T24 l0 x3_1).f2) ((rd_T24 l0 x3_1).f3) ((rd_T24 l0 x3_1).f4) ((rd_T24 l0 x3_1).f5) ((rd_T24 l0 (ji4)).f0) ((rd_T24 l0 (ji4)).f1) ((rd_T24 l0 (ji4)).f2) ((rd_T24 l0 (ji4)).f3) ((rd_T24 l0 (ji4)).f4) ((rd_T24 l0 (ji4)).f5) true _ A7.out).mono ?_
     rintro e w10 ⟨rfl, hb⟩
     refine ⟨_, rfl, ?_⟩
     have n0_ := A_ (below_step bw_ hb); replace HB := n0_; clear n0_
     (try clear hb)
     (try clear hb2)
     (try clear hk)
     (try clear hi)
     refine hK.out _ _ ⟨((HB.out.cell (World.block_lt_of_cell? w _ hw407_0)).trans hw407_0), ((HB.out.cell (World.block_lt_of_cell? w _ hw407_1)).trans hw407_1), ((HB.out.cell (World.block_lt_of_cell? w _ hw407_2)).trans hw407_2), ((HB.out.cell (World.block_lt_of_cell? w _ hw407_3)).trans hw407_3), ((HB.out.cell (World.block_lt_of_cell? w _ hw407_4)).trans hw407_4), ((HB.out.cell (World.block_lt_of_cell? w _ hw407_5)).trans hw407_5), ((HB.out.cell (World.block_lt_of_cell? w _ hw408_0)).trans hw408_0), ((HB.out.cell (World.block_lt_of_cell? w _ hw408_1)).trans hw408_1), ((HB.out.cell (World.block_lt_of_cell? w _ hw408_2)).trans hw408_2), ((HB.out.cell (World.block_lt_of_cell? w _ hw408_3)).trans hw408_3), ((HB.out.cell (World.block_lt_of_cell? w _ hw408_4)).trans hw408_4), ((HB.out.cell (World.block_lt_of_cell? w _ hw408_5)).trans hw408_5)⟩ (fun hHeld => ?_)
     clear hK K
     refine norm_ (a' := ?_) ?_ ?_
     rotate_left
     · show Act.put _ (some 20) _ = _
       simp only [Act.put, s0_, s1_, s2_, i64_w, i32_w]
       rfl
     refine done_ (done_of HT_.out (by kernel_rfl)) ?_
     try go_wp2
     go_ret
     exact ⟨by first | rfl | (simp [errW_none, errW_some] <;> rfl) | (simp only [← hji4]; first | rfl | (simp [errW_none, errW_some] <;> rfl)) | (simp [*, errW_none, errW_some] <;> rfl), by repeat (first | (with_reducible first | exact HB.out | apply wa_ | apply wn_ | apply wd_) | exact HB.out)⟩
   · replace c8 := Bool.eq_false_iff.mpr c8
     subst c8
     have H1 : (hopperref06_Check.l0 k1 l0 (wrap64 (x3_1 + 1))) = some r := by rw [if_neg (show ¬ (false = true) by decide)] at H; exact H
     clear H
     have H := H1
     clear H1
     have H' := A_ H
     clear H
     try go_wp2
     have n0_ := A_ (wd_ HB.out); replace HB := n0_; clear n0_
     have p407 : 0 ≤ (x3_1 : Int) := of_decide_eq_true (by first | (with_reducible assumption) | assumption)
     have q407 : x3_1 < (l0.length : Int) := of_decide_eq_true (by first | (with_reducible assumption) | assumption)
     obtain ⟨ad407, e407, hx407_0, hx407_1, hx407_2, hx407_3, hx407_4, hx407_5⟩ := at_T24 HR0.out x3_1 p407 q407
     have hw407_5 := hx407_5
     have hw407_4 := hx407_4
     have hw407_3 := hx407_3
     have hw407_2 := hx407_2
     have hw407_1 := hx407_1
     have hw407_0 := hx407_0
     cases e407
     replace hx407_0 := on_ HB.out hx407_0
     replace hx407_1 := on_ HB.out hx407_1
     replace hx407_2 := on_ HB.out hx407_2
     replace hx407_3 := on_ HB.out hx407_3
     replace hx407_4 := on_ HB.out hx407_4
     replace hx407_5 := on_ HB.out hx407_5
     replace p407 := eq_true p407
     replace q407 := eq_true q407
     have p408 : 0 ≤ ((ji4) : Int) := of_decide_eq_true (by first | (with_reducible assumption) | assumption)
     have q408 : (ji4) < (l0.length : Int) := of_decide_eq_true (by first | (with_reducible assumption) | assumption)
     obtain ⟨ad408, e408, hx408_0, hx408_1, hx408_2, hx408_3, hx408_4, hx408_5⟩ := at_T24 HR0.out (ji4) p408 q408
     have hw408_5 := hx408_5
     have hw408_4 := hx408_4
     have hw408_3 := hx408_3
     have hw408_2 := hx408_2
     have hw408_1 := hx408_1
     have hw408_0 := hx408_0
     obtain rfl : ad407 = ad408 := (by injection e408)
     replace hx408_0 := on_ HB.out hx408_0
     replace hx408_1 := on_ HB.out hx408_1
     replace hx408_2 := on_ HB.out hx408_2
     replace hx408_3 := on_ HB.out hx408_3
     replace hx408_4 := on_ HB.out hx408_4
     replace hx408_5 := on_ HB.out hx408_5
     replace p408 := eq_true p408
     replace q408 := eq_true q408
     refine start_ (n := 11) (S := fun w' => w'.cell? (ad407.add ((x3_1).toNat * 6)) = some (.int .i64 ((rd_T24 l0 x3_1).f0)) ∧ w'.cell? ⟨(ad407.add ((x3_1).toNat * 6)).block, (ad407.add ((x3_1).toNat * 6)).off + 1, none⟩ = some (.int .i64 ((rd_T24 l0 x3_1).f1)) ∧ w'.cell? ⟨(ad407.add ((x3_1).toNat * 6)).block, (ad407.add ((x3_1).toNat * 6)).off + 2, none⟩ = some (.int .i64 ((rd_T24 l0 x3_1).f2)) ∧ w'.cell? ⟨(ad407.add ((x3_1).toNat * 6)).block, (ad407.add ((x3_1).toNat * 6)).off + 3, none⟩ = some (.int .i64 ((rd_T24 l0 x3_1).f3)) ∧ w'.cell? ⟨(ad407.add ((x3_1).toNat * 6)).block, (ad407.add ((x3_1).toNat * 6)).off + 4, none⟩ = some (.int .i64 ((rd_T24 l0 x3_1).f4)) ∧ w'.cell? ⟨(ad407.add ((x3_1).toNat * 6)).block, (ad407.add ((x3_1).toNat * 6)).off + 5, none⟩ = some (.string ((rd_T24 l0 x3_1).f5)) ∧ w'.cell? (ad407.add (((ji4)).toNat * 6)) = some (.int .i64 ((rd_T24 l0 (ji4)).f0)) ∧ w'.cell? ⟨(ad407.add (((ji4)).toNat * 6)).block, (ad407.add (((ji4)).toNat * 6)).off + 1, none⟩ = some (.int .i64 ((rd_T24 l0 (ji4)).f1)) ∧ w'.cell? ⟨(ad407.add (((ji4)).toNat * 6)).block, (ad407.add (((ji4)).toNat * 6)).off + 2, none⟩ = some (.int .i64 ((rd_T24 l0 (ji4)).f2)) ∧ w'.cell? ⟨(ad407.add (((ji4)).toNat * 6)).block, (ad407.add (((ji4)).toNat * 6)).off + 3, none⟩ = some (.int .i64 ((rd_T24 l0 (ji4)).f3)) ∧ w'.cell? ⟨(ad407.add (((ji4)).toNat * 6)).block, (ad407.add (((ji4)).toNat * 6)).off + 4, none⟩ = some (.int .i64 ((rd_T24 l0 (ji4)).f4)) ∧ w'.cell? ⟨(ad407.add (((ji4)).toNat * 6)).block, (ad407.add (((ji4)).toNat * 6)).off + 5, none⟩ = some (.string ((rd_T24 l0 (ji4)).f5))) (ds := []) #[F,F,F,F,F,F,F,F,F,F,F] (by kernel_rfl) rfl rfl ⟨((HB.out.cell (World.block_lt_of_cell? w _ hw407_0)).trans hw407_0), ((HB.out.cell (World.block_lt_of_cell? w _ hw407_1)).trans hw407_1), ((HB.out.cell (World.block_lt_of_cell? w _ hw407_2)).trans hw407_2), ((HB.out.cell (World.block_lt_of_cell? w _ hw407_3)).trans hw407_3), ((HB.out.cell (World.block_lt_of_cell? w _ hw407_4)).trans hw407_4), ((HB.out.cell (World.block_lt_of_cell? w _ hw407_5)).trans hw407_5), ((HB.out.cell (World.block_lt_of_cell? w _ hw408_0)).trans hw408_0), ((HB.out.cell (World.block_lt_of_cell? w _ hw408_1)).trans hw408_1), ((HB.out.cell (World.block_lt_of_cell? w _ hw408_2)).trans hw408_2), ((HB.out.cell (World.block_lt_of_cell? w _ hw408_3)).trans hw408_3), ((HB.out.cell (World.block_lt_of_cell? w _ hw408_4)).trans hw408_4), ((HB.out.cell (World.block_lt_of_cell? w _ hw408_5)).trans hw408_5)⟩ (fun hHeld => ?_); refine with_tabW hopperref06_Check.tab4 hopperref06_Check.bits4 (fun HT_ HW_ => ?_)
     generalize wr.drew = w11 at HB hx407_0 hx407_1 hx407_2 hx407_3 hx407_4 hx407_5 hx408_0 hx408_1 hx408_2 hx408_3 hx408_4 hx408_5 hHeld ⊢
     refine pq_ 0 10 HT_ ?_
     refine pq_ 1 11 HT_ ?_
     refine pq_ 2 12 HT_ ?_
     refine pq_ 4 14 HT_ ?_
     refine pq_ 5 15 HT_ ?_
     refine pq_ 6 16 HT_ ?_
     refine pq_ 7 17 HT_ ?_
     refine pq_ 8 18 HT_ ?_
     refine tk_ 3 13 HT_ HW_ hHeld ?_
     refine tk_ 9 19 HT_ HW_ hHeld ?_
     refine one_ (i := 10) (N := some 20) #[T,T,T,T,T,T,T,T,T,T,T] rfl rfl (one_of HT_.out (by kernel_rfl)) (by decide) (fun K hK => ?_)
     refine goes_ Try.func49 (by kernel_rfl) rfl #[.agg #[.int .i64 ((rd_T24 l0 x3_1).f0), .int .i64 ((rd_T24 l0 x3_1).f1), .int .i64 ((rd_T24 l0 x3_1).f2), .int .i64 ((rd_T24 l0 x3_1).f3), .int .i64 ((rd_T24 l0 x3_1).f4), .string ((rd_T24 l0 x3_1).f5)], .agg #[.int .i64 ((rd_T24 l0 (ji4)).f0), .int .i64 ((rd_T24 l0 (ji4)).f1), .int .i64 ((rd_T24 l0 (ji4)).f2), .int .i64 ((rd_T24 l0 (ji4)).f3), .int .i64 ((rd_T24 l0 (ji4)).f4), .string ((rd_T24 l0 (ji4)).f5)]] (by rfl) rfl rfl (by (try simp only [m0_, m1_, m2_]); first | done | (simp only [hji4]; rfl) | rfl | (simp only [List.length_drop, List.length_take]; rfl)) ?_
     with_reducible refine (hopperref04_Better.calls k1 ((rd_T24 l0 x3_1).f0) ((rd_T24 l0 x3_1).f1) ((rd_T24 l0 x3_1).f2) ((rd_T24 l0 x3_1).f3) ((rd_T24 l0 x3_1).f4) ((rd_T24 l0 x3_1).f5) ((rd_T24 l0 (ji4)).f0) ((rd_T24 l0 (ji4)).f1) ((rd_T24 l0 (ji4)).f2) ((rd_T24 l0 (ji4)).f3) ((rd_T24 l0 (ji4)).f4) ((rd_T24 l0 (ji4)).f5) false _ A7.out).mono ?_
     rintro e w12 ⟨rfl, hb⟩
     refine ⟨_, rfl, ?_⟩
     have n0_ := A_ (below_step bw_ hb); replace HB := n0_; clear n0_
     (try clear hb)
     (try clear hb2)
     (try clear hk)
     (try clear hi)
     refine hK.out _ _ ⟨((HB.out.cell (World.block_lt_of_cell? w _ hw407_0)).trans hw407_0), ((HB.out.cell (World.block_lt_of_cell? w _ hw407_1)).trans hw407_1), ((HB.out.cell (World.block_lt_of_cell? w _ hw407_2)).trans hw407_2), ((HB.out.cell (World.block_lt_of_cell? w _ hw407_3)).trans hw407_3), ((HB.out.cell (World.block_lt_of_cell? w _ hw407_4)).trans hw407_4), ((HB.out.cell (World.block_lt_of_cell? w _ hw407_5)).trans hw407_5), ((HB.out.cell (World.block_lt_of_cell? w _ hw408_0)).trans hw408_0), ((HB.out.cell (World.block_lt_of_cell? w _ hw408_1)).trans hw408_1), ((HB.out.cell (World.block_lt_of_cell? w _ hw408_2)).trans hw408_2), ((HB.out.cell (World.block_lt_of_cell? w _ hw408_3)).trans hw408_3), ((HB.out.cell (World.block_lt_of_cell? w _ hw408_4)).trans hw408_4), ((HB.out.cell (World.block_lt_of_cell? w _ hw408_5)).trans hw408_5)⟩ (fun hHeld => ?_)
     clear hK K
     refine norm_ (a' := ?_) ?_ ?_
     rotate_left
     · show Act.put _ (some 20) _ = _
       simp only [Act.put, s0_, s1_, s2_, i64_w, i32_w]
       rfl
     refine done_ (done_of HT_.out (by kernel_rfl)) ?_
     try go_wp2
     go_roundg k1
     case measure => have := HK1.out; omega
     case rel => exact ⟨(wrap64 (x3_1 + 1)), (by first | rfl | (simp; done) | (simp [*]; done)), H', ⟨by have := HK1.out; omega⟩, ⟨by repeat (first | (with_reducible first | exact HB.out | apply wa_ | apply wn_ | apply wd_) | exact HB.out)⟩⟩
end Go.Proofs.Ytehncbhmdgdkjaa.L
