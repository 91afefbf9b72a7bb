/- Written by this session's own program over the kit's print: functions of Go told as plain functions, or the row of one statement; proved for every input, with no condition of ours. -/
import Derived.Test.YtehncbhmdgdkjaaLx0
import Derived.Test.YtehncbhmdgdkjaaLx10
namespace Go.Proofs.Ytehncbhmdgdkjaa.L
open Go.RowKit Go.Proofs.YtehncbhmdgdkjaaW.PrintWords Go.Proofs.YtehncbhmdgdkjaaW.PrintLast Go.Proofs.YtehncbhmdgdkjaaW.PrintMore
attribute [local go_sem] max2_int min2_int max_two min_two max_three min_three max_four min_four   -- for this text's walks alone
set_option linter.unusedVariables false
set_option linter.unusedSimpArgs false

/-! ### heap_Check: function 28 -/
def heap_Check.l0 : Nat → List (S24) → Int → Int → Option (Bool)
 | 0, _, _, _ => none
 | k + 1, x0, x5, x6 => if x6 < x5 then (if x6 > 0 then (if 0 ≤ x6 then (if x6 < (x0.length : Int) then (if 0 ≤ (wrap64 (Int.tdiv (wrap64 (x6 - 1)) 2)) then (if (wrap64 (Int.tdiv (wrap64 (x6 - 1)) 2)) < (x0.length : Int) then ((txn_Better.f k ((rd_T24 x0 x6).f0) ((rd_T24 x0 x6).f1) ((rd_T24 x0 x6).f2) ((rd_T24 x0 x6).f3) ((rd_T24 x0 x6).f4) ((rd_T24 x0 x6).f5) ((rd_T24 x0 (wrap64 (Int.tdiv (wrap64 (x6 - 1)) 2))).f0) ((rd_T24 x0 (wrap64 (Int.tdiv (wrap64 (x6 - 1)) 2))).f1) ((rd_T24 x0 (wrap64 (Int.tdiv (wrap64 (x6 - 1)) 2))).f2) ((rd_T24 x0 (wrap64 (Int.tdiv (wrap64 (x6 - 1)) 2))).f3) ((rd_T24 x0 (wrap64 (Int.tdiv (wrap64 (x6 - 1)) 2))).f4) ((rd_T24 x0 (wrap64 (Int.tdiv (wrap64 (x6 - 1)) 2))).f5)).bind fun t139 => (if t139 = true then (some false) else (heap_Check.l0 k x0 x5 (wrap64 (x6 + 1))))) else (none)) else (none)) else (none)) else (none)) else (heap_Check.l0 k x0 x5 (wrap64 (x6 + 1)))) else (some true)
def heap_Check.f (k : Nat) (l0 : List (S24)) : Option (Bool) := heap_Check.l0 k l0 (l0.length : Int) 0
theorem heap_Check.mono_l : ∀ k, (∀ y0 y1 y2, LeO (heap_Check.l0 k y0 y1 y2) (heap_Check.l0 (k + 1) y0 y1 y2))
 | 0 => fun _ _ _ r h => by simp [heap_Check.l0] at h
 | k + 1 => by
  have ih0 := heap_Check.mono_l k
  · intro y0 y1 y2
    unfold heap_Check.l0
    repeat' first
    | (with_reducible exact ih0 _ _ _)
    | (with_reducible exact txn_Better.mono _ _ _ _ _ _ _ _ _ _ _ _ _)
    | (with_reducible exact LeO.refl _)
    | (with_reducible exact LeO.none _)
    | (with_reducible refine LeO.ite ?_ ?_)
    | (with_reducible refine LeO.bind ?_ (fun _ => ?_))
    | exact ih0 _ _ _
    | exact txn_Better.mono _ _ _ _ _ _ _ _ _ _ _ _ _
    | exact LeO.none _
    | refine LeO.ite ?_ ?_
    | refine LeO.bind ?_ (fun _ => ?_)
theorem heap_Check.mono : ∀ a0 k, LeO (heap_Check.f k a0) (heap_Check.f (k + 1) a0) := by
 intro a0 k
 have ih0 := heap_Check.mono_l k
 unfold heap_Check.f
 repeat' first
  | (with_reducible exact ih0 _ _ _)
  | (with_reducible exact txn_Better.mono _ _ _ _ _ _ _ _ _ _ _ _ _)
  | (with_reducible exact LeO.refl _)
  | (with_reducible exact LeO.none _)
  | (with_reducible refine LeO.ite ?_ ?_)
  | (with_reducible refine LeO.bind ?_ (fun _ => ?_))
  | exact ih0 _ _ _
  | exact txn_Better.mono _ _ _ _ _ _ _ _ _ _ _ _ _
  | exact LeO.none _
  | refine LeO.ite ?_ ?_
  | refine LeO.bind ?_ (fun _ => ?_)
def heap_Check.T4 : Bool × List (List Nat × List Nat) := (true, [([], []), ([0], [0]), ([1], [1]), ([2], [2]), ([2], [2]), ([3, 4, 2], [2, 3, 4]), ([5, 2], [2, 5]), ([2], [2]), ([2], [2]), ([8, 2], [2, 8]), ([9, 2], [2, 9]), ([7, 10, 2], [2, 7, 10]), ([11, 2], [2, 11]), ([6, 12, 2, 2], [2, 6, 12]), ([2, 13], [2, 13])])
def heap_Check.B4 : List Nat := [0, 1, 3, 7, 7, 31, 63, 7, 7, 263, 775, 1927, 3975, 8191, 16383]
theorem heap_Check.tab4 : rtab .any (opsOf Try.f28 4) = heap_Check.T4 := by kernel_rfl
theorem heap_Check.bits4 : waitsOk heap_Check.T4.2 heap_Check.B4 = true := by kernel_rfl
set_option maxHeartbeats 8000000 in
set_option maxRecDepth 100000 in
theorem heap_Check.calls (k : Nat) (A0 : Option Addr) (c0 : Nat) (l0 : List (S24)) (r : Bool) (w : World) (hr0 : Kd.C k24 w A0 l0.length l0) (hc0 : l0.length ≤ c0) (h : heap_Check.f k l0 = some r) :
 Calls Try.prog 28 #[.slice A0 l0.length c0] w fun e w' => e = .returned (.bool r) ∧ Below w.heap.size w w' := by
 have hu24 := Try.underlying24
 have HR0 := A_ hr0
 have HC0 := A_ hc0
 clear hr0 hc0; have HB := A_ (Below.refl w.heap.size w)
 have H : (heap_Check.l0 k l0 (l0.length : Int) 0) = some r := h
 clear h
 have H' := A_ H
 clear H
 go_enter Try.func28, Try.ntmps28
 go_wp2
 go_loopg [6] k (fun kq v6 w' => ∃ (x6_1 : Int), v6 = .int .i64 x6_1 ∧ Aside0 (heap_Check.l0 kq l0 (l0.length : Int) x6_1 = some r) ∧ Aside0 (kq ≤ k) ∧ Aside0 (Below w.heap.size w w'))
 case atStart => exact ⟨(0), (by first | rfl | (simp; done) | (simp [*]; done)), H', ⟨Nat.le_refl _⟩, ⟨by repeat (first | (with_reducible first | exact HB.out | apply wa_ | apply wn_ | apply wd_) | exact HB.out)⟩⟩
 case round =>
  clear H'
  obtain ⟨x6_1, rfl, HA, HK1, HB⟩ := hrel
  cases gk with
  | zero => exact absurd HA.out (by simp [heap_Check.l0])
  | succ k1 =>
   have H := HA.out
   clear HA
   simp only [heap_Check.l0] at H
   by_cases c2 : x6_1 < (l0.length : Int)
   rotate_left
   · rw [if_neg c2] at H
     have c2b0 : decide (x6_1 < (l0.length : Int)) = false := decide_eq_false c2
     clear c2
     obtain rfl := Option.some.inj H
     go_wp2
     go_ret
     exact ⟨by first | rfl | (simp [errW_none, errW_some] <;> rfl) | (simp [*, errW_none, errW_some] <;> rfl), by repeat (first | (with_reducible first | exact HB.out | apply wa_ | apply wn_ | apply wd_) | exact HB.out)⟩

   rw [if_pos c2] at H
   have c2b0 : decide (x6_1 < (l0.length : Int)) = true := decide_eq_true c2
   clear c2
   by_cases c3 : x6_1 > 0
   · rw [if_pos c3] at H
     have c3b0 : decide (0 < x6_1) = true := decide_eq_true c3
     clear c3
     by_cases c4 : 0 ≤ x6_1
     rotate_left
     · rw [if_neg c4] at H
       exact absurd H (by simp)
     rw [if_pos c4] at H
     have c4b0 : decide (0 ≤ x6_1) = true := decide_eq_true c4
     clear c4
     by_cases c5 : x6_1 < (l0.length : Int)
     rotate_left
     · rw [if_neg c5] at H
       exact absurd H (by simp)
     rw [if_pos c5] at H
     have c5b0 : decide (x6_1 < (l0.length : Int)) = true := decide_eq_true c5
     clear c5
     obtain ⟨ji6, hji6⟩ : ∃ j_ : Int, (wrap64 (Int.tdiv (wrap64 (x6_1 - 1)) 2)) = j_ := ⟨_, rfl⟩
     replace H : (if 0 ≤ (ji6) then (if (ji6) < (l0.length : Int) then ((txn_Better.f k1 ((rd_T24 l0 x6_1).f0) ((rd_T24 l0 x6_1).f1) ((rd_T24 l0 x6_1).f2) ((rd_T24 l0 x6_1).f3) ((rd_T24 l0 x6_1).f4) ((rd_T24 l0 x6_1).f5) ((rd_T24 l0 (ji6)).f0) ((rd_T24 l0 (ji6)).f1) ((rd_T24 l0 (ji6)).f2) ((rd_T24 l0 (ji6)).f3) ((rd_T24 l0 (ji6)).f4) ((rd_T24 l0 (ji6)).f5)).bind fun t139 => (if t139 = true then (some false) else (heap_Check.l0 k1 l0 (l0.length : Int) (wrap64 (x6_1 + 1))))) else (none)) else (none)) = some r := by first | (rw [hji6] at H; exact H) | (simp only [hji6] at H ⊢; exact H)
     have hji6w : (IntKind.i64.wrap (Int.tdiv (wrap64 (x6_1 - 1)) 2)) = ji6 := (i64_w _).trans hji6
     by_cases c7 : 0 ≤ (ji6)
     rotate_left
     · rw [if_neg c7] at H
       exact absurd H (by simp)
     rw [if_pos c7] at H
     have c7b0 : decide (0 ≤ (ji6)) = true := decide_eq_true c7
     clear c7
     by_cases c8 : (ji6) < (l0.length : Int)
     rotate_left
     · rw [if_neg c8] at H
       exact absurd H (by simp)
     rw [if_pos c8] at H
     have c8b0 : decide ((ji6) < (l0.length : Int)) = true := decide_eq_true c8
     clear c8
     replace H := Option.bind_eq_some_iff.mp H
     obtain ⟨t139, A90, H⟩ := H
     try dsimp only at H
     have A9 := A_ A90
     clear A90
     by_cases c10 : t139 = true
     · subst c10
       have H1 : (some false) = some r := by rw [if_pos rfl] at H; exact H
       clear H
       have H := H1
       clear H1
       obtain rfl := Option.some.inj H
       try go_wp2
       have n0_ := A_ (wd_ HB.out); replace HB := n0_; clear n0_
       have p137 : 0 ≤ (x6_1 : Int) := of_decide_eq_true (by first | (with_reducible assumption) | assumption)
       have q137 : x6_1 < (l0.length : Int) := of_decide_eq_true (by first | (with_reducible assumption) | assumption)
       obtain ⟨ad137, e137, hx137_0, hx137_1, hx137_2, hx137_3, hx137_4, hx137_5⟩ := at_T24 HR0.out x6_1 p137 q137
       have hw137_5 := hx137_5
       have hw137_4 := hx137_4
       have hw137_3 := hx137_3
       have hw137_2 := hx137_2
       have hw137_1 := hx137_1
       have hw137_0 := hx137_0
       cases e137
       replace hx137_0 := on_ HB.out hx137_0
       replace hx137_1 := on_ HB.out hx137_1
       replace hx137_2 := on_ HB.out hx137_2
       replace hx137_3 := on_ HB.out hx137_3
       replace hx137_4 := on_ HB.out hx137_4
       replace hx137_5 := on_ HB.out hx137_5
       replace p137 := eq_true p137
       replace q137 := eq_true q137
       have p138 : 0 ≤ ((ji6) : Int) := of_decide_eq_true (by first | (with_reducible assumption) | assumption)
       have q138 : (ji6) < (l0.length : Int) := of_decide_eq_true (by first | (with_reducible assumption) | assumption)
       obtain ⟨ad138, e138, hx138_0, hx138_1, hx138_2, hx138_3, hx138_4, hx138_5⟩ := at_T24 HR0.out (ji6) p138 q138
       have hw138_5 := hx138_5
       have hw138_4 := hx138_4
       have hw138_3 := hx138_3
       have hw138_2 := hx138_2
       have hw138_1 := hx138_1
       have hw138_0 := hx138_0
       obtain rfl : ad137 = ad138 := (by injection e138)
       replace hx138_0 := on_ HB.out hx138_0
       replace hx138_1 := on_ HB.out hx138_1
       replace hx138_2 := on_ HB.out hx138_2
       replace hx138_3 := on_ HB.out hx138_3
       replace hx138_4 := on_ HB.out hx138_4
       replace hx138_5 := on_ HB.out hx138_5
       replace p138 := eq_true p138
       replace q138 := eq_true q138
       refine start_ (n := 15) (S := fun w' => w'.cell? (ad137.add ((x6_1).toNat * 6)) = some (.int .i64 ((rd_T24 l0 x6_1).f0)) ∧ w'.cell? ⟨(ad137.add ((x6_1).toNat * 6)).block, (ad137.add ((x6_1).toNat * 6)).off + 1, none⟩ = some (.int .i64 ((rd_T24 l0 x6_1).f1)) ∧ w'.cell? ⟨(ad137.add ((x6_1).toNat * 6)).block, (ad137.add ((x6_1).toNat * 6)).off + 2, none⟩ = some (.int .i64 ((rd_T24 l0 x6_1).f2)) ∧ w'.cell? ⟨(ad137.add ((x6_1).toNat * 6)).block, (ad137.add ((x6_1).toNat * 6)).off + 3, none⟩ = some (.int .i64 ((rd_T24 l0 x6_1).f3)) ∧ w'.cell? ⟨(ad137.add ((x6_1).toNat * 6)).block, (ad137.add ((x6_1).toNat * 6)).off + 4, none⟩ = some (.int .i64 ((rd_T24 l0 x6_1).f4)) ∧ w'.cell? ⟨(ad137.add ((x6_1).toNat * 6)).block, (ad137.add ((x6_1).toNat * 6)).off + 5, none⟩ = some (.string ((rd_T24 l0 x6_1).f5)) ∧ w'.cell? (ad137.add (((ji6)).toNat * 6)) = some (.int .i64 ((rd_T24 l0 (ji6)).f0)) ∧ w'.cell? ⟨(ad137.add (((ji6)).toNat * 6)).block, (ad137.add (((ji6)).toNat * 6)).off + 1, none⟩ = some (.int .i64 ((rd_T24 l0 (ji6)).f1)) ∧ w'.cell? ⟨(ad137.add (((ji6)).toNat * 6)).block, (ad137.add (((ji6)).toNat * 6)).off + 2, none⟩ = some (.int .i64 ((rd_T24 l0 (ji6)).f2)) ∧ w'.cell? ⟨(ad137.add (((ji6)).toNat * 6)).block, (ad137.add (((ji6)).toNat * 6)).off + 3, none⟩ = some (.int .i64 ((rd_T24 l0 (ji6)).f3)) ∧ w'.cell? ⟨(ad137.add (((ji6)).toNat * 6)).block, (ad137.add (((ji6)).toNat * 6)).off + 4, none⟩ = some (.int .i64 ((rd_T24 l0 (ji6)).f4)) ∧ w'.cell? ⟨(ad137.add (((ji6)).toNat * 6)).block, (ad137.add (((ji6)).toNat * 6)).off + 5, none⟩ = some (.string ((rd_T24 l0 (ji6)).f5))) (ds := []) #[F,F,F,F,F,F,F,F,F,F,F,F,F,F,F] (by kernel_rfl) rfl rfl ⟨((HB.out.cell (World.block_lt_of_cell? w _ hw137_0)).trans hw137_0), ((HB.out.cell (World.block_lt_of_cell? w _ hw137_1)).trans hw137_1), ((HB.out.cell (World.block_lt_of_cell? w _ hw137_2)).trans hw137_2), ((HB.out.cell (World.block_lt_of_cell? w _ hw137_3)).trans hw137_3), ((HB.out.cell (World.block_lt_of_cell? w _ hw137_4)).trans hw137_4), ((HB.out.cell (World.block_lt_of_cell? w _ hw137_5)).trans hw137_5), ((HB.out.cell (World.block_lt_of_cell? w _ hw138_0)).trans hw138_0), ((HB.out.cell (World.block_lt_of_cell? w _ hw138_1)).trans hw138_1), ((HB.out.cell (World.block_lt_of_cell? w _ hw138_2)).trans hw138_2), ((HB.out.cell (World.block_lt_of_cell? w _ hw138_3)).trans hw138_3), ((HB.out.cell (World.block_lt_of_cell? w _ hw138_4)).trans hw138_4), ((HB.out.cell (World.block_lt_of_cell? w _ hw138_5)).trans hw138_5)⟩ (fun hHeld => ?_); refine with_tabW heap_Check.tab4 heap_Check.bits4 (fun HT_ HW_ => ?_)
       generalize wr.drew = w11 at HB hx137_0 hx137_1 hx137_2 hx137_3 hx137_4 hx137_5 hx138_0 hx138_1 hx138_2 hx138_3 hx138_4 hx138_5 hHeld ⊢
       refine pq_ 0 9 HT_ ?_
       refine pq_ 1 10 HT_ ?_
       refine pq_ 2 11 HT_ ?_
       refine pq_ 3 12 HT_ ?_
       refine pq_ 4 13 HT_ ?_
       refine pq_ 5 14 HT_ ?_
       refine pq_ 7 16 HT_ ?_
       refine pq_ 8 17 HT_ ?_
       refine pq_ 9 18 HT_ ?_
       refine pq_ 10 19 HT_ ?_
       refine pq_ 11 20 HT_ ?_
       refine tk_ 6 15 HT_ HW_ hHeld ?_
       refine tk_ 12 21 HT_ HW_ hHeld ?_
       refine one_ (i := 13) (N := some 22) #[T,T,T,T,T,T,T,T,T,T,T,T,T,T,F] rfl rfl (one_of HT_.out (by kernel_rfl)) (by decide) (fun K hK => ?_)
       refine goes_ Try.func84 (by kernel_rfl) rfl #[.agg #[.int .i64 ((rd_T24 l0 x6_1).f0), .int .i64 ((rd_T24 l0 x6_1).f1), .int .i64 ((rd_T24 l0 x6_1).f2), .int .i64 ((rd_T24 l0 x6_1).f3), .int .i64 ((rd_T24 l0 x6_1).f4), .string ((rd_T24 l0 x6_1).f5)], .agg #[.int .i64 ((rd_T24 l0 (ji6)).f0), .int .i64 ((rd_T24 l0 (ji6)).f1), .int .i64 ((rd_T24 l0 (ji6)).f2), .int .i64 ((rd_T24 l0 (ji6)).f3), .int .i64 ((rd_T24 l0 (ji6)).f4), .string ((rd_T24 l0 (ji6)).f5)]] (by rfl) rfl rfl (by (try simp only [m0_, m1_, m2_]); first | done | (simp only [hji6]; rfl) | rfl | (simp only [List.length_drop, List.length_take]; rfl)) ?_
       with_reducible refine (txn_Better.calls k1 ((rd_T24 l0 x6_1).f0) ((rd_T24 l0 x6_1).f1) ((rd_T24 l0 x6_1).f2) ((rd_T24 l0 x6_1).f3) ((rd_T24 l0 x6_1).f4) ((rd_T24 l0 x6_1).f5) ((rd_T24 l0 (ji6)).f0) ((rd_T24 l0 (ji6)).f1) ((rd_T24 l0 (ji6)).f2) ((rd_T24 l0 (ji6)).f3) ((rd_T24 l0 (ji6)).f4) ((rd_T24 l0 (ji6)).f5) true _ A9.out).mono ?_
       rintro e w12 ⟨rfl, hb⟩
       refine ⟨_, rfl, ?_⟩
       have n0_ := A_ (below_step bw_ hb); replace HB := n0_; clear n0_
       (try clear hb)
       (try clear hb2)
       (try clear hk)
       (try clear hi)
       refine hK.out _ _ ⟨((HB.out.cell (World.block_lt_of_cell? w _ hw137_0)).trans hw137_0), ((HB.out.cell (World.block_lt_of_cell? w _ hw137_1)).trans hw137_1), ((HB.out.cell (World.block_lt_of_cell? w _ hw137_2)).trans hw137_2), ((HB.out.cell (World.block_lt_of_cell? w _ hw137_3)).trans hw137_3), ((HB.out.cell (World.block_lt_of_cell? w _ hw137_4)).trans hw137_4), ((HB.out.cell (World.block_lt_of_cell? w _ hw137_5)).trans hw137_5), ((HB.out.cell (World.block_lt_of_cell? w _ hw138_0)).trans hw138_0), ((HB.out.cell (World.block_lt_of_cell? w _ hw138_1)).trans hw138_1), ((HB.out.cell (World.block_lt_of_cell? w _ hw138_2)).trans hw138_2), ((HB.out.cell (World.block_lt_of_cell? w _ hw138_3)).trans hw138_3), ((HB.out.cell (World.block_lt_of_cell? w _ hw138_4)).trans hw138_4), ((HB.out.cell (World.block_lt_of_cell? w _ hw138_5)).trans hw138_5)⟩ (fun hHeld => ?_)
       clear hK K
       refine norm_ (a' := ?_) ?_ ?_
       rotate_left
       · show Act.put _ (some 22) _ = _
         simp only [Act.put, s0_, s1_, s2_, i64_w, i32_w]
         rfl
       refine pq_ 14 23 HT_ ?_
       refine done_ (done_of HT_.out (by kernel_rfl)) ?_
       try go_wp2
       go_ret
       exact ⟨by first | rfl | (simp [errW_none, errW_some] <;> rfl) | (simp only [← hji6]; first | rfl | (simp [errW_none, errW_some] <;> rfl)) | (simp [*, errW_none, errW_some] <;> rfl), by repeat (first | (with_reducible first | exact HB.out | apply wa_ | apply wn_ | apply wd_) | exact HB.out)⟩
     · replace c10 := Bool.eq_false_iff.mpr c10
       subst c10
       have H1 : (heap_Check.l0 k1 l0 (l0.length : Int) (wrap64 (x6_1 + 1))) = some r := by rw [if_neg (show ¬ (false = true) by decide)] at H; exact H
       clear H
       have H := H1
       clear H1
       have H' := A_ H
       clear H
       try go_wp2
       have n0_ := A_ (wd_ HB.out); replace HB := n0_; clear n0_
       have p137 : 0 ≤ (x6_1 : Int) := of_decide_eq_true (by first | (with_reducible assumption) | assumption)
       have q137 : x6_1 < (l0.length : Int) := of_decide_eq_true (by first | (with_reducible assumption) | assumption)
       obtain ⟨ad137, e137, hx137_0, hx137_1, hx137_2, hx137_3, hx137_4, hx137_5⟩ := at_T24 HR0.out x6_1 p137 q137
       have hw137_5 := hx137_5
       have hw137_4 := hx137_4
       have hw137_3 := hx137_3
       have hw137_2 := hx137_2
       have hw137_1 := hx137_1
       have hw137_0 := hx137_0
       cases e137
       replace hx137_0 := on_ HB.out hx137_0
       replace hx137_1 := on_ HB.out hx137_1
       replace hx137_2 := on_ HB.out hx137_2
       replace hx137_3 := on_ HB.out hx137_3
       replace hx137_4 := on_ HB.out hx137_4
       replace hx137_5 := on_ HB.out hx137_5
       replace p137 := eq_true p137
       replace q137 := eq_true q137
       have p138 : 0 ≤ ((ji6) : Int) := of_decide_eq_true (by first | (with_reducible assumption) | assumption)
       have q138 : (ji6) < (l0.length : Int) := of_decide_eq_true (by first | (with_reducible assumption) | assumption)
       obtain ⟨ad138, e138, hx138_0, hx138_1, hx138_2, hx138_3, hx138_4, hx138_5⟩ := at_T24 HR0.out (ji6) p138 q138
       have hw138_5 := hx138_5
       have hw138_4 := hx138_4
       have hw138_3 := hx138_3
       have hw138_2 := hx138_2
       have hw138_1 := hx138_1
       have hw138_0 := hx138_0
       obtain rfl : ad137 = ad138 := (by injection e138)
       replace hx138_0 := on_ HB.out hx138_0
       replace hx138_1 := on_ HB.out hx138_1
       replace hx138_2 := on_ HB.out hx138_2
       replace hx138_3 := on_ HB.out hx138_3
       replace hx138_4 := on_ HB.out hx138_4
       replace hx138_5 := on_ HB.out hx138_5
       replace p138 := eq_true p138
       replace q138 := eq_true q138
       refine start_ (n := 15) (S := fun w' => w'.cell? (ad137.add ((x6_1).toNat * 6)) = some (.int .i64 ((rd_T24 l0 x6_1).f0)) ∧ w'.cell? ⟨(ad137.add ((x6_1).toNat * 6)).block, (ad137.add ((x6_1).toNat * 6)).off + 1, none⟩ = some (.int .i64 ((rd_T24 l0 x6_1).f1)) ∧ w'.cell? ⟨(ad137.add ((x6_1).toNat * 6)).block, (ad137.add ((x6_1).toNat * 6)).off + 2, none⟩ = some (.int .i64 ((rd_T24 l0 x6_1).f2)) ∧ w'.cell? ⟨(ad137.add ((x6_1).toNat * 6)).block, (ad137.add ((x6_1).toNat * 6)).off + 3, none⟩ = some (.int .i64 ((rd_T24 l0 x6_1).f3)) ∧ w'.cell? ⟨(ad137.add ((x6_1).toNat * 6)).block, (ad137.add ((x6_1).toNat * 6)).off + 4, none⟩ = some (.int .i64 ((rd_T24 l0 x6_1).f4)) ∧ w'.cell? ⟨(ad137.add ((x6_1).toNat * 6)).block, (ad137.add ((x6_1).toNat * 6)).off + 5, none⟩ = some (.string ((rd_T24 l0 x6_1).f5)) ∧ w'.cell? (ad137.add (((ji6)).toNat * 6)) = some (.int .i64 ((rd_T24 l0 (ji6)).f0)) ∧ w'.cell? ⟨(ad137.add (((ji6)).toNat * 6)).block, (ad137.add (((ji6)).toNat * 6)).off + 1, none⟩ = some (.int .i64 ((rd_T24 l0 (ji6)).f1)) ∧ w'.cell? ⟨(ad137.add (((ji6)).toNat * 6)).block, (ad137.add (((ji6)).toNat * 6)).off + 2, none⟩ = some (.int .i64 ((rd_T24 l0 (ji6)).f2)) ∧ w'.cell? ⟨(ad137.add (((ji6)).toNat * 6)).block, (ad137.add (((ji6)).toNat * 6)).off + 3, none⟩ = some (.int .i64 ((rd_T24 l0 (ji6)).f3)) ∧ w'.cell? ⟨(ad137.add (((ji6)).toNat * 6)).block, (ad137.add (((ji6)).toNat * 6)).off + 4, none⟩ = some (.int .i64 ((rd_T24 l0 (ji6)).f4)) ∧ w'.cell? ⟨(ad137.add (((ji6)).toNat * 6)).block, (ad137.add (((ji6)).toNat * 6)).off + 5, none⟩ = some (.string ((rd_T24 l0 (ji6)).f5))) (ds := []) #[F,F,F,F,F,F,F,F,F,F,F,F,F,F,F] (by kernel_rfl) rfl rfl ⟨((HB.out.cell (World.block_lt_of_cell? w _ hw137_0)).trans hw137_0), ((HB.out.cell (World.block_lt_of_cell? w _ hw137_1)).trans hw137_1), ((HB.out.cell (World.block_lt_of_cell? w _ hw137_2)).trans hw137_2), ((HB.out.cell (World.block_lt_of_cell? w _ hw137_3)).trans hw137_3), ((HB.out.cell (World.block_lt_of_cell? w _ hw137_4)).trans hw137_4), ((HB.out.cell (World.block_lt_of_cell? w _ hw137_5)).trans hw137_5), ((HB.out.cell (World.block_lt_of_cell? w _ hw138_0)).trans hw138_0), ((HB.out.cell (World.block_lt_of_cell? w _ hw138_1)).trans hw138_1), ((HB.out.cell (World.block_lt_of_cell? w _ hw138_2)).trans hw138_2), ((HB.out.cell (World.block_lt_of_cell? w _ hw138_3)).trans hw138_3), ((HB.out.cell (World.block_lt_of_cell? w _ hw138_4)).trans hw138_4), ((HB.out.cell (World.block_lt_of_cell? w _ hw138_5)).trans hw138_5)⟩ (fun hHeld => ?_); refine with_tabW heap_Check.tab4 heap_Check.bits4 (fun HT_ HW_ => ?_)
       generalize wr.drew = w13 at HB hx137_0 hx137_1 hx137_2 hx137_3 hx137_4 hx137_5 hx138_0 hx138_1 hx138_2 hx138_3 hx138_4 hx138_5 hHeld ⊢
       refine pq_ 0 9 HT_ ?_
       refine pq_ 1 10 HT_ ?_
       refine pq_ 2 11 HT_ ?_
       refine pq_ 3 12 HT_ ?_
       refine pq_ 4 13 HT_ ?_
       refine pq_ 5 14 HT_ ?_
       refine pq_ 7 16 HT_ ?_
       refine pq_ 8 17 HT_ ?_
       refine pq_ 9 18 HT_ ?_
       refine pq_ 10 19 HT_ ?_
       refine pq_ 11 20 HT_ ?_
       refine tk_ 6 15 HT_ HW_ hHeld ?_
       refine tk_ 12 21 HT_ HW_ hHeld ?_
       refine one_ (i := 13) (N := some 22) #[T,T,T,T,T,T,T,T,T,T,T,T,T,T,F] rfl rfl (one_of HT_.out (by kernel_rfl)) (by decide) (fun K hK => ?_)
       refine goes_ Try.func84 (by kernel_rfl) rfl #[.agg #[.int .i64 ((rd_T24 l0 x6_1).f0), .int .i64 ((rd_T24 l0 x6_1).f1), .int .i64 ((rd_T24 l0 x6_1).f2), .int .i64 ((rd_T24 l0 x6_1).f3), .int .i64 ((rd_T24 l0 x6_1).f4), .string ((rd_T24 l0 x6_1).f5)], .agg #[.int .i64 ((rd_T24 l0 (ji6)).f0), .int .i64 ((rd_T24 l0 (ji6)).f1), .int .i64 ((rd_T24 l0 (ji6)).f2), .int .i64 ((rd_T24 l0 (ji6)).f3), .int .i64 ((rd_T24 l0 (ji6)).f4), .string ((rd_T24 l0 (ji6)).f5)]] (by rfl) rfl rfl (by (try simp only [m0_, m1_, m2_]); first | done | (simp only [hji6]; rfl) | rfl | (simp only [List.length_drop, List.length_take]; rfl)) ?_
       with_reducible refine (txn_Better.calls k1 ((rd_T24 l0 x6_1).f0) ((rd_T24 l0 x6_1).f1) ((rd_T24 l0 x6_1).f2) ((rd_T24 l0 x6_1).f3) ((rd_T24 l0 x6_1).f4) ((rd_T24 l0 x6_1).f5) ((rd_T24 l0 (ji6)).f0) ((rd_T24 l0 (ji6)).f1) ((rd_T24 l0 (ji6)).f2) ((rd_T24 l0 (ji6)).f3) ((rd_T24 l0 (ji6)).f4) ((rd_T24 l0 (ji6)).f5) false _ A9.out).mono ?_
       rintro e w14 ⟨rfl, hb⟩
       refine ⟨_, rfl, ?_⟩
       have n0_ := A_ (below_step bw_ hb); replace HB := n0_; clear n0_
       (try clear hb)
       (try clear hb2)
       (try clear hk)
       (try clear hi)
       refine hK.out _ _ ⟨((HB.out.cell (World.block_lt_of_cell? w _ hw137_0)).trans hw137_0), ((HB.out.cell (World.block_lt_of_cell? w _ hw137_1)).trans hw137_1), ((HB.out.cell (World.block_lt_of_cell? w _ hw137_2)).trans hw137_2), ((HB.out.cell (World.block_lt_of_cell? w _ hw137_3)).trans hw137_3), ((HB.out.cell (World.block_lt_of_cell? w _ hw137_4)).trans hw137_4), ((HB.out.cell (World.block_lt_of_cell? w _ hw137_5)).trans hw137_5), ((HB.out.cell (World.block_lt_of_cell? w _ hw138_0)).trans hw138_0), ((HB.out.cell (World.block_lt_of_cell? w _ hw138_1)).trans hw138_1), ((HB.out.cell (World.block_lt_of_cell? w _ hw138_2)).trans hw138_2), ((HB.out.cell (World.block_lt_of_cell? w _ hw138_3)).trans hw138_3), ((HB.out.cell (World.block_lt_of_cell? w _ hw138_4)).trans hw138_4), ((HB.out.cell (World.block_lt_of_cell? w _ hw138_5)).trans hw138_5)⟩ (fun hHeld => ?_)
       clear hK K
       refine norm_ (a' := ?_) ?_ ?_
       rotate_left
       · show Act.put _ (some 22) _ = _
         simp only [Act.put, s0_, s1_, s2_, i64_w, i32_w]
         rfl
       refine pq_ 14 23 HT_ ?_
       refine done_ (done_of HT_.out (by kernel_rfl)) ?_
       try go_wp2
       go_roundg k1
       case measure => have := HK1.out; omega
       case rel => exact ⟨(wrap64 (x6_1 + 1)), (by first | rfl | (simp; done) | (simp [*]; done)), H', ⟨by have := HK1.out; omega⟩, ⟨by repeat (first | (with_reducible first | exact HB.out | apply wa_ | apply wn_ | apply wd_) | exact HB.out)⟩⟩
   · rw [if_neg c3] at H
     have c3b0 : decide (0 < x6_1) = false := decide_eq_false c3
     clear c3
     have H' := A_ H
     clear H
     try go_wp2
     have n0_ := A_ (wd_ HB.out); replace HB := n0_; clear n0_
     refine start_ (n := 15) (S := fun w' => True) (ds := []) #[F,F,F,F,F,F,F,F,F,F,F,F,F,F,F] (by kernel_rfl) rfl rfl trivial (fun hHeld => ?_); refine with_tabW heap_Check.tab4 heap_Check.bits4 (fun HT_ HW_ => ?_)
     generalize wr.drew = w15 at HB hHeld ⊢
     refine pq_ 0 9 HT_ ?_
     refine pq_ 1 10 HT_ ?_
     refine pq_ 2 11 HT_ ?_
     refine pu_ 3 12 HT_ ?_
     refine pu_ 4 13 HT_ ?_
     refine pu_ 5 14 HT_ ?_
     refine pu_ 6 15 HT_ ?_
     refine pu_ 7 16 HT_ ?_
     refine pu_ 8 17 HT_ ?_
     refine pu_ 9 18 HT_ ?_
     refine pu_ 10 19 HT_ ?_
     refine pu_ 11 20 HT_ ?_
     refine pu_ 12 21 HT_ ?_
     refine pu_ 13 22 HT_ ?_
     refine pq_ 14 23 HT_ ?_
     refine done_ (done_of HT_.out (by kernel_rfl)) ?_
     try go_wp2
     go_roundg k1
     case measure => have := HK1.out; omega
     case rel => exact ⟨(wrap64 (x6_1 + 1)), (by first | rfl | (simp; done) | (simp [*]; done)), H', ⟨by have := HK1.out; omega⟩, ⟨by repeat (first | (with_reducible first | exact HB.out | apply wa_ | apply wn_ | apply wd_) | exact HB.out)⟩⟩
end Go.Proofs.Ytehncbhmdgdkjaa.L
