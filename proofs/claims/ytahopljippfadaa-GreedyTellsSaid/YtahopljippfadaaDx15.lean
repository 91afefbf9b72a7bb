/- Written by this session's own program over the kit's print: functions of Go told as plain functions, or the row of one statement; proved for every input, with no condition of ours. -/
import Derived.Test.YtahopljippfadaaDx0
import Derived.Test.YtahopljippfadaaDx14
namespace Go.Proofs.Ytahopljippfadaa.D
open Go.RowKit Go.Proofs.YtahopljippfadaaW.PrintWords Go.Proofs.YtahopljippfadaaW.PrintLast Go.Proofs.YtahopljippfadaaW.PrintMore
attribute [local go_sem] max2_int min2_int max_two min_two max_three min_three max_four min_four   -- for this text's walks alone
set_option linter.unusedVariables false
set_option linter.unusedSimpArgs false

/-! ### hopperref12_best: function 32 -/
def hopperref12_best.l0 : Nat → List (List (S38)) → Int → Int → Option (Int)
 | 0, _, _, _ => none
 | k + 1, x0, x3, x4 => if x4 < (x0.length : Int) then (if 0 ≤ x4 then (if ((rd_L3 x0 x4).length : Int) > 0 then (if x3 < 0 then (hopperref12_best.l0 k x0 x4 (wrap64 (x4 + 1))) else (if 0 < ((rd_L3 x0 x4).length : Int) then (if 0 ≤ x3 then (if x3 < (x0.length : Int) then (if 0 < ((rd_L3 x0 x3).length : Int) then ((hopperref04_Better.f k ((rd_T38 (rd_L3 x0 x4) 0).f0) ((rd_T38 (rd_L3 x0 x4) 0).f1) ((rd_T38 (rd_L3 x0 x4) 0).f2) ((rd_T38 (rd_L3 x0 x4) 0).f3) ((rd_T38 (rd_L3 x0 x4) 0).f4) ((rd_T38 (rd_L3 x0 x4) 0).f5) ((rd_T38 (rd_L3 x0 x3) 0).f0) ((rd_T38 (rd_L3 x0 x3) 0).f1) ((rd_T38 (rd_L3 x0 x3) 0).f2) ((rd_T38 (rd_L3 x0 x3) 0).f3) ((rd_T38 (rd_L3 x0 x3) 0).f4) ((rd_T38 (rd_L3 x0 x3) 0).f5)).bind fun t328 => (if t328 = true then (hopperref12_best.l0 k x0 x4 (wrap64 (x4 + 1))) else (hopperref12_best.l0 k x0 x3 (wrap64 (x4 + 1))))) else (none)) else (none)) else (none)) else (none))) else (hopperref12_best.l0 k x0 x3 (wrap64 (x4 + 1)))) else (none)) else (some x3)
def hopperref12_best.f (k : Nat) (l0 : List (List (S38))) : Option (Int) := hopperref12_best.l0 k l0 (-1) 0
theorem hopperref12_best.mono_l : ∀ k, (∀ y0 y1 y2, LeO (hopperref12_best.l0 k y0 y1 y2) (hopperref12_best.l0 (k + 1) y0 y1 y2))
 | 0 => fun _ _ _ r h => by simp [hopperref12_best.l0] at h
 | k + 1 => by
  have ih0 := hopperref12_best.mono_l k
  · intro y0 y1 y2
    unfold hopperref12_best.l0
    repeat' first
    | (with_reducible exact ih0 _ _ _)
    | (with_reducible exact hopperref04_Better.mono _ _ _ _ _ _ _ _ _ _ _ _ _)
    | (with_reducible exact LeO.refl _)
    | (with_reducible exact LeO.none _)
    | (with_reducible refine LeO.ite ?_ ?_)
    | (with_reducible refine LeO.bind ?_ (fun _ => ?_))
    | exact ih0 _ _ _
    | exact hopperref04_Better.mono _ _ _ _ _ _ _ _ _ _ _ _ _
    | exact LeO.none _
    | refine LeO.ite ?_ ?_
    | refine LeO.bind ?_ (fun _ => ?_)
theorem hopperref12_best.mono : ∀ a0 k, LeO (hopperref12_best.f k a0) (hopperref12_best.f (k + 1) a0) := by
 intro a0 k
 have ih0 := hopperref12_best.mono_l k
 unfold hopperref12_best.f
 repeat' first
  | (with_reducible exact ih0 _ _ _)
  | (with_reducible exact hopperref04_Better.mono _ _ _ _ _ _ _ _ _ _ _ _ _)
  | (with_reducible exact LeO.refl _)
  | (with_reducible exact LeO.none _)
  | (with_reducible refine LeO.ite ?_ ?_)
  | (with_reducible refine LeO.bind ?_ (fun _ => ?_))
  | exact ih0 _ _ _
  | exact hopperref04_Better.mono _ _ _ _ _ _ _ _ _ _ _ _ _
  | exact LeO.none _
  | refine LeO.ite ?_ ?_
  | refine LeO.bind ?_ (fun _ => ?_)
def hopperref12_best.T5 : Bool × List (List Nat × List Nat) := (true, [([], []), ([], []), ([0, 1], [0, 1]), ([2], [2]), ([3], [3]), ([4], [4]), ([5], [5]), ([6], [6]), ([7, 6], [6, 7]), ([8, 6, 6], [6, 8]), ([9], [9]), ([9], [9]), ([10, 11, 9], [9, 10, 11]), ([12, 9], [9, 12]), ([13, 9], [9, 13]), ([14, 9], [9, 14]), ([9], [9]), ([9], [9]), ([16, 17, 9], [9, 16, 17]), ([18, 9], [9, 18]), ([19, 9], [9, 19]), ([20, 9], [9, 20]), ([15, 21, 9, 9], [9, 15, 21]), ([9, 22, 6], [6, 9, 22]), ([6, 23], [6, 23])])
def hopperref12_best.B5 : List Nat := [0, 0, 3, 7, 15, 31, 63, 127, 255, 511, 1023, 1023, 4095, 8191, 16383, 32767, 1023, 1023, 197631, 459775, 984063, 2032639, 4194303, 8388607, 16777215]
theorem hopperref12_best.tab5 : rtab .any (opsOf Try.f32 5) = hopperref12_best.T5 := by kernel_rfl
theorem hopperref12_best.bits5 : waitsOk hopperref12_best.T5.2 hopperref12_best.B5 = true := by kernel_rfl
set_option maxHeartbeats 8000000 in
set_option maxRecDepth 100000 in
theorem hopperref12_best.calls (k : Nat) (A0 : Option Addr) (c0 : Nat) (l0 : List (List (S38))) (r : Int) (w : World) (hr0 : Kd.C (Kd.slice 38 k38) w A0 l0.length l0) (hc0 : l0.length ≤ c0) (h : hopperref12_best.f k l0 = some r) :
 Calls Try.prog 32 #[.slice A0 l0.length c0] w fun e w' => e = .returned (.int .i64 r) ∧ Below w.heap.size w w' := by
 have hu38 := Try.underlying38
 have HR0 := A_ hr0
 have HC0 := A_ hc0
 clear hr0 hc0; have HB := A_ (Below.refl w.heap.size w)
 have H : (hopperref12_best.l0 k l0 (-1) 0) = some r := h
 clear h
 have H' := A_ H
 clear H
 go_enter Try.func32, Try.ntmps32
 go_wp2
 go_loopg [3, 4] k (fun kq v3 v4 w' => ∃ (x3_1 : Int) (x4_1 : Int), v3 = .int .i64 x3_1 ∧ v4 = .int .i64 x4_1 ∧ Aside0 (hopperref12_best.l0 kq l0 x3_1 x4_1 = some r) ∧ Aside0 (kq ≤ k) ∧ Aside0 (Below w.heap.size w w'))
 case atStart => exact ⟨((-1)), (0), (by first | rfl | (simp; done) | (simp [*]; done)), (by first | rfl | (simp; done) | (simp [*]; done)), H', ⟨Nat.le_refl _⟩, ⟨by repeat (first | (with_reducible first | exact HB.out | apply wa_ | apply wn_ | apply wd_) | exact HB.out)⟩⟩
 case round =>
  clear H'
  obtain ⟨x3_1, x4_1, rfl, rfl, HA, HK1, HB⟩ := hrel
  cases gk with
  | zero => exact absurd HA.out (by simp [hopperref12_best.l0])
  | succ k1 =>
   have H := HA.out
   clear HA
   simp only [hopperref12_best.l0] at H
   by_cases c2 : x4_1 < (l0.length : Int)
   rotate_left
   · rw [if_neg c2] at H
     have c2b0 : decide (x4_1 < (l0.length : Int)) = false := decide_eq_false c2
     clear c2
     obtain rfl := Option.some.inj H
     go_wp2
     go_ret
     exact ⟨by first | rfl | (simp [errW_none, errW_some] <;> rfl) | (simp [*, errW_none, errW_some] <;> rfl), by repeat (first | (with_reducible first | exact HB.out | apply wa_ | apply wn_ | apply wd_) | exact HB.out)⟩

   rw [if_pos c2] at H
   have c2b0 : decide (x4_1 < (l0.length : Int)) = true := decide_eq_true c2
   clear c2
   by_cases c3 : 0 ≤ x4_1
   rotate_left
   · rw [if_neg c3] at H
     exact absurd H (by simp)
   rw [if_pos c3] at H
   have c3b0 : decide (0 ≤ x4_1) = true := decide_eq_true c3
   clear c3
   by_cases c4 : ((rd_L3 l0 x4_1).length : Int) > 0
   · rw [if_pos c4] at H
     have c4b0 : decide (0 < ((rd_L3 l0 x4_1).length : Int)) = true := decide_eq_true c4
     have c4b1 : decide (0 < (rd_L3 l0 x4_1).length) = true := decide_eq_true (by omega)
     clear c4
     by_cases c5 : x3_1 < 0
     · rw [if_pos c5] at H
       have c5b0 : decide (x3_1 < 0) = true := decide_eq_true c5
       clear c5
       have H' := A_ H
       clear H
       try go_wp2
       have n0_ := A_ (wd_ HB.out); replace HB := n0_; clear n0_
       have p323 : 0 ≤ (x4_1 : Int) := of_decide_eq_true (by first | (with_reducible assumption) | assumption)
       have q323 : x4_1 < (l0.length : Int) := of_decide_eq_true (by first | (with_reducible assumption) | assumption)
       obtain ⟨ad323, A323_0, c323_0, e323, hx323_0, hl323_0, hi323_0⟩ := at_L3 HR0.out x4_1 p323 q323
       have hw323_0 := hx323_0
       cases e323
       replace hx323_0 := on_ HB.out hx323_0
       have HR323_0 := A_ hi323_0
       have HC323_0 := A_ hl323_0
       clear hi323_0 hl323_0
       replace p323 := eq_true p323
       replace q323 := eq_true q323
       refine start_ (n := 25) (S := fun w' => w'.cell? (ad323.add (x4_1).toNat) = some (.slice A323_0 (rd_L3 l0 x4_1).length c323_0)) (ds := []) #[F,F,F,F,F,F,F,F,F,F,F,F,F,F,F,F,F,F,F,F,F,F,F,F,F] (by kernel_rfl) rfl rfl (((HB.out.cell (World.block_lt_of_cell? w _ hw323_0)).trans hw323_0)) (fun hHeld => ?_); refine with_tabW hopperref12_best.tab5 hopperref12_best.bits5 (fun HT_ HW_ => ?_)
       generalize wr.drew = w6 at HB HR323_0 hx323_0 hHeld ⊢
       refine pq_ 0 11 HT_ ?_
       refine pq_ 1 12 HT_ ?_
       refine pq_ 2 13 HT_ ?_
       refine take_ (i := 3) (N := some 14) (v := ?_) (a' := ?_) #[T,T,T,T,F,F,F,F,F,F,F,F,F,F,F,F,F,F,F,F,F,F,F,F,F] rfl rfl (take_ofW HT_.out HW_.out (by kernel_rfl)) (fun _ _ _ h => h) (Or.inl ⟨by rfl, ?_⟩) hHeld ?_ ?_
       rotate_left
       · intro w' s0
         go_simp
         with_reducible rfl
       rotate_left
       · simp only [Act.put, s0_, s1_, s2_, i64_w, i32_w]
         rfl
       refine pq_ 4 15 HT_ ?_
       refine pq_ 5 16 HT_ ?_
       refine pq_ 6 17 HT_ ?_
       refine pq_ 7 18 HT_ ?_
       refine pq_ 8 19 HT_ ?_
       refine pq_ 9 20 HT_ ?_
       refine pu_ 10 21 HT_ ?_
       refine pu_ 11 22 HT_ ?_
       refine pu_ 12 23 HT_ ?_
       refine pu_ 13 24 HT_ ?_
       refine pu_ 14 25 HT_ ?_
       refine pu_ 15 26 HT_ ?_
       refine pu_ 16 27 HT_ ?_
       refine pu_ 17 28 HT_ ?_
       refine pu_ 18 29 HT_ ?_
       refine pu_ 19 30 HT_ ?_
       refine pu_ 20 31 HT_ ?_
       refine pu_ 21 32 HT_ ?_
       refine pu_ 22 33 HT_ ?_
       refine pq_ 23 34 HT_ ?_
       refine pq_ 24 35 HT_ ?_
       refine done_ (done_of HT_.out (by kernel_rfl)) ?_
       try go_wp2
       go_roundg k1
       case measure => have := HK1.out; omega
       case rel => exact ⟨(x4_1), (wrap64 (x4_1 + 1)), (by first | rfl | (simp; done) | (simp [*]; done)), (by first | rfl | (simp; done) | (simp [*]; done)), H', ⟨by have := HK1.out; omega⟩, ⟨by repeat (first | (with_reducible first | exact HB.out | apply wa_ | apply wn_ | apply wd_) | exact HB.out)⟩⟩
     · rw [if_neg c5] at H
       have c5b0 : decide (x3_1 < 0) = false := decide_eq_false c5
       clear c5
       by_cases c7 : 0 < ((rd_L3 l0 x4_1).length : Int)
       rotate_left
       · rw [if_neg c7] at H
         exact absurd H (by simp)
       rw [if_pos c7] at H
       have c7b0 : decide (0 < ((rd_L3 l0 x4_1).length : Int)) = true := decide_eq_true c7
       have c7b1 : decide (0 < (rd_L3 l0 x4_1).length) = true := decide_eq_true (by omega)
       clear c7
       by_cases c8 : 0 ≤ x3_1
       rotate_left
       · rw [if_neg c8] at H
         exact absurd H (by simp)
       rw [if_pos c8] at H
       have c8b0 : decide (0 ≤ x3_1) = true := decide_eq_true c8
       clear c8
       by_cases c9 : x3_1 < (l0.length : Int)
       rotate_left
       · rw [if_neg c9] at H
         exact absurd H (by simp)
       rw [if_pos c9] at H
       have c9b0 : decide (x3_1 < (l0.length : Int)) = true := decide_eq_true c9
       clear c9
       by_cases c10 : 0 < ((rd_L3 l0 x3_1).length : Int)
       rotate_left
       · rw [if_neg c10] at H
         exact absurd H (by simp)
       rw [if_pos c10] at H
       have c10b0 : decide (0 < ((rd_L3 l0 x3_1).length : Int)) = true := decide_eq_true c10
       have c10b1 : decide (0 < (rd_L3 l0 x3_1).length) = true := decide_eq_true (by omega)
       clear c10
       replace H := Option.bind_eq_some_iff.mp H
       obtain ⟨t328, A110, H⟩ := H
       try dsimp only at H
       have A11 := A_ A110
       clear A110
       by_cases c12 : t328 = true
       · subst c12
         have H1 : (hopperref12_best.l0 k1 l0 x4_1 (wrap64 (x4_1 + 1))) = some r := by rw [if_pos rfl] at H; exact H
         clear H
         have H := H1
         clear H1
         have H' := A_ H
         clear H
         try go_wp2
         have n0_ := A_ (wd_ HB.out); replace HB := n0_; clear n0_
         have p323 : 0 ≤ (x4_1 : Int) := of_decide_eq_true (by first | (with_reducible assumption) | assumption)
         have q323 : x4_1 < (l0.length : Int) := of_decide_eq_true (by first | (with_reducible assumption) | assumption)
         obtain ⟨ad323, A323_0, c323_0, e323, hx323_0, hl323_0, hi323_0⟩ := at_L3 HR0.out x4_1 p323 q323
         have hw323_0 := hx323_0
         cases e323
         replace hx323_0 := on_ HB.out hx323_0
         have HR323_0 := A_ hi323_0
         have HC323_0 := A_ hl323_0
         clear hi323_0 hl323_0
         replace p323 := eq_true p323
         replace q323 := eq_true q323
         have p324 : 0 ≤ (x4_1 : Int) := of_decide_eq_true (by first | (with_reducible assumption) | assumption)
         have q324 : x4_1 < (l0.length : Int) := of_decide_eq_true (by first | (with_reducible assumption) | assumption)
         obtain ⟨ad324, A324_0, c324_0, e324, hx324_0, hl324_0, hi324_0⟩ := at_L3 HR0.out x4_1 p324 q324
         have hw324_0 := hx324_0
         obtain rfl : ad323 = ad324 := (by injection e324)
         replace hx324_0 := on_ HB.out hx324_0
         have HR324_0 := A_ hi324_0
         have HC324_0 := A_ hl324_0
         clear hi324_0 hl324_0
         replace p324 := eq_true p324
         replace q324 := eq_true q324
         have ea_ := Option.some.inj (hx323_0.symm.trans hx324_0)
         injection ea_ with ea_ en_ ec_
         subst ea_
         subst ec_
         clear en_
         have p325 : 0 ≤ (0 : Int) := (by omega)
         have q325 : 0 < ((rd_L3 l0 x4_1).length : Int) := of_decide_eq_true (by first | (with_reducible assumption) | assumption)
         obtain ⟨ad325, e325, hx325_0, hx325_1, hx325_2, hx325_3, hx325_4, hx325_5⟩ := at_T38 HR324_0.out 0 p325 q325
         have hw325_5 := hx325_5
         (try rw [show ((0 : Int)).toNat = 0 from rfl] at hw325_5)
         (try rw [show 0 * 6 = 0 from rfl] at hw325_5)
         (try rw [Addr.add_zero'] at hw325_5)
         have hw325_4 := hx325_4
         (try rw [show ((0 : Int)).toNat = 0 from rfl] at hw325_4)
         (try rw [show 0 * 6 = 0 from rfl] at hw325_4)
         (try rw [Addr.add_zero'] at hw325_4)
         have hw325_3 := hx325_3
         (try rw [show ((0 : Int)).toNat = 0 from rfl] at hw325_3)
         (try rw [show 0 * 6 = 0 from rfl] at hw325_3)
         (try rw [Addr.add_zero'] at hw325_3)
         have hw325_2 := hx325_2
         (try rw [show ((0 : Int)).toNat = 0 from rfl] at hw325_2)
         (try rw [show 0 * 6 = 0 from rfl] at hw325_2)
         (try rw [Addr.add_zero'] at hw325_2)
         have hw325_1 := hx325_1
         (try rw [show ((0 : Int)).toNat = 0 from rfl] at hw325_1)
         (try rw [show 0 * 6 = 0 from rfl] at hw325_1)
         (try rw [Addr.add_zero'] at hw325_1)
         have hw325_0 := hx325_0
         (try rw [show ((0 : Int)).toNat = 0 from rfl] at hw325_0)
         (try rw [show 0 * 6 = 0 from rfl] at hw325_0)
         (try rw [Addr.add_zero'] at hw325_0)
         cases e325
         have qi325 : (0 < (rd_L3 l0 x4_1).length) = True := eq_true (by omega)
         (try rw [show ((0 : Int)).toNat = 0 from rfl] at hx325_0)
         (try rw [show 0 * 6 = 0 from rfl] at hx325_0)
         (try rw [Addr.add_zero'] at hx325_0)
         (try rw [show ((0 : Int)).toNat = 0 from rfl] at hx325_1)
         (try rw [show 0 * 6 = 0 from rfl] at hx325_1)
         (try rw [Addr.add_zero'] at hx325_1)
         (try rw [show ((0 : Int)).toNat = 0 from rfl] at hx325_2)
         (try rw [show 0 * 6 = 0 from rfl] at hx325_2)
         (try rw [Addr.add_zero'] at hx325_2)
         (try rw [show ((0 : Int)).toNat = 0 from rfl] at hx325_3)
         (try rw [show 0 * 6 = 0 from rfl] at hx325_3)
         (try rw [Addr.add_zero'] at hx325_3)
         (try rw [show ((0 : Int)).toNat = 0 from rfl] at hx325_4)
         (try rw [show 0 * 6 = 0 from rfl] at hx325_4)
         (try rw [Addr.add_zero'] at hx325_4)
         (try rw [show ((0 : Int)).toNat = 0 from rfl] at hx325_5)
         (try rw [show 0 * 6 = 0 from rfl] at hx325_5)
         (try rw [Addr.add_zero'] at hx325_5)
         replace hx325_0 := on_ HB.out hx325_0
         replace hx325_1 := on_ HB.out hx325_1
         replace hx325_2 := on_ HB.out hx325_2
         replace hx325_3 := on_ HB.out hx325_3
         replace hx325_4 := on_ HB.out hx325_4
         replace hx325_5 := on_ HB.out hx325_5
         replace p325 := eq_true p325
         replace q325 := eq_true q325
         have p326 : 0 ≤ (x3_1 : Int) := of_decide_eq_true (by first | (with_reducible assumption) | assumption)
         have q326 : x3_1 < (l0.length : Int) := of_decide_eq_true (by first | (with_reducible assumption) | assumption)
         obtain ⟨ad326, A326_0, c326_0, e326, hx326_0, hl326_0, hi326_0⟩ := at_L3 HR0.out x3_1 p326 q326
         have hw326_0 := hx326_0
         obtain rfl : ad323 = ad326 := (by injection e326)
         replace hx326_0 := on_ HB.out hx326_0
         have HR326_0 := A_ hi326_0
         have HC326_0 := A_ hl326_0
         clear hi326_0 hl326_0
         replace p326 := eq_true p326
         replace q326 := eq_true q326
         have p327 : 0 ≤ (0 : Int) := (by omega)
         have q327 : 0 < ((rd_L3 l0 x3_1).length : Int) := of_decide_eq_true (by first | (with_reducible assumption) | assumption)
         obtain ⟨ad327, e327, hx327_0, hx327_1, hx327_2, hx327_3, hx327_4, hx327_5⟩ := at_T38 HR326_0.out 0 p327 q327
         have hw327_5 := hx327_5
         (try rw [show ((0 : Int)).toNat = 0 from rfl] at hw327_5)
         (try rw [show 0 * 6 = 0 from rfl] at hw327_5)
         (try rw [Addr.add_zero'] at hw327_5)
         have hw327_4 := hx327_4
         (try rw [show ((0 : Int)).toNat = 0 from rfl] at hw327_4)
         (try rw [show 0 * 6 = 0 from rfl] at hw327_4)
         (try rw [Addr.add_zero'] at hw327_4)
         have hw327_3 := hx327_3
         (try rw [show ((0 : Int)).toNat = 0 from rfl] at hw327_3)
         (try rw [show 0 * 6 = 0 from rfl] at hw327_3)
         (try rw [Addr.add_zero'] at hw327_3)
         have hw327_2 := hx327_2
         (try rw [show ((0 : Int)).toNat = 0 from rfl] at hw327_2)
         (try rw [show 0 * 6 = 0 from rfl] at hw327_2)
         (try rw [Addr.add_zero'] at hw327_2)
         have hw327_1 := hx327_1
         (try rw [show ((0 : Int)).toNat = 0 from rfl] at hw327_1)
         (try rw [show 0 * 6 = 0 from rfl] at hw327_1)
         (try rw [Addr.add_zero'] at hw327_1)
         have hw327_0 := hx327_0
         (try rw [show ((0 : Int)).toNat = 0 from rfl] at hw327_0)
         (try rw [show 0 * 6 = 0 from rfl] at hw327_0)
         (try rw [Addr.add_zero'] at hw327_0)
         cases e327
         have qi327 : (0 < (rd_L3 l0 x3_1).length) = True := eq_true (by omega)
         (try rw [show ((0 : Int)).toNat = 0 from rfl] at hx327_0)
         (try rw [show 0 * 6 = 0 from rfl] at hx327_0)
         (try rw [Addr.add_zero'] at hx327_0)
         (try rw [show ((0 : Int)).toNat = 0 from rfl] at hx327_1)
         (try rw [show 0 * 6 = 0 from rfl] at hx327_1)
         (try rw [Addr.add_zero'] at hx327_1)
         (try rw [show ((0 : Int)).toNat = 0 from rfl] at hx327_2)
         (try rw [show 0 * 6 = 0 from rfl] at hx327_2)
         (try rw [Addr.add_zero'] at hx327_2)
         (try rw [show ((0 : Int)).toNat = 0 from rfl] at hx327_3)
         (try rw [show 0 * 6 = 0 from rfl] at hx327_3)
         (try rw [Addr.add_zero'] at hx327_3)
         (try rw [show ((0 : Int)).toNat = 0 from rfl] at hx327_4)
         (try rw [show 0 * 6 = 0 from rfl] at hx327_4)
         (try rw [Addr.add_zero'] at hx327_4)
         (try rw [show ((0 : Int)).toNat = 0 from rfl] at hx327_5)
         (try rw [show 0 * 6 = 0 from rfl] at hx327_5)
         (try rw [Addr.add_zero'] at hx327_5)
         replace hx327_0 := on_ HB.out hx327_0
         replace hx327_1 := on_ HB.out hx327_1
         replace hx327_2 := on_ HB.out hx327_2
         replace hx327_3 := on_ HB.out hx327_3
         replace hx327_4 := on_ HB.out hx327_4
         replace hx327_5 := on_ HB.out hx327_5
         replace p327 := eq_true p327
         replace q327 := eq_true q327
         refine start_ (n := 25) (S := fun w' => w'.cell? (ad323.add (x4_1).toNat) = some (.slice (some ad325) (rd_L3 l0 x4_1).length c323_0) ∧ w'.cell? (ad323.add (x4_1).toNat) = some (.slice (some ad325) (rd_L3 l0 x4_1).length c323_0) ∧ w'.cell? ad325 = some (.int .i64 ((rd_T38 (rd_L3 l0 x4_1) 0).f0)) ∧ w'.cell? ⟨ad325.block, ad325.off + 1, none⟩ = some (.int .i64 ((rd_T38 (rd_L3 l0 x4_1) 0).f1)) ∧ w'.cell? ⟨ad325.block, ad325.off + 2, none⟩ = some (.int .i64 ((rd_T38 (rd_L3 l0 x4_1) 0).f2)) ∧ w'.cell? ⟨ad325.block, ad325.off + 3, none⟩ = some (.int .i64 ((rd_T38 (rd_L3 l0 x4_1) 0).f3)) ∧ w'.cell? ⟨ad325.block, ad325.off + 4, none⟩ = some (.int .i64 ((rd_T38 (rd_L3 l0 x4_1) 0).f4)) ∧ w'.cell? ⟨ad325.block, ad325.off + 5, none⟩ = some (.string ((rd_T38 (rd_L3 l0 x4_1) 0).f5)) ∧ w'.cell? (ad323.add (x3_1).toNat) = some (.slice (some ad327) (rd_L3 l0 x3_1).length c326_0) ∧ w'.cell? ad327 = some (.int .i64 ((rd_T38 (rd_L3 l0 x3_1) 0).f0)) ∧ w'.cell? ⟨ad327.block, ad327.off + 1, none⟩ = some (.int .i64 ((rd_T38 (rd_L3 l0 x3_1) 0).f1)) ∧ w'.cell? ⟨ad327.block, ad327.off + 2, none⟩ = some (.int .i64 ((rd_T38 (rd_L3 l0 x3_1) 0).f2)) ∧ w'.cell? ⟨ad327.block, ad327.off + 3, none⟩ = some (.int .i64 ((rd_T38 (rd_L3 l0 x3_1) 0).f3)) ∧ w'.cell? ⟨ad327.block, ad327.off + 4, none⟩ = some (.int .i64 ((rd_T38 (rd_L3 l0 x3_1) 0).f4)) ∧ w'.cell? ⟨ad327.block, ad327.off + 5, none⟩ = some (.string ((rd_T38 (rd_L3 l0 x3_1) 0).f5))) (ds := []) #[F,F,F,F,F,F,F,F,F,F,F,F,F,F,F,F,F,F,F,F,F,F,F,F,F] (by kernel_rfl) rfl rfl ⟨((HB.out.cell (World.block_lt_of_cell? w _ hw323_0)).trans hw323_0), ((HB.out.cell (World.block_lt_of_cell? w _ hw324_0)).trans hw324_0), ((HB.out.cell (World.block_lt_of_cell? w _ hw325_0)).trans hw325_0), ((HB.out.cell (World.block_lt_of_cell? w _ hw325_1)).trans hw325_1), ((HB.out.cell (World.block_lt_of_cell? w _ hw325_2)).trans hw325_2), ((HB.out.cell (World.block_lt_of_cell? w _ hw325_3)).trans hw325_3), ((HB.out.cell (World.block_lt_of_cell? w _ hw325_4)).trans hw325_4), ((HB.out.cell (World.block_lt_of_cell? w _ hw325_5)).trans hw325_5), ((HB.out.cell (World.block_lt_of_cell? w _ hw326_0)).trans hw326_0), ((HB.out.cell (World.block_lt_of_cell? w _ hw327_0)).trans hw327_0), ((HB.out.cell (World.block_lt_of_cell? w _ hw327_1)).trans hw327_1), ((HB.out.cell (World.block_lt_of_cell? w _ hw327_2)).trans hw327_2), ((HB.out.cell (World.block_lt_of_cell? w _ hw327_3)).trans hw327_3), ((HB.out.cell (World.block_lt_of_cell? w _ hw327_4)).trans hw327_4), ((HB.out.cell (World.block_lt_of_cell? w _ hw327_5)).trans hw327_5)⟩ (fun hHeld => ?_); refine with_tabW hopperref12_best.tab5 hopperref12_best.bits5 (fun HT_ HW_ => ?_)
         generalize wr.drew = w13 at HB HR323_0 HR324_0 HR326_0 hx323_0 hx324_0 hx325_0 hx325_1 hx325_2 hx325_3 hx325_4 hx325_5 hx326_0 hx327_0 hx327_1 hx327_2 hx327_3 hx327_4 hx327_5 hHeld ⊢
         refine pq_ 0 11 HT_ ?_
         refine pq_ 1 12 HT_ ?_
         refine pq_ 2 13 HT_ ?_
         refine tk_ 3 14 HT_ HW_ hHeld ?_
         refine pq_ 4 15 HT_ ?_
         refine pq_ 5 16 HT_ ?_
         refine pq_ 6 17 HT_ ?_
         refine pq_ 7 18 HT_ ?_
         refine pq_ 8 19 HT_ ?_
         refine pq_ 9 20 HT_ ?_
         refine pq_ 10 21 HT_ ?_
         refine pq_ 11 22 HT_ ?_
         refine pq_ 12 23 HT_ ?_
         refine pq_ 16 27 HT_ ?_
         refine pq_ 17 28 HT_ ?_
         refine pq_ 18 29 HT_ ?_
         refine tk_ 13 24 HT_ HW_ hHeld ?_
         refine pq_ 14 25 HT_ ?_
         refine tk_ 15 26 HT_ HW_ hHeld ?_
         refine tk_ 19 30 HT_ HW_ hHeld ?_
         refine pq_ 20 31 HT_ ?_
         refine tk_ 21 32 HT_ HW_ hHeld ?_
         refine one_ (i := 22) (N := some 33) #[T,T,T,T,T,T,T,T,T,T,T,T,T,T,T,T,T,T,T,T,T,T,T,F,F] rfl rfl (one_of HT_.out (by kernel_rfl)) (by decide) (fun K hK => ?_)
         refine goes_ Try.func22 (by kernel_rfl) rfl #[.agg #[.int .i64 ((rd_T38 (rd_L3 l0 x4_1) 0).f0), .int .i64 ((rd_T38 (rd_L3 l0 x4_1) 0).f1), .int .i64 ((rd_T38 (rd_L3 l0 x4_1) 0).f2), .int .i64 ((rd_T38 (rd_L3 l0 x4_1) 0).f3), .int .i64 ((rd_T38 (rd_L3 l0 x4_1) 0).f4), .string ((rd_T38 (rd_L3 l0 x4_1) 0).f5)], .agg #[.int .i64 ((rd_T38 (rd_L3 l0 x3_1) 0).f0), .int .i64 ((rd_T38 (rd_L3 l0 x3_1) 0).f1), .int .i64 ((rd_T38 (rd_L3 l0 x3_1) 0).f2), .int .i64 ((rd_T38 (rd_L3 l0 x3_1) 0).f3), .int .i64 ((rd_T38 (rd_L3 l0 x3_1) 0).f4), .string ((rd_T38 (rd_L3 l0 x3_1) 0).f5)]] (by rfl) rfl rfl (by (try simp only [m0_, m1_, m2_]); first | done | rfl) ?_
         with_reducible refine (hopperref04_Better.calls k1 ((rd_T38 (rd_L3 l0 x4_1) 0).f0) ((rd_T38 (rd_L3 l0 x4_1) 0).f1) ((rd_T38 (rd_L3 l0 x4_1) 0).f2) ((rd_T38 (rd_L3 l0 x4_1) 0).f3) ((rd_T38 (rd_L3 l0 x4_1) 0).f4) ((rd_T38 (rd_L3 l0 x4_1) 0).f5) ((rd_T38 (rd_L3 l0 x3_1) 0).f0) ((rd_T38 (rd_L3 l0 x3_1) 0).f1) ((rd_T38 (rd_L3 l0 x3_1) 0).f2) ((rd_T38 (rd_L3 l0 x3_1) 0).f3) ((rd_T38 (rd_L3 l0 x3_1) 0).f4) ((rd_T38 (rd_L3 l0 x3_1) 0).f5) true _ A11.out).mono ?_
         rintro e w14 ⟨rfl, hb⟩
         refine ⟨_, rfl, ?_⟩
         have n0_ := A_ (below_step bw_ hb); replace HB := n0_; clear n0_
         (try clear hb)
         (try clear hb2)
         (try clear hk)
         (try clear hi)
         refine hK.out _ _ ⟨((HB.out.cell (World.block_lt_of_cell? w _ hw323_0)).trans hw323_0), ((HB.out.cell (World.block_lt_of_cell? w _ hw324_0)).trans hw324_0), ((HB.out.cell (World.block_lt_of_cell? w _ hw325_0)).trans hw325_0), ((HB.out.cell (World.block_lt_of_cell? w _ hw325_1)).trans hw325_1), ((HB.out.cell (World.block_lt_of_cell? w _ hw325_2)).trans hw325_2), ((HB.out.cell (World.block_lt_of_cell? w _ hw325_3)).trans hw325_3), ((HB.out.cell (World.block_lt_of_cell? w _ hw325_4)).trans hw325_4), ((HB.out.cell (World.block_lt_of_cell? w _ hw325_5)).trans hw325_5), ((HB.out.cell (World.block_lt_of_cell? w _ hw326_0)).trans hw326_0), ((HB.out.cell (World.block_lt_of_cell? w _ hw327_0)).trans hw327_0), ((HB.out.cell (World.block_lt_of_cell? w _ hw327_1)).trans hw327_1), ((HB.out.cell (World.block_lt_of_cell? w _ hw327_2)).trans hw327_2), ((HB.out.cell (World.block_lt_of_cell? w _ hw327_3)).trans hw327_3), ((HB.out.cell (World.block_lt_of_cell? w _ hw327_4)).trans hw327_4), ((HB.out.cell (World.block_lt_of_cell? w _ hw327_5)).trans hw327_5)⟩ (fun hHeld => ?_)
         clear hK K
         refine norm_ (a' := ?_) ?_ ?_
         rotate_left
         · show Act.put _ (some 33) _ = _
           simp only [Act.put, s0_, s1_, s2_, i64_w, i32_w]
           rfl
         refine pq_ 23 34 HT_ ?_
         refine pq_ 24 35 HT_ ?_
         refine done_ (done_of HT_.out (by kernel_rfl)) ?_
         try go_wp2
         go_roundg k1
         case measure => have := HK1.out; omega
         case rel => exact ⟨(x4_1), (wrap64 (x4_1 + 1)), (by first | rfl | (simp; done) | (simp [*]; done)), (by first | rfl | (simp; done) | (simp [*]; done)), H', ⟨by have := HK1.out; omega⟩, ⟨by repeat (first | (with_reducible first | exact HB.out | apply wa_ | apply wn_ | apply wd_) | exact HB.out)⟩⟩
       · replace c12 := Bool.eq_false_iff.mpr c12
         subst c12
         have H1 : (hopperref12_best.l0 k1 l0 x3_1 (wrap64 (x4_1 + 1))) = some r := by rw [if_neg (show ¬ (false = true) by decide)] at H; exact H
         clear H
         have H := H1
         clear H1
         have H' := A_ H
         clear H
         try go_wp2
         have n0_ := A_ (wd_ HB.out); replace HB := n0_; clear n0_
         have p323 : 0 ≤ (x4_1 : Int) := of_decide_eq_true (by first | (with_reducible assumption) | assumption)
         have q323 : x4_1 < (l0.length : Int) := of_decide_eq_true (by first | (with_reducible assumption) | assumption)
         obtain ⟨ad323, A323_0, c323_0, e323, hx323_0, hl323_0, hi323_0⟩ := at_L3 HR0.out x4_1 p323 q323
         have hw323_0 := hx323_0
         cases e323
         replace hx323_0 := on_ HB.out hx323_0
         have HR323_0 := A_ hi323_0
         have HC323_0 := A_ hl323_0
         clear hi323_0 hl323_0
         replace p323 := eq_true p323
         replace q323 := eq_true q323
         have p324 : 0 ≤ (x4_1 : Int) := of_decide_eq_true (by first | (with_reducible assumption) | assumption)
         have q324 : x4_1 < (l0.length : Int) := of_decide_eq_true (by first | (with_reducible assumption) | assumption)
         obtain ⟨ad324, A324_0, c324_0, e324, hx324_0, hl324_0, hi324_0⟩ := at_L3 HR0.out x4_1 p324 q324
         have hw324_0 := hx324_0
         obtain rfl : ad323 = ad324 := (by injection e324)
         replace hx324_0 := on_ HB.out hx324_0
         have HR324_0 := A_ hi324_0
         have HC324_0 := A_ hl324_0
         clear hi324_0 hl324_0
         replace p324 := eq_true p324
         replace q324 := eq_true q324
         have ea_ := Option.some.inj (hx323_0.symm.trans hx324_0)
         injection ea_ with ea_ en_ ec_
         subst ea_
         subst ec_
         clear en_
         have p325 : 0 ≤ (0 : Int) := (by omega)
         have q325 : 0 < ((rd_L3 l0 x4_1).length : Int) := of_decide_eq_true (by first | (with_reducible assumption) | assumption)
         obtain ⟨ad325, e325, hx325_0, hx325_1, hx325_2, hx325_3, hx325_4, hx325_5⟩ := at_T38 HR324_0.out 0 p325 q325
         have hw325_5 := hx325_5
         (try rw [show ((0 : Int)).toNat = 0 from rfl] at hw325_5)
         (try rw [show 0 * 6 = 0 from rfl] at hw325_5)
         (try rw [Addr.add_zero'] at hw325_5)
         have hw325_4 := hx325_4
         (try rw [show ((0 : Int)).toNat = 0 from rfl] at hw325_4)
         (try rw [show 0 * 6 = 0 from rfl] at hw325_4)
         (try rw [Addr.add_zero'] at hw325_4)
         have hw325_3 := hx325_3
         (try rw [show ((0 : Int)).toNat = 0 from rfl] at hw325_3)
         (try rw [show 0 * 6 = 0 from rfl] at hw325_3)
         (try rw [Addr.add_zero'] at hw325_3)
         have hw325_2 := hx325_2
         (try rw [show ((0 : Int)).toNat = 0 from rfl] at hw325_2)
         (try rw [show 0 * 6 = 0 from rfl] at hw325_2)
         (try rw [Addr.add_zero'] at hw325_2)
         have hw325_1 := hx325_1
         (try rw [show ((0 : Int)).toNat = 0 from rfl] at hw325_1)
         (try rw [show 0 * 6 = 0 from rfl] at hw325_1)
         (try rw [Addr.add_zero'] at hw325_1)
         have hw325_0 := hx325_0
         (try rw [show ((0 : Int)).toNat = 0 from rfl] at hw325_0)
         (try rw [show 0 * 6 = 0 from rfl] at hw325_0)
         (try rw [Addr.add_zero'] at hw325_0)
         cases e325
         have qi325 : (0 < (rd_L3 l0 x4_1).length) = True := eq_true (by omega)
         (try rw [show ((0 : Int)).toNat = 0 from rfl] at hx325_0)
         (try rw [show 0 * 6 = 0 from rfl] at hx325_0)
         (try rw [Addr.add_zero'] at hx325_0)
         (try rw [show ((0 : Int)).toNat = 0 from rfl] at hx325_1)
         (try rw [show 0 * 6 = 0 from rfl] at hx325_1)
         (try rw [Addr.add_zero'] at hx325_1)
         (try rw [show ((0 : Int)).toNat = 0 from rfl] at hx325_2)
         (try rw [show 0 * 6 = 0 from rfl] at hx325_2)
         (try rw [Addr.add_zero'] at hx325_2)
         (try rw [show ((0 : Int)).toNat = 0 from rfl] at hx325_3)
         (try rw [show 0 * 6 = 0 from rfl] at hx325_3)
         (try rw [Addr.add_zero'] at hx325_3)
         (try rw [show ((0 : Int)).toNat = 0 from rfl] at hx325_4)
         (try rw [show 0 * 6 = 0 from rfl] at hx325_4)
         (try rw [Addr.add_zero'] at hx325_4)
         (try rw [show ((0 : Int)).toNat = 0 from rfl] at hx325_5)
         (try rw [show 0 * 6 = 0 from rfl] at hx325_5)
         (try rw [Addr.add_zero'] at hx325_5)
         replace hx325_0 := on_ HB.out hx325_0
         replace hx325_1 := on_ HB.out hx325_1
         replace hx325_2 := on_ HB.out hx325_2
         replace hx325_3 := on_ HB.out hx325_3
         replace hx325_4 := on_ HB.out hx325_4
         replace hx325_5 := on_ HB.out hx325_5
         replace p325 := eq_true p325
         replace q325 := eq_true q325
         have p326 : 0 ≤ (x3_1 : Int) := of_decide_eq_true (by first | (with_reducible assumption) | assumption)
         have q326 : x3_1 < (l0.length : Int) := of_decide_eq_true (by first | (with_reducible assumption) | assumption)
         obtain ⟨ad326, A326_0, c326_0, e326, hx326_0, hl326_0, hi326_0⟩ := at_L3 HR0.out x3_1 p326 q326
         have hw326_0 := hx326_0
         obtain rfl : ad323 = ad326 := (by injection e326)
         replace hx326_0 := on_ HB.out hx326_0
         have HR326_0 := A_ hi326_0
         have HC326_0 := A_ hl326_0
         clear hi326_0 hl326_0
         replace p326 := eq_true p326
         replace q326 := eq_true q326
         have p327 : 0 ≤ (0 : Int) := (by omega)
         have q327 : 0 < ((rd_L3 l0 x3_1).length : Int) := of_decide_eq_true (by first | (with_reducible assumption) | assumption)
         obtain ⟨ad327, e327, hx327_0, hx327_1, hx327_2, hx327_3, hx327_4, hx327_5⟩ := at_T38 HR326_0.out 0 p327 q327
         have hw327_5 := hx327_5
         (try rw [show ((0 : Int)).toNat = 0 from rfl] at hw327_5)
         (try rw [show 0 * 6 = 0 from rfl] at hw327_5)
         (try rw [Addr.add_zero'] at hw327_5)
         have hw327_4 := hx327_4
         (try rw [show ((0 : Int)).toNat = 0 from rfl] at hw327_4)
         (try rw [show 0 * 6 = 0 from rfl] at hw327_4)
         (try rw [Addr.add_zero'] at hw327_4)
         have hw327_3 := hx327_3
         (try rw [show ((0 : Int)).toNat = 0 from rfl] at hw327_3)
         (try rw [show 0 * 6 = 0 from rfl] at hw327_3)
         (try rw [Addr.add_zero'] at hw327_3)
         have hw327_2 := hx327_2
         (try rw [show ((0 : Int)).toNat = 0 from rfl] at hw327_2)
         (try rw [show 0 * 6 = 0 from rfl] at hw327_2)
         (try rw [Addr.add_zero'] at hw327_2)
         have hw327_1 := hx327_1
         (try rw [show ((0 : Int)).toNat = 0 from rfl] at hw327_1)
         (try rw [show 0 * 6 = 0 from rfl] at hw327_1)
         (try rw [Addr.add_zero'] at hw327_1)
         have hw327_0 := hx327_0
         (try rw [show ((0 : Int)).toNat = 0 from rfl] at hw327_0)
         (try rw [show 0 * 6 = 0 from rfl] at hw327_0)
         (try rw [Addr.add_zero'] at hw327_0)
         cases e327
         have qi327 : (0 < (rd_L3 l0 x3_1).length) = True := eq_true (by omega)
         (try rw [show ((0 : Int)).toNat = 0 from rfl] at hx327_0)
         (try rw [show 0 * 6 = 0 from rfl] at hx327_0)
         (try rw [Addr.add_zero'] at hx327_0)
         (try rw [show ((0 : Int)).toNat = 0 from rfl] at hx327_1)
         (try rw [show 0 * 6 = 0 from rfl] at hx327_1)
         (try rw [Addr.add_zero'] at hx327_1)
         (try rw [show ((0 : Int)).toNat = 0 from rfl] at hx327_2)
         (try rw [show 0 * 6 = 0 from rfl] at hx327_2)
         (try rw [Addr.add_zero'] at hx327_2)
         (try rw [show ((0 : Int)).toNat = 0 from rfl] at hx327_3)
         (try rw [show 0 * 6 = 0 from rfl] at hx327_3)
         (try rw [Addr.add_zero'] at hx327_3)
         (try rw [show ((0 : Int)).toNat = 0 from rfl] at hx327_4)
         (try rw [show 0 * 6 = 0 from rfl] at hx327_4)
         (try rw [Addr.add_zero'] at hx327_4)
         (try rw [show ((0 : Int)).toNat = 0 from rfl] at hx327_5)
         (try rw [show 0 * 6 = 0 from rfl] at hx327_5)
         (try rw [Addr.add_zero'] at hx327_5)
         replace hx327_0 := on_ HB.out hx327_0
         replace hx327_1 := on_ HB.out hx327_1
         replace hx327_2 := on_ HB.out hx327_2
         replace hx327_3 := on_ HB.out hx327_3
         replace hx327_4 := on_ HB.out hx327_4
         replace hx327_5 := on_ HB.out hx327_5
         replace p327 := eq_true p327
         replace q327 := eq_true q327
         refine start_ (n := 25) (S := fun w' => w'.cell? (ad323.add (x4_1).toNat) = some (.slice (some ad325) (rd_L3 l0 x4_1).length c323_0) ∧ w'.cell? (ad323.add (x4_1).toNat) = some (.slice (some ad325) (rd_L3 l0 x4_1).length c323_0) ∧ w'.cell? ad325 = some (.int .i64 ((rd_T38 (rd_L3 l0 x4_1) 0).f0)) ∧ w'.cell? ⟨ad325.block, ad325.off + 1, none⟩ = some (.int .i64 ((rd_T38 (rd_L3 l0 x4_1) 0).f1)) ∧ w'.cell? ⟨ad325.block, ad325.off + 2, none⟩ = some (.int .i64 ((rd_T38 (rd_L3 l0 x4_1) 0).f2)) ∧ w'.cell? ⟨ad325.block, ad325.off + 3, none⟩ = some (.int .i64 ((rd_T38 (rd_L3 l0 x4_1) 0).f3)) ∧ w'.cell? ⟨ad325.block, ad325.off + 4, none⟩ = some (.int .i64 ((rd_T38 (rd_L3 l0 x4_1) 0).f4)) ∧ w'.cell? ⟨ad325.block, ad325.off + 5, none⟩ = some (.string ((rd_T38 (rd_L3 l0 x4_1) 0).f5)) ∧ w'.cell? (ad323.add (x3_1).toNat) = some (.slice (some ad327) (rd_L3 l0 x3_1).length c326_0) ∧ w'.cell? ad327 = some (.int .i64 ((rd_T38 (rd_L3 l0 x3_1) 0).f0)) ∧ w'.cell? ⟨ad327.block, ad327.off + 1, none⟩ = some (.int .i64 ((rd_T38 (rd_L3 l0 x3_1) 0).f1)) ∧ w'.cell? ⟨ad327.block, ad327.off + 2, none⟩ = some (.int .i64 ((rd_T38 (rd_L3 l0 x3_1) 0).f2)) ∧ w'.cell? ⟨ad327.block, ad327.off + 3, none⟩ = some (.int .i64 ((rd_T38 (rd_L3 l0 x3_1) 0).f3)) ∧ w'.cell? ⟨ad327.block, ad327.off + 4, none⟩ = some (.int .i64 ((rd_T38 (rd_L3 l0 x3_1) 0).f4)) ∧ w'.cell? ⟨ad327.block, ad327.off + 5, none⟩ = some (.string ((rd_T38 (rd_L3 l0 x3_1) 0).f5))) (ds := []) #[F,F,F,F,F,F,F,F,F,F,F,F,F,F,F,F,F,F,F,F,F,F,F,F,F] (by kernel_rfl) rfl rfl ⟨((HB.out.cell (World.block_lt_of_cell? w _ hw323_0)).trans hw323_0), ((HB.out.cell (World.block_lt_of_cell? w _ hw324_0)).trans hw324_0), ((HB.out.cell (World.block_lt_of_cell? w _ hw325_0)).trans hw325_0), ((HB.out.cell (World.block_lt_of_cell? w _ hw325_1)).trans hw325_1), ((HB.out.cell (World.block_lt_of_cell? w _ hw325_2)).trans hw325_2), ((HB.out.cell (World.block_lt_of_cell? w _ hw325_3)).trans hw325_3), ((HB.out.cell (World.block_lt_of_cell? w _ hw325_4)).trans hw325_4), ((HB.out.cell (World.block_lt_of_cell? w _ hw325_5)).trans hw325_5), ((HB.out.cell (World.block_lt_of_cell? w _ hw326_0)).trans hw326_0), ((HB.out.cell (World.block_lt_of_cell? w _ hw327_0)).trans hw327_0), ((HB.out.cell (World.block_lt_of_cell? w _ hw327_1)).trans hw327_1), ((HB.out.cell (World.block_lt_of_cell? w _ hw327_2)).trans hw327_2), ((HB.out.cell (World.block_lt_of_cell? w _ hw327_3)).trans hw327_3), ((HB.out.cell (World.block_lt_of_cell? w _ hw327_4)).trans hw327_4), ((HB.out.cell (World.block_lt_of_cell? w _ hw327_5)).trans hw327_5)⟩ (fun hHeld => ?_); refine with_tabW hopperref12_best.tab5 hopperref12_best.bits5 (fun HT_ HW_ => ?_)
         generalize wr.drew = w15 at HB HR323_0 HR324_0 HR326_0 hx323_0 hx324_0 hx325_0 hx325_1 hx325_2 hx325_3 hx325_4 hx325_5 hx326_0 hx327_0 hx327_1 hx327_2 hx327_3 hx327_4 hx327_5 hHeld ⊢
         refine pq_ 0 11 HT_ ?_
         refine pq_ 1 12 HT_ ?_
         refine pq_ 2 13 HT_ ?_
         refine tk_ 3 14 HT_ HW_ hHeld ?_
         refine pq_ 4 15 HT_ ?_
         refine pq_ 5 16 HT_ ?_
         refine pq_ 6 17 HT_ ?_
         refine pq_ 7 18 HT_ ?_
         refine pq_ 8 19 HT_ ?_
         refine pq_ 9 20 HT_ ?_
         refine pq_ 10 21 HT_ ?_
         refine pq_ 11 22 HT_ ?_
         refine pq_ 12 23 HT_ ?_
         refine pq_ 16 27 HT_ ?_
         refine pq_ 17 28 HT_ ?_
         refine pq_ 18 29 HT_ ?_
         refine tk_ 13 24 HT_ HW_ hHeld ?_
         refine pq_ 14 25 HT_ ?_
         refine tk_ 15 26 HT_ HW_ hHeld ?_
         refine tk_ 19 30 HT_ HW_ hHeld ?_
         refine pq_ 20 31 HT_ ?_
         refine tk_ 21 32 HT_ HW_ hHeld ?_
         refine one_ (i := 22) (N := some 33) #[T,T,T,T,T,T,T,T,T,T,T,T,T,T,T,T,T,T,T,T,T,T,T,F,F] rfl rfl (one_of HT_.out (by kernel_rfl)) (by decide) (fun K hK => ?_)
         refine goes_ Try.func22 (by kernel_rfl) rfl #[.agg #[.int .i64 ((rd_T38 (rd_L3 l0 x4_1) 0).f0), .int .i64 ((rd_T38 (rd_L3 l0 x4_1) 0).f1), .int .i64 ((rd_T38 (rd_L3 l0 x4_1) 0).f2), .int .i64 ((rd_T38 (rd_L3 l0 x4_1) 0).f3), .int .i64 ((rd_T38 (rd_L3 l0 x4_1) 0).f4), .string ((rd_T38 (rd_L3 l0 x4_1) 0).f5)], .agg #[.int .i64 ((rd_T38 (rd_L3 l0 x3_1) 0).f0), .int .i64 ((rd_T38 (rd_L3 l0 x3_1) 0).f1), .int .i64 ((rd_T38 (rd_L3 l0 x3_1) 0).f2), .int .i64 ((rd_T38 (rd_L3 l0 x3_1) 0).f3), .int .i64 ((rd_T38 (rd_L3 l0 x3_1) 0).f4), .string ((rd_T38 (rd_L3 l0 x3_1) 0).f5)]] (by rfl) rfl rfl (by (try simp only [m0_, m1_, m2_]); first | done | rfl) ?_
         with_reducible refine (hopperref04_Better.calls k1 ((rd_T38 (rd_L3 l0 x4_1) 0).f0) ((rd_T38 (rd_L3 l0 x4_1) 0).f1) ((rd_T38 (rd_L3 l0 x4_1) 0).f2) ((rd_T38 (rd_L3 l0 x4_1) 0).f3) ((rd_T38 (rd_L3 l0 x4_1) 0).f4) ((rd_T38 (rd_L3 l0 x4_1) 0).f5) ((rd_T38 (rd_L3 l0 x3_1) 0).f0) ((rd_T38 (rd_L3 l0 x3_1) 0).f1) ((rd_T38 (rd_L3 l0 x3_1) 0).f2) ((rd_T38 (rd_L3 l0 x3_1) 0).f3) ((rd_T38 (rd_L3 l0 x3_1) 0).f4) ((rd_T38 (rd_L3 l0 x3_1) 0).f5) false _ A11.out).mono ?_
         rintro e w16 ⟨rfl, hb⟩
         refine ⟨_, rfl, ?_⟩
         have n0_ := A_ (below_step bw_ hb); replace HB := n0_; clear n0_
         (try clear hb)
         (try clear hb2)
         (try clear hk)
         (try clear hi)
         refine hK.out _ _ ⟨((HB.out.cell (World.block_lt_of_cell? w _ hw323_0)).trans hw323_0), ((HB.out.cell (World.block_lt_of_cell? w _ hw324_0)).trans hw324_0), ((HB.out.cell (World.block_lt_of_cell? w _ hw325_0)).trans hw325_0), ((HB.out.cell (World.block_lt_of_cell? w _ hw325_1)).trans hw325_1), ((HB.out.cell (World.block_lt_of_cell? w _ hw325_2)).trans hw325_2), ((HB.out.cell (World.block_lt_of_cell? w _ hw325_3)).trans hw325_3), ((HB.out.cell (World.block_lt_of_cell? w _ hw325_4)).trans hw325_4), ((HB.out.cell (World.block_lt_of_cell? w _ hw325_5)).trans hw325_5), ((HB.out.cell (World.block_lt_of_cell? w _ hw326_0)).trans hw326_0), ((HB.out.cell (World.block_lt_of_cell? w _ hw327_0)).trans hw327_0), ((HB.out.cell (World.block_lt_of_cell? w _ hw327_1)).trans hw327_1), ((HB.out.cell (World.block_lt_of_cell? w _ hw327_2)).trans hw327_2), ((HB.out.cell (World.block_lt_of_cell? w _ hw327_3)).trans hw327_3), ((HB.out.cell (World.block_lt_of_cell? w _ hw327_4)).trans hw327_4), ((HB.out.cell (World.block_lt_of_cell? w _ hw327_5)).trans hw327_5)⟩ (fun hHeld => ?_)
         clear hK K
         refine norm_ (a' := ?_) ?_ ?_
         rotate_left
         · show Act.put _ (some 33) _ = _
           simp only [Act.put, s0_, s1_, s2_, i64_w, i32_w]
           rfl
         refine pq_ 23 34 HT_ ?_
         refine pq_ 24 35 HT_ ?_
         refine done_ (done_of HT_.out (by kernel_rfl)) ?_
         try go_wp2
         go_roundg k1
         case measure => have := HK1.out; omega
         case rel => exact ⟨(x3_1), (wrap64 (x4_1 + 1)), (by first | rfl | (simp; done) | (simp [*]; done)), (by first | rfl | (simp; done) | (simp [*]; done)), H', ⟨by have := HK1.out; omega⟩, ⟨by repeat (first | (with_reducible first | exact HB.out | apply wa_ | apply wn_ | apply wd_) | exact HB.out)⟩⟩
   · rw [if_neg c4] at H
     have c4b0 : decide (0 < ((rd_L3 l0 x4_1).length : Int)) = false := decide_eq_false c4
     have c4b1 : decide (0 < (rd_L3 l0 x4_1).length) = false := decide_eq_false (by omega)
     clear c4
     have H' := A_ H
     clear H
     try go_wp2
     have n0_ := A_ (wd_ HB.out); replace HB := n0_; clear n0_
     have p323 : 0 ≤ (x4_1 : Int) := of_decide_eq_true (by first | (with_reducible assumption) | assumption)
     have q323 : x4_1 < (l0.length : Int) := of_decide_eq_true (by first | (with_reducible assumption) | assumption)
     obtain ⟨ad323, A323_0, c323_0, e323, hx323_0, hl323_0, hi323_0⟩ := at_L3 HR0.out x4_1 p323 q323
     have hw323_0 := hx323_0
     cases e323
     replace hx323_0 := on_ HB.out hx323_0
     have HR323_0 := A_ hi323_0
     have HC323_0 := A_ hl323_0
     clear hi323_0 hl323_0
     replace p323 := eq_true p323
     replace q323 := eq_true q323
     refine start_ (n := 25) (S := fun w' => w'.cell? (ad323.add (x4_1).toNat) = some (.slice A323_0 (rd_L3 l0 x4_1).length c323_0)) (ds := []) #[F,F,F,F,F,F,F,F,F,F,F,F,F,F,F,F,F,F,F,F,F,F,F,F,F] (by kernel_rfl) rfl rfl (((HB.out.cell (World.block_lt_of_cell? w _ hw323_0)).trans hw323_0)) (fun hHeld => ?_); refine with_tabW hopperref12_best.tab5 hopperref12_best.bits5 (fun HT_ HW_ => ?_)
     generalize wr.drew = w17 at HB HR323_0 hx323_0 hHeld ⊢
     refine pq_ 0 11 HT_ ?_
     refine pq_ 1 12 HT_ ?_
     refine pq_ 2 13 HT_ ?_
     refine take_ (i := 3) (N := some 14) (v := ?_) (a' := ?_) #[T,T,T,T,F,F,F,F,F,F,F,F,F,F,F,F,F,F,F,F,F,F,F,F,F] rfl rfl (take_ofW HT_.out HW_.out (by kernel_rfl)) (fun _ _ _ h => h) (Or.inl ⟨by rfl, ?_⟩) hHeld ?_ ?_
     rotate_left
     · intro w' s0
       go_simp
       with_reducible rfl
     rotate_left
     · simp only [Act.put, s0_, s1_, s2_, i64_w, i32_w]
       rfl
     refine pq_ 4 15 HT_ ?_
     refine pq_ 5 16 HT_ ?_
     refine pq_ 6 17 HT_ ?_
     refine pu_ 7 18 HT_ ?_
     refine pu_ 8 19 HT_ ?_
     refine pu_ 9 20 HT_ ?_
     refine pu_ 10 21 HT_ ?_
     refine pu_ 11 22 HT_ ?_
     refine pu_ 12 23 HT_ ?_
     refine pu_ 13 24 HT_ ?_
     refine pu_ 14 25 HT_ ?_
     refine pu_ 15 26 HT_ ?_
     refine pu_ 16 27 HT_ ?_
     refine pu_ 17 28 HT_ ?_
     refine pu_ 18 29 HT_ ?_
     refine pu_ 19 30 HT_ ?_
     refine pu_ 20 31 HT_ ?_
     refine pu_ 21 32 HT_ ?_
     refine pu_ 22 33 HT_ ?_
     refine pu_ 23 34 HT_ ?_
     refine pq_ 24 35 HT_ ?_
     refine done_ (done_of HT_.out (by kernel_rfl)) ?_
     try go_wp2
     go_roundg k1
     case measure => have := HK1.out; omega
     case rel => exact ⟨(x3_1), (wrap64 (x4_1 + 1)), (by first | rfl | (simp; done) | (simp [*]; done)), (by first | rfl | (simp; done) | (simp [*]; done)), H', ⟨by have := HK1.out; omega⟩, ⟨by repeat (first | (with_reducible first | exact HB.out | apply wa_ | apply wn_ | apply wd_) | exact HB.out)⟩⟩
end Go.Proofs.Ytahopljippfadaa.D
