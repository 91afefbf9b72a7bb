/- Written by this session's own program over the kit's print: functions of Go told as plain functions, or the row of one statement; proved for every input, with no condition of ours. -/
import Derived.Test.YtehncbhmdgdkjaaLx0
import Derived.Test.YtehncbhmdgdkjaaLx1
import Derived.Test.YtehncbhmdgdkjaaLx2
import Derived.Test.YtehncbhmdgdkjaaLx4
import Derived.Test.YtehncbhmdgdkjaaLx12
import Derived.Test.YtehncbhmdgdkjaaLx14
import Derived.Test.YtehncbhmdgdkjaaLx15
namespace Go.Proofs.Ytehncbhmdgdkjaa.L
open Go.RowKit Go.Proofs.YtehncbhmdgdkjaaW.PrintWords Go.Proofs.YtehncbhmdgdkjaaW.PrintLast Go.Proofs.YtehncbhmdgdkjaaW.PrintMore
attribute [local go_sem] max2_int min2_int max_two min_two max_three min_three max_four min_four   -- for this text's walks alone
set_option linter.unusedVariables false
set_option linter.unusedSimpArgs false

attribute [local go_sem high] eqA24
/-! ### hopperlaw06_HeapPops: function 4 -/
mutual
def hopperlaw06_HeapPops.j0 : Nat → List (S24) → List (S24) → List (S24) → Bool → Option (Bool)
 | 0, _, _, _, _ => none
 | k + 1, x0, x3, x4, x36 => if x36 = true then (none) else (hopperlaw06_HeapPops.l0 k x0 x3 x4 0)
def hopperlaw06_HeapPops.l0 : Nat → List (S24) → List (S24) → List (S24) → Int → Option (Bool)
 | 0, _, _, _, _ => none
 | k + 1, x0, x3, x4, x5 => if x5 < (x0.length : Int) then ((heap_Pop.f x3).bind fun bt524 => (if bt524.2.2.2.2.2.2.2 = true then (if 0 ≤ x5 then (if x5 < (x4.length : Int) then (if (!(bt524.2.1 == ((rd_T24 x4 x5).f0)) || (!(bt524.2.2.1 == ((rd_T24 x4 x5).f1)) || (!(bt524.2.2.2.1 == ((rd_T24 x4 x5).f2)) || (!(bt524.2.2.2.2.1 == ((rd_T24 x4 x5).f3)) || (!(bt524.2.2.2.2.2.1 == ((rd_T24 x4 x5).f4)) || (!(bt524.2.2.2.2.2.2.1.toList == (((rd_T24 x4 x5).f5).toList)))))))) = true then (none) else ((heap_Check.f k bt524.1).bind fun t536 => (if t536 = true then (hopperlaw06_HeapPops.l0 k x0 bt524.1 x4 (wrap64 (x5 + 1))) else (none)))) else (none)) else (none)) else (none))) else ((heap_Pop.f x3).bind fun bt512 => (if (x3.length : Int) = 0 then (if (bt512.1.length : Int) = 0 then (if bt512.2.2.2.2.2.2.2 = true then (none) else (if (bt512.2.1 == 0 && (bt512.2.2.1 == 0 && (bt512.2.2.2.1 == 0 && (bt512.2.2.2.2.1 == 0 && (bt512.2.2.2.2.2.1 == 0 && (bt512.2.2.2.2.2.2.1.toList == ([] : List UInt8))))))) = true then ((hopperlaw06_live.f k).bind fun t523 => (some t523)) else (none))) else (none)) else (none)))
end
def hopperlaw06_HeapPops.f (k : Nat) (l0 : List (S24)) : Option (Bool) := (hopperref04_Few.f k l0 40).bind fun t503 => (if t503 = true then ((heap_Make.f k l0).bind fun t505 => ((heap_Order.f l0).bind fun t508 => ((heap_Check.f k t505).bind fun t511 => (if t511 = true then (if (t505.length : Int) = (l0.length : Int) then (hopperlaw06_HeapPops.j0 k l0 t505 t508 ((t508.length : Int) != (l0.length : Int))) else (none)) else (none))))) else ((hopperlaw06_live.f k).bind fun t504 => (some t504)))
theorem hopperlaw06_HeapPops.mono_l : ∀ k, (∀ y0 y1 y2 y3, LeO (hopperlaw06_HeapPops.j0 k y0 y1 y2 y3) (hopperlaw06_HeapPops.j0 (k + 1) y0 y1 y2 y3)) ∧ (∀ y0 y1 y2 y3, LeO (hopperlaw06_HeapPops.l0 k y0 y1 y2 y3) (hopperlaw06_HeapPops.l0 (k + 1) y0 y1 y2 y3))
 | 0 => ⟨fun _ _ _ _ r h => by simp [hopperlaw06_HeapPops.j0] at h, fun _ _ _ _ r h => by simp [hopperlaw06_HeapPops.l0] at h⟩
 | k + 1 => by
  obtain ⟨ih0, ih1⟩ := hopperlaw06_HeapPops.mono_l k
  refine ⟨?_, ?_⟩
  · intro y0 y1 y2 y3
    unfold hopperlaw06_HeapPops.j0
    repeat' first
    | (with_reducible exact ih0 _ _ _ _)
    | (with_reducible exact ih1 _ _ _ _)
    | (with_reducible exact heap_Check.mono _ _)
    | (with_reducible exact heap_Make.mono _ _)
    | (with_reducible exact hopperlaw06_live.mono _)
    | (with_reducible exact hopperref04_Few.mono _ _ _)
    | (with_reducible exact LeO.refl _)
    | (with_reducible exact LeO.none _)
    | (with_reducible refine LeO.ite ?_ ?_)
    | (with_reducible refine LeO.bind ?_ (fun _ => ?_))
    | exact ih0 _ _ _ _
    | exact ih1 _ _ _ _
    | exact heap_Check.mono _ _
    | exact heap_Make.mono _ _
    | exact hopperlaw06_live.mono _
    | exact hopperref04_Few.mono _ _ _
    | exact LeO.none _
    | refine LeO.ite ?_ ?_
    | refine LeO.bind ?_ (fun _ => ?_)
  · intro y0 y1 y2 y3
    unfold hopperlaw06_HeapPops.l0
    repeat' first
    | (with_reducible exact ih0 _ _ _ _)
    | (with_reducible exact ih1 _ _ _ _)
    | (with_reducible exact heap_Check.mono _ _)
    | (with_reducible exact heap_Make.mono _ _)
    | (with_reducible exact hopperlaw06_live.mono _)
    | (with_reducible exact hopperref04_Few.mono _ _ _)
    | (with_reducible exact LeO.refl _)
    | (with_reducible exact LeO.none _)
    | (with_reducible refine LeO.ite ?_ ?_)
    | (with_reducible refine LeO.bind ?_ (fun _ => ?_))
    | exact ih0 _ _ _ _
    | exact ih1 _ _ _ _
    | exact heap_Check.mono _ _
    | exact heap_Make.mono _ _
    | exact hopperlaw06_live.mono _
    | exact hopperref04_Few.mono _ _ _
    | exact LeO.none _
    | refine LeO.ite ?_ ?_
    | refine LeO.bind ?_ (fun _ => ?_)
theorem hopperlaw06_HeapPops.mono : ∀ a0 k, LeO (hopperlaw06_HeapPops.f k a0) (hopperlaw06_HeapPops.f (k + 1) a0) := by
 intro a0 k
 obtain ⟨ih0, ih1⟩ := hopperlaw06_HeapPops.mono_l k
 unfold hopperlaw06_HeapPops.f
 repeat' first
  | (with_reducible exact ih0 _ _ _ _)
  | (with_reducible exact ih1 _ _ _ _)
  | (with_reducible exact heap_Check.mono _ _)
  | (with_reducible exact heap_Make.mono _ _)
  | (with_reducible exact hopperlaw06_live.mono _)
  | (with_reducible exact hopperref04_Few.mono _ _ _)
  | (with_reducible exact LeO.refl _)
  | (with_reducible exact LeO.none _)
  | (with_reducible refine LeO.ite ?_ ?_)
  | (with_reducible refine LeO.bind ?_ (fun _ => ?_))
  | exact ih0 _ _ _ _
  | exact ih1 _ _ _ _
  | exact heap_Check.mono _ _
  | exact heap_Make.mono _ _
  | exact hopperlaw06_live.mono _
  | exact hopperref04_Few.mono _ _ _
  | exact LeO.none _
  | refine LeO.ite ?_ ?_
  | refine LeO.bind ?_ (fun _ => ?_)
def hopperlaw06_HeapPops.T11 : Bool × List (List Nat × List Nat) := (true, [([], []), ([0], [0]), ([1], [1]), ([2], [2]), ([2], [2]), ([2], [2]), ([4, 5, 2], [2, 4, 5]), ([6, 2], [2, 6]), ([3, 7, 2], [2, 3, 7]), ([2, 8], [2, 8]), ([9, 2], [9]), ([10], [10]), ([11, 10, 10], [10, 11]), ([12, 10], [10, 12]), ([10, 13], [10, 13])])
def hopperlaw06_HeapPops.B11 : List Nat := [0, 1, 3, 7, 7, 7, 55, 119, 255, 511, 1023, 2047, 4095, 8191, 16383]
theorem hopperlaw06_HeapPops.tab11 : rtab .any (opsOf Try.f4 11) = hopperlaw06_HeapPops.T11 := by kernel_rfl
theorem hopperlaw06_HeapPops.bits11 : waitsOk hopperlaw06_HeapPops.T11.2 hopperlaw06_HeapPops.B11 = true := by kernel_rfl
set_option maxHeartbeats 8000000 in
set_option maxRecDepth 100000 in
theorem hopperlaw06_HeapPops.calls (k : Nat) (A0 : Option Addr) (c0 : Nat) (l0 : List (S24)) (r : Bool) (w : World) (hr0 : Kd.C k24 w A0 l0.length l0) (hc0 : l0.length ≤ c0) (h : hopperlaw06_HeapPops.f k l0 = some r) :
 Calls Try.prog 4 #[.slice A0 l0.length c0] w fun e w' => e = .returned (.bool r) ∧ Below w.heap.size w w' := by
 have hu24 := Try.underlying24
 have HR0 := A_ hr0
 have HC0 := A_ hc0
 clear hr0 hc0; have HB := A_ (Below.refl w.heap.size w)
 have H : ((hopperref04_Few.f k l0 40).bind fun t503 => (if t503 = true then ((heap_Make.f k l0).bind fun t505 => ((heap_Order.f l0).bind fun t508 => ((heap_Check.f k t505).bind fun t511 => (if t511 = true then (if (t505.length : Int) = (l0.length : Int) then (hopperlaw06_HeapPops.j0 k l0 t505 t508 ((t508.length : Int) != (l0.length : Int))) else (none)) else (none))))) else ((hopperlaw06_live.f k).bind fun t504 => (some t504)))) = some r := h
 clear h
 replace H := Option.bind_eq_some_iff.mp H
 obtain ⟨t503, A20, H⟩ := H
 try dsimp only at H
 have A2 := A_ A20
 clear A20
 by_cases c3 : t503 = true
 · subst c3
   have H1 : ((heap_Make.f k l0).bind fun t505 => ((heap_Order.f l0).bind fun t508 => ((heap_Check.f k t505).bind fun t511 => (if t511 = true then (if (t505.length : Int) = (l0.length : Int) then (hopperlaw06_HeapPops.j0 k l0 t505 t508 ((t508.length : Int) != (l0.length : Int))) else (none)) else (none))))) = some r := by rw [if_pos rfl] at H; exact H
   clear H
   have H := H1
   clear H1
   replace H := Option.bind_eq_some_iff.mp H
   obtain ⟨t505, A40, H⟩ := H
   try dsimp only at H
   have A4 := A_ A40
   clear A40
   replace H := Option.bind_eq_some_iff.mp H
   obtain ⟨t508, A50, H⟩ := H
   try dsimp only at H
   have A5 := A_ A50
   clear A50
   have HC6 := A_ H
   clear H
   go_enter Try.func4, Try.ntmps4
   go_upto_region 5 with (first | ((with_reducible refine gate_callee (f := 21) rfl ?_); refine goesL_ (some 13) rfl rfl Try.func21 (by kernel_rfl) rfl #[.slice A0 l0.length c0, .int .i64 40] rfl (by (try simp only [m0_, m1_, m2_]); first | done | rfl) ?_; (with_reducible refine (hopperref04_Few.calls k _ _ l0 40 true _ ?side1 ?side2 A2.out).mono ?_); (case side1 => repeat (first | exact HR0.out | (with_reducible refine ca_ ?_ _) | (with_reducible refine cn_ ?_ _) | (with_reducible refine cd_ ?_))); (case side2 => exact HC0.out); rintro e w7 ⟨rfl, hb⟩; refine ⟨_, rfl, ?_⟩; replace HB := A_ (below_step bw_ hb); (try clear hb); (try clear hb2); (try clear hk); (try clear hi)) | ((with_reducible refine gate_callee (f := 33) rfl ?_); refine goesL_ (some 17) rfl rfl Try.func33 (by kernel_rfl) rfl #[.slice A0 l0.length c0] rfl (by (try simp only [m0_, m1_, m2_]); first | done | rfl) ?_; (with_reducible refine (heap_Make.calls k _ _ l0 t505 _ ?side1 ?side2 A4.out).mono ?_); (case side1 => repeat (first | exact (Kd.C_below HR0.out HB.out) | (with_reducible refine ca_ ?_ _) | (with_reducible refine cn_ ?_ _) | (with_reducible refine cd_ ?_))); (case side2 => exact HC0.out); rintro e w8 ⟨v506, rfl, ho0, hb⟩; refine ⟨_, rfl, ?_⟩; have HO507 := A_ (Kd.R_lower ho0 (below_size bw_)); replace HB := A_ (below_step bw_ hb); (try clear hb); (try clear hb2); (try clear hk); (try clear hi); (try clear ho0)) | ((with_reducible refine gate_callee (f := 35) rfl ?_); refine goesL_ (some 19) rfl rfl Try.func35 (by kernel_rfl) rfl #[.slice A0 l0.length c0] rfl (by (try simp only [m0_, m1_, m2_]); first | done | rfl) ?_; (with_reducible refine (heap_Order.calls _ _ l0 t508 _ ?side1 ?side2 A5.out).mono ?_); (case side1 => repeat (first | exact (Kd.C_below HR0.out HB.out) | (with_reducible refine ca_ ?_ _) | (with_reducible refine cn_ ?_ _) | (with_reducible refine cd_ ?_))); (case side2 => exact HC0.out); rintro e w9 ⟨v509, rfl, ho0, hb⟩; refine ⟨_, rfl, ?_⟩; have n0_ := A_ (Kd.R_elder' (pr_ HO507.out) (Kd.R_base ho0) hb); have n1_ := A_ (Kd.R_lower (Kd.R_new' ho0 (Kd.R_lt (pr_ HO507.out))) (below_size bw_)); have n2_ := A_ (below_step bw_ hb); replace HO507 := n0_; have HO510 := n1_; replace HB := n2_; clear n0_ n1_ n2_; (try clear hb); (try clear hb2); (try clear hk); (try clear hi); (try clear ho0)))
   (try simp only [Act.put, s0_, s1_, s2_])
   go_cut [36] (fun v36 wc => ∃ (kq : Nat) (x36_5 : Bool), v36 = .bool x36_5 ∧ Aside0 (hopperlaw06_HeapPops.j0 kq l0 t505 t508 x36_5 = some r) ∧ Aside0 (kq ≤ k) ∧ Aside0 (Kd.R k24 24 wc w.heap.size (fun k_ => some k_ ≠ (v509 : Value).ownBlock) v506 t505) ∧ Aside0 (Kd.R k24 24 wc w.heap.size (fun k_ => some k_ ≠ (v506 : Value).ownBlock) v509 t508) ∧ Aside0 (Below w.heap.size w wc))
   case first =>
    have H := HC6.out
    clear HC6
    replace H := Option.bind_eq_some_iff.mp H
    obtain ⟨t511, A100, H⟩ := H
    try dsimp only at H
    have A10 := A_ A100
    clear A100
    by_cases c11 : t511 = true
    rotate_left
    · replace c11 := Bool.eq_false_iff.mpr c11
      subst c11
      have H1 : (none) = some r := by rw [if_neg (show ¬ (false = true) by decide)] at H; exact H
      clear H
      have H := H1
      clear H1
      exact absurd H (by simp)
    subst c11
    have H1 : (if (t505.length : Int) = (l0.length : Int) then (hopperlaw06_HeapPops.j0 k l0 t505 t508 ((t508.length : Int) != (l0.length : Int))) else (none)) = some r := by rw [if_pos rfl] at H; exact H
    clear H
    have H := H1
    clear H1
    by_cases c12 : (t505.length : Int) = (l0.length : Int)
    rotate_left
    · rw [if_neg c12] at H
      exact absurd H (by simp)
    rw [if_pos c12] at H
    have c12b0 : ((t505.length : Int) == (l0.length : Int)) = true := beq_iff_eq.mpr c12
    have c12b1 : ((t505.length : Int) != (l0.length : Int)) = false := bne_eq_false_iff_eq.mpr c12
    have c12b2 : (t505.length == l0.length) = true := by first | simpa using c12 | (simp at c12 ⊢; omega)
    clear c12
    (first | rw [c12b0] | (simp only [i64_w, i32_w]; rw [c12b0]) | skip)
    have H' := A_ H
    clear H
    obtain ⟨Ao13, co13, eo13⟩ := Kd.R_slice HO507.out
    subst eo13
    go_wp2_with (first | ((with_reducible refine gate_callee (f := 28) rfl ?_); refine goesL_ (some 21) rfl rfl Try.func28 (by kernel_rfl) rfl #[.slice Ao13 t505.length co13] rfl (by (try simp only [m0_, m1_, m2_]); first | done | rfl) ?_; (with_reducible refine (heap_Check.calls k _ _ t505 true _ ?side1 ?side2 A10.out).mono ?_); (case side1 => repeat (first | exact (Kd.R_reads' HO507.out).2.2 | (with_reducible refine ca_ ?_ _) | (with_reducible refine cn_ ?_ _) | (with_reducible refine cd_ ?_))); (case side2 => exact (Kd.R_reads' HO507.out).2.1); rintro e w14 ⟨rfl, hb⟩; refine ⟨_, rfl, ?_⟩; replace HO507 := A_ (Kd.R_below (pr_ HO507.out) hb); replace HO510 := A_ (Kd.R_below (pr_ HO510.out) hb); replace HB := A_ (below_step bw_ hb); (try clear hb); (try clear hb2); (try clear hk); (try clear hi); obtain ⟨Ao15, co15, eo15⟩ := Kd.R_slice HO510.out; subst eo15))
    go_meet
    case rel => exact ⟨_, (((t508.length : Int) != (l0.length : Int))), (by first | rfl | (simp; done) | (simp [*]; done)), H', ⟨by first | omega | exact Nat.le_refl _⟩, ⟨by (with_reducible repeat (first | apply ra_ | apply rn_ | apply rd_)); exact Kd.R_mono HO507.out (fun _ hk => hk.2)⟩, ⟨by (with_reducible repeat (first | apply ra_ | apply rn_ | apply rd_)); exact Kd.R_mono HO510.out (fun _ hk => hk.2)⟩, ⟨by repeat (first | (with_reducible first | exact HB.out | apply wa_ | apply wn_ | apply wd_) | exact HB.out)⟩⟩
   case rest =>
    clear HC6; (try clear c1); (try clear c2); (try clear p2); (try clear c3); (try clear c4); (try clear c11); (try clear c12); (try clear c12b0); (try clear c12b1); (try clear c12b2)
    obtain ⟨kq, x36_5, rfl, HA, HJ5, HO_3, HO_4, HB⟩ := hcut
    cases kq with
    | zero => exact absurd HA.out (by simp [hopperlaw06_HeapPops.j0])
    | succ kj5 =>
     have H := HA.out
     clear HA
     simp only [hopperlaw06_HeapPops.j0] at H
     by_cases c16 : x36_5 = true
     · subst c16
       have H1 : (none) = some r := by rw [if_pos rfl] at H; exact H
       clear H
       have H := H1
       clear H1
       exact absurd H (by simp)
     replace c16 := Bool.eq_false_iff.mpr c16
     subst c16
     have H1 : (hopperlaw06_HeapPops.l0 kj5 l0 t505 t508 0) = some r := by rw [if_neg (show ¬ (false = true) by decide)] at H; exact H
     clear H
     have H := H1
     clear H1
     have H' := A_ H
     clear H
     go_wp2
     go_loopg [3, 5] kj5 (fun kq v3 v5 w' => ∃ (x3_2 : List (S24)) (x5_2 : Int), v5 = .int .i64 x5_2 ∧ Aside0 (hopperlaw06_HeapPops.l0 kq l0 x3_2 t508 x5_2 = some r) ∧ Aside0 (kq ≤ kj5) ∧ Aside0 (Kd.R k24 24 w' w.heap.size (fun k_ => some k_ ≠ (v509 : Value).ownBlock) v3 x3_2) ∧ Aside0 (Kd.R k24 24 w' w.heap.size (fun k_ => some k_ ≠ (v3 : Value).ownBlock) v509 t508) ∧ Aside0 (Below w.heap.size w w'))
     case atStart => exact ⟨(t505), (0), (by first | rfl | (simp; done) | (simp [*]; done)), H', ⟨Nat.le_refl _⟩, ⟨by (with_reducible repeat (first | apply ra_ | apply rn_ | apply rd_)); exact HO_3.out⟩, ⟨by (with_reducible repeat (first | apply ra_ | apply rn_ | apply rd_)); exact HO_4.out⟩, ⟨by repeat (first | (with_reducible first | exact HB.out | apply wa_ | apply wn_ | apply wd_) | exact HB.out)⟩⟩
     case round =>
      clear H'; (try clear c1); (try clear c2); (try clear p2); (try clear c3); (try clear c4); (try clear c11); (try clear c12); (try clear c12b0); (try clear c12b1); (try clear c12b2); (try clear c16); (try clear p2)
      obtain ⟨x3_2, x5_2, rfl, HA, HK2, HO_3, HO_4, HB⟩ := hrel
      cases gk with
      | zero => exact absurd HA.out (by simp [hopperlaw06_HeapPops.l0])
      | succ k2 =>
       have H := HA.out
       clear HA
       simp only [hopperlaw06_HeapPops.l0] at H
       by_cases c17 : x5_2 < (l0.length : Int)
       · rw [if_pos c17] at H
         have c17b0 : decide (x5_2 < (l0.length : Int)) = true := decide_eq_true c17
         clear c17
         replace H := Option.bind_eq_some_iff.mp H
         obtain ⟨⟨t524, t527, t528, t529, t530, t531, t532, t533⟩, A180, H⟩ := H
         try dsimp only at H
         have A18 := A_ A180
         clear A180
         by_cases c19 : t533 = true
         rotate_left
         · replace c19 := Bool.eq_false_iff.mpr c19
           subst c19
           have H1 : (none) = some r := by rw [if_neg (show ¬ (false = true) by decide)] at H; exact H
           clear H
           have H := H1
           clear H1
           exact absurd H (by simp)
         subst c19
         have H1 : (if 0 ≤ x5_2 then (if x5_2 < (t508.length : Int) then (if (!(t527 == ((rd_T24 t508 x5_2).f0)) || (!(t528 == ((rd_T24 t508 x5_2).f1)) || (!(t529 == ((rd_T24 t508 x5_2).f2)) || (!(t530 == ((rd_T24 t508 x5_2).f3)) || (!(t531 == ((rd_T24 t508 x5_2).f4)) || (!(t532.toList == (((rd_T24 t508 x5_2).f5).toList)))))))) = true then (none) else ((heap_Check.f k2 t524).bind fun t536 => (if t536 = true then (hopperlaw06_HeapPops.l0 k2 l0 t524 t508 (wrap64 (x5_2 + 1))) else (none)))) else (none)) else (none)) = some r := by rw [if_pos rfl] at H; exact H
         clear H
         have H := H1
         clear H1
         by_cases c20 : 0 ≤ x5_2
         rotate_left
         · rw [if_neg c20] at H
           exact absurd H (by simp)
         rw [if_pos c20] at H
         have c20b0 : decide (0 ≤ x5_2) = true := decide_eq_true c20
         clear c20
         by_cases c21 : x5_2 < (t508.length : Int)
         rotate_left
         · rw [if_neg c21] at H
           exact absurd H (by simp)
         rw [if_pos c21] at H
         have c21b0 : decide (x5_2 < (t508.length : Int)) = true := decide_eq_true c21
         clear c21
         by_cases c22 : (!(t527 == ((rd_T24 t508 x5_2).f0)) || (!(t528 == ((rd_T24 t508 x5_2).f1)) || (!(t529 == ((rd_T24 t508 x5_2).f2)) || (!(t530 == ((rd_T24 t508 x5_2).f3)) || (!(t531 == ((rd_T24 t508 x5_2).f4)) || (!(t532.toList == (((rd_T24 t508 x5_2).f5).toList)))))))) = true
         · rw [if_pos c22] at H
           exact absurd H (by simp)
         rw [if_neg c22] at H
         have c22b0 : (!(t527 == ((rd_T24 t508 x5_2).f0)) || (!(t528 == ((rd_T24 t508 x5_2).f1)) || (!(t529 == ((rd_T24 t508 x5_2).f2)) || (!(t530 == ((rd_T24 t508 x5_2).f3)) || (!(t531 == ((rd_T24 t508 x5_2).f4)) || (!(t532.toList == (((rd_T24 t508 x5_2).f5).toList)))))))) = false := by simpa using c22
         clear c22
         replace H := Option.bind_eq_some_iff.mp H
         obtain ⟨t536, A230, H⟩ := H
         try dsimp only at H
         have A23 := A_ A230
         clear A230
         by_cases c24 : t536 = true
         rotate_left
         · replace c24 := Bool.eq_false_iff.mpr c24
           subst c24
           have H1 : (none) = some r := by rw [if_neg (show ¬ (false = true) by decide)] at H; exact H
           clear H
           have H := H1
           clear H1
           exact absurd H (by simp)
         subst c24
         have H1 : (hopperlaw06_HeapPops.l0 k2 l0 t524 t508 (wrap64 (x5_2 + 1))) = some r := by rw [if_pos rfl] at H; exact H
         clear H
         have H := H1
         clear H1
         have H' := A_ H
         clear H
         obtain ⟨Ao25, co25, eo25⟩ := Kd.R_slice HO_3.out
         subst eo25
         try go_wp2_with (first | ((with_reducible refine gate_callee (f := 24) rfl ?_); refine goesL_ (some 45) rfl rfl Try.func24 (by kernel_rfl) rfl #[.slice Ao25 x3_2.length co25] rfl (by (try simp only [m0_, m1_, m2_]); first | done | rfl) ?_; (with_reducible refine (heap_Pop.calls _ _ x3_2 t524 t527 t528 t529 t530 t531 t532 true _ ?side1 ?side2 A18.out).mono ?_); (case side1 => repeat (first | exact (Kd.R_reads' HO_3.out).2.2 | (with_reducible refine ca_ ?_ _) | (with_reducible refine cn_ ?_ _) | (with_reducible refine cd_ ?_))); (case side2 => exact (Kd.R_reads' HO_3.out).2.1); rintro e w26 ⟨v525, rfl, ho0, hb⟩; refine ⟨_, rfl, ?_⟩; have n0_ := A_ (Kd.R_elder' (pr_ HO_3.out) (Kd.R_base ho0) hb); have n1_ := A_ (Kd.R_elder' (pr_ HO_4.out) (Kd.R_base ho0) hb); have n2_ := A_ (Kd.R_lower (Kd.R_new' (Kd.R_new' ho0 (Kd.R_lt (pr_ HO_3.out))) (Kd.R_lt (pr_ HO_4.out))) (below_size bw_)); have n3_ := A_ (below_step bw_ hb); replace HO_3 := n0_; replace HO_4 := n1_; have HO526 := n2_; replace HB := n3_; clear n0_ n1_ n2_ n3_; (try clear hb); (try clear hb2); (try clear hk); (try clear hi); (try clear ho0)) | ((with_reducible refine gate_dst (N := 7) rfl ?_); (try (refine gate_guard (by rfl) ?_; dsimp only)); refine box_event ?hg (N := 7) ?hd (cs := #[.int .i64 0, .int .i64 0, .int .i64 0, .int .i64 0, .int .i64 0, .string (⟨#[]⟩ : ByteArray)]) (t := 24) ?hr ?_; (case hd => rfl); (case hg => rfl); (case hr => first | (go_simp; done) | (go_simp; rfl)); intro gb534 hg w27 hbox hb; have n0_ := A_ (Kd.R_below (Kd.R_elderB (pr_ HO_3.out) gb534 (Nat.le_of_eq hg.symm)) hb); have n1_ := A_ (Kd.R_below (Kd.R_elderB (pr_ HO_4.out) gb534 (Nat.le_of_eq hg.symm)) hb); have n2_ := A_ (Kd.R_below (Kd.R_elderB (pr_ HO526.out) gb534 (Nat.le_of_eq hg.symm)) hb); have n3_ := A_ (below_step bw_ hb); have n4_ := A_ (hbox); have n5_ := A_ (gz_ (w := w) hg); have n6_ := A_ (gz_ (w := w) hg); replace HO_3 := n0_; replace HO_4 := n1_; replace HO526 := n2_; replace HB := n3_; have BK534 := n4_; have GW534 := n5_; have GE534 := n6_; clear n0_ n1_ n2_ n3_ n4_ n5_ n6_; clear hb hbox hg; have hcz28_0 : w27.cell? ⟨gb534, 0, none⟩ = some (.int .i64 0) := e_ BK534 0; have hcz28_1 : w27.cell? ⟨gb534, 1, none⟩ = some (.int .i64 0) := e_ BK534 1; have hcz28_2 : w27.cell? ⟨gb534, 2, none⟩ = some (.int .i64 0) := e_ BK534 2; have hcz28_3 : w27.cell? ⟨gb534, 3, none⟩ = some (.int .i64 0) := e_ BK534 3; have hcz28_4 : w27.cell? ⟨gb534, 4, none⟩ = some (.int .i64 0) := e_ BK534 4; have hcz28_5 : w27.cell? ⟨gb534, 5, none⟩ = some (.string (⟨#[]⟩ : ByteArray)) := e_ BK534 5; obtain ⟨hfz28_0, hfz28_1, hfz28_2, hfz28_3, hfz28_4, hfz28_5⟩ := z6_ BK534))
         have n0_ : Aside0 (Kd.R k24 24 ((((((w27.setCell ⟨gb534, 0, none⟩ (.int .i64 t527)).setCell ⟨gb534, 1, none⟩ (.int .i64 t528)).setCell ⟨gb534, 2, none⟩ (.int .i64 t529)).setCell ⟨gb534, 3, none⟩ (.int .i64 t530)).setCell ⟨gb534, 4, none⟩ (.int .i64 t531)).setCell ⟨gb534, 5, none⟩ (.string t532)) w.heap.size (fun k_ => some k_ ≠ (v509 : Value).ownBlock ∧ some k_ ≠ (v525 : Value).ownBlock ∧ k_ ≠ gb534) (.slice Ao25 x3_2.length co25) x3_2) := ⟨by (with_reducible repeat (first | apply ra_ | apply rn_ | apply rd_)); exact Kd.R_mono (f6_ (g := gb534) (Kd.R_mono HO_3.out (fun k_ hk => (⟨hk, hk.2⟩ : _ ∧ k_ ≠ gb534))) (fun _ hk => hk.2) (.int .i64 t527) (.int .i64 t528) (.int .i64 t529) (.int .i64 t530) (.int .i64 t531) (.string t532)) (fun _ hk => ⟨hk.1.1.1, ⟨hk.1.1.2, hk.1.2⟩⟩)⟩; have n1_ : Aside0 (Kd.R k24 24 ((((((w27.setCell ⟨gb534, 0, none⟩ (.int .i64 t527)).setCell ⟨gb534, 1, none⟩ (.int .i64 t528)).setCell ⟨gb534, 2, none⟩ (.int .i64 t529)).setCell ⟨gb534, 3, none⟩ (.int .i64 t530)).setCell ⟨gb534, 4, none⟩ (.int .i64 t531)).setCell ⟨gb534, 5, none⟩ (.string t532)) w.heap.size (fun k_ => some k_ ≠ (.slice Ao25 x3_2.length co25 : Value).ownBlock ∧ some k_ ≠ (v525 : Value).ownBlock ∧ k_ ≠ gb534) v509 t508) := ⟨by (with_reducible repeat (first | apply ra_ | apply rn_ | apply rd_)); exact Kd.R_mono (f6_ (g := gb534) (Kd.R_mono HO_4.out (fun k_ hk => (⟨hk, hk.2⟩ : _ ∧ k_ ≠ gb534))) (fun _ hk => hk.2) (.int .i64 t527) (.int .i64 t528) (.int .i64 t529) (.int .i64 t530) (.int .i64 t531) (.string t532)) (fun _ hk => ⟨hk.1.1.1, ⟨hk.1.1.2, hk.1.2⟩⟩)⟩; have n2_ : Aside0 (Kd.R k24 24 ((((((w27.setCell ⟨gb534, 0, none⟩ (.int .i64 t527)).setCell ⟨gb534, 1, none⟩ (.int .i64 t528)).setCell ⟨gb534, 2, none⟩ (.int .i64 t529)).setCell ⟨gb534, 3, none⟩ (.int .i64 t530)).setCell ⟨gb534, 4, none⟩ (.int .i64 t531)).setCell ⟨gb534, 5, none⟩ (.string t532)) w.heap.size (fun k_ => some k_ ≠ (.slice Ao25 x3_2.length co25 : Value).ownBlock ∧ some k_ ≠ (v509 : Value).ownBlock ∧ k_ ≠ gb534) v525 t524) := ⟨by (with_reducible repeat (first | apply ra_ | apply rn_ | apply rd_)); exact Kd.R_mono (f6_ (g := gb534) (Kd.R_mono HO526.out (fun k_ hk => (⟨hk, hk.2⟩ : _ ∧ k_ ≠ gb534))) (fun _ hk => hk.2) (.int .i64 t527) (.int .i64 t528) (.int .i64 t529) (.int .i64 t530) (.int .i64 t531) (.string t532)) (fun _ hk => ⟨hk.1.1.1.2, ⟨hk.1.1.2, hk.1.2⟩⟩)⟩; have n3_ : Aside0 (((((((w27.setCell ⟨gb534, 0, none⟩ (.int .i64 t527)).setCell ⟨gb534, 1, none⟩ (.int .i64 t528)).setCell ⟨gb534, 2, none⟩ (.int .i64 t529)).setCell ⟨gb534, 3, none⟩ (.int .i64 t530)).setCell ⟨gb534, 4, none⟩ (.int .i64 t531)).setCell ⟨gb534, 5, none⟩ (.string t532)).heap[gb534]? = some (.cells #[.int .i64 t527, .int .i64 t528, .int .i64 t529, .int .i64 t530, .int .i64 t531, .string t532] 24 (0, 0))) := ⟨by exact pk_ (b6_ BK534.out)⟩; have n4_ : Aside0 (Below w.heap.size w ((((((w27.setCell ⟨gb534, 0, none⟩ (.int .i64 t527)).setCell ⟨gb534, 1, none⟩ (.int .i64 t528)).setCell ⟨gb534, 2, none⟩ (.int .i64 t529)).setCell ⟨gb534, 3, none⟩ (.int .i64 t530)).setCell ⟨gb534, 4, none⟩ (.int .i64 t531)).setCell ⟨gb534, 5, none⟩ (.string t532))) := ⟨by repeat (first | (with_reducible first | exact HB.out | apply wa_ | apply wn_ | apply wd_ | refine ws_ ?_ GE534.out) | exact HB.out)⟩
         (try clear HO_3)
         (try clear HO_4)
         (try clear HO526)
         (try clear BK534)
         (try clear HB)
         generalize ((((((w27.setCell ⟨gb534, 0, none⟩ (.int .i64 t527)).setCell ⟨gb534, 1, none⟩ (.int .i64 t528)).setCell ⟨gb534, 2, none⟩ (.int .i64 t529)).setCell ⟨gb534, 3, none⟩ (.int .i64 t530)).setCell ⟨gb534, 4, none⟩ (.int .i64 t531)).setCell ⟨gb534, 5, none⟩ (.string t532)) = w29 at n0_ n1_ n2_ n3_ n4_ ⊢
         have HO_3 := n0_; have HO_4 := n1_; have HO526 := n2_; have BK534 := n3_; have HB := n4_; clear n0_ n1_ n2_ n3_ n4_; have n0_ := A_ (rd_ HO_3.out); have n1_ := A_ (rd_ HO_4.out); have n2_ := A_ (rd_ HO526.out); have n3_ := A_ (bd_ BK534.out); have n4_ := A_ (wd_ HB.out); replace HO_3 := n0_; replace HO_4 := n1_; replace HO526 := n2_; replace BK534 := n3_; replace HB := n4_; clear n0_ n1_ n2_ n3_ n4_
         obtain ⟨Ao31, co31, eo31⟩ := Kd.R_slice HO_4.out
         (first | subst eo31 | (injection eo31 with f1_ f2_ f3_; have f4_ := f1_.symm; have f5_ := f3_.symm; clear f1_ f2_ f3_; subst f4_; subst f5_))
         have p535 : 0 ≤ (x5_2 : Int) := of_decide_eq_true (by first | (with_reducible assumption) | assumption)
         have q535 : x5_2 < (t508.length : Int) := of_decide_eq_true (by first | (with_reducible assumption) | assumption)
         obtain ⟨ad535, e535, hx535_0, hx535_1, hx535_2, hx535_3, hx535_4, hx535_5⟩ := at_T24 (Kd.R_reads' HO_4.out).2.2 x5_2 p535 q535
         cases e535
         replace p535 := eq_true p535
         replace q535 := eq_true q535
         obtain ⟨Ao32, co32, eo32⟩ := Kd.R_slice HO526.out
         (first | subst eo32 | (injection eo32 with f1_ f2_ f3_; have f4_ := f1_.symm; have f5_ := f3_.symm; clear f1_ f2_ f3_; subst f4_; subst f5_))
         refine start_ (n := 15) (S := fun w' => w'.cell? ⟨gb534, 0, none⟩ = some (.int .i64 t527) ∧ w'.cell? ⟨gb534, 1, none⟩ = some (.int .i64 t528) ∧ w'.cell? ⟨gb534, 2, none⟩ = some (.int .i64 t529) ∧ w'.cell? ⟨gb534, 3, none⟩ = some (.int .i64 t530) ∧ w'.cell? ⟨gb534, 4, none⟩ = some (.int .i64 t531) ∧ w'.cell? ⟨gb534, 5, none⟩ = some (.string t532) ∧ w'.cell? (ad535.add ((x5_2).toNat * 6)) = some (.int .i64 ((rd_T24 t508 x5_2).f0)) ∧ w'.cell? ⟨(ad535.add ((x5_2).toNat * 6)).block, (ad535.add ((x5_2).toNat * 6)).off + 1, none⟩ = some (.int .i64 ((rd_T24 t508 x5_2).f1)) ∧ w'.cell? ⟨(ad535.add ((x5_2).toNat * 6)).block, (ad535.add ((x5_2).toNat * 6)).off + 2, none⟩ = some (.int .i64 ((rd_T24 t508 x5_2).f2)) ∧ w'.cell? ⟨(ad535.add ((x5_2).toNat * 6)).block, (ad535.add ((x5_2).toNat * 6)).off + 3, none⟩ = some (.int .i64 ((rd_T24 t508 x5_2).f3)) ∧ w'.cell? ⟨(ad535.add ((x5_2).toNat * 6)).block, (ad535.add ((x5_2).toNat * 6)).off + 4, none⟩ = some (.int .i64 ((rd_T24 t508 x5_2).f4)) ∧ w'.cell? ⟨(ad535.add ((x5_2).toNat * 6)).block, (ad535.add ((x5_2).toNat * 6)).off + 5, none⟩ = some (.string ((rd_T24 t508 x5_2).f5))) (ds := []) #[F,F,F,F,F,F,F,F,F,F,F,F,F,F,F] (by kernel_rfl) rfl rfl ⟨e_ BK534 0, e_ BK534 1, e_ BK534 2, e_ BK534 3, e_ BK534 4, e_ BK534 5, hx535_0, hx535_1, hx535_2, hx535_3, hx535_4, hx535_5⟩ (fun hHeld => ?_); refine with_tabW hopperlaw06_HeapPops.tab11 hopperlaw06_HeapPops.bits11 (fun HT_ HW_ => ?_)
         generalize w29.drew = w30 at HO_3 HO_4 HO526 BK534 HB hx535_0 hx535_1 hx535_2 hx535_3 hx535_4 hx535_5 hHeld ⊢
         refine pq_ 0 49 HT_ ?_
         refine pq_ 1 50 HT_ ?_
         refine pq_ 2 51 HT_ ?_
         refine pq_ 4 53 HT_ ?_
         refine pq_ 5 54 HT_ ?_
         refine pq_ 6 55 HT_ ?_
         refine tk_ 3 52 HT_ HW_ hHeld ?_
         refine tk_ 7 56 HT_ HW_ hHeld ?_
         refine pq_ 8 57 HT_ ?_
         refine pq_ 9 58 HT_ ?_
         refine pq_ 10 59 HT_ ?_
         refine pq_ 11 60 HT_ ?_
         refine one_ (i := 12) (N := some 61) #[T,T,T,T,T,T,T,T,T,T,T,T,T,F,F] rfl rfl (one_of HT_.out (by kernel_rfl)) (by decide) (fun K hK => ?_)
         refine goes_ Try.func28 (by kernel_rfl) rfl #[.slice Ao32 t524.length co32] (by rfl) rfl rfl (by (try simp only [m0_, m1_, m2_]); first | done | rfl) ?_
         with_reducible refine (heap_Check.calls k2 _ _ t524 true _ ?side1 ?side2 A23.out).mono ?_
         (case side1 => repeat (first | exact (Kd.R_reads' HO526.out).2.2 | (with_reducible refine ca_ ?_ _) | (with_reducible refine cn_ ?_ _) | (with_reducible refine cd_ ?_)))
         (case side2 => exact (Kd.R_reads' HO526.out).2.1)
         rintro e w33 ⟨rfl, hb⟩
         obtain ⟨_, _, _, _, _, _, h6_, h7_, h8_, h9_, h10_, h11_⟩ := hHeld
         have o_ := fun (p_ : Addr) (v_ : Value) => @on_ _ _ p_ v_ hb
         refine ⟨_, rfl, ?_⟩
         have n0_ := A_ (Kd.R_below (pr_ HO_3.out) hb); have n1_ := A_ (Kd.R_below (pr_ HO_4.out) hb); have n2_ := A_ (Kd.R_below (pr_ HO526.out) hb); have n3_ := A_ (kb_ BK534 hb); have n4_ := A_ (below_step bw_ hb); replace HO_3 := n0_; replace HO_4 := n1_; replace HO526 := n2_; replace BK534 := n3_; replace HB := n4_; clear n0_ n1_ n2_ n3_ n4_
         (try clear hb)
         (try clear hb2)
         (try clear hk)
         (try clear hi)
         refine hK.out _ _ ⟨e_ BK534 0, e_ BK534 1, e_ BK534 2, e_ BK534 3, e_ BK534 4, e_ BK534 5, o_ _ _ h6_, o_ _ _ h7_, o_ _ _ h8_, o_ _ _ h9_, o_ _ _ h10_, o_ _ _ h11_⟩ (fun hHeld => ?_)
         clear hK K
         refine norm_ (a' := ?_) ?_ ?_
         rotate_left
         · show Act.put _ (some 61) _ = _
           simp only [Act.put, s0_, s1_, s2_, i64_w, i32_w]
           rfl
         refine pq_ 13 62 HT_ ?_
         refine pq_ 14 63 HT_ ?_
         refine done_ (done_of HT_.out (by kernel_rfl)) ?_
         try go_wp2
         go_roundg k2
         case measure => have := HJ5.out; have := HK2.out; omega
         case rel => exact ⟨(t524), (wrap64 (x5_2 + 1)), (by first | rfl | (simp; done) | (simp [*]; done)), H', ⟨by have := HJ5.out; have := HK2.out; omega⟩, ⟨by (with_reducible repeat (first | apply ra_ | apply rn_ | apply rd_)); exact Kd.R_mono HO526.out (fun _ hk => hk.2.1)⟩, ⟨by (with_reducible repeat (first | apply ra_ | apply rn_ | apply rd_)); exact Kd.R_mono HO_4.out (fun _ hk => hk.2.1)⟩, ⟨by repeat (first | (with_reducible first | exact HB.out | apply wa_ | apply wn_ | apply wd_ | refine ws_ ?_ GE534.out) | exact HB.out)⟩⟩
       · rw [if_neg c17] at H
         have c17b0 : decide (x5_2 < (l0.length : Int)) = false := decide_eq_false c17
         clear c17
         replace H := Option.bind_eq_some_iff.mp H
         obtain ⟨⟨t512, t515, t516, t517, t518, t519, t520, t521⟩, A340, H⟩ := H
         try dsimp only at H
         have A34 := A_ A340
         clear A340
         by_cases c35 : (x3_2.length : Int) = 0
         rotate_left
         · rw [if_neg c35] at H
           exact absurd H (by simp)
         rw [if_pos c35] at H
         have c35b0 : ((x3_2.length : Int) == 0) = true := beq_iff_eq.mpr c35
         have c35b1 : ((x3_2.length : Int) != 0) = false := bne_eq_false_iff_eq.mpr c35
         clear c35
         by_cases c36 : (t512.length : Int) = 0
         rotate_left
         · rw [if_neg c36] at H
           exact absurd H (by simp)
         rw [if_pos c36] at H
         have c36b0 : ((t512.length : Int) == 0) = true := beq_iff_eq.mpr c36
         have c36b1 : ((t512.length : Int) != 0) = false := bne_eq_false_iff_eq.mpr c36
         clear c36
         by_cases c37 : t521 = true
         · subst c37
           have H1 : (none) = some r := by rw [if_pos rfl] at H; exact H
           clear H
           have H := H1
           clear H1
           exact absurd H (by simp)
         replace c37 := Bool.eq_false_iff.mpr c37
         subst c37
         have H1 : (if (t515 == 0 && (t516 == 0 && (t517 == 0 && (t518 == 0 && (t519 == 0 && (t520.toList == ([] : List UInt8))))))) = true then ((hopperlaw06_live.f k2).bind fun t523 => (some t523)) else (none)) = some r := by rw [if_neg (show ¬ (false = true) by decide)] at H; exact H
         clear H
         have H := H1
         clear H1
         by_cases c38 : (t515 == 0 && (t516 == 0 && (t517 == 0 && (t518 == 0 && (t519 == 0 && (t520.toList == ([] : List UInt8))))))) = true
         rotate_left
         · rw [if_neg c38] at H
           exact absurd H (by simp)
         rw [if_pos c38] at H
         have c38b0 : (t515 == 0 && (t516 == 0 && (t517 == 0 && (t518 == 0 && (t519 == 0 && (t520.toList == ([] : List UInt8))))))) = true := c38
         obtain ⟨c38q0, c38q1, c38q2, c38q3, c38q4, c38q5⟩ := six_ c38b0
         clear c38
         replace H := Option.bind_eq_some_iff.mp H
         obtain ⟨t523, A390, H⟩ := H
         replace H : (some t523) = some r := H
         have A39 := A_ A390
         clear A390
         obtain rfl := Option.some.inj H
         obtain ⟨Ao40, co40, eo40⟩ := Kd.R_slice HO_3.out
         subst eo40
         go_wp2_with (first | ((with_reducible refine gate_callee (f := 24) rfl ?_); refine goesL_ (some 67) rfl rfl Try.func24 (by kernel_rfl) rfl #[.slice Ao40 x3_2.length co40] rfl (by (try simp only [m0_, m1_, m2_]); first | done | rfl) ?_; (with_reducible refine (heap_Pop.calls _ _ x3_2 t512 t515 t516 t517 t518 t519 t520 false _ ?side1 ?side2 A34.out).mono ?_); (case side1 => repeat (first | exact (Kd.R_reads' HO_3.out).2.2 | (with_reducible refine ca_ ?_ _) | (with_reducible refine cn_ ?_ _) | (with_reducible refine cd_ ?_))); (case side2 => exact (Kd.R_reads' HO_3.out).2.1); rintro e w41 ⟨v513, rfl, ho0, hb⟩; refine ⟨_, rfl, ?_⟩; have n0_ := A_ (Kd.R_elder' (pr_ HO_3.out) (Kd.R_base ho0) hb); have n1_ := A_ (Kd.R_elder' (pr_ HO_4.out) (Kd.R_base ho0) hb); have n2_ := A_ (Kd.R_lower (Kd.R_new' (Kd.R_new' ho0 (Kd.R_lt (pr_ HO_3.out))) (Kd.R_lt (pr_ HO_4.out))) (below_size bw_)); have n3_ := A_ (below_step bw_ hb); replace HO_3 := n0_; replace HO_4 := n1_; have HO514 := n2_; replace HB := n3_; clear n0_ n1_ n2_ n3_; (try clear hb); (try clear hb2); (try clear hk); (try clear hi); (try clear ho0)) | ((with_reducible refine gate_dst (N := 10) rfl ?_); (try (refine gate_guard (by rfl) ?_; dsimp only)); refine box_event ?hg (N := 10) ?hd (cs := #[.int .i64 0, .int .i64 0, .int .i64 0, .int .i64 0, .int .i64 0, .string (⟨#[]⟩ : ByteArray)]) (t := 24) ?hr ?_; (case hd => rfl); (case hg => rfl); (case hr => first | (go_simp; done) | (go_simp; rfl)); intro gb522 hg w42 hbox hb; have n0_ := A_ (Kd.R_below (Kd.R_elderB (pr_ HO_3.out) gb522 (Nat.le_of_eq hg.symm)) hb); have n1_ := A_ (Kd.R_below (Kd.R_elderB (pr_ HO_4.out) gb522 (Nat.le_of_eq hg.symm)) hb); have n2_ := A_ (Kd.R_below (Kd.R_elderB (pr_ HO514.out) gb522 (Nat.le_of_eq hg.symm)) hb); have n3_ := A_ (below_step bw_ hb); have n4_ := A_ (hbox); have n5_ := A_ (gz_ (w := w) hg); have n6_ := A_ (gz_ (w := w) hg); replace HO_3 := n0_; replace HO_4 := n1_; replace HO514 := n2_; replace HB := n3_; have BK522 := n4_; have GW522 := n5_; have GE522 := n6_; clear n0_ n1_ n2_ n3_ n4_ n5_ n6_; clear hb hbox hg; have hcz43_0 : w42.cell? ⟨gb522, 0, none⟩ = some (.int .i64 0) := e_ BK522 0; have hcz43_1 : w42.cell? ⟨gb522, 1, none⟩ = some (.int .i64 0) := e_ BK522 1; have hcz43_2 : w42.cell? ⟨gb522, 2, none⟩ = some (.int .i64 0) := e_ BK522 2; have hcz43_3 : w42.cell? ⟨gb522, 3, none⟩ = some (.int .i64 0) := e_ BK522 3; have hcz43_4 : w42.cell? ⟨gb522, 4, none⟩ = some (.int .i64 0) := e_ BK522 4; have hcz43_5 : w42.cell? ⟨gb522, 5, none⟩ = some (.string (⟨#[]⟩ : ByteArray)) := e_ BK522 5; obtain ⟨hfz43_0, hfz43_1, hfz43_2, hfz43_3, hfz43_4, hfz43_5⟩ := z6_ BK522; obtain ⟨Ao44, co44, eo44⟩ := Kd.R_slice HO514.out; subst eo44) | (go_at_call 23; (with_reducible refine (hopperlaw06_live.calls k2  t523 _ A39.out).mono ?_); rintro e w45 ⟨rfl, hb⟩; replace HO_3 := A_ (Kd.R_below (by (with_reducible repeat (first | apply ra_ | apply rn_ | apply rd_)); exact (Kd.R_mono (f6_ (g := gb522) (Kd.R_mono HO_3.out (fun k_ hk => (⟨hk, hk.2⟩ : _ ∧ k_ ≠ gb522))) (fun _ hk => hk.2) (.int .i64 t515) (.int .i64 t516) (.int .i64 t517) (.int .i64 t518) (.int .i64 t519) (.string t520)) (fun _ h_ => h_.1))) hb); replace HO_4 := A_ (Kd.R_below (by (with_reducible repeat (first | apply ra_ | apply rn_ | apply rd_)); exact (Kd.R_mono (f6_ (g := gb522) (Kd.R_mono HO_4.out (fun k_ hk => (⟨hk, hk.2⟩ : _ ∧ k_ ≠ gb522))) (fun _ hk => hk.2) (.int .i64 t515) (.int .i64 t516) (.int .i64 t517) (.int .i64 t518) (.int .i64 t519) (.string t520)) (fun _ h_ => h_.1))) hb); replace HO514 := A_ (Kd.R_below (by (with_reducible repeat (first | apply ra_ | apply rn_ | apply rd_)); exact (Kd.R_mono (f6_ (g := gb522) (Kd.R_mono HO514.out (fun k_ hk => (⟨hk, hk.2⟩ : _ ∧ k_ ≠ gb522))) (fun _ hk => hk.2) (.int .i64 t515) (.int .i64 t516) (.int .i64 t517) (.int .i64 t518) (.int .i64 t519) (.string t520)) (fun _ h_ => h_.1))) hb); replace BK522 := A_ (blk_below (g := gb522) (o := .cells #[.int .i64 t515, .int .i64 t516, .int .i64 t517, .int .i64 t518, .int .i64 t519, .string t520] 24 (0, 0)) (by exact pk_ (b6_ BK522.out)) hb); replace HB := A_ (below_step bw_ hb); (try clear hb); (try clear hb2); (try clear hk); (try clear hi)))
         go_ret
         exact ⟨by first | rfl | (simp [errW_none, errW_some] <;> rfl) | (simp [*, errW_none, errW_some] <;> rfl), by repeat (first | (with_reducible first | exact HB.out | apply wa_ | apply wn_ | apply wd_ | refine ws_ ?_ GE522.out) | exact HB.out)⟩
 · replace c3 := Bool.eq_false_iff.mpr c3
   subst c3
   have H1 : ((hopperlaw06_live.f k).bind fun t504 => (some t504)) = some r := by rw [if_neg (show ¬ (false = true) by decide)] at H; exact H
   clear H
   have H := H1
   clear H1
   replace H := Option.bind_eq_some_iff.mp H
   obtain ⟨t504, A460, H⟩ := H
   replace H : (some t504) = some r := H
   have A46 := A_ A460
   clear A460
   obtain rfl := Option.some.inj H
   go_enter Try.func4, Try.ntmps4
   go_wp2_with (first | ((with_reducible refine gate_callee (f := 21) rfl ?_); refine goesL_ (some 13) rfl rfl Try.func21 (by kernel_rfl) rfl #[.slice A0 l0.length c0, .int .i64 40] rfl (by (try simp only [m0_, m1_, m2_]); first | done | rfl) ?_; (with_reducible refine (hopperref04_Few.calls k _ _ l0 40 false _ ?side1 ?side2 A2.out).mono ?_); (case side1 => repeat (first | exact HR0.out | (with_reducible refine ca_ ?_ _) | (with_reducible refine cn_ ?_ _) | (with_reducible refine cd_ ?_))); (case side2 => exact HC0.out); rintro e w47 ⟨rfl, hb⟩; refine ⟨_, rfl, ?_⟩; replace HB := A_ (below_step bw_ hb); (try clear hb); (try clear hb2); (try clear hk); (try clear hi)) | ((with_reducible refine gate_callee (f := 23) rfl ?_); refine goesL_ (some 15) rfl rfl Try.func23 (by kernel_rfl) rfl #[] rfl (by (try simp only [m0_, m1_, m2_]); first | done | rfl) ?_; (with_reducible refine (hopperlaw06_live.calls k  t504 _ A46.out).mono ?_); rintro e w48 ⟨rfl, hb⟩; refine ⟨_, rfl, ?_⟩; replace HB := A_ (below_step bw_ hb); (try clear hb); (try clear hb2); (try clear hk); (try clear hi)))
   go_ret
   exact ⟨by first | rfl | (simp [errW_none, errW_some] <;> rfl) | (simp [*, errW_none, errW_some] <;> rfl), by repeat (first | (with_reducible first | exact HB.out | apply wa_ | apply wn_ | apply wd_) | exact HB.out)⟩

open Go.Proofs.Ytehncbhmdgdkjaa.Row (okI okB okS okL) in
/-- THE ONE PURE STATEMENT of hopperlaw06_HeapPops. -/
def hopperlaw06_HeapPops.Pure : Prop := ∀ (l0 : List (S24)), (okL ok24) l0 → ∃ k, hopperlaw06_HeapPops.f k l0 = some true

end Go.Proofs.Ytehncbhmdgdkjaa.L
