/- Written by this session's own program over the kit's print: functions of Go told as plain functions, or the row of one statement; proved for every input, with no condition of ours. -/
import Derived.Test.YtahopljippfadaaDx0
import Derived.Test.YtahopljippfadaaDx2
import Derived.Test.YtahopljippfadaaDx4
import Derived.Test.YtahopljippfadaaDx8
import Derived.Test.YtahopljippfadaaDx9
import Derived.Test.YtahopljippfadaaDx10
import Derived.Test.YtahopljippfadaaDx11
import Derived.Test.YtahopljippfadaaDx12
import Derived.Test.YtahopljippfadaaDx13
import Derived.Test.YtahopljippfadaaDx16
namespace Go.Proofs.Ytahopljippfadaa.D
open Go.RowKit Go.Proofs.YtahopljippfadaaW.PrintWords Go.Proofs.YtahopljippfadaaW.PrintLast Go.Proofs.YtahopljippfadaaW.PrintMore
attribute [local go_sem] max2_int min2_int max_two min_two max_three min_three max_four min_four   -- for this text's walks alone
set_option linter.unusedVariables false
set_option linter.unusedSimpArgs false

/-! ### hopperref12_Follows: function 19 -/
mutual
def hopperref12_Follows.l0 : Nat → List (S38) → List (S35) → Int → Option (Bool)
 | 0, _, _, _ => none
 | k + 1, x1, x5, x6 => if x6 < (x1.length : Int) then (if 0 ≤ x6 then ((hopperref12_of.f k x1 ((rd_T38 x1 x6).f0)).bind fun t363 => (hopperref12_Follows.l1 k x1 x5 x6 t363 ([] : List (S38)) 0)) else (none)) else (some true)
def hopperref12_Follows.l1 : Nat → List (S38) → List (S35) → Int → List (S38) → List (S38) → Int → Option (Bool)
 | 0, _, _, _, _, _, _ => none
 | k + 1, x1, x5, x6, x7, x8, x9 => if x9 < (x5.length : Int) then (if 0 ≤ x9 then (if 0 ≤ x6 then (if x6 < (x1.length : Int) then (if ((rd_T35 x5 x9).f0) = ((rd_T38 x1 x6).f0) then ((hopperref12_Line.f k ((rd_T35 x5 x9).f0) ((rd_T35 x5 x9).f1) ((rd_T35 x5 x9).f2)).bind fun t369 => (hopperref12_Follows.l1 k x1 x5 x6 x7 t369 (wrap64 (x9 + 1)))) else (hopperref12_Follows.l1 k x1 x5 x6 x7 x8 (wrap64 (x9 + 1)))) else (none)) else (none)) else (none)) else (if (x7.length : Int) > (x8.length : Int) then (some false) else (if 0 ≤ (x7.length : Int) then (if (x7.length : Int) ≤ (x8.length : Int) then ((hopperref04_Txs.f k x7 (x8.take ((x7.length : Int) : Int).toNat)).bind fun t377 => (if t377 = true then (hopperref12_Follows.l0 k x1 x5 (wrap64 (x6 + 1))) else (some false))) else (none)) else (none)))
end
def hopperref12_Follows.f (k : Nat) (l0 : List (S35)) (l1 : List (S38)) : Option (Bool) := (hopperref12_firsts.f k l0).bind fun t359 => (hopperref12_Follows.l0 k l1 t359 0)
theorem hopperref12_Follows.mono_l : ∀ k, (∀ y0 y1 y2, LeO (hopperref12_Follows.l0 k y0 y1 y2) (hopperref12_Follows.l0 (k + 1) y0 y1 y2)) ∧ (∀ y0 y1 y2 y3 y4 y5, LeO (hopperref12_Follows.l1 k y0 y1 y2 y3 y4 y5) (hopperref12_Follows.l1 (k + 1) y0 y1 y2 y3 y4 y5))
 | 0 => ⟨fun _ _ _ r h => by simp [hopperref12_Follows.l0] at h, fun _ _ _ _ _ _ r h => by simp [hopperref12_Follows.l1] at h⟩
 | k + 1 => by
  obtain ⟨ih0, ih1⟩ := hopperref12_Follows.mono_l k
  refine ⟨?_, ?_⟩
  · intro y0 y1 y2
    unfold hopperref12_Follows.l0
    repeat' first
    | (with_reducible exact ih0 _ _ _)
    | (with_reducible exact ih1 _ _ _ _ _ _)
    | (with_reducible exact hopperref04_Txs.mono _ _ _)
    | (with_reducible exact hopperref12_Line.mono _ _ _ _)
    | (with_reducible exact hopperref12_firsts.mono _ _)
    | (with_reducible exact hopperref12_of.mono _ _ _)
    | (with_reducible exact LeO.refl _)
    | (with_reducible exact LeO.none _)
    | (with_reducible refine LeO.ite ?_ ?_)
    | (with_reducible refine LeO.bind ?_ (fun _ => ?_))
    | exact ih0 _ _ _
    | exact ih1 _ _ _ _ _ _
    | exact hopperref04_Txs.mono _ _ _
    | exact hopperref12_Line.mono _ _ _ _
    | exact hopperref12_firsts.mono _ _
    | exact hopperref12_of.mono _ _ _
    | exact LeO.none _
    | refine LeO.ite ?_ ?_
    | refine LeO.bind ?_ (fun _ => ?_)
  · intro y0 y1 y2 y3 y4 y5
    unfold hopperref12_Follows.l1
    repeat' first
    | (with_reducible exact ih0 _ _ _)
    | (with_reducible exact ih1 _ _ _ _ _ _)
    | (with_reducible exact hopperref04_Txs.mono _ _ _)
    | (with_reducible exact hopperref12_Line.mono _ _ _ _)
    | (with_reducible exact hopperref12_firsts.mono _ _)
    | (with_reducible exact hopperref12_of.mono _ _ _)
    | (with_reducible exact LeO.refl _)
    | (with_reducible exact LeO.none _)
    | (with_reducible refine LeO.ite ?_ ?_)
    | (with_reducible refine LeO.bind ?_ (fun _ => ?_))
    | exact ih0 _ _ _
    | exact ih1 _ _ _ _ _ _
    | exact hopperref04_Txs.mono _ _ _
    | exact hopperref12_Line.mono _ _ _ _
    | exact hopperref12_firsts.mono _ _
    | exact hopperref12_of.mono _ _ _
    | exact LeO.none _
    | refine LeO.ite ?_ ?_
    | refine LeO.bind ?_ (fun _ => ?_)
theorem hopperref12_Follows.mono : ∀ a0 a1 k, LeO (hopperref12_Follows.f k a0 a1) (hopperref12_Follows.f (k + 1) a0 a1) := by
 intro a0 a1 k
 obtain ⟨ih0, ih1⟩ := hopperref12_Follows.mono_l k
 unfold hopperref12_Follows.f
 repeat' first
  | (with_reducible exact ih0 _ _ _)
  | (with_reducible exact ih1 _ _ _ _ _ _)
  | (with_reducible exact hopperref04_Txs.mono _ _ _)
  | (with_reducible exact hopperref12_Line.mono _ _ _ _)
  | (with_reducible exact hopperref12_firsts.mono _ _)
  | (with_reducible exact hopperref12_of.mono _ _ _)
  | (with_reducible exact LeO.refl _)
  | (with_reducible exact LeO.none _)
  | (with_reducible refine LeO.ite ?_ ?_)
  | (with_reducible refine LeO.bind ?_ (fun _ => ?_))
  | exact ih0 _ _ _
  | exact ih1 _ _ _ _ _ _
  | exact hopperref04_Txs.mono _ _ _
  | exact hopperref12_Line.mono _ _ _ _
  | exact hopperref12_firsts.mono _ _
  | exact hopperref12_of.mono _ _ _
  | exact LeO.none _
  | refine LeO.ite ?_ ?_
  | refine LeO.bind ?_ (fun _ => ?_)
set_option maxHeartbeats 8000000 in
set_option maxRecDepth 100000 in
theorem hopperref12_Follows.calls (k : Nat) (A0 : Option Addr) (c0 : Nat) (l0 : List (S35)) (A1 : Option Addr) (c1 : Nat) (l1 : List (S38)) (r : Bool) (w : World) (hr0 : Kd.C k35 w A0 l0.length l0) (hc0 : l0.length ≤ c0) (hr1 : Kd.C k38 w A1 l1.length l1) (hc1 : l1.length ≤ c1) (h : hopperref12_Follows.f k l0 l1 = some r) :
 Calls Try.prog 19 #[.slice A0 l0.length c0, .slice A1 l1.length c1] w fun e w' => e = .returned (.bool r) ∧ Below w.heap.size w w' := by
 have hu35 := Try.underlying35
 have HR0 := A_ hr0
 have HC0 := A_ hc0
 clear hr0 hc0
 have HR1 := A_ hr1
 have HC1 := A_ hc1
 clear hr1 hc1; have HB := A_ (Below.refl w.heap.size w)
 have H : ((hopperref12_firsts.f k l0).bind fun t359 => (hopperref12_Follows.l0 k l1 t359 0)) = some r := h
 clear h
 replace H := Option.bind_eq_some_iff.mp H
 obtain ⟨t359, A30, H⟩ := H
 try dsimp only at H
 have A3 := A_ A30
 clear A30
 have H' := A_ H
 clear H
 go_enter Try.func19, Try.ntmps19
 go_wp2_with (first | (go_at_call 28; (with_reducible refine (hopperref12_firsts.calls k (fun k_ => k_ < w.heap.size) _ _ l0 t359 _ ?side1 A3.out).mono ?_); (case side1 => exact Kd.V_mk HC0.out (Kd.F_below (Kd.C_F k35_heap HR0.out) bw_)); rintro e w4 ⟨v360, rfl, ho0, hb⟩; have HO361 := A_ (Kd.N_lower (Kd.N_mono (ok' := fun k_ => True) ho0 (fun k_ hk_ => trivial)) (below_size bw_)); replace HB := A_ (below_step bw_ hb); (try clear hb); (try clear hb2); (try clear hk); (try clear hi); (try clear ho0)))
 repeat (go_quiet (first | (go_at_call 28; (with_reducible refine (hopperref12_firsts.calls k (fun k_ => k_ < w.heap.size) _ _ l0 t359 _ ?side1 A3.out).mono ?_); (case side1 => exact Kd.V_mk HC0.out (Kd.F_below (Kd.C_F k35_heap HR0.out) bw_)); rintro e w4 ⟨v360, rfl, ho0, hb⟩; have HO361 := A_ (Kd.N_lower (Kd.N_mono (ok' := fun k_ => True) ho0 (fun k_ hk_ => trivial)) (below_size bw_)); replace HB := A_ (below_step bw_ hb); (try clear hb); (try clear hb2); (try clear hk); (try clear hi); (try clear ho0))); try go_wp2_with (first | (go_at_call 28; (with_reducible refine (hopperref12_firsts.calls k (fun k_ => k_ < w.heap.size) _ _ l0 t359 _ ?side1 A3.out).mono ?_); (case side1 => exact Kd.V_mk HC0.out (Kd.F_below (Kd.C_F k35_heap HR0.out) bw_)); rintro e w4 ⟨v360, rfl, ho0, hb⟩; have HO361 := A_ (Kd.N_lower (Kd.N_mono (ok' := fun k_ => True) ho0 (fun k_ hk_ => trivial)) (below_size bw_)); replace HB := A_ (below_step bw_ hb); (try clear hb); (try clear hb2); (try clear hk); (try clear hi); (try clear ho0))))
 go_loopg [6] k (fun kq v6 w' => ∃ (x6_1 : Int), v6 = .int .i64 x6_1 ∧ Aside0 (hopperref12_Follows.l0 kq l1 t359 x6_1 = some r) ∧ Aside0 (kq ≤ k) ∧ Aside0 (Kd.N k35 35 w' w.heap.size (fun _ => True) v360 t359) ∧ Aside0 (Below w.heap.size w w'))
 case atStart => exact ⟨(0), (by first | rfl | (simp; done) | (simp [*]; done)), H', ⟨Nat.le_refl _⟩, ⟨by (with_reducible repeat (first | apply Kd.N_alloc | apply Kd.N_drewN | apply Kd.N_drew)); exact HO361.out⟩, ⟨by repeat (first | (with_reducible first | exact HB.out | apply wa_ | apply wn_ | apply wd_) | exact HB.out)⟩⟩
 case round =>
  clear H'; (try clear c1); (try clear p2)
  obtain ⟨x6_1, rfl, HA, HK1, HO_5, HB⟩ := hrel
  cases gk with
  | zero => exact absurd HA.out (by simp [hopperref12_Follows.l0])
  | succ k1 =>
   have H := HA.out
   clear HA
   simp only [hopperref12_Follows.l0] at H
   by_cases c5 : x6_1 < (l1.length : Int)
   rotate_left
   · rw [if_neg c5] at H
     have c5b0 : decide (x6_1 < (l1.length : Int)) = false := decide_eq_false c5
     clear c5
     obtain rfl := Option.some.inj H
     go_wp2
     repeat (go_quiet (fail); try go_wp2)
     go_ret
     exact ⟨by first | rfl | (simp [errW_none, errW_some] <;> rfl) | (simp [*, errW_none, errW_some] <;> rfl), by repeat (first | (with_reducible first | exact HB.out | apply wa_ | apply wn_ | apply wd_) | exact HB.out)⟩

   rw [if_pos c5] at H
   have c5b0 : decide (x6_1 < (l1.length : Int)) = true := decide_eq_true c5
   clear c5
   by_cases c6 : 0 ≤ x6_1
   rotate_left
   · rw [if_neg c6] at H
     exact absurd H (by simp)
   rw [if_pos c6] at H
   have c6b0 : decide (0 ≤ x6_1) = true := decide_eq_true c6
   clear c6
   replace H := Option.bind_eq_some_iff.mp H
   obtain ⟨t363, A70, H⟩ := H
   try dsimp only at H
   have A7 := A_ A70
   clear A70
   have H' := A_ H
   clear H
   have p362 : 0 ≤ (x6_1 : Int) := of_decide_eq_true (by first | (with_reducible assumption) | assumption)
   have q362 : x6_1 < (l1.length : Int) := of_decide_eq_true (by first | (with_reducible assumption) | assumption)
   obtain ⟨ad362, e362, hx362_0, hx362_1, hx362_2, hx362_3, hx362_4, hx362_5⟩ := at_T38 HR1.out x6_1 p362 q362
   cases e362
   replace hx362_0 := on_ HB.out hx362_0
   replace hx362_1 := on_ HB.out hx362_1
   replace hx362_2 := on_ HB.out hx362_2
   replace hx362_3 := on_ HB.out hx362_3
   replace hx362_4 := on_ HB.out hx362_4
   replace hx362_5 := on_ HB.out hx362_5
   replace p362 := eq_true p362
   replace q362 := eq_true q362
   go_wp2_with (first | (go_at_call 35; (with_reducible refine (hopperref12_of.calls k1 _ _ l1 ((rd_T38 l1 x6_1).f0) t363 _ ?side1 ?side2 A7.out).mono ?_); (case side1 => repeat (first | exact (Kd.C_below HR1.out HB.out) | (with_reducible refine ca_ ?_ _) | (with_reducible refine cn_ ?_ _) | (with_reducible refine cd_ ?_))); (case side2 => exact HC1.out); rintro e w8 ⟨v364, rfl, ho0, hb⟩; replace HO_5 := A_ (Kd.N_elder' (by (with_reducible repeat (first | apply Kd.N_alloc | apply Kd.N_drewN | apply Kd.N_drew)); exact HO_5.out) (Kd.R_base ho0) hb); have HO365 := A_ (Kd.R_lower ho0 (below_size bw_)); replace HB := A_ (below_step bw_ hb); (try clear hb); (try clear hb2); (try clear hk); (try clear hi); (try clear ho0)))
   repeat (go_quiet (first | (go_at_call 35; (with_reducible refine (hopperref12_of.calls k1 _ _ l1 ((rd_T38 l1 x6_1).f0) t363 _ ?side1 ?side2 A7.out).mono ?_); (case side1 => repeat (first | exact (Kd.C_below HR1.out HB.out) | (with_reducible refine ca_ ?_ _) | (with_reducible refine cn_ ?_ _) | (with_reducible refine cd_ ?_))); (case side2 => exact HC1.out); rintro e w8 ⟨v364, rfl, ho0, hb⟩; replace HO_5 := A_ (Kd.N_elder' (by (with_reducible repeat (first | apply Kd.N_alloc | apply Kd.N_drewN | apply Kd.N_drew)); exact HO_5.out) (Kd.R_base ho0) hb); have HO365 := A_ (Kd.R_lower ho0 (below_size bw_)); replace HB := A_ (below_step bw_ hb); (try clear hb); (try clear hb2); (try clear hk); (try clear hi); (try clear ho0))); try go_wp2_with (first | (go_at_call 35; (with_reducible refine (hopperref12_of.calls k1 _ _ l1 ((rd_T38 l1 x6_1).f0) t363 _ ?side1 ?side2 A7.out).mono ?_); (case side1 => repeat (first | exact (Kd.C_below HR1.out HB.out) | (with_reducible refine ca_ ?_ _) | (with_reducible refine cn_ ?_ _) | (with_reducible refine cd_ ?_))); (case side2 => exact HC1.out); rintro e w8 ⟨v364, rfl, ho0, hb⟩; replace HO_5 := A_ (Kd.N_elder' (by (with_reducible repeat (first | apply Kd.N_alloc | apply Kd.N_drewN | apply Kd.N_drew)); exact HO_5.out) (Kd.R_base ho0) hb); have HO365 := A_ (Kd.R_lower ho0 (below_size bw_)); replace HB := A_ (below_step bw_ hb); (try clear hb); (try clear hb2); (try clear hk); (try clear hi); (try clear ho0))))
   go_loopg [8, 9] k1 (fun kq v8 v9 w' => ∃ (x8_2 : List (S38)) (x9_2 : Int), v9 = .int .i64 x9_2 ∧ Aside0 (hopperref12_Follows.l1 kq l1 t359 x6_1 t363 x8_2 x9_2 = some r) ∧ Aside0 (kq ≤ k1) ∧ Aside0 (Kd.N k35 35 w' w.heap.size (fun k_ => some k_ ≠ (v364 : Value).ownBlock ∧ some k_ ≠ (v8 : Value).ownBlock) v360 t359) ∧ Aside0 (Kd.R k38 38 w' w.heap.size (fun k_ => some k_ ≠ (v8 : Value).ownBlock) v364 t363) ∧ Aside0 (Kd.R k38 38 w' w.heap.size (fun k_ => some k_ ≠ (v364 : Value).ownBlock) v8 x8_2) ∧ Aside0 (Below w.heap.size w w'))
   case atStart => exact ⟨(([] : List (S38))), (0), (by first | rfl | (simp; done) | (simp [*]; done)), H', ⟨Nat.le_refl _⟩, ⟨by (with_reducible repeat (first | apply Kd.N_alloc | apply Kd.N_drewN | apply Kd.N_drew)); exact Kd.N_mono HO_5.out (fun _ hk => ⟨hk.2, (by simp [Value.ownBlock])⟩)⟩, ⟨by (with_reducible repeat (first | apply ra_ | apply rn_ | apply rd_)); exact Kd.R_mono HO365.out (fun _ hk => (by simp [Value.ownBlock]))⟩, ⟨by first | exact Kd.R_nil _ _ _ _ _ | exact Kd.N_nil _ _ _ _ _ | exact Kd.V_nil _ _ _ _ _ | exact Kd.Q_nil _ _ _ _ _ | exact Kd.S_nil _ _ _ _ _⟩, ⟨by repeat (first | (with_reducible first | exact HB.out | apply wa_ | apply wn_ | apply wd_) | exact HB.out)⟩⟩
   case round =>
    clear H'; (try clear c1); (try clear p2); (try clear p3); (try clear q3); (try clear hx3); (try clear c5); (try clear c5b0); (try clear c6); (try clear c6b0); (try clear hx362_0); (try clear hx362_1); (try clear hx362_2); (try clear hx362_3); (try clear hx362_4); (try clear hx362_5); (try clear p2); (try clear p362); (try clear q362)
    obtain ⟨x8_2, x9_2, rfl, HA, HK2, HO_5, HO_7, HO_8, HB⟩ := hrel
    cases gk with
    | zero => exact absurd HA.out (by simp [hopperref12_Follows.l1])
    | succ k2 =>
     have H := HA.out
     clear HA
     simp only [hopperref12_Follows.l1] at H
     by_cases c9 : x9_2 < (t359.length : Int)
     · rw [if_pos c9] at H
       have c9b0 : decide (x9_2 < (t359.length : Int)) = true := decide_eq_true c9
       clear c9
       by_cases c10 : 0 ≤ x9_2
       rotate_left
       · rw [if_neg c10] at H
         exact absurd H (by simp)
       rw [if_pos c10] at H
       have c10b0 : decide (0 ≤ x9_2) = true := decide_eq_true c10
       clear c10
       by_cases c11 : 0 ≤ x6_1
       rotate_left
       · rw [if_neg c11] at H
         exact absurd H (by simp)
       rw [if_pos c11] at H
       have c11b0 : decide (0 ≤ x6_1) = true := decide_eq_true c11
       clear c11
       by_cases c12 : x6_1 < (l1.length : Int)
       rotate_left
       · rw [if_neg c12] at H
         exact absurd H (by simp)
       rw [if_pos c12] at H
       have c12b0 : decide (x6_1 < (l1.length : Int)) = true := decide_eq_true c12
       clear c12
       by_cases c13 : ((rd_T35 t359 x9_2).f0) = ((rd_T38 l1 x6_1).f0)
       · rw [if_pos c13] at H
         have c13b0 : (((rd_T35 t359 x9_2).f0) == ((rd_T38 l1 x6_1).f0)) = true := beq_iff_eq.mpr c13
         have c13b1 : (((rd_T35 t359 x9_2).f0) != ((rd_T38 l1 x6_1).f0)) = false := bne_eq_false_iff_eq.mpr c13
         clear c13
         replace H := Option.bind_eq_some_iff.mp H
         obtain ⟨t369, A140, H⟩ := H
         try dsimp only at H
         have A14 := A_ A140
         clear A140
         have H' := A_ H
         clear H
         obtain ⟨Ao15, co15, eo15⟩ := Kd.N_slice HO_5.out
         subst eo15
         have p366 : 0 ≤ (x9_2 : Int) := of_decide_eq_true (by first | (with_reducible assumption) | assumption)
         have q366 : x9_2 < (t359.length : Int) := of_decide_eq_true (by first | (with_reducible assumption) | assumption)
         obtain ⟨ad366, A366_2, c366_2, e366, hx366_0, hx366_1, hx366_2, hl366_2, hi366_2⟩ := at_T35 (Kd.N_reads' HO_5.out).2.2 x9_2 p366 q366
         cases e366
         obtain ⟨ce366, hce366, hMe366, hcc366⟩ := Kd.N_get HO_5.out z35 x9_2 p366 (by first | exact q366 | exact of_decide_eq_true (by first | (with_reducible assumption) | assumption) | (have e_ := (Kd.N_reads' HO_5.out).1; omega))
         obtain ⟨ua366_2, uc366_2, rfl, ul366_2, ge366_2⟩ := k35_openF hMe366
         have hv366_2 := hcc366 2 _ rfl
         rw [add_field _ _ 2 (by omega)] at hv366_2
         replace hv366_2 := Option.some.inj (hv366_2.symm.trans hx366_2)
         injection hv366_2 with hva_ hvn_ hvc_
         rw [hva_] at ge366_2
         rw [hvc_] at ul366_2
         have HL366_2 := A_ (show Kd.V k38 38 _ w.heap.size _ _ ((rd_T35 t359 x9_2).f2) from Kd.V_mk ul366_2 ge366_2)
         clear hva_ hvn_ hvc_ ge366_2 ul366_2; clear hcc366 hce366
         have HR366_2 := A_ hi366_2
         have HC366_2 := A_ hl366_2
         clear hi366_2 hl366_2
         replace p366 := eq_true p366
         replace q366 := eq_true q366
         have p367 : 0 ≤ (x6_1 : Int) := of_decide_eq_true (by first | (with_reducible assumption) | assumption)
         have q367 : x6_1 < (l1.length : Int) := of_decide_eq_true (by first | (with_reducible assumption) | assumption)
         obtain ⟨ad367, e367, hx367_0, hx367_1, hx367_2, hx367_3, hx367_4, hx367_5⟩ := at_T38 HR1.out x6_1 p367 q367
         obtain rfl : ad362 = ad367 := (by injection e367)
         replace hx367_0 := on_ HB.out hx367_0
         replace hx367_1 := on_ HB.out hx367_1
         replace hx367_2 := on_ HB.out hx367_2
         replace hx367_3 := on_ HB.out hx367_3
         replace hx367_4 := on_ HB.out hx367_4
         replace hx367_5 := on_ HB.out hx367_5
         replace p367 := eq_true p367
         replace q367 := eq_true q367
         have p368 : 0 ≤ (x9_2 : Int) := of_decide_eq_true (by first | (with_reducible assumption) | assumption)
         have q368 : x9_2 < (t359.length : Int) := of_decide_eq_true (by first | (with_reducible assumption) | assumption)
         obtain ⟨ad368, A368_2, c368_2, e368, hx368_0, hx368_1, hx368_2, hl368_2, hi368_2⟩ := at_T35 (Kd.N_reads' HO_5.out).2.2 x9_2 p368 q368
         obtain rfl : ad366 = ad368 := (by injection e368)
         obtain ⟨ce368, hce368, hMe368, hcc368⟩ := Kd.N_get HO_5.out z35 x9_2 p368 (by first | exact q368 | exact of_decide_eq_true (by first | (with_reducible assumption) | assumption) | (have e_ := (Kd.N_reads' HO_5.out).1; omega))
         obtain ⟨ua368_2, uc368_2, rfl, ul368_2, ge368_2⟩ := k35_openF hMe368
         have hv368_2 := hcc368 2 _ rfl
         rw [add_field _ _ 2 (by omega)] at hv368_2
         replace hv368_2 := Option.some.inj (hv368_2.symm.trans hx368_2)
         injection hv368_2 with hva_ hvn_ hvc_
         rw [hva_] at ge368_2
         rw [hvc_] at ul368_2
         have HL368_2 := A_ (show Kd.V k38 38 _ w.heap.size _ _ ((rd_T35 t359 x9_2).f2) from Kd.V_mk ul368_2 ge368_2)
         clear hva_ hvn_ hvc_ ge368_2 ul368_2; clear hcc368 hce368
         have HR368_2 := A_ hi368_2
         have HC368_2 := A_ hl368_2
         clear hi368_2 hl368_2
         replace p368 := eq_true p368
         replace q368 := eq_true q368
         have ea_ := Option.some.inj (hx366_2.symm.trans hx368_2)
         injection ea_ with ea_ en_ ec_
         subst ea_
         subst ec_
         clear en_
         go_wp2_with (first | (go_at_call 29; (with_reducible refine (hopperref12_Line.calls k2 ((rd_T35 t359 x9_2).f0) ((rd_T35 t359 x9_2).f1) _ _ ((rd_T35 t359 x9_2).f2) t369 _ ?side1 ?side2 A14.out).mono ?_); (case side1 => repeat (first | exact (by repeat (first | (with_reducible exact HR368_2.out) | (with_reducible refine ca_ ?_ _) | (with_reducible refine cn_ ?_ _) | (with_reducible refine cd_ ?_) | exact HR368_2.out)) | (with_reducible refine ca_ ?_ _) | (with_reducible refine cn_ ?_ _) | (with_reducible refine cd_ ?_))); (case side2 => exact HC368_2.out); rintro e w16 ⟨v370, rfl, ho0, hb⟩; have n0_ := A_ (Kd.N_elder' (by (with_reducible repeat (first | apply Kd.N_alloc | apply Kd.N_drewN | apply Kd.N_drew)); exact HO_5.out) (Kd.R_base ho0) hb); have n1_ := A_ (Kd.R_elder' (pr_ HO_7.out) (Kd.R_base ho0) hb); have n2_ := A_ (Kd.R_elder' (pr_ HO_8.out) (Kd.R_base ho0) hb); have n3_ := A_ (Kd.V_elder' (by (with_reducible repeat (first | apply Kd.V_alloc | apply Kd.V_drewN | apply Kd.V_drew)); exact HL366_2.out) (Kd.R_base ho0) hb); have n4_ := A_ (Kd.V_elder' (by (with_reducible repeat (first | apply Kd.V_alloc | apply Kd.V_drewN | apply Kd.V_drew)); exact HL368_2.out) (Kd.R_base ho0) hb); have n5_ := A_ (Kd.R_lower (Kd.R_new' (Kd.R_new' ho0 (Kd.R_lt (pr_ HO_7.out))) (Kd.R_lt (pr_ HO_8.out))) (below_size bw_)); have n6_ := A_ (Kd.C_below (by repeat (first | (with_reducible exact HR366_2.out) | (with_reducible refine ca_ ?_ _) | (with_reducible refine cn_ ?_ _) | (with_reducible refine cd_ ?_) | exact HR366_2.out)) hb); have n7_ := A_ (Kd.C_below (by repeat (first | (with_reducible exact HR368_2.out) | (with_reducible refine ca_ ?_ _) | (with_reducible refine cn_ ?_ _) | (with_reducible refine cd_ ?_) | exact HR368_2.out)) hb); have n8_ := A_ (below_step bw_ hb); replace HO_5 := n0_; replace HO_7 := n1_; replace HO_8 := n2_; replace HL366_2 := n3_; replace HL368_2 := n4_; have HO371 := n5_; replace HR366_2 := n6_; replace HR368_2 := n7_; replace HB := n8_; clear n0_ n1_ n2_ n3_ n4_ n5_ n6_ n7_ n8_; (try clear hb); (try clear hb2); (try clear hk); (try clear hi); (try clear ho0)))
         repeat (go_quiet (first | (go_at_call 29; (with_reducible refine (hopperref12_Line.calls k2 ((rd_T35 t359 x9_2).f0) ((rd_T35 t359 x9_2).f1) _ _ ((rd_T35 t359 x9_2).f2) t369 _ ?side1 ?side2 A14.out).mono ?_); (case side1 => repeat (first | exact (by repeat (first | (with_reducible exact HR368_2.out) | (with_reducible refine ca_ ?_ _) | (with_reducible refine cn_ ?_ _) | (with_reducible refine cd_ ?_) | exact HR368_2.out)) | (with_reducible refine ca_ ?_ _) | (with_reducible refine cn_ ?_ _) | (with_reducible refine cd_ ?_))); (case side2 => exact HC368_2.out); rintro e w16 ⟨v370, rfl, ho0, hb⟩; have n0_ := A_ (Kd.N_elder' (by (with_reducible repeat (first | apply Kd.N_alloc | apply Kd.N_drewN | apply Kd.N_drew)); exact HO_5.out) (Kd.R_base ho0) hb); have n1_ := A_ (Kd.R_elder' (pr_ HO_7.out) (Kd.R_base ho0) hb); have n2_ := A_ (Kd.R_elder' (pr_ HO_8.out) (Kd.R_base ho0) hb); have n3_ := A_ (Kd.V_elder' (by (with_reducible repeat (first | apply Kd.V_alloc | apply Kd.V_drewN | apply Kd.V_drew)); exact HL366_2.out) (Kd.R_base ho0) hb); have n4_ := A_ (Kd.V_elder' (by (with_reducible repeat (first | apply Kd.V_alloc | apply Kd.V_drewN | apply Kd.V_drew)); exact HL368_2.out) (Kd.R_base ho0) hb); have n5_ := A_ (Kd.R_lower (Kd.R_new' (Kd.R_new' ho0 (Kd.R_lt (pr_ HO_7.out))) (Kd.R_lt (pr_ HO_8.out))) (below_size bw_)); have n6_ := A_ (Kd.C_below (by repeat (first | (with_reducible exact HR366_2.out) | (with_reducible refine ca_ ?_ _) | (with_reducible refine cn_ ?_ _) | (with_reducible refine cd_ ?_) | exact HR366_2.out)) hb); have n7_ := A_ (Kd.C_below (by repeat (first | (with_reducible exact HR368_2.out) | (with_reducible refine ca_ ?_ _) | (with_reducible refine cn_ ?_ _) | (with_reducible refine cd_ ?_) | exact HR368_2.out)) hb); have n8_ := A_ (below_step bw_ hb); replace HO_5 := n0_; replace HO_7 := n1_; replace HO_8 := n2_; replace HL366_2 := n3_; replace HL368_2 := n4_; have HO371 := n5_; replace HR366_2 := n6_; replace HR368_2 := n7_; replace HB := n8_; clear n0_ n1_ n2_ n3_ n4_ n5_ n6_ n7_ n8_; (try clear hb); (try clear hb2); (try clear hk); (try clear hi); (try clear ho0))); try go_wp2_with (first | (go_at_call 29; (with_reducible refine (hopperref12_Line.calls k2 ((rd_T35 t359 x9_2).f0) ((rd_T35 t359 x9_2).f1) _ _ ((rd_T35 t359 x9_2).f2) t369 _ ?side1 ?side2 A14.out).mono ?_); (case side1 => repeat (first | exact (by repeat (first | (with_reducible exact HR368_2.out) | (with_reducible refine ca_ ?_ _) | (with_reducible refine cn_ ?_ _) | (with_reducible refine cd_ ?_) | exact HR368_2.out)) | (with_reducible refine ca_ ?_ _) | (with_reducible refine cn_ ?_ _) | (with_reducible refine cd_ ?_))); (case side2 => exact HC368_2.out); rintro e w16 ⟨v370, rfl, ho0, hb⟩; have n0_ := A_ (Kd.N_elder' (by (with_reducible repeat (first | apply Kd.N_alloc | apply Kd.N_drewN | apply Kd.N_drew)); exact HO_5.out) (Kd.R_base ho0) hb); have n1_ := A_ (Kd.R_elder' (pr_ HO_7.out) (Kd.R_base ho0) hb); have n2_ := A_ (Kd.R_elder' (pr_ HO_8.out) (Kd.R_base ho0) hb); have n3_ := A_ (Kd.V_elder' (by (with_reducible repeat (first | apply Kd.V_alloc | apply Kd.V_drewN | apply Kd.V_drew)); exact HL366_2.out) (Kd.R_base ho0) hb); have n4_ := A_ (Kd.V_elder' (by (with_reducible repeat (first | apply Kd.V_alloc | apply Kd.V_drewN | apply Kd.V_drew)); exact HL368_2.out) (Kd.R_base ho0) hb); have n5_ := A_ (Kd.R_lower (Kd.R_new' (Kd.R_new' ho0 (Kd.R_lt (pr_ HO_7.out))) (Kd.R_lt (pr_ HO_8.out))) (below_size bw_)); have n6_ := A_ (Kd.C_below (by repeat (first | (with_reducible exact HR366_2.out) | (with_reducible refine ca_ ?_ _) | (with_reducible refine cn_ ?_ _) | (with_reducible refine cd_ ?_) | exact HR366_2.out)) hb); have n7_ := A_ (Kd.C_below (by repeat (first | (with_reducible exact HR368_2.out) | (with_reducible refine ca_ ?_ _) | (with_reducible refine cn_ ?_ _) | (with_reducible refine cd_ ?_) | exact HR368_2.out)) hb); have n8_ := A_ (below_step bw_ hb); replace HO_5 := n0_; replace HO_7 := n1_; replace HO_8 := n2_; replace HL366_2 := n3_; replace HL368_2 := n4_; have HO371 := n5_; replace HR366_2 := n6_; replace HR368_2 := n7_; replace HB := n8_; clear n0_ n1_ n2_ n3_ n4_ n5_ n6_ n7_ n8_; (try clear hb); (try clear hb2); (try clear hk); (try clear hi); (try clear ho0))))
         go_roundg k2
         case measure => have := HK1.out; have := HK2.out; omega
         case rel => exact ⟨(t369), (wrap64 (x9_2 + 1)), (by first | rfl | (simp; done) | (simp [*]; done)), H', ⟨by have := HK1.out; have := HK2.out; omega⟩, ⟨by (with_reducible repeat (first | apply Kd.N_alloc | apply Kd.N_drewN | apply Kd.N_drew)); exact Kd.N_mono HO_5.out (fun _ hk => ⟨hk.1.1, hk.2⟩)⟩, ⟨by (with_reducible repeat (first | apply ra_ | apply rn_ | apply rd_)); exact Kd.R_mono HO_7.out (fun _ hk => hk.2)⟩, ⟨by (with_reducible repeat (first | apply ra_ | apply rn_ | apply rd_)); exact Kd.R_mono HO371.out (fun _ hk => hk.1.2)⟩, ⟨by repeat (first | (with_reducible first | exact HB.out | apply wa_ | apply wn_ | apply wd_) | exact HB.out)⟩⟩
       · rw [if_neg c13] at H
         have c13b0 : (((rd_T35 t359 x9_2).f0) == ((rd_T38 l1 x6_1).f0)) = false := beq_eq_false_iff_ne.mpr c13
         have c13b1 : (((rd_T35 t359 x9_2).f0) != ((rd_T38 l1 x6_1).f0)) = true := bne_iff_ne.mpr c13
         have H' := A_ H
         clear H
         obtain ⟨Ao17, co17, eo17⟩ := Kd.N_slice HO_5.out
         subst eo17
         have p366 : 0 ≤ (x9_2 : Int) := of_decide_eq_true (by first | (with_reducible assumption) | assumption)
         have q366 : x9_2 < (t359.length : Int) := of_decide_eq_true (by first | (with_reducible assumption) | assumption)
         obtain ⟨ad366, A366_2, c366_2, e366, hx366_0, hx366_1, hx366_2, hl366_2, hi366_2⟩ := at_T35 (Kd.N_reads' HO_5.out).2.2 x9_2 p366 q366
         cases e366
         obtain ⟨ce366, hce366, hMe366, hcc366⟩ := Kd.N_get HO_5.out z35 x9_2 p366 (by first | exact q366 | exact of_decide_eq_true (by first | (with_reducible assumption) | assumption) | (have e_ := (Kd.N_reads' HO_5.out).1; omega))
         obtain ⟨ua366_2, uc366_2, rfl, ul366_2, ge366_2⟩ := k35_openF hMe366
         have hv366_2 := hcc366 2 _ rfl
         rw [add_field _ _ 2 (by omega)] at hv366_2
         replace hv366_2 := Option.some.inj (hv366_2.symm.trans hx366_2)
         injection hv366_2 with hva_ hvn_ hvc_
         rw [hva_] at ge366_2
         rw [hvc_] at ul366_2
         have HL366_2 := A_ (show Kd.V k38 38 _ w.heap.size _ _ ((rd_T35 t359 x9_2).f2) from Kd.V_mk ul366_2 ge366_2)
         clear hva_ hvn_ hvc_ ge366_2 ul366_2; clear hcc366 hce366
         have HR366_2 := A_ hi366_2
         have HC366_2 := A_ hl366_2
         clear hi366_2 hl366_2
         replace p366 := eq_true p366
         replace q366 := eq_true q366
         have p367 : 0 ≤ (x6_1 : Int) := of_decide_eq_true (by first | (with_reducible assumption) | assumption)
         have q367 : x6_1 < (l1.length : Int) := of_decide_eq_true (by first | (with_reducible assumption) | assumption)
         obtain ⟨ad367, e367, hx367_0, hx367_1, hx367_2, hx367_3, hx367_4, hx367_5⟩ := at_T38 HR1.out x6_1 p367 q367
         obtain rfl : ad362 = ad367 := (by injection e367)
         replace hx367_0 := on_ HB.out hx367_0
         replace hx367_1 := on_ HB.out hx367_1
         replace hx367_2 := on_ HB.out hx367_2
         replace hx367_3 := on_ HB.out hx367_3
         replace hx367_4 := on_ HB.out hx367_4
         replace hx367_5 := on_ HB.out hx367_5
         replace p367 := eq_true p367
         replace q367 := eq_true q367
         go_wp2
         repeat (go_quiet (fail); try go_wp2)
         go_roundg k2
         case measure => have := HK1.out; have := HK2.out; omega
         case rel => exact ⟨(x8_2), (wrap64 (x9_2 + 1)), (by first | rfl | (simp; done) | (simp [*]; done)), H', ⟨by have := HK1.out; have := HK2.out; omega⟩, ⟨by (with_reducible repeat (first | apply Kd.N_alloc | apply Kd.N_drewN | apply Kd.N_drew)); exact HO_5.out⟩, ⟨by (with_reducible repeat (first | apply ra_ | apply rn_ | apply rd_)); exact HO_7.out⟩, ⟨by (with_reducible repeat (first | apply ra_ | apply rn_ | apply rd_)); exact HO_8.out⟩, ⟨by repeat (first | (with_reducible first | exact HB.out | apply wa_ | apply wn_ | apply wd_) | exact HB.out)⟩⟩
     · rw [if_neg c9] at H
       have c9b0 : decide (x9_2 < (t359.length : Int)) = false := decide_eq_false c9
       clear c9
       by_cases c18 : (t363.length : Int) > (x8_2.length : Int)
       · rw [if_pos c18] at H
         have c18b0 : decide ((x8_2.length : Int) < (t363.length : Int)) = true := decide_eq_true c18
         have c18b1 : decide (x8_2.length < t363.length) = true := decide_eq_true (Int.ofNat_lt.mp c18)
         clear c18
         obtain rfl := Option.some.inj H
         obtain ⟨Ao19, co19, eo19⟩ := Kd.N_slice HO_5.out
         subst eo19
         obtain ⟨Ao20, co20, eo20⟩ := Kd.R_slice HO_7.out
         subst eo20
         obtain ⟨Ao21, co21, eo21⟩ := Kd.R_slice HO_8.out
         subst eo21
         go_wp2
         repeat (go_quiet (fail); try go_wp2)
         go_ret
         exact ⟨by first | rfl | (simp [errW_none, errW_some] <;> rfl) | (simp [*, errW_none, errW_some] <;> rfl), by repeat (first | (with_reducible first | exact HB.out | apply wa_ | apply wn_ | apply wd_) | exact HB.out)⟩
       · rw [if_neg c18] at H
         have c18b0 : decide ((x8_2.length : Int) < (t363.length : Int)) = false := decide_eq_false c18
         have c18b1 : decide (x8_2.length < t363.length) = false := decide_eq_false (fun h => c18 (Int.ofNat_lt.mpr h))
         clear c18
         by_cases c22 : 0 ≤ (t363.length : Int)
         rotate_left
         · rw [if_neg c22] at H
           exact absurd H (by simp)
         rw [if_pos c22] at H
         have c22b0 := eq_true c22
         have c22b1 : decide (0 ≤ (t363.length : Int)) = true := decide_eq_true c22
         clear c22
         by_cases c23 : (t363.length : Int) ≤ (x8_2.length : Int)
         rotate_left
         · rw [if_neg c23] at H
           exact absurd H (by simp)
         rw [if_pos c23] at H
         have c23b0 := eq_true c23
         have c23b1 : decide ((t363.length : Int) ≤ (x8_2.length : Int)) = true := decide_eq_true c23
         clear c23
         obtain ⟨y372, hy372⟩ : ∃ y_ : List (S38), y_ = (x8_2.take ((t363.length : Int) : Int).toNat) := ⟨_, rfl⟩
         replace H : ((hopperref04_Txs.f k2 t363 y372).bind fun t377 => (if t377 = true then (hopperref12_Follows.l0 k2 l1 t359 (wrap64 (x6_1 + 1))) else (some false))) = some r := by first | (rw [hy372]; with_reducible exact H) | (have H2_ := (Option.bind_some _ _).symm.trans H; rw [hy372]; with_reducible exact H2_) | (have H2_ := (Option.bind_some _ _).symm.trans H; with_reducible exact H2_) | with_reducible exact H | (rw [hy372]; exact H) | exact H
         have Ny372 := A_ hy372
         clear hy372
         replace H := Option.bind_eq_some_iff.mp H
         obtain ⟨t377, A240, H⟩ := H
         try dsimp only at H
         have A24 := A_ A240
         clear A240
         by_cases c25 : t377 = true
         · subst c25
           have H1 : (hopperref12_Follows.l0 k2 l1 t359 (wrap64 (x6_1 + 1))) = some r := by rw [if_pos rfl] at H; exact H
           clear H
           have H := H1
           clear H1
           have H' := A_ H
           clear H
           obtain ⟨Ao26, co26, eo26⟩ := Kd.N_slice HO_5.out
           subst eo26
           obtain ⟨Ao27, co27, eo27⟩ := Kd.R_slice HO_7.out
           subst eo27
           obtain ⟨Ao28, co28, eo28⟩ := Kd.R_slice HO_8.out
           subst eo28
           have q29 : ((t363.length : Int) : Int) ≤ ((x8_2.length : Int) : Int) := of_decide_eq_true (by first | (with_reducible assumption) | assumption)
           obtain ⟨i029, hi029, _, hsz29, _⟩ := info_parts info38
           have hroom29 : x8_2.length ≤ co28 := (Kd.R_reads' HO_8.out).2.1
           have hC29 : Kd.F k38 _ _ Ao28 x8_2.length x8_2 := (Kd.V_at (base := w.heap.size) (Kd.R_V (Kd.R_apart' (HO_8.out) (Kd.N_typed HO_5.out) (by decide)))).2.2
           have hcut29 := cut_to (P := Try.prog) 23 38 .i64 Try.underlying23 hi029 Ao28 x8_2.length co28 (t363.length : Int) (of_decide_eq_true (by first | (with_reducible assumption) | assumption)) q29 hroom29
           have hr29 := Kd.F_take (m := ((t363.length : Int) : Int).toNat) hC29 (by omega)
           have hy29 : y372.length = ((t363.length : Int) : Int).toNat := (by rw [Ny372.out, List.length_take]; omega)
           rw [← Ny372.out] at hr29
           rw [← hy29] at hcut29
           have HO376 := A_ (show Kd.V k38 38 _ w.heap.size _ (.slice Ao28 y372.length co28) y372 from Kd.V_mk (by omega) hr29)
           have HC376 := A_ (show y372.length ≤ co28 from by omega)
           clear hr29 hC29 hroom29 hi029 hsz29
           have KY29 := A_ hy29
           clear hy29
           replace q29 := eq_true q29
           go_wp2_with (first | (go_at_call 13; (with_reducible refine (hopperref04_Txs.calls k2 _ _ t363 _ _ y372 true _ ?side1 ?side2 ?side3 ?side4 A24.out).mono ?_); (case side1 => repeat (first | exact (Kd.R_reads' HO_7.out).2.2 | (with_reducible refine ca_ ?_ _) | (with_reducible refine cn_ ?_ _) | (with_reducible refine cd_ ?_))); (case side2 => exact (Kd.R_reads' HO_7.out).2.1); (case side3 => repeat (first | exact (Kd.V_reads' HO376.out).2.2 | (with_reducible refine ca_ ?_ _) | (with_reducible refine cn_ ?_ _) | (with_reducible refine cd_ ?_))); (case side4 => exact (Kd.V_reads' HO376.out).2.1); rintro e w' ⟨rfl, ⟨nd, rfl⟩⟩; (try first | exact ⟨rfl, _, World.drewN_drewN _ _ _⟩ | exact ⟨rfl, _, Eq.trans (World.drewN_drewN _ _ _) (congrArg (World.drewN _) (Nat.add_assoc _ _ _))⟩)))
           repeat (go_quiet (first | (go_at_call 13; (with_reducible refine (hopperref04_Txs.calls k2 _ _ t363 _ _ y372 true _ ?side1 ?side2 ?side3 ?side4 A24.out).mono ?_); (case side1 => repeat (first | exact (Kd.R_reads' HO_7.out).2.2 | (with_reducible refine ca_ ?_ _) | (with_reducible refine cn_ ?_ _) | (with_reducible refine cd_ ?_))); (case side2 => exact (Kd.R_reads' HO_7.out).2.1); (case side3 => repeat (first | exact (Kd.V_reads' HO376.out).2.2 | (with_reducible refine ca_ ?_ _) | (with_reducible refine cn_ ?_ _) | (with_reducible refine cd_ ?_))); (case side4 => exact (Kd.V_reads' HO376.out).2.1); rintro e w' ⟨rfl, ⟨nd, rfl⟩⟩; (try first | exact ⟨rfl, _, World.drewN_drewN _ _ _⟩ | exact ⟨rfl, _, Eq.trans (World.drewN_drewN _ _ _) (congrArg (World.drewN _) (Nat.add_assoc _ _ _))⟩))); try go_wp2_with (first | (go_at_call 13; (with_reducible refine (hopperref04_Txs.calls k2 _ _ t363 _ _ y372 true _ ?side1 ?side2 ?side3 ?side4 A24.out).mono ?_); (case side1 => repeat (first | exact (Kd.R_reads' HO_7.out).2.2 | (with_reducible refine ca_ ?_ _) | (with_reducible refine cn_ ?_ _) | (with_reducible refine cd_ ?_))); (case side2 => exact (Kd.R_reads' HO_7.out).2.1); (case side3 => repeat (first | exact (Kd.V_reads' HO376.out).2.2 | (with_reducible refine ca_ ?_ _) | (with_reducible refine cn_ ?_ _) | (with_reducible refine cd_ ?_))); (case side4 => exact (Kd.V_reads' HO376.out).2.1); rintro e w' ⟨rfl, ⟨nd, rfl⟩⟩; (try first | exact ⟨rfl, _, World.drewN_drewN _ _ _⟩ | exact ⟨rfl, _, Eq.trans (World.drewN_drewN _ _ _) (congrArg (World.drewN _) (Nat.add_assoc _ _ _))⟩))))
           go_roundg k2
           case measure => have := HK1.out; have := HK2.out; omega
           case rel => exact ⟨(wrap64 (x6_1 + 1)), (by first | rfl | (simp; done) | (simp [*]; done)), H', ⟨by have := HK1.out; have := HK2.out; omega⟩, ⟨by (with_reducible repeat (first | apply Kd.N_alloc | apply Kd.N_drewN | apply Kd.N_drew)); exact Kd.N_mono HO_5.out (fun _ hk => trivial)⟩, ⟨by repeat (first | (with_reducible first | exact HB.out | apply wa_ | apply wn_ | apply wd_) | exact HB.out)⟩⟩
         · replace c25 := Bool.eq_false_iff.mpr c25
           subst c25
           have H1 : (some false) = some r := by rw [if_neg (show ¬ (false = true) by decide)] at H; exact H
           clear H
           have H := H1
           clear H1
           obtain rfl := Option.some.inj H
           obtain ⟨Ao30, co30, eo30⟩ := Kd.N_slice HO_5.out
           subst eo30
           obtain ⟨Ao31, co31, eo31⟩ := Kd.R_slice HO_7.out
           subst eo31
           obtain ⟨Ao32, co32, eo32⟩ := Kd.R_slice HO_8.out
           subst eo32
           have q33 : ((t363.length : Int) : Int) ≤ ((x8_2.length : Int) : Int) := of_decide_eq_true (by first | (with_reducible assumption) | assumption)
           obtain ⟨i033, hi033, _, hsz33, _⟩ := info_parts info38
           have hroom33 : x8_2.length ≤ co32 := (Kd.R_reads' HO_8.out).2.1
           have hC33 : Kd.F k38 _ _ Ao32 x8_2.length x8_2 := (Kd.V_at (base := w.heap.size) (Kd.R_V (Kd.R_apart' (HO_8.out) (Kd.N_typed HO_5.out) (by decide)))).2.2
           have hcut33 := cut_to (P := Try.prog) 23 38 .i64 Try.underlying23 hi033 Ao32 x8_2.length co32 (t363.length : Int) (of_decide_eq_true (by first | (with_reducible assumption) | assumption)) q33 hroom33
           have hr33 := Kd.F_take (m := ((t363.length : Int) : Int).toNat) hC33 (by omega)
           have hy33 : y372.length = ((t363.length : Int) : Int).toNat := (by rw [Ny372.out, List.length_take]; omega)
           rw [← Ny372.out] at hr33
           rw [← hy33] at hcut33
           have HO376 := A_ (show Kd.V k38 38 _ w.heap.size _ (.slice Ao32 y372.length co32) y372 from Kd.V_mk (by omega) hr33)
           have HC376 := A_ (show y372.length ≤ co32 from by omega)
           clear hr33 hC33 hroom33 hi033 hsz33
           have KY33 := A_ hy33
           clear hy33
           replace q33 := eq_true q33
           go_wp2_with (first | (go_at_call 13; (with_reducible refine (hopperref04_Txs.calls k2 _ _ t363 _ _ y372 false _ ?side1 ?side2 ?side3 ?side4 A24.out).mono ?_); (case side1 => repeat (first | exact (Kd.R_reads' HO_7.out).2.2 | (with_reducible refine ca_ ?_ _) | (with_reducible refine cn_ ?_ _) | (with_reducible refine cd_ ?_))); (case side2 => exact (Kd.R_reads' HO_7.out).2.1); (case side3 => repeat (first | exact (Kd.V_reads' HO376.out).2.2 | (with_reducible refine ca_ ?_ _) | (with_reducible refine cn_ ?_ _) | (with_reducible refine cd_ ?_))); (case side4 => exact (Kd.V_reads' HO376.out).2.1); rintro e w' ⟨rfl, ⟨nd, rfl⟩⟩; (try first | exact ⟨rfl, _, World.drewN_drewN _ _ _⟩ | exact ⟨rfl, _, Eq.trans (World.drewN_drewN _ _ _) (congrArg (World.drewN _) (Nat.add_assoc _ _ _))⟩)))
           repeat (go_quiet (first | (go_at_call 13; (with_reducible refine (hopperref04_Txs.calls k2 _ _ t363 _ _ y372 false _ ?side1 ?side2 ?side3 ?side4 A24.out).mono ?_); (case side1 => repeat (first | exact (Kd.R_reads' HO_7.out).2.2 | (with_reducible refine ca_ ?_ _) | (with_reducible refine cn_ ?_ _) | (with_reducible refine cd_ ?_))); (case side2 => exact (Kd.R_reads' HO_7.out).2.1); (case side3 => repeat (first | exact (Kd.V_reads' HO376.out).2.2 | (with_reducible refine ca_ ?_ _) | (with_reducible refine cn_ ?_ _) | (with_reducible refine cd_ ?_))); (case side4 => exact (Kd.V_reads' HO376.out).2.1); rintro e w' ⟨rfl, ⟨nd, rfl⟩⟩; (try first | exact ⟨rfl, _, World.drewN_drewN _ _ _⟩ | exact ⟨rfl, _, Eq.trans (World.drewN_drewN _ _ _) (congrArg (World.drewN _) (Nat.add_assoc _ _ _))⟩))); try go_wp2_with (first | (go_at_call 13; (with_reducible refine (hopperref04_Txs.calls k2 _ _ t363 _ _ y372 false _ ?side1 ?side2 ?side3 ?side4 A24.out).mono ?_); (case side1 => repeat (first | exact (Kd.R_reads' HO_7.out).2.2 | (with_reducible refine ca_ ?_ _) | (with_reducible refine cn_ ?_ _) | (with_reducible refine cd_ ?_))); (case side2 => exact (Kd.R_reads' HO_7.out).2.1); (case side3 => repeat (first | exact (Kd.V_reads' HO376.out).2.2 | (with_reducible refine ca_ ?_ _) | (with_reducible refine cn_ ?_ _) | (with_reducible refine cd_ ?_))); (case side4 => exact (Kd.V_reads' HO376.out).2.1); rintro e w' ⟨rfl, ⟨nd, rfl⟩⟩; (try first | exact ⟨rfl, _, World.drewN_drewN _ _ _⟩ | exact ⟨rfl, _, Eq.trans (World.drewN_drewN _ _ _) (congrArg (World.drewN _) (Nat.add_assoc _ _ _))⟩))))
           go_ret
           exact ⟨by first | rfl | (simp [errW_none, errW_some] <;> rfl) | (simp [*, errW_none, errW_some] <;> rfl), by repeat (first | (with_reducible first | exact HB.out | apply wa_ | apply wn_ | apply wd_) | exact HB.out)⟩
/-! ### hopperlaw12_GreedyTells: function 3 -/
def hopperlaw12_GreedyTells.j0 : Nat → List (S35) → Int → List (S38) → Bool → Option (Bool)
 | 0, _, _, _, _ => none
 | k + 1, x0, x1, x2, x18 => if x18 = true then ((hopperlaw12_live.f k).bind fun t380 => (some t380)) else ((greedy_Totals.f k x2).bind fun bt381 => ((hopperref12_Totals.f k x2).bind fun bt383 => ((greedy_Heads.f x0).bind fun t385 => ((hopperref12_Heads.f k x0).bind fun t388 => ((hopperref04_Txs.f k t385 t388).bind fun t391 => (if t391 = true then ((greedy_Template.f x0 x1).bind fun t392 => ((hopperref12_Template.f k x0 x1).bind fun t395 => ((hopperref04_Txs.f k t392 t395).bind fun t398 => (if t398 = true then (if bt381.1 = bt383.1 then (if bt381.2 = bt383.2 then ((greedy_Follows.f x0 x2).bind fun t399 => ((hopperref12_Follows.f k x0 x2).bind fun t400 => (if (t399 == t400) = true then ((hopperlaw12_live.f k).bind fun t401 => (some t401)) else (none)))) else (none)) else (none)) else (none))))) else (none)))))))
def hopperlaw12_GreedyTells.f (k : Nat) (l0 : List (S35)) (a1 : Int) (l2 : List (S38)) : Option (Bool) := (hopperref11_Few.f k l0 20).bind fun t378 => (if t378 = true then ((hopperref04_Few.f k l2 60).bind fun t379 => (hopperlaw12_GreedyTells.j0 k l0 a1 l2 (!t379))) else (hopperlaw12_GreedyTells.j0 k l0 a1 l2 true))
theorem hopperlaw12_GreedyTells.mono_l : ∀ k, (∀ y0 y1 y2 y3, LeO (hopperlaw12_GreedyTells.j0 k y0 y1 y2 y3) (hopperlaw12_GreedyTells.j0 (k + 1) y0 y1 y2 y3))
 | 0 => fun _ _ _ _ r h => by simp [hopperlaw12_GreedyTells.j0] at h
 | k + 1 => by
  have ih0 := hopperlaw12_GreedyTells.mono_l k
  · intro y0 y1 y2 y3
    unfold hopperlaw12_GreedyTells.j0
    repeat' first
    | (with_reducible exact ih0 _ _ _ _)
    | (with_reducible exact greedy_Totals.mono _ _)
    | (with_reducible exact hopperlaw12_live.mono _)
    | (with_reducible exact hopperref04_Few.mono _ _ _)
    | (with_reducible exact hopperref04_Txs.mono _ _ _)
    | (with_reducible exact hopperref11_Few.mono _ _ _)
    | (with_reducible exact hopperref12_Follows.mono _ _ _)
    | (with_reducible exact hopperref12_Heads.mono _ _)
    | (with_reducible exact hopperref12_Template.mono _ _ _)
    | (with_reducible exact hopperref12_Totals.mono _ _)
    | (with_reducible exact LeO.refl _)
    | (with_reducible exact LeO.none _)
    | (with_reducible refine LeO.ite ?_ ?_)
    | (with_reducible refine LeO.bind ?_ (fun _ => ?_))
    | exact ih0 _ _ _ _
    | exact greedy_Totals.mono _ _
    | exact hopperlaw12_live.mono _
    | exact hopperref04_Few.mono _ _ _
    | exact hopperref04_Txs.mono _ _ _
    | exact hopperref11_Few.mono _ _ _
    | exact hopperref12_Follows.mono _ _ _
    | exact hopperref12_Heads.mono _ _
    | exact hopperref12_Template.mono _ _ _
    | exact hopperref12_Totals.mono _ _
    | exact LeO.none _
    | refine LeO.ite ?_ ?_
    | refine LeO.bind ?_ (fun _ => ?_)
theorem hopperlaw12_GreedyTells.mono : ∀ a0 a1 a2 k, LeO (hopperlaw12_GreedyTells.f k a0 a1 a2) (hopperlaw12_GreedyTells.f (k + 1) a0 a1 a2) := by
 intro a0 a1 a2 k
 have ih0 := hopperlaw12_GreedyTells.mono_l k
 unfold hopperlaw12_GreedyTells.f
 repeat' first
  | (with_reducible exact ih0 _ _ _ _)
  | (with_reducible exact greedy_Totals.mono _ _)
  | (with_reducible exact hopperlaw12_live.mono _)
  | (with_reducible exact hopperref04_Few.mono _ _ _)
  | (with_reducible exact hopperref04_Txs.mono _ _ _)
  | (with_reducible exact hopperref11_Few.mono _ _ _)
  | (with_reducible exact hopperref12_Follows.mono _ _ _)
  | (with_reducible exact hopperref12_Heads.mono _ _)
  | (with_reducible exact hopperref12_Template.mono _ _ _)
  | (with_reducible exact hopperref12_Totals.mono _ _)
  | (with_reducible exact LeO.refl _)
  | (with_reducible exact LeO.none _)
  | (with_reducible refine LeO.ite ?_ ?_)
  | (with_reducible refine LeO.bind ?_ (fun _ => ?_))
  | exact ih0 _ _ _ _
  | exact greedy_Totals.mono _ _
  | exact hopperlaw12_live.mono _
  | exact hopperref04_Few.mono _ _ _
  | exact hopperref04_Txs.mono _ _ _
  | exact hopperref11_Few.mono _ _ _
  | exact hopperref12_Follows.mono _ _ _
  | exact hopperref12_Heads.mono _ _
  | exact hopperref12_Template.mono _ _ _
  | exact hopperref12_Totals.mono _ _
  | exact LeO.none _
  | refine LeO.ite ?_ ?_
  | refine LeO.bind ?_ (fun _ => ?_)
set_option maxHeartbeats 8000000 in
set_option maxRecDepth 100000 in
theorem hopperlaw12_GreedyTells.calls (k : Nat) (A0 : Option Addr) (c0 : Nat) (l0 : List (S35)) (a1 : Int) (A2 : Option Addr) (c2 : Nat) (l2 : List (S38)) (r : Bool) (w : World) (hr0 : Kd.C k35 w A0 l0.length l0) (hc0 : l0.length ≤ c0) (hr2 : Kd.C k38 w A2 l2.length l2) (hc2 : l2.length ≤ c2) (h : hopperlaw12_GreedyTells.f k l0 a1 l2 = some r) :
 Calls Try.prog 3 #[.slice A0 l0.length c0, .int .i64 a1, .slice A2 l2.length c2] w fun e w' => e = .returned (.bool r) ∧ Below w.heap.size w w' := by
 have HR0 := A_ hr0
 have HC0 := A_ hc0
 clear hr0 hc0
 have HR2 := A_ hr2
 have HC2 := A_ hc2
 clear hr2 hc2; have HB := A_ (Below.refl w.heap.size w)
 have H : ((hopperref11_Few.f k l0 20).bind fun t378 => (if t378 = true then ((hopperref04_Few.f k l2 60).bind fun t379 => (hopperlaw12_GreedyTells.j0 k l0 a1 l2 (!t379))) else (hopperlaw12_GreedyTells.j0 k l0 a1 l2 true))) = some r := h
 clear h
 have HC4 := A_ H
 clear H
 go_enter Try.func3, Try.ntmps3
 go_upto_region 1 with (fail)
 go_cut [18] (fun v18 wc => ∃ (kq : Nat) (x18_3 : Bool), v18 = .bool x18_3 ∧ Aside0 (hopperlaw12_GreedyTells.j0 kq l0 a1 l2 x18_3 = some r) ∧ Aside0 (kq ≤ k) ∧ Aside0 (Below w.heap.size w wc))
 case first =>
  have H := HC4.out
  clear HC4
  replace H := Option.bind_eq_some_iff.mp H
  obtain ⟨t378, A50, H⟩ := H
  try dsimp only at H
  have A5 := A_ A50
  clear A50
  by_cases c6 : t378 = true
  rotate_left
  · replace c6 := Bool.eq_false_iff.mpr c6
    subst c6
    have H1 : (hopperlaw12_GreedyTells.j0 k l0 a1 l2 true) = some r := by rw [if_neg (show ¬ (false = true) by decide)] at H; exact H
    clear H
    have H := H1
    clear H1
    have H' := A_ H
    clear H
    go_wp2_with (first | ((with_reducible refine gate_callee (f := 8) rfl ?_); refine goesL_ (some 12) rfl rfl Try.func8 (by kernel_rfl) rfl #[.slice A0 l0.length c0, .int .i64 20] rfl (by (try simp only [m0_, m1_, m2_]); first | done | rfl) ?_; (with_reducible refine (hopperref11_Few.calls k _ _ l0 20 false _ ?side1 ?side2 A5.out).mono ?_); (case side1 => repeat (first | exact (Kd.C_below HR0.out HB.out) | (with_reducible refine ca_ ?_ _) | (with_reducible refine cn_ ?_ _) | (with_reducible refine cd_ ?_))); (case side2 => exact HC0.out); rintro e w10 ⟨rfl, hb⟩; refine ⟨_, rfl, ?_⟩; replace HB := A_ (below_step bw_ hb); (try clear hb); (try clear hb2); (try clear hk); (try clear hi)))
    go_meet
    case rel => exact ⟨_, (true), (by first | rfl | (simp; done) | (simp [*]; done)), H', ⟨by first | omega | exact Nat.le_refl _⟩, ⟨by repeat (first | (with_reducible first | exact HB.out | apply wa_ | apply wn_ | apply wd_) | exact HB.out)⟩⟩
  subst c6
  have H1 : ((hopperref04_Few.f k l2 60).bind fun t379 => (hopperlaw12_GreedyTells.j0 k l0 a1 l2 (!t379))) = some r := by rw [if_pos rfl] at H; exact H
  clear H
  have H := H1
  clear H1
  replace H := Option.bind_eq_some_iff.mp H
  obtain ⟨t379, A70, H⟩ := H
  try dsimp only at H
  have A7 := A_ A70
  clear A70
  have H' := A_ H
  clear H
  go_wp2_with (first | ((with_reducible refine gate_callee (f := 8) rfl ?_); refine goesL_ (some 12) rfl rfl Try.func8 (by kernel_rfl) rfl #[.slice A0 l0.length c0, .int .i64 20] rfl (by (try simp only [m0_, m1_, m2_]); first | done | rfl) ?_; (with_reducible refine (hopperref11_Few.calls k _ _ l0 20 true _ ?side1 ?side2 A5.out).mono ?_); (case side1 => repeat (first | exact (Kd.C_below HR0.out HB.out) | (with_reducible refine ca_ ?_ _) | (with_reducible refine cn_ ?_ _) | (with_reducible refine cd_ ?_))); (case side2 => exact HC0.out); rintro e w8 ⟨rfl, hb⟩; refine ⟨_, rfl, ?_⟩; replace HB := A_ (below_step bw_ hb); (try clear hb); (try clear hb2); (try clear hk); (try clear hi)) | (go_at_call 9; (with_reducible refine (hopperref04_Few.calls k _ _ l2 60 t379 _ ?side1 ?side2 A7.out).mono ?_); (case side1 => repeat (first | exact (Kd.C_below HR2.out HB.out) | (with_reducible refine ca_ ?_ _) | (with_reducible refine cn_ ?_ _) | (with_reducible refine cd_ ?_))); (case side2 => exact HC2.out); rintro e w9 ⟨rfl, hb⟩; replace HB := A_ (below_step bw_ hb); (try clear hb); (try clear hb2); (try clear hk); (try clear hi)))
  go_meet
  case rel => exact ⟨_, (!t379), (by first | rfl | (simp; done) | (simp [*]; done)), H', ⟨by first | omega | exact Nat.le_refl _⟩, ⟨by repeat (first | (with_reducible first | exact HB.out | apply wa_ | apply wn_ | apply wd_) | exact HB.out)⟩⟩
 case rest =>
  clear HC4; (try clear c2); (try clear p2); (try clear c3); (try clear c6); (try clear c8)
  obtain ⟨kq, x18_3, rfl, HA, HJ3, HB⟩ := hcut
  cases kq with
  | zero => exact absurd HA.out (by simp [hopperlaw12_GreedyTells.j0])
  | succ kj3 =>
   have H := HA.out
   clear HA
   simp only [hopperlaw12_GreedyTells.j0] at H
   by_cases c11 : x18_3 = true
   · subst c11
     have H1 : ((hopperlaw12_live.f kj3).bind fun t380 => (some t380)) = some r := by rw [if_pos rfl] at H; exact H
     clear H
     have H := H1
     clear H1
     replace H := Option.bind_eq_some_iff.mp H
     obtain ⟨t380, A120, H⟩ := H
     replace H : (some t380) = some r := H
     have A12 := A_ A120
     clear A120
     obtain rfl := Option.some.inj H
     go_wp2_with (first | ((with_reducible refine gate_callee (f := 10) rfl ?_); refine goesL_ (some 19) rfl rfl Try.func10 (by kernel_rfl) rfl #[] rfl (by (try simp only [m0_, m1_, m2_]); first | done | rfl) ?_; (with_reducible refine (hopperlaw12_live.calls kj3  t380 _ A12.out).mono ?_); rintro e w13 ⟨rfl, hb⟩; refine ⟨_, rfl, ?_⟩; replace HB := A_ (below_step bw_ hb); (try clear hb); (try clear hb2); (try clear hk); (try clear hi)))
     go_ret
     exact ⟨by first | rfl | (simp [errW_none, errW_some] <;> rfl) | (simp [*, errW_none, errW_some] <;> rfl), by repeat (first | (with_reducible first | exact HB.out | apply wa_ | apply wn_ | apply wd_) | exact HB.out)⟩
   · replace c11 := Bool.eq_false_iff.mpr c11
     subst c11
     have H1 : ((greedy_Totals.f kj3 l2).bind fun bt381 => ((hopperref12_Totals.f kj3 l2).bind fun bt383 => ((greedy_Heads.f l0).bind fun t385 => ((hopperref12_Heads.f kj3 l0).bind fun t388 => ((hopperref04_Txs.f kj3 t385 t388).bind fun t391 => (if t391 = true then ((greedy_Template.f l0 a1).bind fun t392 => ((hopperref12_Template.f kj3 l0 a1).bind fun t395 => ((hopperref04_Txs.f kj3 t392 t395).bind fun t398 => (if t398 = true then (if bt381.1 = bt383.1 then (if bt381.2 = bt383.2 then ((greedy_Follows.f l0 l2).bind fun t399 => ((hopperref12_Follows.f kj3 l0 l2).bind fun t400 => (if (t399 == t400) = true then ((hopperlaw12_live.f kj3).bind fun t401 => (some t401)) else (none)))) else (none)) else (none)) else (none))))) else (none))))))) = some r := by rw [if_neg (show ¬ (false = true) by decide)] at H; exact H
     clear H
     have H := H1
     clear H1
     replace H := Option.bind_eq_some_iff.mp H
     obtain ⟨⟨t381, t382⟩, A140, H⟩ := H
     try dsimp only at H
     have A14 := A_ A140
     clear A140
     replace H := Option.bind_eq_some_iff.mp H
     obtain ⟨⟨t383, t384⟩, A150, H⟩ := H
     try dsimp only at H
     have A15 := A_ A150
     clear A150
     replace H := Option.bind_eq_some_iff.mp H
     obtain ⟨t385, A160, H⟩ := H
     try dsimp only at H
     have A16 := A_ A160
     clear A160
     replace H := Option.bind_eq_some_iff.mp H
     obtain ⟨t388, A170, H⟩ := H
     try dsimp only at H
     have A17 := A_ A170
     clear A170
     replace H := Option.bind_eq_some_iff.mp H
     obtain ⟨t391, A180, H⟩ := H
     try dsimp only at H
     have A18 := A_ A180
     clear A180
     by_cases c19 : t391 = true
     rotate_left
     · replace c19 := Bool.eq_false_iff.mpr c19
       subst c19
       have H1 : (none) = some r := by rw [if_neg (show ¬ (false = true) by decide)] at H; exact H
       clear H
       have H := H1
       clear H1
       exact absurd H (by simp)

     subst c19
     have H1 : ((greedy_Template.f l0 a1).bind fun t392 => ((hopperref12_Template.f kj3 l0 a1).bind fun t395 => ((hopperref04_Txs.f kj3 t392 t395).bind fun t398 => (if t398 = true then (if t381 = t383 then (if t382 = t384 then ((greedy_Follows.f l0 l2).bind fun t399 => ((hopperref12_Follows.f kj3 l0 l2).bind fun t400 => (if (t399 == t400) = true then ((hopperlaw12_live.f kj3).bind fun t401 => (some t401)) else (none)))) else (none)) else (none)) else (none))))) = some r := by rw [if_pos rfl] at H; exact H
     clear H
     have H := H1
     clear H1
     replace H := Option.bind_eq_some_iff.mp H
     obtain ⟨t392, A200, H⟩ := H
     try dsimp only at H
     have A20 := A_ A200
     clear A200
     replace H := Option.bind_eq_some_iff.mp H
     obtain ⟨t395, A210, H⟩ := H
     try dsimp only at H
     have A21 := A_ A210
     clear A210
     replace H := Option.bind_eq_some_iff.mp H
     obtain ⟨t398, A220, H⟩ := H
     try dsimp only at H
     have A22 := A_ A220
     clear A220
     by_cases c23 : t398 = true
     rotate_left
     · replace c23 := Bool.eq_false_iff.mpr c23
       subst c23
       have H1 : (none) = some r := by rw [if_neg (show ¬ (false = true) by decide)] at H; exact H
       clear H
       have H := H1
       clear H1
       exact absurd H (by simp)
     subst c23
     have H1 : (if t381 = t383 then (if t382 = t384 then ((greedy_Follows.f l0 l2).bind fun t399 => ((hopperref12_Follows.f kj3 l0 l2).bind fun t400 => (if (t399 == t400) = true then ((hopperlaw12_live.f kj3).bind fun t401 => (some t401)) else (none)))) else (none)) else (none)) = some r := by rw [if_pos rfl] at H; exact H
     clear H
     have H := H1
     clear H1
     by_cases c24 : t381 = t383
     rotate_left
     · rw [if_neg c24] at H
       exact absurd H (by simp)
     rw [if_pos c24] at H
     have c24b0 : (t381 == t383) = true := beq_iff_eq.mpr c24
     have c24b1 : (t381 != t383) = false := bne_eq_false_iff_eq.mpr c24
     clear c24
     by_cases c25 : t382 = t384
     rotate_left
     · rw [if_neg c25] at H
       exact absurd H (by simp)
     rw [if_pos c25] at H
     have c25b0 : (t382 == t384) = true := beq_iff_eq.mpr c25
     have c25b1 : (t382 != t384) = false := bne_eq_false_iff_eq.mpr c25
     clear c25
     replace H := Option.bind_eq_some_iff.mp H
     obtain ⟨t399, A260, H⟩ := H
     try dsimp only at H
     have A26 := A_ A260
     clear A260
     replace H := Option.bind_eq_some_iff.mp H
     obtain ⟨t400, A270, H⟩ := H
     try dsimp only at H
     have A27 := A_ A270
     clear A270
     by_cases c28 : (t399 == t400) = true
     rotate_left
     · rw [if_neg c28] at H
       exact absurd H (by simp)
     rw [if_pos c28] at H
     have c28b0 : (t399 == t400) = true := c28
     (try (have c28b1 : decide (t399 = t400) = true := by simpa using c28))
     (try (have c28b2 : (t399 == t400) = true := by simpa using c28))
     clear c28
     replace H := Option.bind_eq_some_iff.mp H
     obtain ⟨t401, A290, H⟩ := H
     replace H : (some t401) = some r := H
     have A29 := A_ A290
     clear A290
     obtain rfl := Option.some.inj H
     go_wp2_with (first | ((with_reducible refine gate_callee (f := 11) rfl ?_); refine goesL_ (some 22) rfl rfl Try.func11 (by kernel_rfl) rfl #[.slice A2 l2.length c2] rfl (by (try simp only [m0_, m1_, m2_]); first | done | rfl) ?_; (with_reducible refine (greedy_Totals.calls kj3 _ _ l2 t381 t382 _ ?side1 ?side2 A14.out).mono ?_); (case side1 => repeat (first | exact (Kd.C_below HR2.out HB.out) | (with_reducible refine ca_ ?_ _) | (with_reducible refine cn_ ?_ _) | (with_reducible refine cd_ ?_))); (case side2 => exact HC2.out); rintro e w30 ⟨rfl, hb⟩; refine ⟨_, rfl, ?_⟩; replace HB := A_ (below_step bw_ hb); (try clear hb); (try clear hb2); (try clear hk); (try clear hi)) | ((with_reducible refine gate_callee (f := 12) rfl ?_); refine goesL_ (some 27) rfl rfl Try.func12 (by kernel_rfl) rfl #[.slice A2 l2.length c2] rfl (by (try simp only [m0_, m1_, m2_]); first | done | rfl) ?_; (with_reducible refine (hopperref12_Totals.calls kj3 _ _ l2 t383 t384 _ ?side1 ?side2 A15.out).mono ?_); (case side1 => repeat (first | exact (Kd.C_below HR2.out HB.out) | (with_reducible refine ca_ ?_ _) | (with_reducible refine cn_ ?_ _) | (with_reducible refine cd_ ?_))); (case side2 => exact HC2.out); rintro e w31 ⟨rfl, hb⟩; refine ⟨_, rfl, ?_⟩; replace HB := A_ (below_step bw_ hb); (try clear hb); (try clear hb2); (try clear hk); (try clear hi)) | ((with_reducible refine gate_callee (f := 14) rfl ?_); refine goesL_ (some 31) rfl rfl Try.func14 (by kernel_rfl) rfl #[.slice A0 l0.length c0] rfl (by (try simp only [m0_, m1_, m2_]); first | done | rfl) ?_; (with_reducible refine (greedy_Heads.calls _ _ l0 t385 _ ?side1 ?side2 A16.out).mono ?_); (case side1 => repeat (first | exact (Kd.C_below HR0.out HB.out) | (with_reducible refine ca_ ?_ _) | (with_reducible refine cn_ ?_ _) | (with_reducible refine cd_ ?_))); (case side2 => exact HC0.out); rintro e w32 ⟨v386, rfl, ho0, hb⟩; refine ⟨_, rfl, ?_⟩; have HO387 := A_ (Kd.R_lower ho0 (below_size bw_)); replace HB := A_ (below_step bw_ hb); (try clear hb); (try clear hb2); (try clear hk); (try clear hi); (try clear ho0)) | ((with_reducible refine gate_callee (f := 15) rfl ?_); refine goesL_ (some 33) rfl rfl Try.func15 (by kernel_rfl) rfl #[.slice A0 l0.length c0] rfl (by (try simp only [m0_, m1_, m2_]); first | done | rfl) ?_; (with_reducible refine (hopperref12_Heads.calls kj3 _ _ l0 t388 _ ?side1 ?side2 A17.out).mono ?_); (case side1 => repeat (first | exact (Kd.C_below HR0.out HB.out) | (with_reducible refine ca_ ?_ _) | (with_reducible refine cn_ ?_ _) | (with_reducible refine cd_ ?_))); (case side2 => exact HC0.out); rintro e w33 ⟨v389, rfl, ho0, hb⟩; refine ⟨_, rfl, ?_⟩; have n0_ := A_ (Kd.R_elder' (pr_ HO387.out) (Kd.R_base ho0) hb); have n1_ := A_ (Kd.R_lower (Kd.R_new' ho0 (Kd.R_lt (pr_ HO387.out))) (below_size bw_)); have n2_ := A_ (below_step bw_ hb); replace HO387 := n0_; have HO390 := n1_; replace HB := n2_; clear n0_ n1_ n2_; (try clear hb); (try clear hb2); (try clear hk); (try clear hi); (try clear ho0); obtain ⟨Ao34, co34, eo34⟩ := Kd.R_slice HO387.out; subst eo34; obtain ⟨Ao35, co35, eo35⟩ := Kd.R_slice HO390.out; subst eo35) | ((with_reducible refine gate_callee (f := 13) rfl ?_); refine goesL_ (some 34) rfl rfl Try.func13 (by kernel_rfl) rfl #[.slice Ao34 t385.length co34, .slice Ao35 t388.length co35] rfl (by (try simp only [m0_, m1_, m2_]); first | done | rfl) ?_; (with_reducible refine (hopperref04_Txs.calls kj3 _ _ t385 _ _ t388 true _ ?side1 ?side2 ?side3 ?side4 A18.out).mono ?_); (case side1 => repeat (first | exact (Kd.R_reads' HO387.out).2.2 | (with_reducible refine ca_ ?_ _) | (with_reducible refine cn_ ?_ _) | (with_reducible refine cd_ ?_))); (case side2 => exact (Kd.R_reads' HO387.out).2.1); (case side3 => repeat (first | exact (Kd.R_reads' HO390.out).2.2 | (with_reducible refine ca_ ?_ _) | (with_reducible refine cn_ ?_ _) | (with_reducible refine cd_ ?_))); (case side4 => exact (Kd.R_reads' HO390.out).2.1); rintro e w' ⟨rfl, ⟨nd, rfl⟩⟩; refine ⟨_, rfl, ?_⟩) | (go_at_call 16; (with_reducible refine (greedy_Template.calls _ _ l0 a1 t392 _ ?side1 ?side2 A20.out).mono ?_); (case side1 => repeat (first | exact (Kd.C_below HR0.out bw_) | (with_reducible refine ca_ ?_ _) | (with_reducible refine cn_ ?_ _) | (with_reducible refine cd_ ?_))); (case side2 => exact HC0.out); rintro e w36 ⟨v393, rfl, ho0, hb⟩; have n0_ := A_ (Kd.R_elder' (pr_ HO387.out) (Kd.R_base ho0) hb); have n1_ := A_ (Kd.R_elder' (pr_ HO390.out) (Kd.R_base ho0) hb); have n2_ := A_ (Kd.R_lower (Kd.R_new' (Kd.R_new' ho0 (Kd.R_lt (pr_ HO387.out))) (Kd.R_lt (pr_ HO390.out))) (below_size bw_)); have n3_ := A_ (below_step bw_ hb); replace HO387 := n0_; replace HO390 := n1_; have HO394 := n2_; replace HB := n3_; clear n0_ n1_ n2_ n3_; (try clear hb); (try clear hb2); (try clear hk); (try clear hi); (try clear ho0)) | (go_at_call 17; (with_reducible refine (hopperref12_Template.calls kj3 _ _ l0 a1 t395 _ ?side1 ?side2 A21.out).mono ?_); (case side1 => repeat (first | exact (Kd.C_below HR0.out HB.out) | (with_reducible refine ca_ ?_ _) | (with_reducible refine cn_ ?_ _) | (with_reducible refine cd_ ?_))); (case side2 => exact HC0.out); rintro e w37 ⟨v396, rfl, ho0, hb⟩; have n0_ := A_ (Kd.R_elder' (pr_ HO387.out) (Kd.R_base ho0) hb); have n1_ := A_ (Kd.R_elder' (pr_ HO390.out) (Kd.R_base ho0) hb); have n2_ := A_ (Kd.R_elder' (pr_ HO394.out) (Kd.R_base ho0) hb); have n3_ := A_ (Kd.R_lower (Kd.R_new' (Kd.R_new' (Kd.R_new' ho0 (Kd.R_lt (pr_ HO387.out))) (Kd.R_lt (pr_ HO390.out))) (Kd.R_lt (pr_ HO394.out))) (below_size bw_)); have n4_ := A_ (below_step bw_ hb); replace HO387 := n0_; replace HO390 := n1_; replace HO394 := n2_; have HO397 := n3_; replace HB := n4_; clear n0_ n1_ n2_ n3_ n4_; (try clear hb); (try clear hb2); (try clear hk); (try clear hi); (try clear ho0); obtain ⟨Ao38, co38, eo38⟩ := Kd.R_slice HO394.out; subst eo38; obtain ⟨Ao39, co39, eo39⟩ := Kd.R_slice HO397.out; subst eo39) | (go_at_call 13; (with_reducible refine (hopperref04_Txs.calls kj3 _ _ t392 _ _ t395 true _ ?side1 ?side2 ?side3 ?side4 A22.out).mono ?_); (case side1 => repeat (first | exact (Kd.R_reads' HO394.out).2.2 | (with_reducible refine ca_ ?_ _) | (with_reducible refine cn_ ?_ _) | (with_reducible refine cd_ ?_))); (case side2 => exact (Kd.R_reads' HO394.out).2.1); (case side3 => repeat (first | exact (Kd.R_reads' HO397.out).2.2 | (with_reducible refine ca_ ?_ _) | (with_reducible refine cn_ ?_ _) | (with_reducible refine cd_ ?_))); (case side4 => exact (Kd.R_reads' HO397.out).2.1); rintro e w' ⟨rfl, ⟨nd, rfl⟩⟩) | (go_at_call 18; (with_reducible refine (greedy_Follows.calls _ _ l0 _ _ l2 t399 _ ?side1 ?side2 ?side3 ?side4 A26.out).mono ?_); (case side1 => repeat (first | exact (Kd.C_below HR0.out bw_) | (with_reducible refine ca_ ?_ _) | (with_reducible refine cn_ ?_ _) | (with_reducible refine cd_ ?_))); (case side2 => exact HC0.out); (case side3 => repeat (first | exact (Kd.C_below HR2.out bw_) | (with_reducible refine ca_ ?_ _) | (with_reducible refine cn_ ?_ _) | (with_reducible refine cd_ ?_))); (case side4 => exact HC2.out); rintro e w40 ⟨rfl, hb⟩; replace HO387 := A_ (Kd.R_below (pr_ HO387.out) hb); replace HO390 := A_ (Kd.R_below (pr_ HO390.out) hb); replace HO394 := A_ (Kd.R_below (pr_ HO394.out) hb); replace HO397 := A_ (Kd.R_below (pr_ HO397.out) hb); replace HB := A_ (below_step bw_ hb); (try clear hb); (try clear hb2); (try clear hk); (try clear hi)) | (go_at_call 19; (with_reducible refine (hopperref12_Follows.calls kj3 _ _ l0 _ _ l2 t400 _ ?side1 ?side2 ?side3 ?side4 A27.out).mono ?_); (case side1 => repeat (first | exact (Kd.C_below HR0.out HB.out) | (with_reducible refine ca_ ?_ _) | (with_reducible refine cn_ ?_ _) | (with_reducible refine cd_ ?_))); (case side2 => exact HC0.out); (case side3 => repeat (first | exact (Kd.C_below HR2.out HB.out) | (with_reducible refine ca_ ?_ _) | (with_reducible refine cn_ ?_ _) | (with_reducible refine cd_ ?_))); (case side4 => exact HC2.out); rintro e w41 ⟨rfl, hb⟩; replace HO387 := A_ (Kd.R_below (pr_ HO387.out) hb); replace HO390 := A_ (Kd.R_below (pr_ HO390.out) hb); replace HO394 := A_ (Kd.R_below (pr_ HO394.out) hb); replace HO397 := A_ (Kd.R_below (pr_ HO397.out) hb); replace HB := A_ (below_step bw_ hb); (try clear hb); (try clear hb2); (try clear hk); (try clear hi)) | (go_at_call 10; (with_reducible refine (hopperlaw12_live.calls kj3  t401 _ A29.out).mono ?_); rintro e w42 ⟨rfl, hb⟩; replace HO387 := A_ (Kd.R_below (pr_ HO387.out) hb); replace HO390 := A_ (Kd.R_below (pr_ HO390.out) hb); replace HO394 := A_ (Kd.R_below (pr_ HO394.out) hb); replace HO397 := A_ (Kd.R_below (pr_ HO397.out) hb); replace HB := A_ (below_step bw_ hb); (try clear hb); (try clear hb2); (try clear hk); (try clear hi)))
     go_ret
     exact ⟨by first | rfl | (simp [errW_none, errW_some] <;> rfl) | (simp [*, errW_none, errW_some] <;> rfl), by repeat (first | (with_reducible first | exact HB.out | apply wa_ | apply wn_ | apply wd_) | exact HB.out)⟩
open Go.Proofs.Ytahopljippfadaa.Row (okI okB okS okL) in
/-- THE ONE PURE STATEMENT of hopperlaw12_GreedyTells. -/
def hopperlaw12_GreedyTells.Pure : Prop := ∀ (l0 : List (S35)) (a1 : Int) (l2 : List (S38)), (okL ok35) l0 → (okI .i64) a1 → (okL ok38) l2 → ∃ k, hopperlaw12_GreedyTells.f k l0 a1 l2 = some true

end Go.Proofs.Ytahopljippfadaa.D
