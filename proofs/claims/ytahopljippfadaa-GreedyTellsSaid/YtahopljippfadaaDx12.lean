/- Written by this session's own program over the kit's print: functions of Go told as plain functions, or the row of one statement; proved for every input, with no condition of ours. -/
import Derived.Test.YtahopljippfadaaDx0
namespace Go.Proofs.Ytahopljippfadaa.D
open Go.RowKit Go.Proofs.YtahopljippfadaaW.PrintWords Go.Proofs.YtahopljippfadaaW.PrintLast Go.Proofs.YtahopljippfadaaW.PrintMore
attribute [local go_sem] max2_int min2_int max_two min_two max_three min_three max_four min_four   -- for this text's walks alone
set_option linter.unusedVariables false
set_option linter.unusedSimpArgs false

/-! ### hopperref12_firsts: function 28 -/
mutual
def hopperref12_firsts.l0 : Nat → List (S35) → List (S35) → Int → Option ((List (S35)))
 | 0, _, _, _ => none
 | k + 1, x0, x3, x4 => if x4 < (x0.length : Int) then (hopperref12_firsts.l1 k x0 x3 x4 false 0) else (some x3)
def hopperref12_firsts.l1 : Nat → List (S35) → List (S35) → Int → Bool → Int → Option ((List (S35)))
 | 0, _, _, _, _, _ => none
 | k + 1, x0, x3, x4, x5, x6 => if x6 < x4 then (if x5 = true then (hopperref12_firsts.l1 k x0 x3 x4 true (wrap64 (x6 + 1))) else (if 0 ≤ x6 then (if x6 < (x0.length : Int) then (if 0 ≤ x4 then (if x4 < (x0.length : Int) then (hopperref12_firsts.l1 k x0 x3 x4 (((rd_T35 x0 x6).f0) == ((rd_T35 x0 x4).f0)) (wrap64 (x6 + 1))) else (none)) else (none)) else (none)) else (none))) else (if x5 = true then (hopperref12_firsts.l0 k x0 x3 (wrap64 (x4 + 1))) else (if 0 ≤ x4 then (if x4 < (x0.length : Int) then (if x3.length < 3518437208883 then (hopperref12_firsts.l0 k x0 (x3 ++ [(⟨(rd_T35 x0 x4).f0, (rd_T35 x0 x4).f1, (rd_T35 x0 x4).f2⟩ : S35)]) (wrap64 (x4 + 1))) else (none)) else (none)) else (none)))
end
def hopperref12_firsts.f (k : Nat) (l0 : List (S35)) : Option ((List (S35))) := hopperref12_firsts.l0 k l0 ([] : List (S35)) 0
theorem hopperref12_firsts.mono_l : ∀ k, (∀ y0 y1 y2, LeO (hopperref12_firsts.l0 k y0 y1 y2) (hopperref12_firsts.l0 (k + 1) y0 y1 y2)) ∧ (∀ y0 y1 y2 y3 y4, LeO (hopperref12_firsts.l1 k y0 y1 y2 y3 y4) (hopperref12_firsts.l1 (k + 1) y0 y1 y2 y3 y4))
 | 0 => ⟨fun _ _ _ r h => by simp [hopperref12_firsts.l0] at h, fun _ _ _ _ _ r h => by simp [hopperref12_firsts.l1] at h⟩
 | k + 1 => by
  obtain ⟨ih0, ih1⟩ := hopperref12_firsts.mono_l k
  refine ⟨?_, ?_⟩
  · intro y0 y1 y2
    unfold hopperref12_firsts.l0
    repeat' first
    | (with_reducible exact ih0 _ _ _)
    | (with_reducible exact ih1 _ _ _ _ _)
    | (with_reducible exact LeO.refl _)
    | (with_reducible exact LeO.none _)
    | (with_reducible refine LeO.ite ?_ ?_)
    | (with_reducible refine LeO.bind ?_ (fun _ => ?_))
    | exact ih0 _ _ _
    | exact ih1 _ _ _ _ _
    | exact LeO.none _
    | refine LeO.ite ?_ ?_
    | refine LeO.bind ?_ (fun _ => ?_)
  · intro y0 y1 y2 y3 y4
    unfold hopperref12_firsts.l1
    repeat' first
    | (with_reducible exact ih0 _ _ _)
    | (with_reducible exact ih1 _ _ _ _ _)
    | (with_reducible exact LeO.refl _)
    | (with_reducible exact LeO.none _)
    | (with_reducible refine LeO.ite ?_ ?_)
    | (with_reducible refine LeO.bind ?_ (fun _ => ?_))
    | exact ih0 _ _ _
    | exact ih1 _ _ _ _ _
    | exact LeO.none _
    | refine LeO.ite ?_ ?_
    | refine LeO.bind ?_ (fun _ => ?_)
theorem hopperref12_firsts.mono : ∀ a0 k, LeO (hopperref12_firsts.f k a0) (hopperref12_firsts.f (k + 1) a0) := by
 intro a0 k
 obtain ⟨ih0, ih1⟩ := hopperref12_firsts.mono_l k
 unfold hopperref12_firsts.f
 repeat' first
  | (with_reducible exact ih0 _ _ _)
  | (with_reducible exact ih1 _ _ _ _ _)
  | (with_reducible exact LeO.refl _)
  | (with_reducible exact LeO.none _)
  | (with_reducible refine LeO.ite ?_ ?_)
  | (with_reducible refine LeO.bind ?_ (fun _ => ?_))
  | exact ih0 _ _ _
  | exact ih1 _ _ _ _ _
  | exact LeO.none _
  | refine LeO.ite ?_ ?_
  | refine LeO.bind ?_ (fun _ => ?_)
set_option maxHeartbeats 8000000 in
set_option maxRecDepth 100000 in
theorem hopperref12_firsts.calls (k : Nat) (P0_ : Nat → Prop) (A0 : Option Addr) (c0 : Nat) (l0 : List (S35)) (r : List (S35)) (w : World) (hs0 : Kd.V k35 35 w w.heap.size (fun k_ => P0_ k_) (.slice A0 l0.length c0) l0) (h : hopperref12_firsts.f k l0 = some r) :
 Calls Try.prog 28 #[.slice A0 l0.length c0] w fun e w' => ∃ v0_ : Value, e = .returned (v0_) ∧ Kd.N k35 35 w' w.heap.size (fun k_ => (P0_ k_ ∨ w.heap.size ≤ k_)) v0_ r ∧ Below w.heap.size w w' := by
 have hu35 := Try.underlying35
 have HO0 := A_ (show Kd.V k35 35 w w.heap.size (fun k_ => (P0_ k_ ∨ w.heap.size ≤ k_)) (.slice A0 l0.length c0) l0 from Kd.V_mono hs0 (fun k_ hk => .inl hk)); have HB := A_ (Below.refl w.heap.size w)
 have H : (hopperref12_firsts.l0 k l0 ([] : List (S35)) 0) = some r := h
 clear h
 have H' := A_ H
 clear H
 go_enter Try.func28, Try.ntmps28
 go_wp2
 repeat (go_quiet (fail); try go_wp2)
 go_loopg [3, 4] k (fun kq v3 v4 w' => ∃ (x3_1 : List (S35)) (x4_1 : Int), v4 = .int .i64 x4_1 ∧ Aside0 (hopperref12_firsts.l0 kq l0 x3_1 x4_1 = some r) ∧ Aside0 (kq ≤ k) ∧ Aside0 (Kd.V k35 35 w' w.heap.size (fun k_ => (P0_ k_ ∨ w.heap.size ≤ k_) ∧ some k_ ≠ (v3 : Value).ownBlock) (.slice A0 l0.length c0) l0) ∧ Aside0 (Kd.N k35 35 w' w.heap.size (fun k_ => (P0_ k_ ∨ w.heap.size ≤ k_)) v3 x3_1) ∧ Aside0 (Below w.heap.size w w'))
 case atStart => exact ⟨(([] : List (S35))), (0), (by first | rfl | (simp; done) | (simp [*]; done)), H', ⟨Nat.le_refl _⟩, ⟨by (with_reducible repeat (first | apply Kd.V_alloc | apply Kd.V_drewN | apply Kd.V_drew)); exact Kd.V_mono HO0.out (fun _ hk => ⟨hk, (by simp [Value.ownBlock])⟩)⟩, ⟨by first | exact Kd.S_nil _ _ _ _ _ | exact Kd.N_nil _ _ _ _ _ | exact Kd.V_nil _ _ _ _ _ | exact Kd.Q_nil _ _ _ _ _ | exact Kd.R_nil _ _ _ _ _⟩, ⟨by repeat (first | (with_reducible first | exact HB.out | apply wa_ | apply wn_ | apply wd_) | exact HB.out)⟩⟩
 case round =>
  clear H'
  obtain ⟨x3_1, x4_1, rfl, HA, HK1, HO_0, HO_3, HB⟩ := hrel
  cases gk with
  | zero => exact absurd HA.out (by simp [hopperref12_firsts.l0])
  | succ k1 =>
   have H := HA.out
   clear HA
   simp only [hopperref12_firsts.l0] at H
   by_cases c2 : x4_1 < (l0.length : Int)
   rotate_left
   · rw [if_neg c2] at H
     have c2b0 : decide (x4_1 < (l0.length : Int)) = false := decide_eq_false c2
     clear c2
     obtain rfl := Option.some.inj H
     go_wp2
     repeat (go_quiet (fail); try go_wp2)
     go_ret
     exact ⟨_, by first | rfl | (simp [errW_none, errW_some] <;> rfl) | (simp [*, errW_none, errW_some] <;> rfl), by (with_reducible repeat (first | apply Kd.N_alloc | apply Kd.N_drewN | apply Kd.N_drew)); exact HO_3.out, by repeat (first | (with_reducible first | exact HB.out | apply wa_ | apply wn_ | apply wd_) | exact HB.out)⟩

   rw [if_pos c2] at H
   have c2b0 : decide (x4_1 < (l0.length : Int)) = true := decide_eq_true c2
   clear c2
   have H' := A_ H
   clear H
   go_wp2
   repeat (go_quiet (fail); try go_wp2)
   go_loopg [5, 6] k1 (fun kq v5 v6 w' => ∃ (x5_2 : Bool) (x6_2 : Int), v5 = .bool x5_2 ∧ v6 = .int .i64 x6_2 ∧ Aside0 (hopperref12_firsts.l1 kq l0 x3_1 x4_1 x5_2 x6_2 = some r) ∧ Aside0 (kq ≤ k1) ∧ Aside0 (Kd.V k35 35 w' w.heap.size (fun k_ => (P0_ k_ ∨ w.heap.size ≤ k_) ∧ some k_ ≠ (u3 : Value).ownBlock) (.slice A0 l0.length c0) l0) ∧ Aside0 (Kd.N k35 35 w' w.heap.size (fun k_ => (P0_ k_ ∨ w.heap.size ≤ k_)) u3 x3_1) ∧ Aside0 (Below w.heap.size w w'))
   case atStart => exact ⟨(false), (0), (by first | rfl | (simp; done) | (simp [*]; done)), (by first | rfl | (simp; done) | (simp [*]; done)), H', ⟨Nat.le_refl _⟩, ⟨by (with_reducible repeat (first | apply Kd.V_alloc | apply Kd.V_drewN | apply Kd.V_drew)); exact HO_0.out⟩, ⟨by (with_reducible repeat (first | apply Kd.N_alloc | apply Kd.N_drewN | apply Kd.N_drew)); exact HO_3.out⟩, ⟨by repeat (first | (with_reducible first | exact HB.out | apply wa_ | apply wn_ | apply wd_) | exact HB.out)⟩⟩
   case round =>
    clear H'; (try clear c2); (try clear c2b0); (try clear p2)
    obtain ⟨x5_2, x6_2, rfl, rfl, HA, HK2, HO_0, HO_3, HB⟩ := hrel
    cases gk with
    | zero => exact absurd HA.out (by simp [hopperref12_firsts.l1])
    | succ k2 =>
     have H := HA.out
     clear HA
     simp only [hopperref12_firsts.l1] at H
     by_cases c3 : x6_2 < x4_1
     · rw [if_pos c3] at H
       have c3b0 : decide (x6_2 < x4_1) = true := decide_eq_true c3
       clear c3
       by_cases c4 : x5_2 = true
       · subst c4
         have H1 : (hopperref12_firsts.l1 k2 l0 x3_1 x4_1 true (wrap64 (x6_2 + 1))) = some r := by rw [if_pos rfl] at H; exact H
         clear H
         have H := H1
         clear H1
         have H' := A_ H
         clear H
         go_wp2
         repeat (go_quiet (fail); try go_wp2)
         go_roundg k2
         case measure => have := HK1.out; have := HK2.out; omega
         case rel => exact ⟨(true), (wrap64 (x6_2 + 1)), (by first | rfl | (simp; done) | (simp [*]; done)), (by first | rfl | (simp; done) | (simp [*]; done)), H', ⟨by have := HK1.out; have := HK2.out; omega⟩, ⟨by (with_reducible repeat (first | apply Kd.V_alloc | apply Kd.V_drewN | apply Kd.V_drew)); exact HO_0.out⟩, ⟨by (with_reducible repeat (first | apply Kd.N_alloc | apply Kd.N_drewN | apply Kd.N_drew)); exact HO_3.out⟩, ⟨by repeat (first | (with_reducible first | exact HB.out | apply wa_ | apply wn_ | apply wd_) | exact HB.out)⟩⟩
       replace c4 := Bool.eq_false_iff.mpr c4
       subst c4
       have H1 : (if 0 ≤ x6_2 then (if x6_2 < (l0.length : Int) then (if 0 ≤ x4_1 then (if x4_1 < (l0.length : Int) then (hopperref12_firsts.l1 k2 l0 x3_1 x4_1 (((rd_T35 l0 x6_2).f0) == ((rd_T35 l0 x4_1).f0)) (wrap64 (x6_2 + 1))) else (none)) else (none)) else (none)) else (none)) = some r := by rw [if_neg (show ¬ (false = true) by decide)] at H; exact H
       clear H
       have H := H1
       clear H1
       by_cases c5 : 0 ≤ x6_2
       rotate_left
       · rw [if_neg c5] at H
         exact absurd H (by simp)
       rw [if_pos c5] at H
       have c5b0 : decide (0 ≤ x6_2) = true := decide_eq_true c5
       clear c5
       by_cases c6 : x6_2 < (l0.length : Int)
       rotate_left
       · rw [if_neg c6] at H
         exact absurd H (by simp)
       rw [if_pos c6] at H
       have c6b0 : decide (x6_2 < (l0.length : Int)) = true := decide_eq_true c6
       clear c6
       by_cases c7 : 0 ≤ x4_1
       rotate_left
       · rw [if_neg c7] at H
         exact absurd H (by simp)
       rw [if_pos c7] at H
       have c7b0 : decide (0 ≤ x4_1) = true := decide_eq_true c7
       clear c7
       by_cases c8 : x4_1 < (l0.length : Int)
       rotate_left
       · rw [if_neg c8] at H
         exact absurd H (by simp)
       rw [if_pos c8] at H
       have c8b0 : decide (x4_1 < (l0.length : Int)) = true := decide_eq_true c8
       clear c8
       have H' := A_ H
       clear H
       have p260 : 0 ≤ (x6_2 : Int) := of_decide_eq_true (by first | (with_reducible assumption) | assumption)
       have q260 : x6_2 < (l0.length : Int) := of_decide_eq_true (by first | (with_reducible assumption) | assumption)
       obtain ⟨ad260, A260_2, c260_2, e260, hx260_0, hx260_1, hx260_2, hl260_2, hi260_2⟩ := at_T35 (Kd.V_reads' HO_0.out).2.2 x6_2 p260 q260
       cases e260
       obtain ⟨ce260, hce260, hMe260, hcc260⟩ := Kd.V_get HO_0.out z35 x6_2 p260 (by first | exact q260 | exact of_decide_eq_true (by first | (with_reducible assumption) | assumption) | (have e_ := (Kd.V_reads' HO_0.out).1; omega))
       obtain ⟨ua260_2, uc260_2, rfl, ul260_2, ge260_2⟩ := k35_openF hMe260
       have hv260_2 := hcc260 2 _ rfl
       rw [add_field _ _ 2 (by omega)] at hv260_2
       replace hv260_2 := Option.some.inj (hv260_2.symm.trans hx260_2)
       injection hv260_2 with hva_ hvn_ hvc_
       rw [hva_] at ge260_2
       rw [hvc_] at ul260_2
       have HL260_2 := A_ (show Kd.V k38 38 _ w.heap.size _ _ ((rd_T35 l0 x6_2).f2) from Kd.V_mk ul260_2 ge260_2)
       clear hva_ hvn_ hvc_ ge260_2 ul260_2; clear hcc260 hce260
       have HR260_2 := A_ hi260_2
       have HC260_2 := A_ hl260_2
       clear hi260_2 hl260_2
       replace p260 := eq_true p260
       replace q260 := eq_true q260
       have p261 : 0 ≤ (x4_1 : Int) := of_decide_eq_true (by first | (with_reducible assumption) | assumption)
       have q261 : x4_1 < (l0.length : Int) := of_decide_eq_true (by first | (with_reducible assumption) | assumption)
       obtain ⟨ad261, A261_2, c261_2, e261, hx261_0, hx261_1, hx261_2, hl261_2, hi261_2⟩ := at_T35 (Kd.V_reads' HO_0.out).2.2 x4_1 p261 q261
       obtain rfl : ad260 = ad261 := (by injection e261)
       obtain ⟨ce261, hce261, hMe261, hcc261⟩ := Kd.V_get HO_0.out z35 x4_1 p261 (by first | exact q261 | exact of_decide_eq_true (by first | (with_reducible assumption) | assumption) | (have e_ := (Kd.V_reads' HO_0.out).1; omega))
       obtain ⟨ua261_2, uc261_2, rfl, ul261_2, ge261_2⟩ := k35_openF hMe261
       have hv261_2 := hcc261 2 _ rfl
       rw [add_field _ _ 2 (by omega)] at hv261_2
       replace hv261_2 := Option.some.inj (hv261_2.symm.trans hx261_2)
       injection hv261_2 with hva_ hvn_ hvc_
       rw [hva_] at ge261_2
       rw [hvc_] at ul261_2
       have HL261_2 := A_ (show Kd.V k38 38 _ w.heap.size _ _ ((rd_T35 l0 x4_1).f2) from Kd.V_mk ul261_2 ge261_2)
       clear hva_ hvn_ hvc_ ge261_2 ul261_2; clear hcc261 hce261
       have HR261_2 := A_ hi261_2
       have HC261_2 := A_ hl261_2
       clear hi261_2 hl261_2
       replace p261 := eq_true p261
       replace q261 := eq_true q261
       go_wp2
       repeat (go_quiet (fail); try go_wp2)
       go_roundg k2
       case measure => have := HK1.out; have := HK2.out; omega
       case rel => exact ⟨((((rd_T35 l0 x6_2).f0) == ((rd_T35 l0 x4_1).f0))), (wrap64 (x6_2 + 1)), (by first | rfl | (simp; done) | (simp [*]; done)), (by first | rfl | (simp; done) | (simp [*]; done)), H', ⟨by have := HK1.out; have := HK2.out; omega⟩, ⟨by (with_reducible repeat (first | apply Kd.V_alloc | apply Kd.V_drewN | apply Kd.V_drew)); exact HO_0.out⟩, ⟨by (with_reducible repeat (first | apply Kd.N_alloc | apply Kd.N_drewN | apply Kd.N_drew)); exact HO_3.out⟩, ⟨by repeat (first | (with_reducible first | exact HB.out | apply wa_ | apply wn_ | apply wd_) | exact HB.out)⟩⟩
     · rw [if_neg c3] at H
       have c3b0 : decide (x6_2 < x4_1) = false := decide_eq_false c3
       clear c3
       by_cases c9 : x5_2 = true
       · subst c9
         have H1 : (hopperref12_firsts.l0 k2 l0 x3_1 (wrap64 (x4_1 + 1))) = some r := by rw [if_pos rfl] at H; exact H
         clear H
         have H := H1
         clear H1
         have H' := A_ H
         clear H
         go_wp2
         repeat (go_quiet (fail); try go_wp2)
         go_roundg k2
         case measure => have := HK1.out; have := HK2.out; omega
         case rel => exact ⟨(x3_1), (wrap64 (x4_1 + 1)), (by first | rfl | (simp; done) | (simp [*]; done)), H', ⟨by have := HK1.out; have := HK2.out; omega⟩, ⟨by (with_reducible repeat (first | apply Kd.V_alloc | apply Kd.V_drewN | apply Kd.V_drew)); exact HO_0.out⟩, ⟨by (with_reducible repeat (first | apply Kd.N_alloc | apply Kd.N_drewN | apply Kd.N_drew)); exact HO_3.out⟩, ⟨by repeat (first | (with_reducible first | exact HB.out | apply wa_ | apply wn_ | apply wd_) | exact HB.out)⟩⟩
       replace c9 := Bool.eq_false_iff.mpr c9
       subst c9
       have H1 : (if 0 ≤ x4_1 then (if x4_1 < (l0.length : Int) then (if x3_1.length < 3518437208883 then (hopperref12_firsts.l0 k2 l0 (x3_1 ++ [(⟨(rd_T35 l0 x4_1).f0, (rd_T35 l0 x4_1).f1, (rd_T35 l0 x4_1).f2⟩ : S35)]) (wrap64 (x4_1 + 1))) else (none)) else (none)) else (none)) = some r := by rw [if_neg (show ¬ (false = true) by decide)] at H; exact H
       clear H
       have H := H1
       clear H1
       by_cases c10 : 0 ≤ x4_1
       rotate_left
       · rw [if_neg c10] at H
         exact absurd H (by simp)
       rw [if_pos c10] at H
       have c10b0 : decide (0 ≤ x4_1) = true := decide_eq_true c10
       clear c10
       by_cases c11 : x4_1 < (l0.length : Int)
       rotate_left
       · rw [if_neg c11] at H
         exact absurd H (by simp)
       rw [if_pos c11] at H
       have c11b0 : decide (x4_1 < (l0.length : Int)) = true := decide_eq_true c11
       clear c11
       by_cases c12 : x3_1.length < 3518437208883
       rotate_left
       · rw [if_neg c12] at H
         exact absurd H (by simp)
       rw [if_pos c12] at H
       have LMc12 := A_ c12
       clear c12
       obtain ⟨y263, hy263⟩ : ∃ y_ : List (S35), y_ = (x3_1 ++ [(⟨(rd_T35 l0 x4_1).f0, (rd_T35 l0 x4_1).f1, (rd_T35 l0 x4_1).f2⟩ : S35)]) := ⟨_, rfl⟩
       replace H : (hopperref12_firsts.l0 k2 l0 y263 (wrap64 (x4_1 + 1))) = some r := by first | (rw [hy263]; with_reducible exact H) | (have H2_ := (Option.bind_some _ _).symm.trans H; rw [hy263]; with_reducible exact H2_) | (have H2_ := (Option.bind_some _ _).symm.trans H; with_reducible exact H2_) | with_reducible exact H | (rw [hy263]; exact H) | exact H
       have Ny263 := A_ hy263
       clear hy263
       have H' := A_ H
       clear H
       have p262 : 0 ≤ (x4_1 : Int) := of_decide_eq_true (by first | (with_reducible assumption) | assumption)
       have q262 : x4_1 < (l0.length : Int) := of_decide_eq_true (by first | (with_reducible assumption) | assumption)
       obtain ⟨ad262, A262_2, c262_2, e262, hx262_0, hx262_1, hx262_2, hl262_2, hi262_2⟩ := at_T35 (Kd.V_reads' HO_0.out).2.2 x4_1 p262 q262
       cases e262
       obtain ⟨ce262, hce262, hMe262, hcc262⟩ := Kd.V_get HO_0.out z35 x4_1 p262 (by first | exact q262 | exact of_decide_eq_true (by first | (with_reducible assumption) | assumption) | (have e_ := (Kd.V_reads' HO_0.out).1; omega))
       obtain ⟨ua262_2, uc262_2, rfl, ul262_2, ge262_2⟩ := k35_openF hMe262
       have hv262_2 := hcc262 2 _ rfl
       rw [add_field _ _ 2 (by omega)] at hv262_2
       replace hv262_2 := Option.some.inj (hv262_2.symm.trans hx262_2)
       injection hv262_2 with hva_ hvn_ hvc_
       rw [hva_] at ge262_2
       rw [hvc_] at ul262_2
       have HL262_2 := A_ (show Kd.V k38 38 _ w.heap.size _ _ ((rd_T35 l0 x4_1).f2) from Kd.V_mk ul262_2 ge262_2)
       clear hva_ hvn_ hvc_ ge262_2 ul262_2; clear hcc262 hce262
       have HR262_2 := A_ hi262_2
       have HC262_2 := A_ hl262_2
       clear hi262_2 hl262_2
       replace p262 := eq_true p262
       replace q262 := eq_true q262
       go_wp2_with (first | ((with_reducible refine gate_builtin (b := .append) (xs := #[.tmp 34, .tmp 39]) rfl ?_); at_builtin; refine Kd.N_append k35 (w0 := w) w.heap.size rfl (.tmp 34) (.tmp 39) 22 35 (.agg #[(.int .i64 0), (.int .i64 0), (.slice none 0 0)]) 40 rfl Try.underlying22 info35 rfl (by decide) (by omega) u3 x3_1 (⟨(rd_T35 l0 x4_1).f0, (rd_T35 l0 x4_1).f1, (rd_T35 l0 x4_1).f2⟩ : S35) [.int .i64 ((rd_T35 l0 x4_1).f0), .int .i64 ((rd_T35 l0 x4_1).f1), .slice A262_2 ((rd_T35 l0 x4_1).f2).length c262_2] (fun k_ => (P0_ k_ ∨ w.heap.size ≤ k_)) (fun k_ => ((fun k_ => (P0_ k_ ∨ w.heap.size ≤ k_))) k_ ∧ some k_ ≠ (u3 : Value).ownBlock) rfl rfl ?aP (fun _ hk => hk) ?aF ?aO ?aB ?aS ?aL ?_; (case aP => exact (k35_mkF _ _ (⟨(rd_T35 l0 x4_1).f0, (rd_T35 l0 x4_1).f1, (rd_T35 l0 x4_1).f2⟩ : S35) (Kd.V_reads' (Kd.V_mono (ok' := (fun k_ => ((fun k_ => (P0_ k_ ∨ w.heap.size ≤ k_))) k_ ∧ some k_ ≠ (u3 : Value).ownBlock)) (HL262_2.out) (fun k_ hk => ⟨hk.1, hk.2⟩))).2.1 (Kd.V_F (Kd.V_mono (ok' := (fun k_ => ((fun k_ => (P0_ k_ ∨ w.heap.size ≤ k_))) k_ ∧ some k_ ≠ (u3 : Value).ownBlock)) (HL262_2.out) (fun k_ hk => ⟨hk.1, hk.2⟩))))); (case aB => exact bw_); (case aF => exact (fun k_ hk => (.inr (Nat.le_trans (below_size bw_) hk)))); (case aO => exact (by (with_reducible repeat (first | apply Kd.N_alloc | apply Kd.N_drewN | apply Kd.N_drew)); exact HO_3.out)); (case aS => exact (below_size bw_)); (case aL => have := LMc12.out; omega); intro v264 w13 ho hb hg hat; rw [← Ny263.out] at ho; replace HO_0 := A_ (Kd.V_afterv (ok := (fun k_ => (P0_ k_ ∨ w.heap.size ≤ k_))) (pv_ HO_0.out) hg hat); replace HL262_2 := A_ (Kd.V_afterv (ok := (fun k_ => (P0_ k_ ∨ w.heap.size ≤ k_))) (by (with_reducible repeat (first | apply Kd.V_alloc | apply Kd.V_drewN | apply Kd.V_drew)); exact HL262_2.out) hg hat); replace HB := A_ (hb); have HO265 := A_ (ho); clear HO_3; clear ho hb hg hat))
       repeat (go_quiet (first | ((with_reducible refine gate_builtin (b := .append) (xs := #[.tmp 34, .tmp 39]) rfl ?_); at_builtin; refine Kd.N_append k35 (w0 := w) w.heap.size rfl (.tmp 34) (.tmp 39) 22 35 (.agg #[(.int .i64 0), (.int .i64 0), (.slice none 0 0)]) 40 rfl Try.underlying22 info35 rfl (by decide) (by omega) u3 x3_1 (⟨(rd_T35 l0 x4_1).f0, (rd_T35 l0 x4_1).f1, (rd_T35 l0 x4_1).f2⟩ : S35) [.int .i64 ((rd_T35 l0 x4_1).f0), .int .i64 ((rd_T35 l0 x4_1).f1), .slice A262_2 ((rd_T35 l0 x4_1).f2).length c262_2] (fun k_ => (P0_ k_ ∨ w.heap.size ≤ k_)) (fun k_ => ((fun k_ => (P0_ k_ ∨ w.heap.size ≤ k_))) k_ ∧ some k_ ≠ (u3 : Value).ownBlock) rfl rfl ?aP (fun _ hk => hk) ?aF ?aO ?aB ?aS ?aL ?_; (case aP => exact (k35_mkF _ _ (⟨(rd_T35 l0 x4_1).f0, (rd_T35 l0 x4_1).f1, (rd_T35 l0 x4_1).f2⟩ : S35) (Kd.V_reads' (Kd.V_mono (ok' := (fun k_ => ((fun k_ => (P0_ k_ ∨ w.heap.size ≤ k_))) k_ ∧ some k_ ≠ (u3 : Value).ownBlock)) (HL262_2.out) (fun k_ hk => ⟨hk.1, hk.2⟩))).2.1 (Kd.V_F (Kd.V_mono (ok' := (fun k_ => ((fun k_ => (P0_ k_ ∨ w.heap.size ≤ k_))) k_ ∧ some k_ ≠ (u3 : Value).ownBlock)) (HL262_2.out) (fun k_ hk => ⟨hk.1, hk.2⟩))))); (case aB => exact bw_); (case aF => exact (fun k_ hk => (.inr (Nat.le_trans (below_size bw_) hk)))); (case aO => exact (by (with_reducible repeat (first | apply Kd.N_alloc | apply Kd.N_drewN | apply Kd.N_drew)); exact HO_3.out)); (case aS => exact (below_size bw_)); (case aL => have := LMc12.out; omega); intro v264 w13 ho hb hg hat; rw [← Ny263.out] at ho; replace HO_0 := A_ (Kd.V_afterv (ok := (fun k_ => (P0_ k_ ∨ w.heap.size ≤ k_))) (pv_ HO_0.out) hg hat); replace HL262_2 := A_ (Kd.V_afterv (ok := (fun k_ => (P0_ k_ ∨ w.heap.size ≤ k_))) (by (with_reducible repeat (first | apply Kd.V_alloc | apply Kd.V_drewN | apply Kd.V_drew)); exact HL262_2.out) hg hat); replace HB := A_ (hb); have HO265 := A_ (ho); clear HO_3; clear ho hb hg hat)); try go_wp2_with (first | ((with_reducible refine gate_builtin (b := .append) (xs := #[.tmp 34, .tmp 39]) rfl ?_); at_builtin; refine Kd.N_append k35 (w0 := w) w.heap.size rfl (.tmp 34) (.tmp 39) 22 35 (.agg #[(.int .i64 0), (.int .i64 0), (.slice none 0 0)]) 40 rfl Try.underlying22 info35 rfl (by decide) (by omega) u3 x3_1 (⟨(rd_T35 l0 x4_1).f0, (rd_T35 l0 x4_1).f1, (rd_T35 l0 x4_1).f2⟩ : S35) [.int .i64 ((rd_T35 l0 x4_1).f0), .int .i64 ((rd_T35 l0 x4_1).f1), .slice A262_2 ((rd_T35 l0 x4_1).f2).length c262_2] (fun k_ => (P0_ k_ ∨ w.heap.size ≤ k_)) (fun k_ => ((fun k_ => (P0_ k_ ∨ w.heap.size ≤ k_))) k_ ∧ some k_ ≠ (u3 : Value).ownBlock) rfl rfl ?aP (fun _ hk => hk) ?aF ?aO ?aB ?aS ?aL ?_; (case aP => exact (k35_mkF _ _ (⟨(rd_T35 l0 x4_1).f0, (rd_T35 l0 x4_1).f1, (rd_T35 l0 x4_1).f2⟩ : S35) (Kd.V_reads' (Kd.V_mono (ok' := (fun k_ => ((fun k_ => (P0_ k_ ∨ w.heap.size ≤ k_))) k_ ∧ some k_ ≠ (u3 : Value).ownBlock)) (HL262_2.out) (fun k_ hk => ⟨hk.1, hk.2⟩))).2.1 (Kd.V_F (Kd.V_mono (ok' := (fun k_ => ((fun k_ => (P0_ k_ ∨ w.heap.size ≤ k_))) k_ ∧ some k_ ≠ (u3 : Value).ownBlock)) (HL262_2.out) (fun k_ hk => ⟨hk.1, hk.2⟩))))); (case aB => exact bw_); (case aF => exact (fun k_ hk => (.inr (Nat.le_trans (below_size bw_) hk)))); (case aO => exact (by (with_reducible repeat (first | apply Kd.N_alloc | apply Kd.N_drewN | apply Kd.N_drew)); exact HO_3.out)); (case aS => exact (below_size bw_)); (case aL => have := LMc12.out; omega); intro v264 w13 ho hb hg hat; rw [← Ny263.out] at ho; replace HO_0 := A_ (Kd.V_afterv (ok := (fun k_ => (P0_ k_ ∨ w.heap.size ≤ k_))) (pv_ HO_0.out) hg hat); replace HL262_2 := A_ (Kd.V_afterv (ok := (fun k_ => (P0_ k_ ∨ w.heap.size ≤ k_))) (by (with_reducible repeat (first | apply Kd.V_alloc | apply Kd.V_drewN | apply Kd.V_drew)); exact HL262_2.out) hg hat); replace HB := A_ (hb); have HO265 := A_ (ho); clear HO_3; clear ho hb hg hat)))
       go_roundg k2
       case measure => have := HK1.out; have := HK2.out; omega
       case rel => exact ⟨(y263), (wrap64 (x4_1 + 1)), (by first | rfl | (simp; done) | (simp [*]; done)), H', ⟨by have := HK1.out; have := HK2.out; omega⟩, ⟨by (with_reducible repeat (first | apply Kd.V_alloc | apply Kd.V_drewN | apply Kd.V_drew)); exact HO_0.out⟩, ⟨by (with_reducible repeat (first | apply Kd.N_alloc | apply Kd.N_drewN | apply Kd.N_drew)); exact HO265.out⟩, ⟨by repeat (first | (with_reducible first | exact HB.out | apply wa_ | apply wn_ | apply wd_) | exact HB.out)⟩⟩
/-! ### hopperref05_Ready: function 21 -/
def hopperref05_Ready.l0 : Nat → List (S38) → Int → Int → Int → List (S38) → Option ((List (S38)))
 | 0, _, _, _, _, _ => none
 | k + 1, x3, x4, x267000, x267001, x267002 => if x4 < (x267002.length : Int) then (if 0 ≤ x4 then (if ((rd_T38 x267002 x4).f1) < x267001 then (some x3) else (if (wrap64 (((rd_T38 x267002 x4).f1) - x267001)) = x4 then (if x3.length < 2513169434916 then (hopperref05_Ready.l0 k (x3 ++ [(⟨(rd_T38 x267002 x4).f0, (rd_T38 x267002 x4).f1, (rd_T38 x267002 x4).f2, (rd_T38 x267002 x4).f3, (rd_T38 x267002 x4).f4, (rd_T38 x267002 x4).f5⟩ : S38)]) (wrap64 (x4 + 1)) x267000 x267001 x267002) else (none)) else (some x3))) else (none)) else (some x3)
def hopperref05_Ready.f (k : Nat) (a0_0 : Int) (a0_1 : Int) (l0_2 : List (S38)) : Option ((List (S38))) := hopperref05_Ready.l0 k ([] : List (S38)) 0 a0_0 a0_1 l0_2
theorem hopperref05_Ready.mono_l : ∀ k, (∀ y0 y1 y2 y3 y4, LeO (hopperref05_Ready.l0 k y0 y1 y2 y3 y4) (hopperref05_Ready.l0 (k + 1) y0 y1 y2 y3 y4))
 | 0 => fun _ _ _ _ _ r h => by simp [hopperref05_Ready.l0] at h
 | k + 1 => by
  have ih0 := hopperref05_Ready.mono_l k
  · intro y0 y1 y2 y3 y4
    unfold hopperref05_Ready.l0
    repeat' first
    | (with_reducible exact ih0 _ _ _ _ _)
    | (with_reducible exact LeO.refl _)
    | (with_reducible exact LeO.none _)
    | (with_reducible refine LeO.ite ?_ ?_)
    | (with_reducible refine LeO.bind ?_ (fun _ => ?_))
    | exact ih0 _ _ _ _ _
    | exact LeO.none _
    | refine LeO.ite ?_ ?_
    | refine LeO.bind ?_ (fun _ => ?_)
theorem hopperref05_Ready.mono : ∀ a0 a1 a2 k, LeO (hopperref05_Ready.f k a0 a1 a2) (hopperref05_Ready.f (k + 1) a0 a1 a2) := by
 intro a0 a1 a2 k
 have ih0 := hopperref05_Ready.mono_l k
 unfold hopperref05_Ready.f
 repeat' first
  | (with_reducible exact ih0 _ _ _ _ _)
  | (with_reducible exact LeO.refl _)
  | (with_reducible exact LeO.none _)
  | (with_reducible refine LeO.ite ?_ ?_)
  | (with_reducible refine LeO.bind ?_ (fun _ => ?_))
  | exact ih0 _ _ _ _ _
  | exact LeO.none _
  | refine LeO.ite ?_ ?_
  | refine LeO.bind ?_ (fun _ => ?_)
set_option maxHeartbeats 8000000 in
set_option maxRecDepth 100000 in
theorem hopperref05_Ready.calls (k : Nat) (a0_0 : Int) (a0_1 : Int) (A0_2 : Option Addr) (c0_2 : Nat) (l0_2 : List (S38)) (r : List (S38)) (w : World) (hr0_2 : Kd.C k38 w A0_2 l0_2.length l0_2) (hc0_2 : l0_2.length ≤ c0_2) (h : hopperref05_Ready.f k a0_0 a0_1 l0_2 = some r) :
 Calls Try.prog 21 #[.agg #[.int .i64 a0_0, .int .i64 a0_1, .slice A0_2 l0_2.length c0_2]] w fun e w' => ∃ v0_ : Value, e = .returned (v0_) ∧ Kd.R k38 38 w' w.heap.size (fun _ => True) v0_ r ∧ Below w.heap.size w w' := by
 have hu35 := Try.underlying35
 have hu38 := Try.underlying38
 have HR0_2 := A_ hr0_2
 have HC0_2 := A_ hc0_2
 clear hr0_2 hc0_2; have HB := A_ (Below.refl w.heap.size w)
 have H : (hopperref05_Ready.l0 k ([] : List (S38)) 0 a0_0 a0_1 l0_2) = some r := h
 clear h
 have H' := A_ H
 clear H
 go_enter Try.func21, Try.ntmps21
 go_wp2_with (first | ((with_reducible refine gate_dst (N := 1) rfl ?_); refine box_event ?hg (N := 1) ?hd (cs := #[.int .i64 a0_0, .int .i64 a0_1, .slice A0_2 l0_2.length c0_2]) (t := 35) ?hr ?_; (case hd => rfl); (case hg => rfl); (case hr => first | (go_simp; done) | (go_simp; rfl)); intro gb266 hg w2 hbox hb; have n0_ := A_ (below_step bw_ hb); have n1_ := A_ (hbox); have n2_ := A_ (gz_ (w := w) hg); have n3_ := A_ (gz_ (w := w) hg); replace HB := n0_; have BK266 := n1_; have GW266 := n2_; have GE266 := n3_; clear n0_ n1_ n2_ n3_; clear hb hbox hg))
 repeat (go_quiet (first | ((with_reducible refine gate_dst (N := 1) rfl ?_); refine box_event ?hg (N := 1) ?hd (cs := #[.int .i64 a0_0, .int .i64 a0_1, .slice A0_2 l0_2.length c0_2]) (t := 35) ?hr ?_; (case hd => rfl); (case hg => rfl); (case hr => first | (go_simp; done) | (go_simp; rfl)); intro gb266 hg w2 hbox hb; have n0_ := A_ (below_step bw_ hb); have n1_ := A_ (hbox); have n2_ := A_ (gz_ (w := w) hg); have n3_ := A_ (gz_ (w := w) hg); replace HB := n0_; have BK266 := n1_; have GW266 := n2_; have GE266 := n3_; clear n0_ n1_ n2_ n3_; clear hb hbox hg)); try go_wp2_with (first | ((with_reducible refine gate_dst (N := 1) rfl ?_); refine box_event ?hg (N := 1) ?hd (cs := #[.int .i64 a0_0, .int .i64 a0_1, .slice A0_2 l0_2.length c0_2]) (t := 35) ?hr ?_; (case hd => rfl); (case hg => rfl); (case hr => first | (go_simp; done) | (go_simp; rfl)); intro gb266 hg w2 hbox hb; have n0_ := A_ (below_step bw_ hb); have n1_ := A_ (hbox); have n2_ := A_ (gz_ (w := w) hg); have n3_ := A_ (gz_ (w := w) hg); replace HB := n0_; have BK266 := n1_; have GW266 := n2_; have GE266 := n3_; clear n0_ n1_ n2_ n3_; clear hb hbox hg)))
 go_loopg [3, 4] k (fun kq v3 v4 w' => ∃ (x3_1 : List (S38)) (x4_1 : Int), v4 = .int .i64 x4_1 ∧ Aside0 (hopperref05_Ready.l0 kq x3_1 x4_1 a0_0 a0_1 l0_2 = some r) ∧ Aside0 (kq ≤ k) ∧ Aside0 (Kd.R k38 38 w' w.heap.size (fun _ => True) v3 x3_1) ∧ Aside0 (w'.heap[gb266]? = some (.cells #[.int .i64 a0_0, .int .i64 a0_1, (.slice A0_2 l0_2.length c0_2)] 35 (0, 0))) ∧ Aside0 (Below w.heap.size w w'))
 case atStart => exact ⟨(([] : List (S38))), (0), (by first | rfl | (simp; done) | (simp [*]; done)), H', ⟨Nat.le_refl _⟩, ⟨by first | exact Kd.R_nil _ _ _ _ _ | exact Kd.N_nil _ _ _ _ _ | exact Kd.V_nil _ _ _ _ _ | exact Kd.Q_nil _ _ _ _ _ | exact Kd.S_nil _ _ _ _ _⟩, ⟨bk_⟩, ⟨by repeat (first | (with_reducible first | exact HB.out | apply wa_ | apply wn_ | apply wd_ | refine ws_ ?_ GE266.out) | exact HB.out)⟩⟩
 case round =>
  clear H'; (try clear c2); (try clear p2)
  obtain ⟨x3_1, x4_1, rfl, HA, HK1, HO_3, BK266, HB⟩ := hrel
  cases gk with
  | zero => exact absurd HA.out (by simp [hopperref05_Ready.l0])
  | succ k1 =>
   have H := HA.out
   clear HA
   simp only [hopperref05_Ready.l0] at H
   by_cases c3 : x4_1 < (l0_2.length : Int)
   · rw [if_pos c3] at H
     have c3b0 : decide (x4_1 < (l0_2.length : Int)) = true := decide_eq_true c3
     clear c3
     by_cases c4 : 0 ≤ x4_1
     rotate_left
     · rw [if_neg c4] at H
       exact absurd H (by simp)
     rw [if_pos c4] at H
     have c4b0 : decide (0 ≤ x4_1) = true := decide_eq_true c4
     clear c4
     by_cases c5 : ((rd_T38 l0_2 x4_1).f1) < a0_1
     · rw [if_pos c5] at H
       have c5b0 : decide (((rd_T38 l0_2 x4_1).f1) < a0_1) = true := decide_eq_true c5
       clear c5
       obtain rfl := Option.some.inj H
       have hcz6_0 : wr.cell? ⟨gb266, 0, none⟩ = some (.int .i64 a0_0) := e_ BK266 0; have hcz6_1 : wr.cell? ⟨gb266, 1, none⟩ = some (.int .i64 a0_1) := e_ BK266 1; have hcz6_2 : wr.cell? ⟨gb266, 2, none⟩ = some (.slice A0_2 l0_2.length c0_2) := e_ BK266 2; obtain ⟨hfz6_0, hfz6_1, hfz6_2⟩ := z3_ BK266
       have p267 : 0 ≤ (x4_1 : Int) := of_decide_eq_true (by first | (with_reducible assumption) | assumption)
       have q267 : x4_1 < (l0_2.length : Int) := of_decide_eq_true (by first | (with_reducible assumption) | assumption)
       obtain ⟨ad267, e267, hx267_0, hx267_1, hx267_2, hx267_3, hx267_4, hx267_5⟩ := at_T38 HR0_2.out x4_1 p267 q267
       cases e267
       replace hx267_0 := on_ HB.out hx267_0
       replace hx267_1 := on_ HB.out hx267_1
       replace hx267_2 := on_ HB.out hx267_2
       replace hx267_3 := on_ HB.out hx267_3
       replace hx267_4 := on_ HB.out hx267_4
       replace hx267_5 := on_ HB.out hx267_5
       replace p267 := eq_true p267
       replace q267 := eq_true q267
       go_wp2
       repeat (go_quiet (fail); try go_wp2)
       go_ret
       exact ⟨_, by first | rfl | (simp [errW_none, errW_some] <;> rfl) | (simp [*, errW_none, errW_some] <;> rfl), by (with_reducible repeat (first | apply ra_ | apply rn_ | apply rd_)); exact HO_3.out, by repeat (first | (with_reducible first | exact HB.out | apply wa_ | apply wn_ | apply wd_ | refine ws_ ?_ GE266.out) | exact HB.out)⟩
     · rw [if_neg c5] at H
       have c5b0 : decide (((rd_T38 l0_2 x4_1).f1) < a0_1) = false := decide_eq_false c5
       clear c5
       by_cases c7 : (wrap64 (((rd_T38 l0_2 x4_1).f1) - a0_1)) = x4_1
       · rw [if_pos c7] at H
         have c7b0 : ((wrap64 (((rd_T38 l0_2 x4_1).f1) - a0_1)) == x4_1) = true := beq_iff_eq.mpr c7
         have c7b1 : ((wrap64 (((rd_T38 l0_2 x4_1).f1) - a0_1)) != x4_1) = false := bne_eq_false_iff_eq.mpr c7
         clear c7
         by_cases c8 : x3_1.length < 2513169434916
         rotate_left
         · rw [if_neg c8] at H
           exact absurd H (by simp)
         rw [if_pos c8] at H
         have LMc8 := A_ c8
         clear c8
         obtain ⟨y270, hy270⟩ : ∃ y_ : List (S38), y_ = (x3_1 ++ [(⟨(rd_T38 l0_2 x4_1).f0, (rd_T38 l0_2 x4_1).f1, (rd_T38 l0_2 x4_1).f2, (rd_T38 l0_2 x4_1).f3, (rd_T38 l0_2 x4_1).f4, (rd_T38 l0_2 x4_1).f5⟩ : S38)]) := ⟨_, rfl⟩
         replace H : (hopperref05_Ready.l0 k1 y270 (wrap64 (x4_1 + 1)) a0_0 a0_1 l0_2) = some r := by first | (rw [hy270]; with_reducible exact H) | (have H2_ := (Option.bind_some _ _).symm.trans H; rw [hy270]; with_reducible exact H2_) | (have H2_ := (Option.bind_some _ _).symm.trans H; with_reducible exact H2_) | with_reducible exact H | (rw [hy270]; exact H) | exact H
         have Ny270 := A_ hy270
         clear hy270
         have H' := A_ H
         clear H; have hcz9_0 : wr.cell? ⟨gb266, 0, none⟩ = some (.int .i64 a0_0) := e_ BK266 0; have hcz9_1 : wr.cell? ⟨gb266, 1, none⟩ = some (.int .i64 a0_1) := e_ BK266 1; have hcz9_2 : wr.cell? ⟨gb266, 2, none⟩ = some (.slice A0_2 l0_2.length c0_2) := e_ BK266 2; obtain ⟨hfz9_0, hfz9_1, hfz9_2⟩ := z3_ BK266
         have p267 : 0 ≤ (x4_1 : Int) := of_decide_eq_true (by first | (with_reducible assumption) | assumption)
         have q267 : x4_1 < (l0_2.length : Int) := of_decide_eq_true (by first | (with_reducible assumption) | assumption)
         obtain ⟨ad267, e267, hx267_0, hx267_1, hx267_2, hx267_3, hx267_4, hx267_5⟩ := at_T38 HR0_2.out x4_1 p267 q267
         cases e267
         replace hx267_0 := on_ HB.out hx267_0
         replace hx267_1 := on_ HB.out hx267_1
         replace hx267_2 := on_ HB.out hx267_2
         replace hx267_3 := on_ HB.out hx267_3
         replace hx267_4 := on_ HB.out hx267_4
         replace hx267_5 := on_ HB.out hx267_5
         replace p267 := eq_true p267
         replace q267 := eq_true q267
         have p268 : 0 ≤ (x4_1 : Int) := of_decide_eq_true (by first | (with_reducible assumption) | assumption)
         have q268 : x4_1 < (l0_2.length : Int) := of_decide_eq_true (by first | (with_reducible assumption) | assumption)
         obtain ⟨ad268, e268, hx268_0, hx268_1, hx268_2, hx268_3, hx268_4, hx268_5⟩ := at_T38 HR0_2.out x4_1 p268 q268
         obtain rfl : ad267 = ad268 := (by injection e268)
         replace hx268_0 := on_ HB.out hx268_0
         replace hx268_1 := on_ HB.out hx268_1
         replace hx268_2 := on_ HB.out hx268_2
         replace hx268_3 := on_ HB.out hx268_3
         replace hx268_4 := on_ HB.out hx268_4
         replace hx268_5 := on_ HB.out hx268_5
         replace p268 := eq_true p268
         replace q268 := eq_true q268
         have p269 : 0 ≤ (x4_1 : Int) := of_decide_eq_true (by first | (with_reducible assumption) | assumption)
         have q269 : x4_1 < (l0_2.length : Int) := of_decide_eq_true (by first | (with_reducible assumption) | assumption)
         obtain ⟨ad269, e269, hx269_0, hx269_1, hx269_2, hx269_3, hx269_4, hx269_5⟩ := at_T38 HR0_2.out x4_1 p269 q269
         obtain rfl : ad267 = ad269 := (by injection e269)
         replace hx269_0 := on_ HB.out hx269_0
         replace hx269_1 := on_ HB.out hx269_1
         replace hx269_2 := on_ HB.out hx269_2
         replace hx269_3 := on_ HB.out hx269_3
         replace hx269_4 := on_ HB.out hx269_4
         replace hx269_5 := on_ HB.out hx269_5
         replace p269 := eq_true p269
         replace q269 := eq_true q269
         go_wp2_with (first | ((with_reducible refine gate_builtin (b := .append) (xs := #[.tmp 34, .tmp 40]) rfl ?_); at_builtin; refine Kd.R_append k38 (w0 := w) w.heap.size rfl (.tmp 34) (.tmp 40) 23 38 (.agg #[(.int .i64 0), (.int .i64 0), (.int .i64 0), (.int .i64 0), (.int .i64 0), (.string ⟨#[]⟩)]) 56 rfl Try.underlying23 info38 rfl (by decide) (by omega) u3 x3_1 (⟨(rd_T38 l0_2 x4_1).f0, (rd_T38 l0_2 x4_1).f1, (rd_T38 l0_2 x4_1).f2, (rd_T38 l0_2 x4_1).f3, (rd_T38 l0_2 x4_1).f4, (rd_T38 l0_2 x4_1).f5⟩ : S38) [.int .i64 ((rd_T38 l0_2 x4_1).f0), .int .i64 ((rd_T38 l0_2 x4_1).f1), .int .i64 ((rd_T38 l0_2 x4_1).f2), .int .i64 ((rd_T38 l0_2 x4_1).f3), .int .i64 ((rd_T38 l0_2 x4_1).f4), .string ((rd_T38 l0_2 x4_1).f5)] (fun _ => True) (fun _ => False) rfl rfl ?aP (fun _ hk => hk.elim) ?aF ?aO ?aB ?aS ?aL ?_; (case aP => exact k38_mkM _ _ _ (⟨(rd_T38 l0_2 x4_1).f0, (rd_T38 l0_2 x4_1).f1, (rd_T38 l0_2 x4_1).f2, (rd_T38 l0_2 x4_1).f3, (rd_T38 l0_2 x4_1).f4, (rd_T38 l0_2 x4_1).f5⟩ : S38)); (case aB => exact bw_); (case aF => exact (fun _ _ => trivial)); (case aO => exact (pr_ HO_3.out)); (case aS => exact (below_size bw_)); (case aL => have := LMc8.out; omega); intro v271 w10 ho hb hg hat; rw [← Ny270.out] at ho; replace BK266 := A_ (blk_grown (g := gb266) (o := .cells #[.int .i64 a0_0, .int .i64 a0_1, .slice (some ad267) l0_2.length c0_2] 35 (0, 0)) (by (with_reducible repeat (first | refine bn_ ?_ _ | refine bd_ ?_ | refine ba_ ?_ _)); exact BK266.out) hg (Kd.R_ne HO_3.out BK266.out (by decide))); replace HB := A_ (hb); have HO272 := A_ (ho); clear HO_3; clear ho hb hg hat))
         repeat (go_quiet (first | ((with_reducible refine gate_builtin (b := .append) (xs := #[.tmp 34, .tmp 40]) rfl ?_); at_builtin; refine Kd.R_append k38 (w0 := w) w.heap.size rfl (.tmp 34) (.tmp 40) 23 38 (.agg #[(.int .i64 0), (.int .i64 0), (.int .i64 0), (.int .i64 0), (.int .i64 0), (.string ⟨#[]⟩)]) 56 rfl Try.underlying23 info38 rfl (by decide) (by omega) u3 x3_1 (⟨(rd_T38 l0_2 x4_1).f0, (rd_T38 l0_2 x4_1).f1, (rd_T38 l0_2 x4_1).f2, (rd_T38 l0_2 x4_1).f3, (rd_T38 l0_2 x4_1).f4, (rd_T38 l0_2 x4_1).f5⟩ : S38) [.int .i64 ((rd_T38 l0_2 x4_1).f0), .int .i64 ((rd_T38 l0_2 x4_1).f1), .int .i64 ((rd_T38 l0_2 x4_1).f2), .int .i64 ((rd_T38 l0_2 x4_1).f3), .int .i64 ((rd_T38 l0_2 x4_1).f4), .string ((rd_T38 l0_2 x4_1).f5)] (fun _ => True) (fun _ => False) rfl rfl ?aP (fun _ hk => hk.elim) ?aF ?aO ?aB ?aS ?aL ?_; (case aP => exact k38_mkM _ _ _ (⟨(rd_T38 l0_2 x4_1).f0, (rd_T38 l0_2 x4_1).f1, (rd_T38 l0_2 x4_1).f2, (rd_T38 l0_2 x4_1).f3, (rd_T38 l0_2 x4_1).f4, (rd_T38 l0_2 x4_1).f5⟩ : S38)); (case aB => exact bw_); (case aF => exact (fun _ _ => trivial)); (case aO => exact (pr_ HO_3.out)); (case aS => exact (below_size bw_)); (case aL => have := LMc8.out; omega); intro v271 w10 ho hb hg hat; rw [← Ny270.out] at ho; replace BK266 := A_ (blk_grown (g := gb266) (o := .cells #[.int .i64 a0_0, .int .i64 a0_1, .slice (some ad267) l0_2.length c0_2] 35 (0, 0)) (by (with_reducible repeat (first | refine bn_ ?_ _ | refine bd_ ?_ | refine ba_ ?_ _)); exact BK266.out) hg (Kd.R_ne HO_3.out BK266.out (by decide))); replace HB := A_ (hb); have HO272 := A_ (ho); clear HO_3; clear ho hb hg hat)); try go_wp2_with (first | ((with_reducible refine gate_builtin (b := .append) (xs := #[.tmp 34, .tmp 40]) rfl ?_); at_builtin; refine Kd.R_append k38 (w0 := w) w.heap.size rfl (.tmp 34) (.tmp 40) 23 38 (.agg #[(.int .i64 0), (.int .i64 0), (.int .i64 0), (.int .i64 0), (.int .i64 0), (.string ⟨#[]⟩)]) 56 rfl Try.underlying23 info38 rfl (by decide) (by omega) u3 x3_1 (⟨(rd_T38 l0_2 x4_1).f0, (rd_T38 l0_2 x4_1).f1, (rd_T38 l0_2 x4_1).f2, (rd_T38 l0_2 x4_1).f3, (rd_T38 l0_2 x4_1).f4, (rd_T38 l0_2 x4_1).f5⟩ : S38) [.int .i64 ((rd_T38 l0_2 x4_1).f0), .int .i64 ((rd_T38 l0_2 x4_1).f1), .int .i64 ((rd_T38 l0_2 x4_1).f2), .int .i64 ((rd_T38 l0_2 x4_1).f3), .int .i64 ((rd_T38 l0_2 x4_1).f4), .string ((rd_T38 l0_2 x4_1).f5)] (fun _ => True) (fun _ => False) rfl rfl ?aP (fun _ hk => hk.elim) ?aF ?aO ?aB ?aS ?aL ?_; (case aP => exact k38_mkM _ _ _ (⟨(rd_T38 l0_2 x4_1).f0, (rd_T38 l0_2 x4_1).f1, (rd_T38 l0_2 x4_1).f2, (rd_T38 l0_2 x4_1).f3, (rd_T38 l0_2 x4_1).f4, (rd_T38 l0_2 x4_1).f5⟩ : S38)); (case aB => exact bw_); (case aF => exact (fun _ _ => trivial)); (case aO => exact (pr_ HO_3.out)); (case aS => exact (below_size bw_)); (case aL => have := LMc8.out; omega); intro v271 w10 ho hb hg hat; rw [← Ny270.out] at ho; replace BK266 := A_ (blk_grown (g := gb266) (o := .cells #[.int .i64 a0_0, .int .i64 a0_1, .slice (some ad267) l0_2.length c0_2] 35 (0, 0)) (by (with_reducible repeat (first | refine bn_ ?_ _ | refine bd_ ?_ | refine ba_ ?_ _)); exact BK266.out) hg (Kd.R_ne HO_3.out BK266.out (by decide))); replace HB := A_ (hb); have HO272 := A_ (ho); clear HO_3; clear ho hb hg hat)))
         go_roundg k1
         case measure => have := HK1.out; omega
         case rel => exact ⟨(y270), (wrap64 (x4_1 + 1)), (by first | rfl | (simp; done) | (simp [*]; done)), H', ⟨by have := HK1.out; omega⟩, ⟨by (with_reducible repeat (first | apply ra_ | apply rn_ | apply rd_)); exact HO272.out⟩, ⟨bk_⟩, ⟨by repeat (first | (with_reducible first | exact HB.out | apply wa_ | apply wn_ | apply wd_ | refine ws_ ?_ GE266.out) | exact HB.out)⟩⟩
       · rw [if_neg c7] at H
         have c7b0 : ((wrap64 (((rd_T38 l0_2 x4_1).f1) - a0_1)) == x4_1) = false := beq_eq_false_iff_ne.mpr c7
         have c7b1 : ((wrap64 (((rd_T38 l0_2 x4_1).f1) - a0_1)) != x4_1) = true := bne_iff_ne.mpr c7
         obtain rfl := Option.some.inj H
         have hcz11_0 : wr.cell? ⟨gb266, 0, none⟩ = some (.int .i64 a0_0) := e_ BK266 0; have hcz11_1 : wr.cell? ⟨gb266, 1, none⟩ = some (.int .i64 a0_1) := e_ BK266 1; have hcz11_2 : wr.cell? ⟨gb266, 2, none⟩ = some (.slice A0_2 l0_2.length c0_2) := e_ BK266 2; obtain ⟨hfz11_0, hfz11_1, hfz11_2⟩ := z3_ BK266
         have p267 : 0 ≤ (x4_1 : Int) := of_decide_eq_true (by first | (with_reducible assumption) | assumption)
         have q267 : x4_1 < (l0_2.length : Int) := of_decide_eq_true (by first | (with_reducible assumption) | assumption)
         obtain ⟨ad267, e267, hx267_0, hx267_1, hx267_2, hx267_3, hx267_4, hx267_5⟩ := at_T38 HR0_2.out x4_1 p267 q267
         cases e267
         replace hx267_0 := on_ HB.out hx267_0
         replace hx267_1 := on_ HB.out hx267_1
         replace hx267_2 := on_ HB.out hx267_2
         replace hx267_3 := on_ HB.out hx267_3
         replace hx267_4 := on_ HB.out hx267_4
         replace hx267_5 := on_ HB.out hx267_5
         replace p267 := eq_true p267
         replace q267 := eq_true q267
         have p268 : 0 ≤ (x4_1 : Int) := of_decide_eq_true (by first | (with_reducible assumption) | assumption)
         have q268 : x4_1 < (l0_2.length : Int) := of_decide_eq_true (by first | (with_reducible assumption) | assumption)
         obtain ⟨ad268, e268, hx268_0, hx268_1, hx268_2, hx268_3, hx268_4, hx268_5⟩ := at_T38 HR0_2.out x4_1 p268 q268
         obtain rfl : ad267 = ad268 := (by injection e268)
         replace hx268_0 := on_ HB.out hx268_0
         replace hx268_1 := on_ HB.out hx268_1
         replace hx268_2 := on_ HB.out hx268_2
         replace hx268_3 := on_ HB.out hx268_3
         replace hx268_4 := on_ HB.out hx268_4
         replace hx268_5 := on_ HB.out hx268_5
         replace p268 := eq_true p268
         replace q268 := eq_true q268
         go_wp2
         repeat (go_quiet (fail); try go_wp2)
         go_ret
         exact ⟨_, by first | rfl | (simp [errW_none, errW_some] <;> rfl) | (simp [*, errW_none, errW_some] <;> rfl), by (with_reducible repeat (first | apply ra_ | apply rn_ | apply rd_)); exact HO_3.out, by repeat (first | (with_reducible first | exact HB.out | apply wa_ | apply wn_ | apply wd_ | refine ws_ ?_ GE266.out) | exact HB.out)⟩
   · rw [if_neg c3] at H
     have c3b0 : decide (x4_1 < (l0_2.length : Int)) = false := decide_eq_false c3
     clear c3
     obtain rfl := Option.some.inj H
     have hcz12_0 : wr.cell? ⟨gb266, 0, none⟩ = some (.int .i64 a0_0) := e_ BK266 0; have hcz12_1 : wr.cell? ⟨gb266, 1, none⟩ = some (.int .i64 a0_1) := e_ BK266 1; have hcz12_2 : wr.cell? ⟨gb266, 2, none⟩ = some (.slice A0_2 l0_2.length c0_2) := e_ BK266 2; obtain ⟨hfz12_0, hfz12_1, hfz12_2⟩ := z3_ BK266
     go_wp2
     repeat (go_quiet (fail); try go_wp2)
     go_ret
     exact ⟨_, by first | rfl | (simp [errW_none, errW_some] <;> rfl) | (simp [*, errW_none, errW_some] <;> rfl), by (with_reducible repeat (first | apply ra_ | apply rn_ | apply rd_)); exact HO_3.out, by repeat (first | (with_reducible first | exact HB.out | apply wa_ | apply wn_ | apply wd_ | refine ws_ ?_ GE266.out) | exact HB.out)⟩

/-! ### hopperref04_Check: function 36 -/
def hopperref04_Check.f (a0_0 : Int) (a0_1 : Int) (a0_2 : Int) (a0_3 : Int) (a0_4 : Int) (a0_5 : ByteArray) : Option (Bool) := if a0_0 < 0 then (some false) else (if a0_0 > 255 then (some false) else (if a0_1 < 0 then (some false) else (if a0_1 ≥ 4294967296 then (some false) else (if a0_2 < 0 then (some false) else (if a0_2 > a0_3 then (some false) else (if a0_3 > 1099511627776 then (some false) else (if a0_4 ≥ 1 then (if a0_4 ≤ 1073741824 then (some (decide ((a0_5.size : Int) ≤ 256))) else (some false)) else (some false))))))))
set_option maxHeartbeats 8000000 in
set_option maxRecDepth 100000 in
theorem hopperref04_Check.calls (a0_0 : Int) (a0_1 : Int) (a0_2 : Int) (a0_3 : Int) (a0_4 : Int) (a0_5 : ByteArray) (r : Bool) (w : World) (h : hopperref04_Check.f a0_0 a0_1 a0_2 a0_3 a0_4 a0_5 = some r) :
 Calls Try.prog 36 #[.agg #[.int .i64 a0_0, .int .i64 a0_1, .int .i64 a0_2, .int .i64 a0_3, .int .i64 a0_4, .string a0_5]] w fun e w' => e = .returned (.bool r) ∧ Below w.heap.size w w' := by
 have hu38 := Try.underlying38
 have HB := A_ (Below.refl w.heap.size w)
 have H : (if a0_0 < 0 then (some false) else (if a0_0 > 255 then (some false) else (if a0_1 < 0 then (some false) else (if a0_1 ≥ 4294967296 then (some false) else (if a0_2 < 0 then (some false) else (if a0_2 > a0_3 then (some false) else (if a0_3 > 1099511627776 then (some false) else (if a0_4 ≥ 1 then (if a0_4 ≤ 1073741824 then (some (decide ((a0_5.size : Int) ≤ 256))) else (some false)) else (some false))))))))) = some r := h
 clear h
 by_cases c2 : a0_0 < 0
 · rw [if_pos c2] at H
   have c2b0 : decide (a0_0 < 0) = true := decide_eq_true c2
   clear c2
   obtain rfl := Option.some.inj H
   go_enter Try.func36, Try.ntmps36
   go_wp2_with (first | ((with_reducible refine gate_dst (N := 1) rfl ?_); (try (refine gate_guard (by rfl) ?_; dsimp only)); refine box_event ?hg (N := 1) ?hd (cs := #[.int .i64 a0_0, .int .i64 a0_1, .int .i64 a0_2, .int .i64 a0_3, .int .i64 a0_4, .string a0_5]) (t := 38) ?hr ?_; (case hd => rfl); (case hg => rfl); (case hr => first | (go_simp; done) | (go_simp; rfl)); intro gb273 hg w3 hbox hb; have n0_ := A_ (below_step bw_ hb); have n1_ := A_ (hbox); have n2_ := A_ (gz_ (w := w) hg); have n3_ := A_ (gz_ (w := w) hg); replace HB := n0_; have BK273 := n1_; have GW273 := n2_; have GE273 := n3_; clear n0_ n1_ n2_ n3_; clear hb hbox hg; have hcz4_0 : w3.cell? ⟨gb273, 0, none⟩ = some (.int .i64 a0_0) := e_ BK273 0; have hcz4_1 : w3.cell? ⟨gb273, 1, none⟩ = some (.int .i64 a0_1) := e_ BK273 1; have hcz4_2 : w3.cell? ⟨gb273, 2, none⟩ = some (.int .i64 a0_2) := e_ BK273 2; have hcz4_3 : w3.cell? ⟨gb273, 3, none⟩ = some (.int .i64 a0_3) := e_ BK273 3; have hcz4_4 : w3.cell? ⟨gb273, 4, none⟩ = some (.int .i64 a0_4) := e_ BK273 4; have hcz4_5 : w3.cell? ⟨gb273, 5, none⟩ = some (.string a0_5) := e_ BK273 5; obtain ⟨hfz4_0, hfz4_1, hfz4_2, hfz4_3, hfz4_4, hfz4_5⟩ := z6_ BK273))
   go_ret
   exact ⟨by first | rfl | (simp [errW_none, errW_some] <;> rfl) | (simp [*, errW_none, errW_some] <;> rfl), by repeat (first | (with_reducible first | exact HB.out | apply wa_ | apply wn_ | apply wd_ | refine ws_ ?_ GE273.out) | exact HB.out)⟩
 rw [if_neg c2] at H
 have c2b0 : decide (a0_0 < 0) = false := decide_eq_false c2
 clear c2
 by_cases c5 : a0_0 > 255
 · rw [if_pos c5] at H
   have c5b0 : decide (255 < a0_0) = true := decide_eq_true c5
   clear c5
   obtain rfl := Option.some.inj H
   go_enter Try.func36, Try.ntmps36
   go_wp2_with (first | ((with_reducible refine gate_dst (N := 1) rfl ?_); (try (refine gate_guard (by rfl) ?_; dsimp only)); refine box_event ?hg (N := 1) ?hd (cs := #[.int .i64 a0_0, .int .i64 a0_1, .int .i64 a0_2, .int .i64 a0_3, .int .i64 a0_4, .string a0_5]) (t := 38) ?hr ?_; (case hd => rfl); (case hg => rfl); (case hr => first | (go_simp; done) | (go_simp; rfl)); intro gb273 hg w6 hbox hb; have n0_ := A_ (below_step bw_ hb); have n1_ := A_ (hbox); have n2_ := A_ (gz_ (w := w) hg); have n3_ := A_ (gz_ (w := w) hg); replace HB := n0_; have BK273 := n1_; have GW273 := n2_; have GE273 := n3_; clear n0_ n1_ n2_ n3_; clear hb hbox hg; have hcz7_0 : w6.cell? ⟨gb273, 0, none⟩ = some (.int .i64 a0_0) := e_ BK273 0; have hcz7_1 : w6.cell? ⟨gb273, 1, none⟩ = some (.int .i64 a0_1) := e_ BK273 1; have hcz7_2 : w6.cell? ⟨gb273, 2, none⟩ = some (.int .i64 a0_2) := e_ BK273 2; have hcz7_3 : w6.cell? ⟨gb273, 3, none⟩ = some (.int .i64 a0_3) := e_ BK273 3; have hcz7_4 : w6.cell? ⟨gb273, 4, none⟩ = some (.int .i64 a0_4) := e_ BK273 4; have hcz7_5 : w6.cell? ⟨gb273, 5, none⟩ = some (.string a0_5) := e_ BK273 5; obtain ⟨hfz7_0, hfz7_1, hfz7_2, hfz7_3, hfz7_4, hfz7_5⟩ := z6_ BK273))
   go_ret
   exact ⟨by first | rfl | (simp [errW_none, errW_some] <;> rfl) | (simp [*, errW_none, errW_some] <;> rfl), by repeat (first | (with_reducible first | exact HB.out | apply wa_ | apply wn_ | apply wd_ | refine ws_ ?_ GE273.out) | exact HB.out)⟩
 rw [if_neg c5] at H
 have c5b0 : decide (255 < a0_0) = false := decide_eq_false c5
 clear c5
 by_cases c8 : a0_1 < 0
 · rw [if_pos c8] at H
   have c8b0 : decide (a0_1 < 0) = true := decide_eq_true c8
   clear c8
   obtain rfl := Option.some.inj H
   go_enter Try.func36, Try.ntmps36
   go_wp2_with (first | ((with_reducible refine gate_dst (N := 1) rfl ?_); (try (refine gate_guard (by rfl) ?_; dsimp only)); refine box_event ?hg (N := 1) ?hd (cs := #[.int .i64 a0_0, .int .i64 a0_1, .int .i64 a0_2, .int .i64 a0_3, .int .i64 a0_4, .string a0_5]) (t := 38) ?hr ?_; (case hd => rfl); (case hg => rfl); (case hr => first | (go_simp; done) | (go_simp; rfl)); intro gb273 hg w9 hbox hb; have n0_ := A_ (below_step bw_ hb); have n1_ := A_ (hbox); have n2_ := A_ (gz_ (w := w) hg); have n3_ := A_ (gz_ (w := w) hg); replace HB := n0_; have BK273 := n1_; have GW273 := n2_; have GE273 := n3_; clear n0_ n1_ n2_ n3_; clear hb hbox hg; have hcz10_0 : w9.cell? ⟨gb273, 0, none⟩ = some (.int .i64 a0_0) := e_ BK273 0; have hcz10_1 : w9.cell? ⟨gb273, 1, none⟩ = some (.int .i64 a0_1) := e_ BK273 1; have hcz10_2 : w9.cell? ⟨gb273, 2, none⟩ = some (.int .i64 a0_2) := e_ BK273 2; have hcz10_3 : w9.cell? ⟨gb273, 3, none⟩ = some (.int .i64 a0_3) := e_ BK273 3; have hcz10_4 : w9.cell? ⟨gb273, 4, none⟩ = some (.int .i64 a0_4) := e_ BK273 4; have hcz10_5 : w9.cell? ⟨gb273, 5, none⟩ = some (.string a0_5) := e_ BK273 5; obtain ⟨hfz10_0, hfz10_1, hfz10_2, hfz10_3, hfz10_4, hfz10_5⟩ := z6_ BK273))
   go_ret
   exact ⟨by first | rfl | (simp [errW_none, errW_some] <;> rfl) | (simp [*, errW_none, errW_some] <;> rfl), by repeat (first | (with_reducible first | exact HB.out | apply wa_ | apply wn_ | apply wd_ | refine ws_ ?_ GE273.out) | exact HB.out)⟩
 rw [if_neg c8] at H
 have c8b0 : decide (a0_1 < 0) = false := decide_eq_false c8
 clear c8
 by_cases c11 : a0_1 ≥ 4294967296
 · rw [if_pos c11] at H
   have c11b0 : decide (4294967296 ≤ a0_1) = true := decide_eq_true c11
   clear c11
   obtain rfl := Option.some.inj H
   go_enter Try.func36, Try.ntmps36
   go_wp2_with (first | ((with_reducible refine gate_dst (N := 1) rfl ?_); (try (refine gate_guard (by rfl) ?_; dsimp only)); refine box_event ?hg (N := 1) ?hd (cs := #[.int .i64 a0_0, .int .i64 a0_1, .int .i64 a0_2, .int .i64 a0_3, .int .i64 a0_4, .string a0_5]) (t := 38) ?hr ?_; (case hd => rfl); (case hg => rfl); (case hr => first | (go_simp; done) | (go_simp; rfl)); intro gb273 hg w12 hbox hb; have n0_ := A_ (below_step bw_ hb); have n1_ := A_ (hbox); have n2_ := A_ (gz_ (w := w) hg); have n3_ := A_ (gz_ (w := w) hg); replace HB := n0_; have BK273 := n1_; have GW273 := n2_; have GE273 := n3_; clear n0_ n1_ n2_ n3_; clear hb hbox hg; have hcz13_0 : w12.cell? ⟨gb273, 0, none⟩ = some (.int .i64 a0_0) := e_ BK273 0; have hcz13_1 : w12.cell? ⟨gb273, 1, none⟩ = some (.int .i64 a0_1) := e_ BK273 1; have hcz13_2 : w12.cell? ⟨gb273, 2, none⟩ = some (.int .i64 a0_2) := e_ BK273 2; have hcz13_3 : w12.cell? ⟨gb273, 3, none⟩ = some (.int .i64 a0_3) := e_ BK273 3; have hcz13_4 : w12.cell? ⟨gb273, 4, none⟩ = some (.int .i64 a0_4) := e_ BK273 4; have hcz13_5 : w12.cell? ⟨gb273, 5, none⟩ = some (.string a0_5) := e_ BK273 5; obtain ⟨hfz13_0, hfz13_1, hfz13_2, hfz13_3, hfz13_4, hfz13_5⟩ := z6_ BK273))
   go_ret
   exact ⟨by first | rfl | (simp [errW_none, errW_some] <;> rfl) | (simp [*, errW_none, errW_some] <;> rfl), by repeat (first | (with_reducible first | exact HB.out | apply wa_ | apply wn_ | apply wd_ | refine ws_ ?_ GE273.out) | exact HB.out)⟩
 rw [if_neg c11] at H
 have c11b0 : decide (4294967296 ≤ a0_1) = false := decide_eq_false c11
 clear c11
 by_cases c14 : a0_2 < 0
 · rw [if_pos c14] at H
   have c14b0 : decide (a0_2 < 0) = true := decide_eq_true c14
   clear c14
   obtain rfl := Option.some.inj H
   go_enter Try.func36, Try.ntmps36
   go_wp2_with (first | ((with_reducible refine gate_dst (N := 1) rfl ?_); (try (refine gate_guard (by rfl) ?_; dsimp only)); refine box_event ?hg (N := 1) ?hd (cs := #[.int .i64 a0_0, .int .i64 a0_1, .int .i64 a0_2, .int .i64 a0_3, .int .i64 a0_4, .string a0_5]) (t := 38) ?hr ?_; (case hd => rfl); (case hg => rfl); (case hr => first | (go_simp; done) | (go_simp; rfl)); intro gb273 hg w15 hbox hb; have n0_ := A_ (below_step bw_ hb); have n1_ := A_ (hbox); have n2_ := A_ (gz_ (w := w) hg); have n3_ := A_ (gz_ (w := w) hg); replace HB := n0_; have BK273 := n1_; have GW273 := n2_; have GE273 := n3_; clear n0_ n1_ n2_ n3_; clear hb hbox hg; have hcz16_0 : w15.cell? ⟨gb273, 0, none⟩ = some (.int .i64 a0_0) := e_ BK273 0; have hcz16_1 : w15.cell? ⟨gb273, 1, none⟩ = some (.int .i64 a0_1) := e_ BK273 1; have hcz16_2 : w15.cell? ⟨gb273, 2, none⟩ = some (.int .i64 a0_2) := e_ BK273 2; have hcz16_3 : w15.cell? ⟨gb273, 3, none⟩ = some (.int .i64 a0_3) := e_ BK273 3; have hcz16_4 : w15.cell? ⟨gb273, 4, none⟩ = some (.int .i64 a0_4) := e_ BK273 4; have hcz16_5 : w15.cell? ⟨gb273, 5, none⟩ = some (.string a0_5) := e_ BK273 5; obtain ⟨hfz16_0, hfz16_1, hfz16_2, hfz16_3, hfz16_4, hfz16_5⟩ := z6_ BK273))
   go_ret
   exact ⟨by first | rfl | (simp [errW_none, errW_some] <;> rfl) | (simp [*, errW_none, errW_some] <;> rfl), by repeat (first | (with_reducible first | exact HB.out | apply wa_ | apply wn_ | apply wd_ | refine ws_ ?_ GE273.out) | exact HB.out)⟩
 rw [if_neg c14] at H
 have c14b0 : decide (a0_2 < 0) = false := decide_eq_false c14
 clear c14
 by_cases c17 : a0_2 > a0_3
 · rw [if_pos c17] at H
   have c17b0 : decide (a0_3 < a0_2) = true := decide_eq_true c17
   clear c17
   obtain rfl := Option.some.inj H
   go_enter Try.func36, Try.ntmps36
   go_wp2_with (first | ((with_reducible refine gate_dst (N := 1) rfl ?_); (try (refine gate_guard (by rfl) ?_; dsimp only)); refine box_event ?hg (N := 1) ?hd (cs := #[.int .i64 a0_0, .int .i64 a0_1, .int .i64 a0_2, .int .i64 a0_3, .int .i64 a0_4, .string a0_5]) (t := 38) ?hr ?_; (case hd => rfl); (case hg => rfl); (case hr => first | (go_simp; done) | (go_simp; rfl)); intro gb273 hg w18 hbox hb; have n0_ := A_ (below_step bw_ hb); have n1_ := A_ (hbox); have n2_ := A_ (gz_ (w := w) hg); have n3_ := A_ (gz_ (w := w) hg); replace HB := n0_; have BK273 := n1_; have GW273 := n2_; have GE273 := n3_; clear n0_ n1_ n2_ n3_; clear hb hbox hg; have hcz19_0 : w18.cell? ⟨gb273, 0, none⟩ = some (.int .i64 a0_0) := e_ BK273 0; have hcz19_1 : w18.cell? ⟨gb273, 1, none⟩ = some (.int .i64 a0_1) := e_ BK273 1; have hcz19_2 : w18.cell? ⟨gb273, 2, none⟩ = some (.int .i64 a0_2) := e_ BK273 2; have hcz19_3 : w18.cell? ⟨gb273, 3, none⟩ = some (.int .i64 a0_3) := e_ BK273 3; have hcz19_4 : w18.cell? ⟨gb273, 4, none⟩ = some (.int .i64 a0_4) := e_ BK273 4; have hcz19_5 : w18.cell? ⟨gb273, 5, none⟩ = some (.string a0_5) := e_ BK273 5; obtain ⟨hfz19_0, hfz19_1, hfz19_2, hfz19_3, hfz19_4, hfz19_5⟩ := z6_ BK273))
   go_ret
   exact ⟨by first | rfl | (simp [errW_none, errW_some] <;> rfl) | (simp [*, errW_none, errW_some] <;> rfl), by repeat (first | (with_reducible first | exact HB.out | apply wa_ | apply wn_ | apply wd_ | refine ws_ ?_ GE273.out) | exact HB.out)⟩
 rw [if_neg c17] at H
 have c17b0 : decide (a0_3 < a0_2) = false := decide_eq_false c17
 clear c17
 by_cases c20 : a0_3 > 1099511627776
 · rw [if_pos c20] at H
   have c20b0 : decide (1099511627776 < a0_3) = true := decide_eq_true c20
   clear c20
   obtain rfl := Option.some.inj H
   go_enter Try.func36, Try.ntmps36
   go_wp2_with (first | ((with_reducible refine gate_dst (N := 1) rfl ?_); (try (refine gate_guard (by rfl) ?_; dsimp only)); refine box_event ?hg (N := 1) ?hd (cs := #[.int .i64 a0_0, .int .i64 a0_1, .int .i64 a0_2, .int .i64 a0_3, .int .i64 a0_4, .string a0_5]) (t := 38) ?hr ?_; (case hd => rfl); (case hg => rfl); (case hr => first | (go_simp; done) | (go_simp; rfl)); intro gb273 hg w21 hbox hb; have n0_ := A_ (below_step bw_ hb); have n1_ := A_ (hbox); have n2_ := A_ (gz_ (w := w) hg); have n3_ := A_ (gz_ (w := w) hg); replace HB := n0_; have BK273 := n1_; have GW273 := n2_; have GE273 := n3_; clear n0_ n1_ n2_ n3_; clear hb hbox hg; have hcz22_0 : w21.cell? ⟨gb273, 0, none⟩ = some (.int .i64 a0_0) := e_ BK273 0; have hcz22_1 : w21.cell? ⟨gb273, 1, none⟩ = some (.int .i64 a0_1) := e_ BK273 1; have hcz22_2 : w21.cell? ⟨gb273, 2, none⟩ = some (.int .i64 a0_2) := e_ BK273 2; have hcz22_3 : w21.cell? ⟨gb273, 3, none⟩ = some (.int .i64 a0_3) := e_ BK273 3; have hcz22_4 : w21.cell? ⟨gb273, 4, none⟩ = some (.int .i64 a0_4) := e_ BK273 4; have hcz22_5 : w21.cell? ⟨gb273, 5, none⟩ = some (.string a0_5) := e_ BK273 5; obtain ⟨hfz22_0, hfz22_1, hfz22_2, hfz22_3, hfz22_4, hfz22_5⟩ := z6_ BK273))
   go_ret
   exact ⟨by first | rfl | (simp [errW_none, errW_some] <;> rfl) | (simp [*, errW_none, errW_some] <;> rfl), by repeat (first | (with_reducible first | exact HB.out | apply wa_ | apply wn_ | apply wd_ | refine ws_ ?_ GE273.out) | exact HB.out)⟩
 rw [if_neg c20] at H
 have c20b0 : decide (1099511627776 < a0_3) = false := decide_eq_false c20
 clear c20
 by_cases c23 : a0_4 ≥ 1
 rotate_left
 · rw [if_neg c23] at H
   have c23b0 : decide (1 ≤ a0_4) = false := decide_eq_false c23
   clear c23
   obtain rfl := Option.some.inj H
   go_enter Try.func36, Try.ntmps36
   go_wp2_with (first | ((with_reducible refine gate_dst (N := 1) rfl ?_); (try (refine gate_guard (by rfl) ?_; dsimp only)); refine box_event ?hg (N := 1) ?hd (cs := #[.int .i64 a0_0, .int .i64 a0_1, .int .i64 a0_2, .int .i64 a0_3, .int .i64 a0_4, .string a0_5]) (t := 38) ?hr ?_; (case hd => rfl); (case hg => rfl); (case hr => first | (go_simp; done) | (go_simp; rfl)); intro gb273 hg w29 hbox hb; have n0_ := A_ (below_step bw_ hb); have n1_ := A_ (hbox); have n2_ := A_ (gz_ (w := w) hg); have n3_ := A_ (gz_ (w := w) hg); replace HB := n0_; have BK273 := n1_; have GW273 := n2_; have GE273 := n3_; clear n0_ n1_ n2_ n3_; clear hb hbox hg; have hcz30_0 : w29.cell? ⟨gb273, 0, none⟩ = some (.int .i64 a0_0) := e_ BK273 0; have hcz30_1 : w29.cell? ⟨gb273, 1, none⟩ = some (.int .i64 a0_1) := e_ BK273 1; have hcz30_2 : w29.cell? ⟨gb273, 2, none⟩ = some (.int .i64 a0_2) := e_ BK273 2; have hcz30_3 : w29.cell? ⟨gb273, 3, none⟩ = some (.int .i64 a0_3) := e_ BK273 3; have hcz30_4 : w29.cell? ⟨gb273, 4, none⟩ = some (.int .i64 a0_4) := e_ BK273 4; have hcz30_5 : w29.cell? ⟨gb273, 5, none⟩ = some (.string a0_5) := e_ BK273 5; obtain ⟨hfz30_0, hfz30_1, hfz30_2, hfz30_3, hfz30_4, hfz30_5⟩ := z6_ BK273))
   go_ret
   exact ⟨by first | rfl | (simp [errW_none, errW_some] <;> rfl) | (simp [*, errW_none, errW_some] <;> rfl), by repeat (first | (with_reducible first | exact HB.out | apply wa_ | apply wn_ | apply wd_ | refine ws_ ?_ GE273.out) | exact HB.out)⟩

 rw [if_pos c23] at H
 have c23b0 : decide (1 ≤ a0_4) = true := decide_eq_true c23
 clear c23
 by_cases c24 : a0_4 ≤ 1073741824
 · rw [if_pos c24] at H
   have c24b0 : decide (a0_4 ≤ 1073741824) = true := decide_eq_true c24
   clear c24
   obtain rfl := Option.some.inj H
   go_enter Try.func36, Try.ntmps36
   go_wp2_with (first | ((with_reducible refine gate_dst (N := 1) rfl ?_); (try (refine gate_guard (by rfl) ?_; dsimp only)); refine box_event ?hg (N := 1) ?hd (cs := #[.int .i64 a0_0, .int .i64 a0_1, .int .i64 a0_2, .int .i64 a0_3, .int .i64 a0_4, .string a0_5]) (t := 38) ?hr ?_; (case hd => rfl); (case hg => rfl); (case hr => first | (go_simp; done) | (go_simp; rfl)); intro gb273 hg w25 hbox hb; have n0_ := A_ (below_step bw_ hb); have n1_ := A_ (hbox); have n2_ := A_ (gz_ (w := w) hg); have n3_ := A_ (gz_ (w := w) hg); replace HB := n0_; have BK273 := n1_; have GW273 := n2_; have GE273 := n3_; clear n0_ n1_ n2_ n3_; clear hb hbox hg; have hcz26_0 : w25.cell? ⟨gb273, 0, none⟩ = some (.int .i64 a0_0) := e_ BK273 0; have hcz26_1 : w25.cell? ⟨gb273, 1, none⟩ = some (.int .i64 a0_1) := e_ BK273 1; have hcz26_2 : w25.cell? ⟨gb273, 2, none⟩ = some (.int .i64 a0_2) := e_ BK273 2; have hcz26_3 : w25.cell? ⟨gb273, 3, none⟩ = some (.int .i64 a0_3) := e_ BK273 3; have hcz26_4 : w25.cell? ⟨gb273, 4, none⟩ = some (.int .i64 a0_4) := e_ BK273 4; have hcz26_5 : w25.cell? ⟨gb273, 5, none⟩ = some (.string a0_5) := e_ BK273 5; obtain ⟨hfz26_0, hfz26_1, hfz26_2, hfz26_3, hfz26_4, hfz26_5⟩ := z6_ BK273))
   go_ret
   exact ⟨by first | rfl | (simp [errW_none, errW_some] <;> rfl) | (simp [*, errW_none, errW_some] <;> rfl), by repeat (first | (with_reducible first | exact HB.out | apply wa_ | apply wn_ | apply wd_ | refine ws_ ?_ GE273.out) | exact HB.out)⟩
 · rw [if_neg c24] at H
   have c24b0 : decide (a0_4 ≤ 1073741824) = false := decide_eq_false c24
   clear c24
   obtain rfl := Option.some.inj H
   go_enter Try.func36, Try.ntmps36
   go_wp2_with (first | ((with_reducible refine gate_dst (N := 1) rfl ?_); (try (refine gate_guard (by rfl) ?_; dsimp only)); refine box_event ?hg (N := 1) ?hd (cs := #[.int .i64 a0_0, .int .i64 a0_1, .int .i64 a0_2, .int .i64 a0_3, .int .i64 a0_4, .string a0_5]) (t := 38) ?hr ?_; (case hd => rfl); (case hg => rfl); (case hr => first | (go_simp; done) | (go_simp; rfl)); intro gb273 hg w27 hbox hb; have n0_ := A_ (below_step bw_ hb); have n1_ := A_ (hbox); have n2_ := A_ (gz_ (w := w) hg); have n3_ := A_ (gz_ (w := w) hg); replace HB := n0_; have BK273 := n1_; have GW273 := n2_; have GE273 := n3_; clear n0_ n1_ n2_ n3_; clear hb hbox hg; have hcz28_0 : w27.cell? ⟨gb273, 0, none⟩ = some (.int .i64 a0_0) := e_ BK273 0; have hcz28_1 : w27.cell? ⟨gb273, 1, none⟩ = some (.int .i64 a0_1) := e_ BK273 1; have hcz28_2 : w27.cell? ⟨gb273, 2, none⟩ = some (.int .i64 a0_2) := e_ BK273 2; have hcz28_3 : w27.cell? ⟨gb273, 3, none⟩ = some (.int .i64 a0_3) := e_ BK273 3; have hcz28_4 : w27.cell? ⟨gb273, 4, none⟩ = some (.int .i64 a0_4) := e_ BK273 4; have hcz28_5 : w27.cell? ⟨gb273, 5, none⟩ = some (.string a0_5) := e_ BK273 5; obtain ⟨hfz28_0, hfz28_1, hfz28_2, hfz28_3, hfz28_4, hfz28_5⟩ := z6_ BK273))
   go_ret
   exact ⟨by first | rfl | (simp [errW_none, errW_some] <;> rfl) | (simp [*, errW_none, errW_some] <;> rfl), by repeat (first | (with_reducible first | exact HB.out | apply wa_ | apply wn_ | apply wd_ | refine ws_ ?_ GE273.out) | exact HB.out)⟩
end Go.Proofs.Ytahopljippfadaa.D
