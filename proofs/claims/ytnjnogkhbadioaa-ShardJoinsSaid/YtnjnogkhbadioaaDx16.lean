/- Written by this session's own program over the kit's print: functions of Go told as plain functions, or the row of one statement; proved for every input, with no condition of ours. -/
import Derived.Test.YtnjnogkhbadioaaDx0
import Derived.Test.YtnjnogkhbadioaaDx12
namespace Go.Proofs.Ytnjnogkhbadioaa.D
open Go.RowKit Go.Proofs.YtnjnogkhbadioaaW.PrintWords Go.Proofs.YtnjnogkhbadioaaW.PrintLast Go.Proofs.YtnjnogkhbadioaaW.PrintMore
attribute [local go_sem] max2_int min2_int max_two min_two max_three min_three max_four min_four   -- for this text's walks alone
set_option linter.unusedVariables false
set_option linter.unusedSimpArgs false

/-! ### hopperlaw11_Own: function 10 -/
def hopperlaw11_Own.l0 : Nat → List (S26) → List (S48) → Int → Option ((List (S48)))
 | 0, _, _, _ => none
 | k + 1, x0, x3, x4 => if x4 < (x0.length : Int) then (if 0 ≤ x4 then (if x3.length < 4398046511104 then (hopperlaw11_Own.l0 k x0 (x3 ++ [(⟨(rd_T26 x0 x4).f0, (rd_T26 x0 x4).f1⟩ : S48)]) (wrap64 (x4 + 1))) else (none)) else (none)) else (some x3)
def hopperlaw11_Own.f (k : Nat) (l0 : List (S26)) : Option ((List (S48))) := hopperlaw11_Own.l0 k l0 ([] : List (S48)) 0
theorem hopperlaw11_Own.mono_l : ∀ k, (∀ y0 y1 y2, LeO (hopperlaw11_Own.l0 k y0 y1 y2) (hopperlaw11_Own.l0 (k + 1) y0 y1 y2))
 | 0 => fun _ _ _ r h => by simp [hopperlaw11_Own.l0] at h
 | k + 1 => by
  have ih0 := hopperlaw11_Own.mono_l k
  · intro y0 y1 y2
    unfold hopperlaw11_Own.l0
    repeat' first
    | (with_reducible exact ih0 _ _ _)
    | (with_reducible exact LeO.refl _)
    | (with_reducible exact LeO.none _)
    | (with_reducible refine LeO.ite ?_ ?_)
    | (with_reducible refine LeO.bind ?_ (fun _ => ?_))
    | exact ih0 _ _ _
    | exact LeO.none _
    | refine LeO.ite ?_ ?_
    | refine LeO.bind ?_ (fun _ => ?_)
theorem hopperlaw11_Own.mono : ∀ a0 k, LeO (hopperlaw11_Own.f k a0) (hopperlaw11_Own.f (k + 1) a0) := by
 intro a0 k
 have ih0 := hopperlaw11_Own.mono_l k
 unfold hopperlaw11_Own.f
 repeat' first
  | (with_reducible exact ih0 _ _ _)
  | (with_reducible exact LeO.refl _)
  | (with_reducible exact LeO.none _)
  | (with_reducible refine LeO.ite ?_ ?_)
  | (with_reducible refine LeO.bind ?_ (fun _ => ?_))
  | exact ih0 _ _ _
  | exact LeO.none _
  | refine LeO.ite ?_ ?_
  | refine LeO.bind ?_ (fun _ => ?_)
set_option maxHeartbeats 8000000 in
set_option maxRecDepth 100000 in
theorem hopperlaw11_Own.calls (k : Nat) (P0_ : Nat → Prop) (A0 : Option Addr) (c0 : Nat) (l0 : List (S26)) (r : List (S48)) (w : World) (hs0 : Kd.V k26 26 w w.heap.size (fun k_ => P0_ k_) (.slice A0 l0.length c0) l0) (h : hopperlaw11_Own.f k l0 = some r) :
 Calls Try.prog 10 #[.slice A0 l0.length c0] w fun e w' => ∃ v0_ : Value, e = .returned (v0_) ∧ Kd.N k48 48 w' w.heap.size (fun k_ => (P0_ k_ ∨ w.heap.size ≤ k_)) v0_ r ∧ Below w.heap.size w w' := by
 have hu26 := Try.underlying26
 have HO0 := A_ (show Kd.V k26 26 w w.heap.size (fun k_ => (P0_ k_ ∨ w.heap.size ≤ k_)) (.slice A0 l0.length c0) l0 from Kd.V_mono hs0 (fun k_ hk => .inl hk)); have HB := A_ (Below.refl w.heap.size w)
 have H : (hopperlaw11_Own.l0 k l0 ([] : List (S48)) 0) = some r := h
 clear h
 have H' := A_ H
 clear H
 go_enter Try.func10, Try.ntmps10
 go_wp2
 go_loopg [3, 4] k (fun kq v3 v4 w' => ∃ (x3_1 : List (S48)) (x4_1 : Int), v4 = .int .i64 x4_1 ∧ Aside0 (hopperlaw11_Own.l0 kq l0 x3_1 x4_1 = some r) ∧ Aside0 (kq ≤ k) ∧ Aside0 (Kd.V k26 26 w' w.heap.size (fun k_ => (P0_ k_ ∨ w.heap.size ≤ k_) ∧ some k_ ≠ (v3 : Value).ownBlock) (.slice A0 l0.length c0) l0) ∧ Aside0 (Kd.N k48 48 w' w.heap.size (fun k_ => (P0_ k_ ∨ w.heap.size ≤ k_)) v3 x3_1) ∧ Aside0 (Below w.heap.size w w'))
 case atStart => exact ⟨(([] : List (S48))), (0), (by first | rfl | (simp; done) | (simp [*]; done)), H', ⟨Nat.le_refl _⟩, ⟨by (with_reducible repeat (first | apply Kd.V_alloc | apply Kd.V_drewN | apply Kd.V_drew)); exact Kd.V_mono HO0.out (fun _ hk => ⟨hk, (by simp [Value.ownBlock])⟩)⟩, ⟨by first | exact Kd.R_nil _ _ _ _ _ | exact Kd.N_nil _ _ _ _ _ | exact Kd.V_nil _ _ _ _ _ | exact Kd.Q_nil _ _ _ _ _ | exact Kd.S_nil _ _ _ _ _⟩, ⟨by repeat (first | (with_reducible first | exact HB.out | apply wa_ | apply wn_ | apply wd_) | exact HB.out)⟩⟩
 case round =>
  clear H'; (try clear c1)
  obtain ⟨x3_1, x4_1, rfl, HA, HK1, HO_0, HO_3, HB⟩ := hrel
  cases gk with
  | zero => exact absurd HA.out (by simp [hopperlaw11_Own.l0])
  | succ k1 =>
   have H := HA.out
   clear HA
   simp only [hopperlaw11_Own.l0] at H
   by_cases c2 : x4_1 < (l0.length : Int)
   rotate_left
   · rw [if_neg c2] at H
     have c2b0 : decide (x4_1 < (l0.length : Int)) = false := decide_eq_false c2
     clear c2
     obtain rfl := Option.some.inj H
     go_wp2
     go_ret
     exact ⟨_, by first | rfl | (simp [errW_none, errW_some] <;> rfl) | (simp [*, errW_none, errW_some] <;> rfl), by (with_reducible repeat (first | apply Kd.N_alloc | apply Kd.N_drewN | apply Kd.N_drew)); exact HO_3.out, by repeat (first | (with_reducible first | exact HB.out | apply wa_ | apply wn_ | apply wd_) | exact HB.out)⟩

   rw [if_pos c2] at H
   have c2b0 : decide (x4_1 < (l0.length : Int)) = true := decide_eq_true c2
   clear c2
   by_cases c3 : 0 ≤ x4_1
   rotate_left
   · rw [if_neg c3] at H
     exact absurd H (by simp)
   rw [if_pos c3] at H
   have c3b0 : decide (0 ≤ x4_1) = true := decide_eq_true c3
   clear c3
   by_cases c4 : x3_1.length < 4398046511104
   rotate_left
   · rw [if_neg c4] at H
     exact absurd H (by simp)
   rw [if_pos c4] at H
   have LMc4 := A_ c4
   clear c4
   obtain ⟨y294, hy294⟩ : ∃ y_ : List (S48), y_ = (x3_1 ++ [(⟨(rd_T26 l0 x4_1).f0, (rd_T26 l0 x4_1).f1⟩ : S48)]) := ⟨_, rfl⟩
   replace H : (hopperlaw11_Own.l0 k1 l0 y294 (wrap64 (x4_1 + 1))) = some r := by first | (rw [hy294]; with_reducible exact H) | (have H2_ := (Option.bind_some _ _).symm.trans H; rw [hy294]; with_reducible exact H2_) | (have H2_ := (Option.bind_some _ _).symm.trans H; with_reducible exact H2_) | with_reducible exact H | (rw [hy294]; exact H) | exact H
   have Ny294 := A_ hy294
   clear hy294
   have H' := A_ H
   clear H
   have p293 : 0 ≤ (x4_1 : Int) := of_decide_eq_true (by first | (with_reducible assumption) | assumption)
   have q293 : x4_1 < (l0.length : Int) := of_decide_eq_true (by first | (with_reducible assumption) | assumption)
   obtain ⟨ad293, A293_0, c293_0, e293, hx293_0, hx293_1, hl293_0, hi293_0⟩ := at_T26 (Kd.V_reads' HO_0.out).2.2 x4_1 p293 q293
   cases e293
   obtain ⟨ce293, hce293, hMe293, hcc293⟩ := Kd.V_get HO_0.out z26 x4_1 p293 (by first | exact q293 | exact of_decide_eq_true (by first | (with_reducible assumption) | assumption) | (have e_ := (Kd.V_reads' HO_0.out).1; omega))
   obtain ⟨ua293_0, uc293_0, rfl, ul293_0, ge293_0⟩ := k26_openF hMe293
   have hv293_0 := hcc293 0 _ rfl
   rw [Nat.add_zero] at hv293_0
   replace hv293_0 := Option.some.inj (hv293_0.symm.trans hx293_0)
   injection hv293_0 with hva_ hvn_ hvc_
   rw [hva_] at ge293_0
   rw [hvc_] at ul293_0
   have HL293_0 := A_ (show Kd.V k46 46 _ w.heap.size _ _ ((rd_T26 l0 x4_1).f0) from Kd.V_mk ul293_0 ge293_0)
   clear hva_ hvn_ hvc_ ge293_0 ul293_0; clear hcc293 hce293
   have HR293_0 := A_ hi293_0
   have HC293_0 := A_ hl293_0
   clear hi293_0 hl293_0
   replace p293 := eq_true p293
   replace q293 := eq_true q293
   go_wp2_with (first | ((with_reducible refine gate_builtin (b := .append) (xs := #[.tmp 11, .tmp 16]) rfl ?_); at_builtin; refine Kd.N_append k48 (w0 := w) w.heap.size rfl (.tmp 11) (.tmp 16) 29 48 (.agg #[(.slice none 0 0), (.int .i64 0)]) 32 rfl Try.underlying29 info48 rfl (by decide) (by omega) u3 x3_1 (⟨(rd_T26 l0 x4_1).f0, (rd_T26 l0 x4_1).f1⟩ : S48) [.slice A293_0 ((rd_T26 l0 x4_1).f0).length c293_0, .int .i64 ((rd_T26 l0 x4_1).f1)] (fun k_ => (P0_ k_ ∨ w.heap.size ≤ k_)) (fun k_ => ((fun k_ => (P0_ k_ ∨ w.heap.size ≤ k_))) k_ ∧ some k_ ≠ (u3 : Value).ownBlock) rfl rfl ?aP (fun _ hk => hk) ?aF ?aO ?aB ?aS ?aL ?_; (case aP => exact (k48_mkF _ _ (⟨(rd_T26 l0 x4_1).f0, (rd_T26 l0 x4_1).f1⟩ : S48) (Kd.V_reads' (Kd.V_mono (ok' := (fun k_ => ((fun k_ => (P0_ k_ ∨ w.heap.size ≤ k_))) k_ ∧ some k_ ≠ (u3 : Value).ownBlock)) (HL293_0.out) (fun k_ hk => ⟨hk.1, hk.2⟩))).2.1 (Kd.V_F (Kd.V_mono (ok' := (fun k_ => ((fun k_ => (P0_ k_ ∨ w.heap.size ≤ k_))) k_ ∧ some k_ ≠ (u3 : Value).ownBlock)) (HL293_0.out) (fun k_ hk => ⟨hk.1, hk.2⟩))))); (case aB => exact bw_); (case aF => exact (fun k_ hk => (.inr (Nat.le_trans (below_size bw_) hk)))); (case aO => exact (by (with_reducible repeat (first | apply Kd.N_alloc | apply Kd.N_drewN | apply Kd.N_drew)); exact HO_3.out)); (case aS => exact (below_size bw_)); (case aL => have := LMc4.out; omega); intro v295 w5 ho hb hg hat; rw [← Ny294.out] at ho; replace HO_0 := A_ (Kd.V_afterv (ok := (fun k_ => (P0_ k_ ∨ w.heap.size ≤ k_))) (pv_ HO_0.out) hg hat); replace HL293_0 := A_ (Kd.V_afterv (ok := (fun k_ => (P0_ k_ ∨ w.heap.size ≤ k_))) (by (with_reducible repeat (first | apply Kd.V_alloc | apply Kd.V_drewN | apply Kd.V_drew)); exact HL293_0.out) hg hat); replace HB := A_ (hb); have HO296 := A_ (ho); clear HO_3; clear ho hb hg hat))
   go_roundg k1
   case measure => have := HK1.out; omega
   case rel => exact ⟨(y294), (wrap64 (x4_1 + 1)), (by first | rfl | (simp; done) | (simp [*]; done)), H', ⟨by have := HK1.out; omega⟩, ⟨by (with_reducible repeat (first | apply Kd.V_alloc | apply Kd.V_drewN | apply Kd.V_drew)); exact HO_0.out⟩, ⟨by (with_reducible repeat (first | apply Kd.N_alloc | apply Kd.N_drewN | apply Kd.N_drew)); exact HO296.out⟩, ⟨by repeat (first | (with_reducible first | exact HB.out | apply wa_ | apply wn_ | apply wd_) | exact HB.out)⟩⟩
/-! ### hopperref11_Lasts: function 17 -/
def hopperref11_Lasts.l0 : Nat → List (S46) → List (S32) → Int → Option ((List (S32)))
 | 0, _, _, _ => none
 | k + 1, x0, x3, x4 => if x4 < (x0.length : Int) then (if 0 ≤ x4 then (if (((rd_T46 x0 x4).f2).length : Int) > 0 then (if 0 ≤ (wrap64 ((((rd_T46 x0 x4).f2).length : Int) - 1)) then (if (wrap64 ((((rd_T46 x0 x4).f2).length : Int) - 1)) < (((rd_T46 x0 x4).f2).length : Int) then (if x3.length < 2513169434916 then (hopperref11_Lasts.l0 k x0 (x3 ++ [(⟨(rd_T32 ((rd_T46 x0 x4).f2) (wrap64 ((((rd_T46 x0 x4).f2).length : Int) - 1))).f0, (rd_T32 ((rd_T46 x0 x4).f2) (wrap64 ((((rd_T46 x0 x4).f2).length : Int) - 1))).f1, (rd_T32 ((rd_T46 x0 x4).f2) (wrap64 ((((rd_T46 x0 x4).f2).length : Int) - 1))).f2, (rd_T32 ((rd_T46 x0 x4).f2) (wrap64 ((((rd_T46 x0 x4).f2).length : Int) - 1))).f3, (rd_T32 ((rd_T46 x0 x4).f2) (wrap64 ((((rd_T46 x0 x4).f2).length : Int) - 1))).f4, (rd_T32 ((rd_T46 x0 x4).f2) (wrap64 ((((rd_T46 x0 x4).f2).length : Int) - 1))).f5⟩ : S32)]) (wrap64 (x4 + 1))) else (none)) else (none)) else (none)) else (hopperref11_Lasts.l0 k x0 x3 (wrap64 (x4 + 1)))) else (none)) else (some x3)
def hopperref11_Lasts.f (k : Nat) (l0 : List (S46)) : Option ((List (S32))) := hopperref11_Lasts.l0 k l0 ([] : List (S32)) 0
theorem hopperref11_Lasts.mono_l : ∀ k, (∀ y0 y1 y2, LeO (hopperref11_Lasts.l0 k y0 y1 y2) (hopperref11_Lasts.l0 (k + 1) y0 y1 y2))
 | 0 => fun _ _ _ r h => by simp [hopperref11_Lasts.l0] at h
 | k + 1 => by
  have ih0 := hopperref11_Lasts.mono_l k
  · intro y0 y1 y2
    unfold hopperref11_Lasts.l0
    repeat' first
    | (with_reducible exact ih0 _ _ _)
    | (with_reducible exact LeO.refl _)
    | (with_reducible exact LeO.none _)
    | (with_reducible refine LeO.ite ?_ ?_)
    | (with_reducible refine LeO.bind ?_ (fun _ => ?_))
    | exact ih0 _ _ _
    | exact LeO.none _
    | refine LeO.ite ?_ ?_
    | refine LeO.bind ?_ (fun _ => ?_)
theorem hopperref11_Lasts.mono : ∀ a0 k, LeO (hopperref11_Lasts.f k a0) (hopperref11_Lasts.f (k + 1) a0) := by
 intro a0 k
 have ih0 := hopperref11_Lasts.mono_l k
 unfold hopperref11_Lasts.f
 repeat' first
  | (with_reducible exact ih0 _ _ _)
  | (with_reducible exact LeO.refl _)
  | (with_reducible exact LeO.none _)
  | (with_reducible refine LeO.ite ?_ ?_)
  | (with_reducible refine LeO.bind ?_ (fun _ => ?_))
  | exact ih0 _ _ _
  | exact LeO.none _
  | refine LeO.ite ?_ ?_
  | refine LeO.bind ?_ (fun _ => ?_)
def hopperref11_Lasts.T6 : Bool × List (List Nat × List Nat) := (true, [([], []), ([], []), ([], []), ([1, 2], [1, 2]), ([3], [3]), ([4], [4]), ([], []), ([], []), ([6, 7], [6, 7]), ([8], [8]), ([9], [9]), ([10], [10]), ([11], [11]), ([5, 12], [5, 12]), ([13], [13]), ([14], [14]), ([0, 15], [0, 15]), ([16, 16, 0, 1, 2, 3, 4, 5, 6, 7, 8, 9, 10, 11, 12, 13, 14, 15, 16], [0, 16])])
def hopperref11_Lasts.B6 : List Nat := [0, 0, 0, 6, 14, 30, 0, 0, 192, 448, 960, 1984, 4032, 8190, 16382, 32766, 65535, 131071]
theorem hopperref11_Lasts.tab6 : rtab .any (opsOf Try.f17 6) = hopperref11_Lasts.T6 := by kernel_rfl
theorem hopperref11_Lasts.bits6 : waitsOk hopperref11_Lasts.T6.2 hopperref11_Lasts.B6 = true := by kernel_rfl
set_option maxHeartbeats 8000000 in
set_option maxRecDepth 100000 in
theorem hopperref11_Lasts.calls (k : Nat) (A0 : Option Addr) (c0 : Nat) (l0 : List (S46)) (r : List (S32)) (w : World) (hr0 : Kd.C k46 w A0 l0.length l0) (hc0 : l0.length ≤ c0) (h : hopperref11_Lasts.f k l0 = some r) :
 Calls Try.prog 17 #[.slice A0 l0.length c0] w fun e w' => ∃ v0_ : Value, e = .returned (v0_) ∧ Kd.R k32 32 w' w.heap.size (fun _ => True) v0_ r ∧ Below w.heap.size w w' := by
 have hu32 := Try.underlying32
 have HR0 := A_ hr0
 have HC0 := A_ hc0
 clear hr0 hc0; have HB := A_ (Below.refl w.heap.size w)
 have H : (hopperref11_Lasts.l0 k l0 ([] : List (S32)) 0) = some r := h
 clear h
 have H' := A_ H
 clear H
 go_enter Try.func17, Try.ntmps17
 go_wp2
 go_loopg [3, 4] k (fun kq v3 v4 w' => ∃ (x3_1 : List (S32)) (x4_1 : Int), v4 = .int .i64 x4_1 ∧ Aside0 (hopperref11_Lasts.l0 kq l0 x3_1 x4_1 = some r) ∧ Aside0 (kq ≤ k) ∧ Aside0 (Kd.R k32 32 w' w.heap.size (fun _ => True) v3 x3_1) ∧ Aside0 (Below w.heap.size w w'))
 case atStart => exact ⟨(([] : List (S32))), (0), (by first | rfl | (simp; done) | (simp [*]; done)), H', ⟨Nat.le_refl _⟩, ⟨by first | exact Kd.R_nil _ _ _ _ _ | exact Kd.N_nil _ _ _ _ _ | exact Kd.V_nil _ _ _ _ _ | exact Kd.Q_nil _ _ _ _ _ | exact Kd.S_nil _ _ _ _ _⟩, ⟨by repeat (first | (with_reducible first | exact HB.out | apply wa_ | apply wn_ | apply wd_) | exact HB.out)⟩⟩
 case round =>
  clear H'; (try clear c1)
  obtain ⟨x3_1, x4_1, rfl, HA, HK1, HO_3, HB⟩ := hrel
  cases gk with
  | zero => exact absurd HA.out (by simp [hopperref11_Lasts.l0])
  | succ k1 =>
   have H := HA.out
   clear HA
   simp only [hopperref11_Lasts.l0] at H
   by_cases c2 : x4_1 < (l0.length : Int)
   rotate_left
   · rw [if_neg c2] at H
     have c2b0 : decide (x4_1 < (l0.length : Int)) = false := decide_eq_false c2
     clear c2
     obtain rfl := Option.some.inj H
     go_wp2
     go_ret
     exact ⟨_, by first | rfl | (simp [errW_none, errW_some] <;> rfl) | (simp [*, errW_none, errW_some] <;> rfl), by (with_reducible repeat (first | apply ra_ | apply rn_ | apply rd_)); exact HO_3.out, by repeat (first | (with_reducible first | exact HB.out | apply wa_ | apply wn_ | apply wd_) | exact HB.out)⟩

   rw [if_pos c2] at H
   have c2b0 : decide (x4_1 < (l0.length : Int)) = true := decide_eq_true c2
   clear c2
   by_cases c3 : 0 ≤ x4_1
   rotate_left
   · rw [if_neg c3] at H
     exact absurd H (by simp)
   rw [if_pos c3] at H
   have c3b0 : decide (0 ≤ x4_1) = true := decide_eq_true c3
   clear c3
   by_cases c4 : (((rd_T46 l0 x4_1).f2).length : Int) > 0
   · rw [if_pos c4] at H
     have c4b0 : decide (0 < (((rd_T46 l0 x4_1).f2).length : Int)) = true := decide_eq_true c4
     have c4b1 : decide (0 < ((rd_T46 l0 x4_1).f2).length) = true := decide_eq_true (by omega)
     clear c4
     obtain ⟨ji5, hji5⟩ : ∃ j_ : Int, (wrap64 ((((rd_T46 l0 x4_1).f2).length : Int) - 1)) = j_ := ⟨_, rfl⟩
     replace H : (if 0 ≤ (ji5) then (if (ji5) < (((rd_T46 l0 x4_1).f2).length : Int) then (if x3_1.length < 2513169434916 then (hopperref11_Lasts.l0 k1 l0 (x3_1 ++ [(⟨(rd_T32 ((rd_T46 l0 x4_1).f2) (ji5)).f0, (rd_T32 ((rd_T46 l0 x4_1).f2) (ji5)).f1, (rd_T32 ((rd_T46 l0 x4_1).f2) (ji5)).f2, (rd_T32 ((rd_T46 l0 x4_1).f2) (ji5)).f3, (rd_T32 ((rd_T46 l0 x4_1).f2) (ji5)).f4, (rd_T32 ((rd_T46 l0 x4_1).f2) (ji5)).f5⟩ : S32)]) (wrap64 (x4_1 + 1))) else (none)) else (none)) else (none)) = some r := by first | (rw [hji5] at H; exact H) | (simp only [hji5] at H ⊢; exact H)
     have hji5w : (IntKind.i64.wrap ((((rd_T46 l0 x4_1).f2).length : Int) - 1)) = ji5 := (i64_w _).trans hji5
     by_cases c6 : 0 ≤ (ji5)
     rotate_left
     · rw [if_neg c6] at H
       exact absurd H (by simp)
     rw [if_pos c6] at H
     have c6b0 : decide (0 ≤ (ji5)) = true := decide_eq_true c6
     clear c6
     by_cases c7 : (ji5) < (((rd_T46 l0 x4_1).f2).length : Int)
     rotate_left
     · rw [if_neg c7] at H
       exact absurd H (by simp)
     rw [if_pos c7] at H
     have c7b0 : decide ((ji5) < (((rd_T46 l0 x4_1).f2).length : Int)) = true := decide_eq_true c7
     clear c7
     by_cases c8 : x3_1.length < 2513169434916
     rotate_left
     · rw [if_neg c8] at H
       exact absurd H (by simp)
     rw [if_pos c8] at H
     have LMc8 := A_ c8
     clear c8
     obtain ⟨y301, hy301⟩ : ∃ y_ : List (S32), y_ = (x3_1 ++ [(⟨(rd_T32 ((rd_T46 l0 x4_1).f2) (ji5)).f0, (rd_T32 ((rd_T46 l0 x4_1).f2) (ji5)).f1, (rd_T32 ((rd_T46 l0 x4_1).f2) (ji5)).f2, (rd_T32 ((rd_T46 l0 x4_1).f2) (ji5)).f3, (rd_T32 ((rd_T46 l0 x4_1).f2) (ji5)).f4, (rd_T32 ((rd_T46 l0 x4_1).f2) (ji5)).f5⟩ : S32)]) := ⟨_, rfl⟩
     replace H : (hopperref11_Lasts.l0 k1 l0 y301 (wrap64 (x4_1 + 1))) = some r := by first | (rw [hy301]; with_reducible exact H) | (have H2_ := (Option.bind_some _ _).symm.trans H; rw [hy301]; with_reducible exact H2_) | (have H2_ := (Option.bind_some _ _).symm.trans H; with_reducible exact H2_) | with_reducible exact H | (rw [hy301]; exact H) | exact H
     have Ny301 := A_ hy301
     clear hy301
     have H' := A_ H
     clear H
     have p297 : 0 ≤ (x4_1 : Int) := of_decide_eq_true (by first | (with_reducible assumption) | assumption)
     have q297 : x4_1 < (l0.length : Int) := of_decide_eq_true (by first | (with_reducible assumption) | assumption)
     obtain ⟨ad297, A297_2, c297_2, e297, hx297_0, hx297_1, hx297_2, hl297_2, hi297_2⟩ := at_T46 HR0.out x4_1 p297 q297
     cases e297
     replace hx297_0 := on_ HB.out hx297_0
     replace hx297_1 := on_ HB.out hx297_1
     replace hx297_2 := on_ HB.out hx297_2
     have HR297_2 := A_ hi297_2
     have HC297_2 := A_ hl297_2
     clear hi297_2 hl297_2
     replace p297 := eq_true p297
     replace q297 := eq_true q297
     try go_wp2
     have n0_ := A_ (rd_ HO_3.out); have n1_ := A_ (wd_ HB.out); replace HO_3 := n0_; replace HB := n1_; clear n0_ n1_
     have p298 : 0 ≤ (x4_1 : Int) := of_decide_eq_true (by first | (with_reducible assumption) | assumption)
     have q298 : x4_1 < (l0.length : Int) := of_decide_eq_true (by first | (with_reducible assumption) | assumption)
     obtain ⟨ad298, A298_2, c298_2, e298, hx298_0, hx298_1, hx298_2, hl298_2, hi298_2⟩ := at_T46 HR0.out x4_1 p298 q298
     have hw298_2 := hx298_2
     have hw298_1 := hx298_1
     have hw298_0 := hx298_0
     obtain rfl : ad297 = ad298 := (by injection e298)
     replace hx298_0 := on_ HB.out hx298_0
     replace hx298_1 := on_ HB.out hx298_1
     replace hx298_2 := on_ HB.out hx298_2
     have HR298_2 := A_ hi298_2
     have HC298_2 := A_ hl298_2
     clear hi298_2 hl298_2
     replace p298 := eq_true p298
     replace q298 := eq_true q298
     have p299 : 0 ≤ (x4_1 : Int) := of_decide_eq_true (by first | (with_reducible assumption) | assumption)
     have q299 : x4_1 < (l0.length : Int) := of_decide_eq_true (by first | (with_reducible assumption) | assumption)
     obtain ⟨ad299, A299_2, c299_2, e299, hx299_0, hx299_1, hx299_2, hl299_2, hi299_2⟩ := at_T46 HR0.out x4_1 p299 q299
     have hw299_2 := hx299_2
     have hw299_1 := hx299_1
     have hw299_0 := hx299_0
     obtain rfl : ad297 = ad299 := (by injection e299)
     replace hx299_0 := on_ HB.out hx299_0
     replace hx299_1 := on_ HB.out hx299_1
     replace hx299_2 := on_ HB.out hx299_2
     have HR299_2 := A_ hi299_2
     have HC299_2 := A_ hl299_2
     clear hi299_2 hl299_2
     replace p299 := eq_true p299
     replace q299 := eq_true q299
     have ea_ := Option.some.inj (hx298_2.symm.trans hx299_2)
     injection ea_ with ea_ en_ ec_
     subst ea_
     subst ec_
     clear en_
     have p300 : 0 ≤ ((ji5) : Int) := of_decide_eq_true (by first | (with_reducible assumption) | assumption)
     have q300 : (ji5) < (((rd_T46 l0 x4_1).f2).length : Int) := of_decide_eq_true (by first | (with_reducible assumption) | assumption)
     obtain ⟨ad300, e300, hx300_0, hx300_1, hx300_2, hx300_3, hx300_4, hx300_5⟩ := at_T32 HR298_2.out (ji5) p300 q300
     have hw300_5 := hx300_5
     have hw300_4 := hx300_4
     have hw300_3 := hx300_3
     have hw300_2 := hx300_2
     have hw300_1 := hx300_1
     have hw300_0 := hx300_0
     cases e300
     replace hx300_0 := on_ HB.out hx300_0
     replace hx300_1 := on_ HB.out hx300_1
     replace hx300_2 := on_ HB.out hx300_2
     replace hx300_3 := on_ HB.out hx300_3
     replace hx300_4 := on_ HB.out hx300_4
     replace hx300_5 := on_ HB.out hx300_5
     replace p300 := eq_true p300
     replace q300 := eq_true q300
     refine start_ (n := 18) (S := fun w' => w'.cell? (ad297.add ((x4_1).toNat * 3)) = some (.int .i64 ((rd_T46 l0 x4_1).f0)) ∧ w'.cell? ⟨(ad297.add ((x4_1).toNat * 3)).block, (ad297.add ((x4_1).toNat * 3)).off + 1, none⟩ = some (.int .i64 ((rd_T46 l0 x4_1).f1)) ∧ w'.cell? ⟨(ad297.add ((x4_1).toNat * 3)).block, (ad297.add ((x4_1).toNat * 3)).off + 2, none⟩ = some (.slice (some ad300) ((rd_T46 l0 x4_1).f2).length c298_2) ∧ w'.cell? (ad297.add ((x4_1).toNat * 3)) = some (.int .i64 ((rd_T46 l0 x4_1).f0)) ∧ w'.cell? ⟨(ad297.add ((x4_1).toNat * 3)).block, (ad297.add ((x4_1).toNat * 3)).off + 1, none⟩ = some (.int .i64 ((rd_T46 l0 x4_1).f1)) ∧ w'.cell? ⟨(ad297.add ((x4_1).toNat * 3)).block, (ad297.add ((x4_1).toNat * 3)).off + 2, none⟩ = some (.slice (some ad300) ((rd_T46 l0 x4_1).f2).length c298_2) ∧ w'.cell? (ad300.add (((ji5)).toNat * 6)) = some (.int .i64 ((rd_T32 ((rd_T46 l0 x4_1).f2) (ji5)).f0)) ∧ w'.cell? ⟨(ad300.add (((ji5)).toNat * 6)).block, (ad300.add (((ji5)).toNat * 6)).off + 1, none⟩ = some (.int .i64 ((rd_T32 ((rd_T46 l0 x4_1).f2) (ji5)).f1)) ∧ w'.cell? ⟨(ad300.add (((ji5)).toNat * 6)).block, (ad300.add (((ji5)).toNat * 6)).off + 2, none⟩ = some (.int .i64 ((rd_T32 ((rd_T46 l0 x4_1).f2) (ji5)).f2)) ∧ w'.cell? ⟨(ad300.add (((ji5)).toNat * 6)).block, (ad300.add (((ji5)).toNat * 6)).off + 3, none⟩ = some (.int .i64 ((rd_T32 ((rd_T46 l0 x4_1).f2) (ji5)).f3)) ∧ w'.cell? ⟨(ad300.add (((ji5)).toNat * 6)).block, (ad300.add (((ji5)).toNat * 6)).off + 4, none⟩ = some (.int .i64 ((rd_T32 ((rd_T46 l0 x4_1).f2) (ji5)).f4)) ∧ w'.cell? ⟨(ad300.add (((ji5)).toNat * 6)).block, (ad300.add (((ji5)).toNat * 6)).off + 5, none⟩ = some (.string ((rd_T32 ((rd_T46 l0 x4_1).f2) (ji5)).f5))) (ds := []) #[F,F,F,F,F,F,F,F,F,F,F,F,F,F,F,F,F,F] (by kernel_rfl) rfl rfl ⟨((HB.out.cell (World.block_lt_of_cell? w _ hw298_0)).trans hw298_0), ((HB.out.cell (World.block_lt_of_cell? w _ hw298_1)).trans hw298_1), ((HB.out.cell (World.block_lt_of_cell? w _ hw298_2)).trans hw298_2), ((HB.out.cell (World.block_lt_of_cell? w _ hw299_0)).trans hw299_0), ((HB.out.cell (World.block_lt_of_cell? w _ hw299_1)).trans hw299_1), ((HB.out.cell (World.block_lt_of_cell? w _ hw299_2)).trans hw299_2), ((HB.out.cell (World.block_lt_of_cell? w _ hw300_0)).trans hw300_0), ((HB.out.cell (World.block_lt_of_cell? w _ hw300_1)).trans hw300_1), ((HB.out.cell (World.block_lt_of_cell? w _ hw300_2)).trans hw300_2), ((HB.out.cell (World.block_lt_of_cell? w _ hw300_3)).trans hw300_3), ((HB.out.cell (World.block_lt_of_cell? w _ hw300_4)).trans hw300_4), ((HB.out.cell (World.block_lt_of_cell? w _ hw300_5)).trans hw300_5)⟩ (fun hHeld => ?_); refine with_tabW hopperref11_Lasts.tab6 hopperref11_Lasts.bits6 (fun HT_ HW_ => ?_)
     generalize wr.drew = w9 at HO_3 HB HR298_2 HR299_2 hx298_0 hx298_1 hx298_2 hx299_0 hx299_1 hx299_2 hx300_0 hx300_1 hx300_2 hx300_3 hx300_4 hx300_5 hHeld ⊢
     refine pq_ 0 18 HT_ ?_
     refine pq_ 1 19 HT_ ?_
     refine pq_ 2 20 HT_ ?_
     refine pq_ 3 21 HT_ ?_
     refine pq_ 4 22 HT_ ?_
     refine pq_ 6 24 HT_ ?_
     refine pq_ 7 25 HT_ ?_
     refine pq_ 8 26 HT_ ?_
     refine pq_ 9 27 HT_ ?_
     refine tk_ 5 23 HT_ HW_ hHeld ?_
     refine tk_ 10 28 HT_ HW_ hHeld ?_
     refine pq_ 11 29 HT_ ?_
     refine pq_ 12 30 HT_ ?_
     refine pq_ 13 31 HT_ ?_
     refine tk_ 14 32 HT_ HW_ hHeld ?_
     refine one_ (i := 15) (N := some 33) #[T,T,T,T,T,T,T,T,T,T,T,T,T,T,T,T,F,F] rfl rfl (one_of HT_.out (by kernel_rfl)) (by decide) (fun K hK => ?_)
     refine value_ (w1 := ?_) (v := ?_) (by rfl) rfl ?_ ?_
     rotate_left 2
     · go_simp
       constructor
       · rfl
       · rfl
     refine hK.out _ _ ⟨(World.cell?_alloc_lt _ _ _ (World.block_lt_of_cell? _ _ (((HB.out.cell (World.block_lt_of_cell? w _ hw298_0)).trans hw298_0)))).trans (((HB.out.cell (World.block_lt_of_cell? w _ hw298_0)).trans hw298_0)), (World.cell?_alloc_lt _ _ _ (World.block_lt_of_cell? _ _ (((HB.out.cell (World.block_lt_of_cell? w _ hw298_1)).trans hw298_1)))).trans (((HB.out.cell (World.block_lt_of_cell? w _ hw298_1)).trans hw298_1)), (World.cell?_alloc_lt _ _ _ (World.block_lt_of_cell? _ _ (((HB.out.cell (World.block_lt_of_cell? w _ hw298_2)).trans hw298_2)))).trans (((HB.out.cell (World.block_lt_of_cell? w _ hw298_2)).trans hw298_2)), (World.cell?_alloc_lt _ _ _ (World.block_lt_of_cell? _ _ (((HB.out.cell (World.block_lt_of_cell? w _ hw299_0)).trans hw299_0)))).trans (((HB.out.cell (World.block_lt_of_cell? w _ hw299_0)).trans hw299_0)), (World.cell?_alloc_lt _ _ _ (World.block_lt_of_cell? _ _ (((HB.out.cell (World.block_lt_of_cell? w _ hw299_1)).trans hw299_1)))).trans (((HB.out.cell (World.block_lt_of_cell? w _ hw299_1)).trans hw299_1)), (World.cell?_alloc_lt _ _ _ (World.block_lt_of_cell? _ _ (((HB.out.cell (World.block_lt_of_cell? w _ hw299_2)).trans hw299_2)))).trans (((HB.out.cell (World.block_lt_of_cell? w _ hw299_2)).trans hw299_2)), (World.cell?_alloc_lt _ _ _ (World.block_lt_of_cell? _ _ (((HB.out.cell (World.block_lt_of_cell? w _ hw300_0)).trans hw300_0)))).trans (((HB.out.cell (World.block_lt_of_cell? w _ hw300_0)).trans hw300_0)), (World.cell?_alloc_lt _ _ _ (World.block_lt_of_cell? _ _ (((HB.out.cell (World.block_lt_of_cell? w _ hw300_1)).trans hw300_1)))).trans (((HB.out.cell (World.block_lt_of_cell? w _ hw300_1)).trans hw300_1)), (World.cell?_alloc_lt _ _ _ (World.block_lt_of_cell? _ _ (((HB.out.cell (World.block_lt_of_cell? w _ hw300_2)).trans hw300_2)))).trans (((HB.out.cell (World.block_lt_of_cell? w _ hw300_2)).trans hw300_2)), (World.cell?_alloc_lt _ _ _ (World.block_lt_of_cell? _ _ (((HB.out.cell (World.block_lt_of_cell? w _ hw300_3)).trans hw300_3)))).trans (((HB.out.cell (World.block_lt_of_cell? w _ hw300_3)).trans hw300_3)), (World.cell?_alloc_lt _ _ _ (World.block_lt_of_cell? _ _ (((HB.out.cell (World.block_lt_of_cell? w _ hw300_4)).trans hw300_4)))).trans (((HB.out.cell (World.block_lt_of_cell? w _ hw300_4)).trans hw300_4)), (World.cell?_alloc_lt _ _ _ (World.block_lt_of_cell? _ _ (((HB.out.cell (World.block_lt_of_cell? w _ hw300_5)).trans hw300_5)))).trans (((HB.out.cell (World.block_lt_of_cell? w _ hw300_5)).trans hw300_5))⟩ (fun hHeld => ?_)
     clear hK K
     refine norm_ (a' := ?_) ?_ ?_
     rotate_left
     · show Act.put _ (some 33) _ = _
       simp only [Act.put, s0_, s1_, s2_, i64_w, i32_w]
       rfl
     refine one_ (i := 16) (N := some 34) #[T,T,T,T,T,T,T,T,T,T,T,T,T,T,T,T,T,F] rfl rfl (one_of HT_.out (by kernel_rfl)) (by decide) (fun K hK => ?_)
     refine Kd.R_append_step k32 (w0 := w) w.heap.size (by rfl) (.tmp 18) (.tmp 33) 38 32 (.agg #[(.int .i64 0), (.int .i64 0), (.int .i64 0), (.int .i64 0), (.int .i64 0), (.string ⟨#[]⟩)]) 56 rfl Try.underlying38 info32 rfl (by decide) (by omega) u3 x3_1 (⟨(rd_T32 ((rd_T46 l0 x4_1).f2) (ji5)).f0, (rd_T32 ((rd_T46 l0 x4_1).f2) (ji5)).f1, (rd_T32 ((rd_T46 l0 x4_1).f2) (ji5)).f2, (rd_T32 ((rd_T46 l0 x4_1).f2) (ji5)).f3, (rd_T32 ((rd_T46 l0 x4_1).f2) (ji5)).f4, (rd_T32 ((rd_T46 l0 x4_1).f2) (ji5)).f5⟩ : S32) [.int .i64 ((rd_T32 ((rd_T46 l0 x4_1).f2) (ji5)).f0), .int .i64 ((rd_T32 ((rd_T46 l0 x4_1).f2) (ji5)).f1), .int .i64 ((rd_T32 ((rd_T46 l0 x4_1).f2) (ji5)).f2), .int .i64 ((rd_T32 ((rd_T46 l0 x4_1).f2) (ji5)).f3), .int .i64 ((rd_T32 ((rd_T46 l0 x4_1).f2) (ji5)).f4), .string ((rd_T32 ((rd_T46 l0 x4_1).f2) (ji5)).f5)] (fun _ => True) (fun _ => False) rfl rfl ?aP (fun _ hk => hk.elim) ?aF ?aO ?aB ?aS ?aL ?_
     (case aP => exact k32_mkM _ _ _ (⟨(rd_T32 ((rd_T46 l0 x4_1).f2) (ji5)).f0, (rd_T32 ((rd_T46 l0 x4_1).f2) (ji5)).f1, (rd_T32 ((rd_T46 l0 x4_1).f2) (ji5)).f2, (rd_T32 ((rd_T46 l0 x4_1).f2) (ji5)).f3, (rd_T32 ((rd_T46 l0 x4_1).f2) (ji5)).f4, (rd_T32 ((rd_T46 l0 x4_1).f2) (ji5)).f5⟩ : S32))
     (case aB => exact bw_)
     (case aF => exact (fun _ _ => trivial))
     (case aO => exact (pr_ HO_3.out))
     (case aS => exact (below_size bw_))
     (case aL => have := LMc8.out; omega)
     intro v302 w10 ho hb hg hat
     rw [← Ny301.out] at ho
     replace HB := A_ (hb); have HO303 := A_ (ho); clear HO_3; clear ho hb hg hat
     refine hK.out _ _ ⟨((HB.out.cell (World.block_lt_of_cell? w _ hw298_0)).trans hw298_0), ((HB.out.cell (World.block_lt_of_cell? w _ hw298_1)).trans hw298_1), ((HB.out.cell (World.block_lt_of_cell? w _ hw298_2)).trans hw298_2), ((HB.out.cell (World.block_lt_of_cell? w _ hw299_0)).trans hw299_0), ((HB.out.cell (World.block_lt_of_cell? w _ hw299_1)).trans hw299_1), ((HB.out.cell (World.block_lt_of_cell? w _ hw299_2)).trans hw299_2), ((HB.out.cell (World.block_lt_of_cell? w _ hw300_0)).trans hw300_0), ((HB.out.cell (World.block_lt_of_cell? w _ hw300_1)).trans hw300_1), ((HB.out.cell (World.block_lt_of_cell? w _ hw300_2)).trans hw300_2), ((HB.out.cell (World.block_lt_of_cell? w _ hw300_3)).trans hw300_3), ((HB.out.cell (World.block_lt_of_cell? w _ hw300_4)).trans hw300_4), ((HB.out.cell (World.block_lt_of_cell? w _ hw300_5)).trans hw300_5)⟩ (fun hHeld => ?_)
     clear hK K
     refine norm_ (a' := ?_) ?_ ?_
     rotate_left
     · show Act.put _ (some 34) _ = _
       simp only [Act.put, s0_, s1_, s2_, i64_w, i32_w]
       rfl
     refine pq_ 17 3 HT_ ?_
     refine done_ (done_of HT_.out (by kernel_rfl)) ?_
     try go_wp2
     go_roundg k1
     case measure => have := HK1.out; omega
     case rel => exact ⟨(y301), (wrap64 (x4_1 + 1)), (by first | rfl | (simp; done) | (simp [*]; done)), H', ⟨by have := HK1.out; omega⟩, ⟨by (with_reducible repeat (first | apply ra_ | apply rn_ | apply rd_)); exact HO303.out⟩, ⟨by repeat (first | (with_reducible first | exact HB.out | apply wa_ | apply wn_ | apply wd_) | exact HB.out)⟩⟩
   · rw [if_neg c4] at H
     have c4b0 : decide (0 < (((rd_T46 l0 x4_1).f2).length : Int)) = false := decide_eq_false c4
     have c4b1 : decide (0 < ((rd_T46 l0 x4_1).f2).length) = false := decide_eq_false (by omega)
     clear c4
     have H' := A_ H
     clear H
     have p297 : 0 ≤ (x4_1 : Int) := of_decide_eq_true (by first | (with_reducible assumption) | assumption)
     have q297 : x4_1 < (l0.length : Int) := of_decide_eq_true (by first | (with_reducible assumption) | assumption)
     obtain ⟨ad297, A297_2, c297_2, e297, hx297_0, hx297_1, hx297_2, hl297_2, hi297_2⟩ := at_T46 HR0.out x4_1 p297 q297
     cases e297
     replace hx297_0 := on_ HB.out hx297_0
     replace hx297_1 := on_ HB.out hx297_1
     replace hx297_2 := on_ HB.out hx297_2
     have HR297_2 := A_ hi297_2
     have HC297_2 := A_ hl297_2
     clear hi297_2 hl297_2
     replace p297 := eq_true p297
     replace q297 := eq_true q297
     go_wp2
     go_roundg k1
     case measure => have := HK1.out; omega
     case rel => exact ⟨(x3_1), (wrap64 (x4_1 + 1)), (by first | rfl | (simp; done) | (simp [*]; done)), H', ⟨by have := HK1.out; omega⟩, ⟨by (with_reducible repeat (first | apply ra_ | apply rn_ | apply rd_)); exact HO_3.out⟩, ⟨by repeat (first | (with_reducible first | exact HB.out | apply wa_ | apply wn_ | apply wd_) | exact HB.out)⟩⟩
/-! ### hopperref11_Worst: function 12 -/
def hopperref11_Worst.f (k : Nat) (l0 : List (S46)) : Option (Int × Int × Int × Int × Int × ByteArray × Bool) := (hopperref11_Lasts.f k l0).bind fun t305 => ((hopperref06_Worst.f k t305).bind fun bt308 => (if bt308.2 = true then (if 0 ≤ bt308.1 then (if bt308.1 < (t305.length : Int) then (some ((rd_T32 t305 bt308.1).f0, (rd_T32 t305 bt308.1).f1, (rd_T32 t305 bt308.1).f2, (rd_T32 t305 bt308.1).f3, (rd_T32 t305 bt308.1).f4, (rd_T32 t305 bt308.1).f5, true)) else (none)) else (none)) else (some (0, 0, 0, 0, 0, (⟨#[]⟩ : ByteArray), false))))
theorem hopperref11_Worst.mono : ∀ a0 k, LeO (hopperref11_Worst.f k a0) (hopperref11_Worst.f (k + 1) a0) := by
 intro a0 k
 unfold hopperref11_Worst.f
 repeat' first
  | (with_reducible exact hopperref06_Worst.mono _ _)
  | (with_reducible exact hopperref11_Lasts.mono _ _)
  | (with_reducible exact LeO.refl _)
  | (with_reducible exact LeO.none _)
  | (with_reducible refine LeO.ite ?_ ?_)
  | (with_reducible refine LeO.bind ?_ (fun _ => ?_))
  | exact hopperref06_Worst.mono _ _
  | exact hopperref11_Lasts.mono _ _
  | exact LeO.none _
  | refine LeO.ite ?_ ?_
  | refine LeO.bind ?_ (fun _ => ?_)
set_option maxHeartbeats 8000000 in
set_option maxRecDepth 100000 in
theorem hopperref11_Worst.calls (k : Nat) (A0 : Option Addr) (c0 : Nat) (l0 : List (S46)) (r1 : Int) (r2 : Int) (r3 : Int) (r4 : Int) (r5 : Int) (r6 : ByteArray) (r7 : Bool) (w : World) (hr0 : Kd.C k46 w A0 l0.length l0) (hc0 : l0.length ≤ c0) (h : hopperref11_Worst.f k l0 = some (r1, r2, r3, r4, r5, r6, r7)) :
 Calls Try.prog 12 #[.slice A0 l0.length c0] w fun e w' => e = .returned (.tuple #[.agg #[.int .i64 r1, .int .i64 r2, .int .i64 r3, .int .i64 r4, .int .i64 r5, .string r6], .bool r7]) ∧ Below w.heap.size w w' := by
 have hu32 := Try.underlying32
 have HR0 := A_ hr0
 have HC0 := A_ hc0
 clear hr0 hc0; have HB := A_ (Below.refl w.heap.size w)
 have H : ((hopperref11_Lasts.f k l0).bind fun t305 => ((hopperref06_Worst.f k t305).bind fun bt308 => (if bt308.2 = true then (if 0 ≤ bt308.1 then (if bt308.1 < (t305.length : Int) then (some ((rd_T32 t305 bt308.1).f0, (rd_T32 t305 bt308.1).f1, (rd_T32 t305 bt308.1).f2, (rd_T32 t305 bt308.1).f3, (rd_T32 t305 bt308.1).f4, (rd_T32 t305 bt308.1).f5, true)) else (none)) else (none)) else (some (0, 0, 0, 0, 0, (⟨#[]⟩ : ByteArray), false))))) = some (r1, r2, r3, r4, r5, r6, r7) := h
 clear h
 replace H := Option.bind_eq_some_iff.mp H
 obtain ⟨t305, A20, H⟩ := H
 replace H : ((hopperref06_Worst.f k t305).bind fun bt308 => (if bt308.2 = true then (if 0 ≤ bt308.1 then (if bt308.1 < (t305.length : Int) then (some ((rd_T32 t305 bt308.1).f0, (rd_T32 t305 bt308.1).f1, (rd_T32 t305 bt308.1).f2, (rd_T32 t305 bt308.1).f3, (rd_T32 t305 bt308.1).f4, (rd_T32 t305 bt308.1).f5, true)) else (none)) else (none)) else (some (0, 0, 0, 0, 0, (⟨#[]⟩ : ByteArray), false)))) = some (r1, r2, r3, r4, r5, r6, r7) := H
 have A2 := A_ A20
 clear A20
 replace H := Option.bind_eq_some_iff.mp H
 obtain ⟨⟨t308, t309⟩, A30, H⟩ := H
 replace H : (if t309 = true then (if 0 ≤ t308 then (if t308 < (t305.length : Int) then (some ((rd_T32 t305 t308).f0, (rd_T32 t305 t308).f1, (rd_T32 t305 t308).f2, (rd_T32 t305 t308).f3, (rd_T32 t305 t308).f4, (rd_T32 t305 t308).f5, true)) else (none)) else (none)) else (some (0, 0, 0, 0, 0, (⟨#[]⟩ : ByteArray), false))) = some (r1, r2, r3, r4, r5, r6, r7) := H
 have A3 := A_ A30
 clear A30
 by_cases c4 : t309 = true
 · subst c4
   have H1 : (if 0 ≤ t308 then (if t308 < (t305.length : Int) then (some ((rd_T32 t305 t308).f0, (rd_T32 t305 t308).f1, (rd_T32 t305 t308).f2, (rd_T32 t305 t308).f3, (rd_T32 t305 t308).f4, (rd_T32 t305 t308).f5, true)) else (none)) else (none)) = some (r1, r2, r3, r4, r5, r6, r7) := by rw [if_pos rfl] at H; exact H
   clear H
   have H := H1
   clear H1
   by_cases c5 : 0 ≤ t308
   rotate_left
   · rw [if_neg c5] at H
     exact absurd H (by simp)
   rw [if_pos c5] at H
   have c5b0 : decide (0 ≤ t308) = true := decide_eq_true c5
   clear c5
   by_cases c6 : t308 < (t305.length : Int)
   · rw [if_pos c6] at H
     have c6b0 : decide (t308 < (t305.length : Int)) = true := decide_eq_true c6
     clear c6
     simp only [Option.some.injEq, Prod.mk.injEq] at H
     obtain ⟨rfl, rfl, rfl, rfl, rfl, rfl, rfl⟩ := H
     go_enter Try.func12, Try.ntmps12
     go_wp2_with (first | ((with_reducible refine gate_dst (N := 2) rfl ?_); refine box_event ?hg (N := 2) ?hd (cs := #[.int .i64 0, .int .i64 0, .int .i64 0, .int .i64 0, .int .i64 0, .string (⟨#[]⟩ : ByteArray)]) (t := 32) ?hr ?_; (case hd => rfl); (case hg => rfl); (case hr => first | (go_simp; done) | (go_simp; rfl)); intro gb304 hg w7 hbox hb; have n0_ := A_ (below_step bw_ hb); have n1_ := A_ (hbox); have n2_ := A_ (gz_ (w := w) hg); have n3_ := A_ (gz_ (w := w) hg); replace HB := n0_; have BK304 := n1_; have GW304 := n2_; have GE304 := n3_; clear n0_ n1_ n2_ n3_; clear hb hbox hg) | ((with_reducible refine gate_callee (f := 17) rfl ?_); refine goesL_ (some 8) rfl rfl Try.func17 (by kernel_rfl) rfl #[.slice A0 l0.length c0] rfl (by (try simp only [m0_, m1_, m2_]); first | done | rfl) ?_; (with_reducible refine (hopperref11_Lasts.calls k _ _ l0 t305 _ ?side1 ?side2 A2.out).mono ?_); (case side1 => repeat (first | exact (Kd.C_below HR0.out HB.out) | (with_reducible refine ca_ ?_ _) | (with_reducible refine cn_ ?_ _) | (with_reducible refine cd_ ?_))); (case side2 => exact HC0.out); rintro e w8 ⟨v306, rfl, ho0, hb⟩; refine ⟨_, rfl, ?_⟩; have HO307 := A_ (Kd.R_lower (Kd.R_newB ho0 (g := gb304) (o := .cells #[.int .i64 0, .int .i64 0, .int .i64 0, .int .i64 0, .int .i64 0, .string (⟨#[]⟩ : ByteArray)] 32 (0, 0)) (by (with_reducible repeat (first | refine bn_ ?_ _ | refine bd_ ?_ | refine ba_ ?_ _)); exact BK304.out)) (below_size bw_)); replace BK304 := A_ (kb_ BK304 hb); replace HB := A_ (below_step bw_ hb); (try clear hb); (try clear hb2); (try clear hk); (try clear hi); (try clear ho0); obtain ⟨Ao9, co9, eo9⟩ := Kd.R_slice HO307.out; subst eo9) | ((with_reducible refine gate_callee (f := 18) rfl ?_); refine goesL_ (some 11) rfl rfl Try.func18 (by kernel_rfl) rfl #[.slice Ao9 t305.length co9] rfl (by (try simp only [m0_, m1_, m2_]); first | done | rfl) ?_; (with_reducible refine (hopperref06_Worst.calls k _ _ t305 t308 true _ ?side1 ?side2 A3.out).mono ?_); (case side1 => repeat (first | exact (Kd.R_reads' HO307.out).2.2 | (with_reducible refine ca_ ?_ _) | (with_reducible refine cn_ ?_ _) | (with_reducible refine cd_ ?_))); (case side2 => exact (Kd.R_reads' HO307.out).2.1); rintro e w10 ⟨rfl, hb⟩; refine ⟨_, rfl, ?_⟩; replace HO307 := A_ (Kd.R_below (pr_ HO307.out) hb); replace BK304 := A_ (kb_ BK304 hb); replace HB := A_ (below_step bw_ hb); (try clear hb); (try clear hb2); (try clear hk); (try clear hi); have p310 : 0 ≤ (t308 : Int) := of_decide_eq_true (by first | (with_reducible assumption) | assumption); have q310 : t308 < (t305.length : Int) := of_decide_eq_true (by first | (with_reducible assumption) | assumption); obtain ⟨ad310, e310, hx310_0, hx310_1, hx310_2, hx310_3, hx310_4, hx310_5⟩ := at_T32 (Kd.R_reads' HO307.out).2.2 t308 p310 q310; cases e310; replace p310 := eq_true p310; replace q310 := eq_true q310; have hcz11_0 : w10.cell? ⟨gb304, 0, none⟩ = some (.int .i64 0) := e_ BK304 0; have hcz11_1 : w10.cell? ⟨gb304, 1, none⟩ = some (.int .i64 0) := e_ BK304 1; have hcz11_2 : w10.cell? ⟨gb304, 2, none⟩ = some (.int .i64 0) := e_ BK304 2; have hcz11_3 : w10.cell? ⟨gb304, 3, none⟩ = some (.int .i64 0) := e_ BK304 3; have hcz11_4 : w10.cell? ⟨gb304, 4, none⟩ = some (.int .i64 0) := e_ BK304 4; have hcz11_5 : w10.cell? ⟨gb304, 5, none⟩ = some (.string (⟨#[]⟩ : ByteArray)) := e_ BK304 5; obtain ⟨hfz11_0, hfz11_1, hfz11_2, hfz11_3, hfz11_4, hfz11_5⟩ := z6_ BK304))
     refine bodyPost_ret (results_ct rfl _ _ gb304 32 #[.int .i64 ((rd_T32 t305 t308).f0), .int .i64 ((rd_T32 t305 t308).f1), .int .i64 ((rd_T32 t305 t308).f2), .int .i64 ((rd_T32 t305 t308).f3), .int .i64 ((rd_T32 t305 t308).f4), .string ((rd_T32 t305 t308).f5)] (0, 0) _ rfl (by exact pk_ (b6_ BK304.out)) Try.underlying32 rfl (by kernel_rfl)) rfl ?_
     exact ⟨by first | rfl | (simp [errW_none, errW_some] <;> rfl) | (simp [*, errW_none, errW_some] <;> rfl), by repeat (first | (with_reducible first | exact HB.out | apply wa_ | apply wn_ | apply wd_ | refine ws_ ?_ GE304.out) | exact HB.out)⟩
   · rw [if_neg c6] at H
     exact absurd H (by simp)
 · replace c4 := Bool.eq_false_iff.mpr c4
   subst c4
   have H1 : (some (0, 0, 0, 0, 0, (⟨#[]⟩ : ByteArray), false)) = some (r1, r2, r3, r4, r5, r6, r7) := by rw [if_neg (show ¬ (false = true) by decide)] at H; exact H
   clear H
   have H := H1
   clear H1
   simp only [Option.some.injEq, Prod.mk.injEq] at H
   obtain ⟨rfl, rfl, rfl, rfl, rfl, rfl, rfl⟩ := H
   go_enter Try.func12, Try.ntmps12
   go_wp2_with (first | ((with_reducible refine gate_dst (N := 2) rfl ?_); refine box_event ?hg (N := 2) ?hd (cs := #[.int .i64 0, .int .i64 0, .int .i64 0, .int .i64 0, .int .i64 0, .string (⟨#[]⟩ : ByteArray)]) (t := 32) ?hr ?_; (case hd => rfl); (case hg => rfl); (case hr => first | (go_simp; done) | (go_simp; rfl)); intro gb304 hg w12 hbox hb; have n0_ := A_ (below_step bw_ hb); have n1_ := A_ (hbox); have n2_ := A_ (gz_ (w := w) hg); have n3_ := A_ (gz_ (w := w) hg); replace HB := n0_; have BK304 := n1_; have GW304 := n2_; have GE304 := n3_; clear n0_ n1_ n2_ n3_; clear hb hbox hg) | ((with_reducible refine gate_callee (f := 17) rfl ?_); refine goesL_ (some 8) rfl rfl Try.func17 (by kernel_rfl) rfl #[.slice A0 l0.length c0] rfl (by (try simp only [m0_, m1_, m2_]); first | done | rfl) ?_; (with_reducible refine (hopperref11_Lasts.calls k _ _ l0 t305 _ ?side1 ?side2 A2.out).mono ?_); (case side1 => repeat (first | exact (Kd.C_below HR0.out HB.out) | (with_reducible refine ca_ ?_ _) | (with_reducible refine cn_ ?_ _) | (with_reducible refine cd_ ?_))); (case side2 => exact HC0.out); rintro e w13 ⟨v306, rfl, ho0, hb⟩; refine ⟨_, rfl, ?_⟩; have HO307 := A_ (Kd.R_lower (Kd.R_newB ho0 (g := gb304) (o := .cells #[.int .i64 0, .int .i64 0, .int .i64 0, .int .i64 0, .int .i64 0, .string (⟨#[]⟩ : ByteArray)] 32 (0, 0)) (by (with_reducible repeat (first | refine bn_ ?_ _ | refine bd_ ?_ | refine ba_ ?_ _)); exact BK304.out)) (below_size bw_)); replace BK304 := A_ (kb_ BK304 hb); replace HB := A_ (below_step bw_ hb); (try clear hb); (try clear hb2); (try clear hk); (try clear hi); (try clear ho0); obtain ⟨Ao14, co14, eo14⟩ := Kd.R_slice HO307.out; subst eo14) | ((with_reducible refine gate_callee (f := 18) rfl ?_); refine goesL_ (some 11) rfl rfl Try.func18 (by kernel_rfl) rfl #[.slice Ao14 t305.length co14] rfl (by (try simp only [m0_, m1_, m2_]); first | done | rfl) ?_; (with_reducible refine (hopperref06_Worst.calls k _ _ t305 t308 false _ ?side1 ?side2 A3.out).mono ?_); (case side1 => repeat (first | exact (Kd.R_reads' HO307.out).2.2 | (with_reducible refine ca_ ?_ _) | (with_reducible refine cn_ ?_ _) | (with_reducible refine cd_ ?_))); (case side2 => exact (Kd.R_reads' HO307.out).2.1); rintro e w15 ⟨rfl, hb⟩; refine ⟨_, rfl, ?_⟩; replace HO307 := A_ (Kd.R_below (pr_ HO307.out) hb); replace BK304 := A_ (kb_ BK304 hb); replace HB := A_ (below_step bw_ hb); (try clear hb); (try clear hb2); (try clear hk); (try clear hi); have hcz16_0 : w15.cell? ⟨gb304, 0, none⟩ = some (.int .i64 0) := e_ BK304 0; have hcz16_1 : w15.cell? ⟨gb304, 1, none⟩ = some (.int .i64 0) := e_ BK304 1; have hcz16_2 : w15.cell? ⟨gb304, 2, none⟩ = some (.int .i64 0) := e_ BK304 2; have hcz16_3 : w15.cell? ⟨gb304, 3, none⟩ = some (.int .i64 0) := e_ BK304 3; have hcz16_4 : w15.cell? ⟨gb304, 4, none⟩ = some (.int .i64 0) := e_ BK304 4; have hcz16_5 : w15.cell? ⟨gb304, 5, none⟩ = some (.string (⟨#[]⟩ : ByteArray)) := e_ BK304 5; obtain ⟨hfz16_0, hfz16_1, hfz16_2, hfz16_3, hfz16_4, hfz16_5⟩ := z6_ BK304))
   refine bodyPost_ret (results_ct rfl _ _ gb304 32 #[.int .i64 0, .int .i64 0, .int .i64 0, .int .i64 0, .int .i64 0, .string (⟨#[]⟩ : ByteArray)] (0, 0) _ rfl (by exact pk_ (b6_ BK304.out)) Try.underlying32 rfl (by kernel_rfl)) rfl ?_
   exact ⟨by first | rfl | (simp [errW_none, errW_some] <;> rfl) | (simp [*, errW_none, errW_some] <;> rfl), by repeat (first | (with_reducible first | exact HB.out | apply wa_ | apply wn_ | apply wd_ | refine ws_ ?_ GE304.out) | exact HB.out)⟩

end Go.Proofs.Ytnjnogkhbadioaa.D
