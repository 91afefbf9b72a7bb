/- Written by this session's own program over the kit's print: functions of Go told as plain functions, or the row of one statement; proved for every input, with no condition of ours. -/
import Derived.Test.YtehncbhmdgdkjaaLx0
import Derived.Test.YtehncbhmdgdkjaaLx20
import Derived.Test.YtehncbhmdgdkjaaLx24
namespace Go.Proofs.Ytehncbhmdgdkjaa.L
open Go.RowKit Go.Proofs.YtehncbhmdgdkjaaW.PrintWords Go.Proofs.YtehncbhmdgdkjaaW.PrintLast Go.Proofs.YtehncbhmdgdkjaaW.PrintMore
attribute [local go_sem] max2_int min2_int max_two min_two max_three min_three max_four min_four   -- for this text's walks alone
set_option linter.unusedVariables false
set_option linter.unusedSimpArgs false

/-! ### hopperref06_Make: function 34 -/
def hopperref06_Make.l0 : Nat → List (S24) → List (S24) → Int → Option ((List (S24)))
 | 0, _, _, _ => none
 | k + 1, x0, x3, x4 => if x4 < (x0.length : Int) then (if 0 ≤ x4 then ((hopperref06_Push.f k x3 ((rd_T24 x0 x4).f0) ((rd_T24 x0 x4).f1) ((rd_T24 x0 x4).f2) ((rd_T24 x0 x4).f3) ((rd_T24 x0 x4).f4) ((rd_T24 x0 x4).f5)).bind fun t428 => (hopperref06_Make.l0 k x0 t428 (wrap64 (x4 + 1)))) else (none)) else (some x3)
def hopperref06_Make.f (k : Nat) (l0 : List (S24)) : Option ((List (S24))) := hopperref06_Make.l0 k l0 ([] : List (S24)) 0
theorem hopperref06_Make.mono_l : ∀ k, (∀ y0 y1 y2, LeO (hopperref06_Make.l0 k y0 y1 y2) (hopperref06_Make.l0 (k + 1) y0 y1 y2))
 | 0 => fun _ _ _ r h => by simp [hopperref06_Make.l0] at h
 | k + 1 => by
  have ih0 := hopperref06_Make.mono_l k
  · intro y0 y1 y2
    unfold hopperref06_Make.l0
    repeat' first
    | (with_reducible exact ih0 _ _ _)
    | (with_reducible exact hopperref06_Push.mono _ _ _ _ _ _ _ _)
    | (with_reducible exact LeO.refl _)
    | (with_reducible exact LeO.none _)
    | (with_reducible refine LeO.ite ?_ ?_)
    | (with_reducible refine LeO.bind ?_ (fun _ => ?_))
    | exact ih0 _ _ _
    | exact hopperref06_Push.mono _ _ _ _ _ _ _ _
    | exact LeO.none _
    | refine LeO.ite ?_ ?_
    | refine LeO.bind ?_ (fun _ => ?_)
theorem hopperref06_Make.mono : ∀ a0 k, LeO (hopperref06_Make.f k a0) (hopperref06_Make.f (k + 1) a0) := by
 intro a0 k
 have ih0 := hopperref06_Make.mono_l k
 unfold hopperref06_Make.f
 repeat' first
  | (with_reducible exact ih0 _ _ _)
  | (with_reducible exact hopperref06_Push.mono _ _ _ _ _ _ _ _)
  | (with_reducible exact LeO.refl _)
  | (with_reducible exact LeO.none _)
  | (with_reducible refine LeO.ite ?_ ?_)
  | (with_reducible refine LeO.bind ?_ (fun _ => ?_))
  | exact ih0 _ _ _
  | exact hopperref06_Push.mono _ _ _ _ _ _ _ _
  | exact LeO.none _
  | refine LeO.ite ?_ ?_
  | refine LeO.bind ?_ (fun _ => ?_)
set_option maxHeartbeats 8000000 in
set_option maxRecDepth 100000 in
theorem hopperref06_Make.calls (k : Nat) (A0 : Option Addr) (c0 : Nat) (l0 : List (S24)) (r : List (S24)) (w : World) (hr0 : Kd.C k24 w A0 l0.length l0) (hc0 : l0.length ≤ c0) (h : hopperref06_Make.f k l0 = some r) :
 Calls Try.prog 34 #[.slice A0 l0.length c0] w fun e w' => ∃ v0_ : Value, e = .returned (v0_) ∧ Kd.R k24 24 w' w.heap.size (fun _ => True) v0_ r ∧ Below w.heap.size w w' := by
 have hu24 := Try.underlying24
 have HR0 := A_ hr0
 have HC0 := A_ hc0
 clear hr0 hc0; have HB := A_ (Below.refl w.heap.size w)
 have H : (hopperref06_Make.l0 k l0 ([] : List (S24)) 0) = some r := h
 clear h
 have H' := A_ H
 clear H
 go_enter Try.func34, Try.ntmps34
 go_wp2
 go_loopg [3, 4] k (fun kq v3 v4 w' => ∃ (x3_1 : List (S24)) (x4_1 : Int), v4 = .int .i64 x4_1 ∧ Aside0 (hopperref06_Make.l0 kq l0 x3_1 x4_1 = some r) ∧ Aside0 (kq ≤ k) ∧ Aside0 (Kd.R k24 24 w' w.heap.size (fun _ => True) v3 x3_1) ∧ Aside0 (Below w.heap.size w w'))
 case atStart => exact ⟨(([] : List (S24))), (0), (by first | rfl | (simp; done) | (simp [*]; done)), H', ⟨Nat.le_refl _⟩, ⟨by first | exact Kd.R_nil _ _ _ _ _ | exact Kd.N_nil _ _ _ _ _ | exact Kd.V_nil _ _ _ _ _ | exact Kd.Q_nil _ _ _ _ _ | exact Kd.S_nil _ _ _ _ _⟩, ⟨by repeat (first | (with_reducible first | exact HB.out | apply wa_ | apply wn_ | apply wd_) | exact HB.out)⟩⟩
 case round =>
  clear H'
  obtain ⟨x3_1, x4_1, rfl, HA, HK1, HO_3, HB⟩ := hrel
  cases gk with
  | zero => exact absurd HA.out (by simp [hopperref06_Make.l0])
  | succ k1 =>
   have H := HA.out
   clear HA
   simp only [hopperref06_Make.l0] at H
   by_cases c2 : x4_1 < (l0.length : Int)
   rotate_left
   · rw [if_neg c2] at H
     have c2b0 : decide (x4_1 < (l0.length : Int)) = false := decide_eq_false c2
     clear c2
     obtain rfl := Option.some.inj H
     go_wp2
     go_ret
     exact ⟨_, by first | rfl | (simp [errW_none, errW_some] <;> rfl) | (simp [*, errW_none, errW_some] <;> rfl), by (with_reducible repeat (first | apply ra_ | apply rn_ | apply rd_)); exact HO_3.out, by repeat (first | (with_reducible first | exact HB.out | apply wa_ | apply wn_ | apply wd_) | exact HB.out)⟩

   rw [if_pos c2] at H
   have c2b0 : decide (x4_1 < (l0.length : Int)) = true := decide_eq_true c2
   clear c2
   by_cases c3 : 0 ≤ x4_1
   rotate_left
   · rw [if_neg c3] at H
     exact absurd H (by simp)
   rw [if_pos c3] at H
   have c3b0 : decide (0 ≤ x4_1) = true := decide_eq_true c3
   clear c3
   replace H := Option.bind_eq_some_iff.mp H
   obtain ⟨t428, A40, H⟩ := H
   try dsimp only at H
   have A4 := A_ A40
   clear A40
   have H' := A_ H
   clear H
   have p427 : 0 ≤ (x4_1 : Int) := of_decide_eq_true (by first | (with_reducible assumption) | assumption)
   have q427 : x4_1 < (l0.length : Int) := of_decide_eq_true (by first | (with_reducible assumption) | assumption)
   obtain ⟨ad427, e427, hx427_0, hx427_1, hx427_2, hx427_3, hx427_4, hx427_5⟩ := at_T24 HR0.out x4_1 p427 q427
   cases e427
   replace hx427_0 := on_ HB.out hx427_0
   replace hx427_1 := on_ HB.out hx427_1
   replace hx427_2 := on_ HB.out hx427_2
   replace hx427_3 := on_ HB.out hx427_3
   replace hx427_4 := on_ HB.out hx427_4
   replace hx427_5 := on_ HB.out hx427_5
   replace p427 := eq_true p427
   replace q427 := eq_true q427
   obtain ⟨Ao5, co5, eo5⟩ := Kd.R_slice HO_3.out
   subst eo5
   go_wp2_with (first | ((with_reducible refine gate_callee (f := 32) rfl ?_); refine goesL_ (some 16) rfl rfl Try.func32 (by kernel_rfl) rfl #[.slice Ao5 x3_1.length co5, .agg #[.int .i64 ((rd_T24 l0 x4_1).f0), .int .i64 ((rd_T24 l0 x4_1).f1), .int .i64 ((rd_T24 l0 x4_1).f2), .int .i64 ((rd_T24 l0 x4_1).f3), .int .i64 ((rd_T24 l0 x4_1).f4), .string ((rd_T24 l0 x4_1).f5)]] rfl (by (try simp only [m0_, m1_, m2_]); first | done | rfl) ?_; (with_reducible refine (hopperref06_Push.calls k1 _ _ x3_1 ((rd_T24 l0 x4_1).f0) ((rd_T24 l0 x4_1).f1) ((rd_T24 l0 x4_1).f2) ((rd_T24 l0 x4_1).f3) ((rd_T24 l0 x4_1).f4) ((rd_T24 l0 x4_1).f5) t428 _ ?side1 ?side2 A4.out).mono ?_); (case side1 => repeat (first | exact (Kd.R_reads' HO_3.out).2.2 | (with_reducible refine ca_ ?_ _) | (with_reducible refine cn_ ?_ _) | (with_reducible refine cd_ ?_))); (case side2 => exact (Kd.R_reads' HO_3.out).2.1); rintro e w6 ⟨v429, rfl, ho0, hb⟩; refine ⟨_, rfl, ?_⟩; have n0_ := A_ (Kd.R_elder' (pr_ HO_3.out) (Kd.R_base ho0) hb); have n1_ := A_ (Kd.R_lower (Kd.R_new' ho0 (Kd.R_lt (pr_ HO_3.out))) (below_size bw_)); have n2_ := A_ (below_step bw_ hb); replace HO_3 := n0_; have HO430 := n1_; replace HB := n2_; clear n0_ n1_ n2_; (try clear hb); (try clear hb2); (try clear hk); (try clear hi); (try clear ho0)))
   go_roundg k1
   case measure => have := HK1.out; omega
   case rel => exact ⟨(t428), (wrap64 (x4_1 + 1)), (by first | rfl | (simp; done) | (simp [*]; done)), H', ⟨by have := HK1.out; omega⟩, ⟨by (with_reducible repeat (first | apply ra_ | apply rn_ | apply rd_)); exact Kd.R_mono HO430.out (fun _ hk => trivial)⟩, ⟨by repeat (first | (with_reducible first | exact HB.out | apply wa_ | apply wn_ | apply wd_) | exact HB.out)⟩⟩
/-! ### hopperref06_Order: function 36 -/
def hopperref06_Order.l0 : Nat → List (S24) → List (S24) → Option ((List (S24)))
 | 0, _, _ => none
 | k + 1, x3, x4 => if (x4.length : Int) > 0 then ((hopperref06_Pop.f k x4).bind fun bt434 => (if x3.length < 2513169434916 then (hopperref06_Order.l0 k (x3 ++ [(⟨bt434.2.1, bt434.2.2.1, bt434.2.2.2.1, bt434.2.2.2.2.1, bt434.2.2.2.2.2.1, bt434.2.2.2.2.2.2.1⟩ : S24)]) bt434.1) else (none))) else (some x3)
def hopperref06_Order.f (k : Nat) (l0 : List (S24)) : Option ((List (S24))) := (hopperref06_Make.f k l0).bind fun t431 => (hopperref06_Order.l0 k ([] : List (S24)) t431)
theorem hopperref06_Order.mono_l : ∀ k, (∀ y0 y1, LeO (hopperref06_Order.l0 k y0 y1) (hopperref06_Order.l0 (k + 1) y0 y1))
 | 0 => fun _ _ r h => by simp [hopperref06_Order.l0] at h
 | k + 1 => by
  have ih0 := hopperref06_Order.mono_l k
  · intro y0 y1
    unfold hopperref06_Order.l0
    repeat' first
    | (with_reducible exact ih0 _ _)
    | (with_reducible exact hopperref06_Make.mono _ _)
    | (with_reducible exact hopperref06_Pop.mono _ _)
    | (with_reducible exact LeO.refl _)
    | (with_reducible exact LeO.none _)
    | (with_reducible refine LeO.ite ?_ ?_)
    | (with_reducible refine LeO.bind ?_ (fun _ => ?_))
    | exact ih0 _ _
    | exact hopperref06_Make.mono _ _
    | exact hopperref06_Pop.mono _ _
    | exact LeO.none _
    | refine LeO.ite ?_ ?_
    | refine LeO.bind ?_ (fun _ => ?_)
theorem hopperref06_Order.mono : ∀ a0 k, LeO (hopperref06_Order.f k a0) (hopperref06_Order.f (k + 1) a0) := by
 intro a0 k
 have ih0 := hopperref06_Order.mono_l k
 unfold hopperref06_Order.f
 repeat' first
  | (with_reducible exact ih0 _ _)
  | (with_reducible exact hopperref06_Make.mono _ _)
  | (with_reducible exact hopperref06_Pop.mono _ _)
  | (with_reducible exact LeO.refl _)
  | (with_reducible exact LeO.none _)
  | (with_reducible refine LeO.ite ?_ ?_)
  | (with_reducible refine LeO.bind ?_ (fun _ => ?_))
  | exact ih0 _ _
  | exact hopperref06_Make.mono _ _
  | exact hopperref06_Pop.mono _ _
  | exact LeO.none _
  | refine LeO.ite ?_ ?_
  | refine LeO.bind ?_ (fun _ => ?_)
set_option maxHeartbeats 8000000 in
set_option maxRecDepth 100000 in
theorem hopperref06_Order.calls (k : Nat) (A0 : Option Addr) (c0 : Nat) (l0 : List (S24)) (r : List (S24)) (w : World) (hr0 : Kd.C k24 w A0 l0.length l0) (hc0 : l0.length ≤ c0) (h : hopperref06_Order.f k l0 = some r) :
 Calls Try.prog 36 #[.slice A0 l0.length c0] w fun e w' => ∃ v0_ : Value, e = .returned (v0_) ∧ Kd.R k24 24 w' w.heap.size (fun _ => True) v0_ r ∧ Below w.heap.size w w' := by
 have hu24 := Try.underlying24
 have HR0 := A_ hr0
 have HC0 := A_ hc0
 clear hr0 hc0; have HB := A_ (Below.refl w.heap.size w)
 have H : ((hopperref06_Make.f k l0).bind fun t431 => (hopperref06_Order.l0 k ([] : List (S24)) t431)) = some r := h
 clear h
 replace H := Option.bind_eq_some_iff.mp H
 obtain ⟨t431, A20, H⟩ := H
 try dsimp only at H
 have A2 := A_ A20
 clear A20
 have H' := A_ H
 clear H
 go_enter Try.func36, Try.ntmps36
 go_wp2_with (first | ((with_reducible refine gate_callee (f := 34) rfl ?_); refine goesL_ (some 9) rfl rfl Try.func34 (by kernel_rfl) rfl #[.slice A0 l0.length c0] rfl (by (try simp only [m0_, m1_, m2_]); first | done | rfl) ?_; (with_reducible refine (hopperref06_Make.calls k _ _ l0 t431 _ ?side1 ?side2 A2.out).mono ?_); (case side1 => repeat (first | exact HR0.out | (with_reducible refine ca_ ?_ _) | (with_reducible refine cn_ ?_ _) | (with_reducible refine cd_ ?_))); (case side2 => exact HC0.out); rintro e w3 ⟨v432, rfl, ho0, hb⟩; refine ⟨_, rfl, ?_⟩; have HO433 := A_ (Kd.R_lower ho0 (below_size bw_)); replace HB := A_ (below_step bw_ hb); (try clear hb); (try clear hb2); (try clear hk); (try clear hi); (try clear ho0)))
 go_loopg [3, 4] k (fun kq v3 v4 w' => ∃ (x3_1 : List (S24)) (x4_1 : List (S24)), Aside0 (hopperref06_Order.l0 kq x3_1 x4_1 = some r) ∧ Aside0 (kq ≤ k) ∧ Aside0 (Kd.R k24 24 w' w.heap.size (fun k_ => some k_ ≠ (v4 : Value).ownBlock) v3 x3_1) ∧ Aside0 (Kd.R k24 24 w' w.heap.size (fun k_ => some k_ ≠ (v3 : Value).ownBlock) v4 x4_1) ∧ Aside0 (Below w.heap.size w w'))
 case atStart => exact ⟨(([] : List (S24))), (t431), H', ⟨Nat.le_refl _⟩, ⟨by first | exact Kd.R_nil _ _ _ _ _ | exact Kd.N_nil _ _ _ _ _ | exact Kd.V_nil _ _ _ _ _ | exact Kd.Q_nil _ _ _ _ _ | exact Kd.S_nil _ _ _ _ _⟩, ⟨by (with_reducible repeat (first | apply ra_ | apply rn_ | apply rd_)); exact Kd.R_mono HO433.out (fun _ hk => (by simp [Value.ownBlock]))⟩, ⟨by repeat (first | (with_reducible first | exact HB.out | apply wa_ | apply wn_ | apply wd_) | exact HB.out)⟩⟩
 case round =>
  clear H'; (try clear p2); (try clear c3)
  obtain ⟨x3_1, x4_1, HA, HK1, HO_3, HO_4, HB⟩ := hrel
  cases gk with
  | zero => exact absurd HA.out (by simp [hopperref06_Order.l0])
  | succ k1 =>
   have H := HA.out
   clear HA
   simp only [hopperref06_Order.l0] at H
   by_cases c4 : (x4_1.length : Int) > 0
   rotate_left
   · rw [if_neg c4] at H
     have c4b0 : decide (0 < (x4_1.length : Int)) = false := decide_eq_false c4
     have c4b1 : decide (0 < x4_1.length) = false := decide_eq_false (by omega)
     clear c4
     obtain rfl := Option.some.inj H
     obtain ⟨Ao12, co12, eo12⟩ := Kd.R_slice HO_4.out
     subst eo12
     go_wp2
     go_ret
     exact ⟨_, by first | rfl | (simp [errW_none, errW_some] <;> rfl) | (simp [*, errW_none, errW_some] <;> rfl), by (with_reducible repeat (first | apply ra_ | apply rn_ | apply rd_)); exact Kd.R_mono HO_3.out (fun _ hk => trivial), by repeat (first | (with_reducible first | exact HB.out | apply wa_ | apply wn_ | apply wd_) | exact HB.out)⟩

   rw [if_pos c4] at H
   have c4b0 : decide (0 < (x4_1.length : Int)) = true := decide_eq_true c4
   have c4b1 : decide (0 < x4_1.length) = true := decide_eq_true (by omega)
   clear c4
   replace H := Option.bind_eq_some_iff.mp H
   obtain ⟨⟨t434, t437, t438, t439, t440, t441, t442, t443⟩, A50, H⟩ := H
   try dsimp only at H
   have A5 := A_ A50
   clear A50
   by_cases c6 : x3_1.length < 2513169434916
   rotate_left
   · rw [if_neg c6] at H
     exact absurd H (by simp)
   rw [if_pos c6] at H
   have LMc6 := A_ c6
   clear c6
   obtain ⟨y445, hy445⟩ : ∃ y_ : List (S24), y_ = (x3_1 ++ [(⟨t437, t438, t439, t440, t441, t442⟩ : S24)]) := ⟨_, rfl⟩
   replace H : (hopperref06_Order.l0 k1 y445 t434) = some r := by first | (rw [hy445]; with_reducible exact H) | (have H2_ := (Option.bind_some _ _).symm.trans H; rw [hy445]; with_reducible exact H2_) | (have H2_ := (Option.bind_some _ _).symm.trans H; with_reducible exact H2_) | with_reducible exact H | (rw [hy445]; exact H) | exact H
   have Ny445 := A_ hy445
   clear hy445
   have H' := A_ H
   clear H
   obtain ⟨Ao7, co7, eo7⟩ := Kd.R_slice HO_4.out
   subst eo7
   go_wp2_with (first | ((with_reducible refine gate_callee (f := 25) rfl ?_); refine goesL_ (some 15) rfl rfl Try.func25 (by kernel_rfl) rfl #[.slice Ao7 x4_1.length co7] rfl (by (try simp only [m0_, m1_, m2_]); first | done | rfl) ?_; (with_reducible refine (hopperref06_Pop.calls k1 _ _ x4_1 t434 t437 t438 t439 t440 t441 t442 t443 _ ?side1 ?side2 A5.out).mono ?_); (case side1 => repeat (first | exact (Kd.R_reads' HO_4.out).2.2 | (with_reducible refine ca_ ?_ _) | (with_reducible refine cn_ ?_ _) | (with_reducible refine cd_ ?_))); (case side2 => exact (Kd.R_reads' HO_4.out).2.1); rintro e w8 ⟨v435, rfl, ho0, hb⟩; refine ⟨_, rfl, ?_⟩; have n0_ := A_ (Kd.R_elder' (pr_ HO_3.out) (Kd.R_base ho0) hb); have n1_ := A_ (Kd.R_elder' (pr_ HO_4.out) (Kd.R_base ho0) hb); have n2_ := A_ (Kd.R_lower (Kd.R_new' (Kd.R_new' ho0 (Kd.R_lt (pr_ HO_3.out))) (Kd.R_lt (pr_ HO_4.out))) (below_size bw_)); have n3_ := A_ (below_step bw_ hb); replace HO_3 := n0_; replace HO_4 := n1_; have HO436 := n2_; replace HB := n3_; clear n0_ n1_ n2_ n3_; (try clear hb); (try clear hb2); (try clear hk); (try clear hi); (try clear ho0)) | ((with_reducible refine gate_dst (N := 6) rfl ?_); refine box_event ?hg (N := 6) ?hd (cs := #[.int .i64 0, .int .i64 0, .int .i64 0, .int .i64 0, .int .i64 0, .string (⟨#[]⟩ : ByteArray)]) (t := 24) ?hr ?_; (case hd => rfl); (case hg => rfl); (case hr => first | (go_simp; done) | (go_simp; rfl)); intro gb444 hg w9 hbox hb; have n0_ := A_ (Kd.R_below (Kd.R_elderB (pr_ HO_3.out) gb444 (Nat.le_of_eq hg.symm)) hb); have n1_ := A_ (Kd.R_below (Kd.R_elderB (pr_ HO_4.out) gb444 (Nat.le_of_eq hg.symm)) hb); have n2_ := A_ (Kd.R_below (Kd.R_elderB (pr_ HO436.out) gb444 (Nat.le_of_eq hg.symm)) hb); have n3_ := A_ (below_step bw_ hb); have n4_ := A_ (hbox); have n5_ := A_ (gz_ (w := w) hg); have n6_ := A_ (gz_ (w := w) hg); replace HO_3 := n0_; replace HO_4 := n1_; replace HO436 := n2_; replace HB := n3_; have BK444 := n4_; have GW444 := n5_; have GE444 := n6_; clear n0_ n1_ n2_ n3_ n4_ n5_ n6_; clear hb hbox hg; have hcz10_0 : w9.cell? ⟨gb444, 0, none⟩ = some (.int .i64 0) := e_ BK444 0; have hcz10_1 : w9.cell? ⟨gb444, 1, none⟩ = some (.int .i64 0) := e_ BK444 1; have hcz10_2 : w9.cell? ⟨gb444, 2, none⟩ = some (.int .i64 0) := e_ BK444 2; have hcz10_3 : w9.cell? ⟨gb444, 3, none⟩ = some (.int .i64 0) := e_ BK444 3; have hcz10_4 : w9.cell? ⟨gb444, 4, none⟩ = some (.int .i64 0) := e_ BK444 4; have hcz10_5 : w9.cell? ⟨gb444, 5, none⟩ = some (.string (⟨#[]⟩ : ByteArray)) := e_ BK444 5; obtain ⟨hfz10_0, hfz10_1, hfz10_2, hfz10_3, hfz10_4, hfz10_5⟩ := z6_ BK444) | ((with_reducible refine gate_builtin (b := .append) (xs := #[.tmp 19, .tmp 21]) rfl ?_); at_builtin; refine Kd.R_append k24 (w0 := w) w.heap.size rfl (.tmp 19) (.tmp 21) 22 24 (.agg #[(.int .i64 0), (.int .i64 0), (.int .i64 0), (.int .i64 0), (.int .i64 0), (.string ⟨#[]⟩)]) 56 rfl Try.underlying22 info24 rfl (by decide) (by omega) u3 x3_1 (⟨t437, t438, t439, t440, t441, t442⟩ : S24) [.int .i64 t437, .int .i64 t438, .int .i64 t439, .int .i64 t440, .int .i64 t441, .string t442] (fun k_ => some k_ ≠ (.slice Ao7 x4_1.length co7 : Value).ownBlock ∧ some k_ ≠ (v435 : Value).ownBlock ∧ k_ ≠ gb444) (fun _ => False) rfl (by first | (go_simp; done) | (go_simp; rfl)) ?aP (fun _ hk => hk.elim) ?aF ?aO ?aB ?aS ?aL ?_; (case aP => exact k24_mkM _ _ _ (⟨t437, t438, t439, t440, t441, t442⟩ : S24)); (case aB => exact bw_); (case aF => exact (fun k_ hk => ⟨Kd.fresh' (Kd.R_lt (by (with_reducible repeat (first | apply ra_ | apply rn_ | apply rd_)); exact (Kd.R_mono (f6_ (g := gb444) (Kd.R_mono HO_4.out (fun k_ hk => (⟨hk, hk.2⟩ : _ ∧ k_ ≠ gb444))) (fun _ hk => hk.2) (.int .i64 t437) (.int .i64 t438) (.int .i64 t439) (.int .i64 t440) (.int .i64 t441) (.string t442)) (fun _ h_ => h_.1)))) k_ hk, Kd.fresh' (Kd.R_lt (by (with_reducible repeat (first | apply ra_ | apply rn_ | apply rd_)); exact (Kd.R_mono (f6_ (g := gb444) (Kd.R_mono HO436.out (fun k_ hk => (⟨hk, hk.2⟩ : _ ∧ k_ ≠ gb444))) (fun _ hk => hk.2) (.int .i64 t437) (.int .i64 t438) (.int .i64 t439) (.int .i64 t440) (.int .i64 t441) (.string t442)) (fun _ h_ => h_.1)))) k_ hk, Kd.freshB (g := gb444) (o := .cells #[.int .i64 t437, .int .i64 t438, .int .i64 t439, .int .i64 t440, .int .i64 t441, .string t442] 24 (0, 0)) (by exact pk_ (b6_ BK444.out)) k_ hk⟩)); (case aO => exact (by (with_reducible repeat (first | apply ra_ | apply rn_ | apply rd_)); exact Kd.R_mono (f6_ (g := gb444) (Kd.R_mono HO_3.out (fun k_ hk => (⟨hk, hk.2⟩ : _ ∧ k_ ≠ gb444))) (fun _ hk => hk.2) (.int .i64 t437) (.int .i64 t438) (.int .i64 t439) (.int .i64 t440) (.int .i64 t441) (.string t442)) (fun _ hk => ⟨hk.1.1.1, ⟨hk.1.1.2, hk.1.2⟩⟩))); (case aS => exact (below_size bw_)); (case aL => have := LMc6.out; omega); intro v446 w11 ho hb hg hat; rw [← Ny445.out] at ho; replace HO_4 := A_ (Kd.R_after (ok := (fun k_ => some k_ ≠ (v435 : Value).ownBlock ∧ k_ ≠ gb444)) (by (with_reducible repeat (first | apply ra_ | apply rn_ | apply rd_)); exact Kd.R_mono (f6_ (g := gb444) (Kd.R_mono HO_4.out (fun k_ hk => (⟨hk, hk.2⟩ : _ ∧ k_ ≠ gb444))) (fun _ hk => hk.2) (.int .i64 t437) (.int .i64 t438) (.int .i64 t439) (.int .i64 t440) (.int .i64 t441) (.string t442)) (fun _ hk => ⟨⟨hk.1.1.2, hk.1.2⟩, hk.1.1.1⟩)) hg hat); replace HO436 := A_ (Kd.R_after (ok := (fun k_ => some k_ ≠ (.slice Ao7 x4_1.length co7 : Value).ownBlock ∧ k_ ≠ gb444)) (by (with_reducible repeat (first | apply ra_ | apply rn_ | apply rd_)); exact Kd.R_mono (f6_ (g := gb444) (Kd.R_mono HO436.out (fun k_ hk => (⟨hk, hk.2⟩ : _ ∧ k_ ≠ gb444))) (fun _ hk => hk.2) (.int .i64 t437) (.int .i64 t438) (.int .i64 t439) (.int .i64 t440) (.int .i64 t441) (.string t442)) (fun _ hk => ⟨⟨hk.1.1.2, hk.1.2⟩, hk.1.1.1.2⟩)) hg hat); replace BK444 := A_ (blk_grown (g := gb444) (o := .cells #[.int .i64 t437, .int .i64 t438, .int .i64 t439, .int .i64 t440, .int .i64 t441, .string t442] 24 (0, 0)) (by exact pk_ (b6_ BK444.out)) hg (Kd.R_away HO_3.out (fun _ hk => hk.2))); replace HB := A_ (hb); have HO447 := A_ (ho); clear HO_3; clear ho hb hg hat))
   go_roundg k1
   case measure => have := HK1.out; omega
   case rel => exact ⟨(y445), (t434), H', ⟨by have := HK1.out; omega⟩, ⟨by (with_reducible repeat (first | apply ra_ | apply rn_ | apply rd_)); exact Kd.R_mono HO447.out (fun _ hk => hk.2.1)⟩, ⟨by (with_reducible repeat (first | apply ra_ | apply rn_ | apply rd_)); exact Kd.R_mono HO436.out (fun _ hk => hk.2)⟩, ⟨by repeat (first | (with_reducible first | exact HB.out | apply wa_ | apply wn_ | apply wd_ | refine ws_ ?_ GE444.out) | exact HB.out)⟩⟩
end Go.Proofs.Ytehncbhmdgdkjaa.L
