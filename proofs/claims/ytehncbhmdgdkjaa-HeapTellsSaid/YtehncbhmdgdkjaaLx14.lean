/- Written by this session's own program over the kit's print: functions of Go told as plain functions, or the row of one statement; proved for every input, with no condition of ours. -/
import Derived.Test.YtehncbhmdgdkjaaLx0
import Derived.Test.YtehncbhmdgdkjaaLx3
import Derived.Test.YtehncbhmdgdkjaaLx4
import Derived.Test.YtehncbhmdgdkjaaLx13
namespace Go.Proofs.Ytehncbhmdgdkjaa.L
open Go.RowKit Go.Proofs.YtehncbhmdgdkjaaW.PrintWords Go.Proofs.YtehncbhmdgdkjaaW.PrintLast Go.Proofs.YtehncbhmdgdkjaaW.PrintMore
attribute [local go_sem] max2_int min2_int max_two min_two max_three min_three max_four min_four   -- for this text's walks alone
set_option linter.unusedVariables false
set_option linter.unusedSimpArgs false

/-! ### heap_Make: function 33 -/
def heap_Make.l0 : Nat → List (S24) → List (S24) → Int → Int → Option ((List (S24)))
 | 0, _, _, _, _ => none
 | k + 1, x3, x6, x7, x8 => if x8 < x7 then (if 0 ≤ x8 then (if x8 < (x6.length : Int) then ((heap_Push.f x3 ((rd_T24 x6 x8).f0) ((rd_T24 x6 x8).f1) ((rd_T24 x6 x8).f2) ((rd_T24 x6 x8).f3) ((rd_T24 x6 x8).f4) ((rd_T24 x6 x8).f5)).bind fun t142 => (heap_Make.l0 k t142 x6 x7 (wrap64 (x8 + 1)))) else (none)) else (none)) else (some x3)
def heap_Make.f (k : Nat) (l0 : List (S24)) : Option ((List (S24))) := heap_Make.l0 k ([] : List (S24)) l0 (l0.length : Int) 0
theorem heap_Make.mono_l : ∀ k, (∀ y0 y1 y2 y3, LeO (heap_Make.l0 k y0 y1 y2 y3) (heap_Make.l0 (k + 1) y0 y1 y2 y3))
 | 0 => fun _ _ _ _ r h => by simp [heap_Make.l0] at h
 | k + 1 => by
  have ih0 := heap_Make.mono_l k
  · intro y0 y1 y2 y3
    unfold heap_Make.l0
    repeat' first
    | (with_reducible exact ih0 _ _ _ _)
    | (with_reducible exact LeO.refl _)
    | (with_reducible exact LeO.none _)
    | (with_reducible refine LeO.ite ?_ ?_)
    | (with_reducible refine LeO.bind ?_ (fun _ => ?_))
    | exact ih0 _ _ _ _
    | exact LeO.none _
    | refine LeO.ite ?_ ?_
    | refine LeO.bind ?_ (fun _ => ?_)
theorem heap_Make.mono : ∀ a0 k, LeO (heap_Make.f k a0) (heap_Make.f (k + 1) a0) := by
 intro a0 k
 have ih0 := heap_Make.mono_l k
 unfold heap_Make.f
 repeat' first
  | (with_reducible exact ih0 _ _ _ _)
  | (with_reducible exact LeO.refl _)
  | (with_reducible exact LeO.none _)
  | (with_reducible refine LeO.ite ?_ ?_)
  | (with_reducible refine LeO.bind ?_ (fun _ => ?_))
  | exact ih0 _ _ _ _
  | exact LeO.none _
  | refine LeO.ite ?_ ?_
  | refine LeO.bind ?_ (fun _ => ?_)
set_option maxHeartbeats 8000000 in
set_option maxRecDepth 100000 in
theorem heap_Make.calls (k : Nat) (A0 : Option Addr) (c0 : Nat) (l0 : List (S24)) (r : List (S24)) (w : World) (hr0 : Kd.C k24 w A0 l0.length l0) (hc0 : l0.length ≤ c0) (h : heap_Make.f k l0 = some r) :
 Calls Try.prog 33 #[.slice A0 l0.length c0] w fun e w' => ∃ v0_ : Value, e = .returned (v0_) ∧ Kd.R k24 24 w' w.heap.size (fun _ => True) v0_ r ∧ Below w.heap.size w w' := by
 have hu24 := Try.underlying24
 have HR0 := A_ hr0
 have HC0 := A_ hc0
 clear hr0 hc0; have HB := A_ (Below.refl w.heap.size w)
 have H : (heap_Make.l0 k ([] : List (S24)) l0 (l0.length : Int) 0) = some r := h
 clear h
 have H' := A_ H
 clear H
 go_enter Try.func33, Try.ntmps33
 go_wp2
 go_loopg [3, 8] k (fun kq v3 v8 w' => ∃ (x3_1 : List (S24)) (x8_1 : Int), v8 = .int .i64 x8_1 ∧ Aside0 (heap_Make.l0 kq x3_1 l0 (l0.length : Int) x8_1 = some r) ∧ Aside0 (kq ≤ k) ∧ Aside0 (Kd.R k24 24 w' w.heap.size (fun _ => True) v3 x3_1) ∧ Aside0 (Below w.heap.size w w'))
 case atStart => exact ⟨(([] : List (S24))), (0), (by first | rfl | (simp; done) | (simp [*]; done)), H', ⟨Nat.le_refl _⟩, ⟨by first | exact Kd.R_nil _ _ _ _ _ | exact Kd.N_nil _ _ _ _ _ | exact Kd.V_nil _ _ _ _ _ | exact Kd.Q_nil _ _ _ _ _ | exact Kd.S_nil _ _ _ _ _⟩, ⟨by repeat (first | (with_reducible first | exact HB.out | apply wa_ | apply wn_ | apply wd_) | exact HB.out)⟩⟩
 case round =>
  clear H'
  obtain ⟨x3_1, x8_1, rfl, HA, HK1, HO_3, HB⟩ := hrel
  cases gk with
  | zero => exact absurd HA.out (by simp [heap_Make.l0])
  | succ k1 =>
   have H := HA.out
   clear HA
   simp only [heap_Make.l0] at H
   by_cases c2 : x8_1 < (l0.length : Int)
   rotate_left
   · rw [if_neg c2] at H
     have c2b0 : decide (x8_1 < (l0.length : Int)) = false := decide_eq_false c2
     clear c2
     obtain rfl := Option.some.inj H
     go_wp2
     go_ret
     exact ⟨_, by first | rfl | (simp [errW_none, errW_some] <;> rfl) | (simp [*, errW_none, errW_some] <;> rfl), by (with_reducible repeat (first | apply ra_ | apply rn_ | apply rd_)); exact HO_3.out, by repeat (first | (with_reducible first | exact HB.out | apply wa_ | apply wn_ | apply wd_) | exact HB.out)⟩

   rw [if_pos c2] at H
   have c2b0 : decide (x8_1 < (l0.length : Int)) = true := decide_eq_true c2
   clear c2
   by_cases c3 : 0 ≤ x8_1
   rotate_left
   · rw [if_neg c3] at H
     exact absurd H (by simp)
   rw [if_pos c3] at H
   have c3b0 : decide (0 ≤ x8_1) = true := decide_eq_true c3
   clear c3
   by_cases c4 : x8_1 < (l0.length : Int)
   rotate_left
   · rw [if_neg c4] at H
     exact absurd H (by simp)
   rw [if_pos c4] at H
   have c4b0 : decide (x8_1 < (l0.length : Int)) = true := decide_eq_true c4
   clear c4
   replace H := Option.bind_eq_some_iff.mp H
   obtain ⟨t142, A50, H⟩ := H
   try dsimp only at H
   have A5 := A_ A50
   clear A50
   have H' := A_ H
   clear H
   have p140 : 0 ≤ (x8_1 : Int) := of_decide_eq_true (by first | (with_reducible assumption) | assumption)
   have q140 : x8_1 < (l0.length : Int) := of_decide_eq_true (by first | (with_reducible assumption) | assumption)
   obtain ⟨ad140, e140, hx140_0, hx140_1, hx140_2, hx140_3, hx140_4, hx140_5⟩ := at_T24 HR0.out x8_1 p140 q140
   cases e140
   replace hx140_0 := on_ HB.out hx140_0
   replace hx140_1 := on_ HB.out hx140_1
   replace hx140_2 := on_ HB.out hx140_2
   replace hx140_3 := on_ HB.out hx140_3
   replace hx140_4 := on_ HB.out hx140_4
   replace hx140_5 := on_ HB.out hx140_5
   replace p140 := eq_true p140
   replace q140 := eq_true q140
   go_wp2_with (first | ((with_reducible refine gate_dst (N := 5) rfl ?_); refine box_event ?hg (N := 5) ?hd (cs := #[.int .i64 0, .int .i64 0, .int .i64 0, .int .i64 0, .int .i64 0, .string (⟨#[]⟩ : ByteArray)]) (t := 24) ?hr ?_; (case hd => rfl); (case hg => rfl); (case hr => first | (go_simp; done) | (go_simp; rfl)); intro gb141 hg w6 hbox hb; have n0_ := A_ (Kd.R_below (Kd.R_elderB (pr_ HO_3.out) gb141 (Nat.le_of_eq hg.symm)) hb); have n1_ := A_ (below_step bw_ hb); have n2_ := A_ (hbox); have n3_ := A_ (gz_ (w := w) hg); have n4_ := A_ (gz_ (w := w) hg); replace HO_3 := n0_; replace HB := n1_; have BK141 := n2_; have GW141 := n3_; have GE141 := n4_; clear n0_ n1_ n2_ n3_ n4_; clear hb hbox hg; have hcz7_0 : w6.cell? ⟨gb141, 0, none⟩ = some (.int .i64 0) := e_ BK141 0; have hcz7_1 : w6.cell? ⟨gb141, 1, none⟩ = some (.int .i64 0) := e_ BK141 1; have hcz7_2 : w6.cell? ⟨gb141, 2, none⟩ = some (.int .i64 0) := e_ BK141 2; have hcz7_3 : w6.cell? ⟨gb141, 3, none⟩ = some (.int .i64 0) := e_ BK141 3; have hcz7_4 : w6.cell? ⟨gb141, 4, none⟩ = some (.int .i64 0) := e_ BK141 4; have hcz7_5 : w6.cell? ⟨gb141, 5, none⟩ = some (.string (⟨#[]⟩ : ByteArray)) := e_ BK141 5; obtain ⟨hfz7_0, hfz7_1, hfz7_2, hfz7_3, hfz7_4, hfz7_5⟩ := z6_ BK141; obtain ⟨Ao8, co8, eo8⟩ := Kd.R_slice HO_3.out; subst eo8) | ((with_reducible refine gate_callee (f := 31) rfl ?_); refine goesL_ (some 14) rfl rfl Try.func31 (by kernel_rfl) rfl #[.slice Ao8 x3_1.length co8, .agg #[.int .i64 ((rd_T24 l0 x8_1).f0), .int .i64 ((rd_T24 l0 x8_1).f1), .int .i64 ((rd_T24 l0 x8_1).f2), .int .i64 ((rd_T24 l0 x8_1).f3), .int .i64 ((rd_T24 l0 x8_1).f4), .string ((rd_T24 l0 x8_1).f5)]] rfl (by (try simp only [m0_, m1_, m2_]); first | done | rfl) ?_; (with_reducible refine (heap_Push.calls _ _ x3_1 ((rd_T24 l0 x8_1).f0) ((rd_T24 l0 x8_1).f1) ((rd_T24 l0 x8_1).f2) ((rd_T24 l0 x8_1).f3) ((rd_T24 l0 x8_1).f4) ((rd_T24 l0 x8_1).f5) t142 _ ?side1 ?side2 A5.out).mono ?_); (case side1 => refine (Kd.R_reads' (e := 24) (base := w.heap.size) (ok := fun k_ => (True ∧ k_ ≠ gb141)) (n := x3_1.length) (c := co8) ?_).2.2; exact (by (with_reducible repeat (first | apply ra_ | apply rn_ | apply rd_)); exact (Kd.R_mono (f6_ (g := gb141) (Kd.R_mono HO_3.out (fun k_ hk => (⟨hk, hk.2⟩ : _ ∧ k_ ≠ gb141))) (fun _ hk => hk.2) (.int .i64 ((rd_T24 l0 x8_1).f0)) (.int .i64 ((rd_T24 l0 x8_1).f1)) (.int .i64 ((rd_T24 l0 x8_1).f2)) (.int .i64 ((rd_T24 l0 x8_1).f3)) (.int .i64 ((rd_T24 l0 x8_1).f4)) (.string ((rd_T24 l0 x8_1).f5))) (fun _ h_ => h_.1)))); (case side2 => exact (Kd.R_reads' HO_3.out).2.1); rintro e w9 ⟨v143, rfl, ho0, hb⟩; refine ⟨_, rfl, ?_⟩; have n0_ := A_ (Kd.R_elder' (by (with_reducible repeat (first | apply ra_ | apply rn_ | apply rd_)); exact (Kd.R_mono (f6_ (g := gb141) (Kd.R_mono HO_3.out (fun k_ hk => (⟨hk, hk.2⟩ : _ ∧ k_ ≠ gb141))) (fun _ hk => hk.2) (.int .i64 ((rd_T24 l0 x8_1).f0)) (.int .i64 ((rd_T24 l0 x8_1).f1)) (.int .i64 ((rd_T24 l0 x8_1).f2)) (.int .i64 ((rd_T24 l0 x8_1).f3)) (.int .i64 ((rd_T24 l0 x8_1).f4)) (.string ((rd_T24 l0 x8_1).f5))) (fun _ h_ => h_.1))) (Kd.R_base ho0) hb); have n1_ := A_ (Kd.R_lower (Kd.R_newB (Kd.R_new' ho0 (Kd.R_lt (by (with_reducible repeat (first | apply ra_ | apply rn_ | apply rd_)); exact (Kd.R_mono (f6_ (g := gb141) (Kd.R_mono HO_3.out (fun k_ hk => (⟨hk, hk.2⟩ : _ ∧ k_ ≠ gb141))) (fun _ hk => hk.2) (.int .i64 ((rd_T24 l0 x8_1).f0)) (.int .i64 ((rd_T24 l0 x8_1).f1)) (.int .i64 ((rd_T24 l0 x8_1).f2)) (.int .i64 ((rd_T24 l0 x8_1).f3)) (.int .i64 ((rd_T24 l0 x8_1).f4)) (.string ((rd_T24 l0 x8_1).f5))) (fun _ h_ => h_.1))))) (g := gb141) (o := .cells #[.int .i64 ((rd_T24 l0 x8_1).f0), .int .i64 ((rd_T24 l0 x8_1).f1), .int .i64 ((rd_T24 l0 x8_1).f2), .int .i64 ((rd_T24 l0 x8_1).f3), .int .i64 ((rd_T24 l0 x8_1).f4), .string ((rd_T24 l0 x8_1).f5)] 24 (0, 0)) (by exact pk_ (b6_ BK141.out))) (below_size bw_)); have n2_ := A_ (blk_below (g := gb141) (o := .cells #[.int .i64 ((rd_T24 l0 x8_1).f0), .int .i64 ((rd_T24 l0 x8_1).f1), .int .i64 ((rd_T24 l0 x8_1).f2), .int .i64 ((rd_T24 l0 x8_1).f3), .int .i64 ((rd_T24 l0 x8_1).f4), .string ((rd_T24 l0 x8_1).f5)] 24 (0, 0)) (by exact pk_ (b6_ BK141.out)) hb); have n3_ := A_ (below_step bw_ hb); replace HO_3 := n0_; have HO144 := n1_; replace BK141 := n2_; replace HB := n3_; clear n0_ n1_ n2_ n3_; (try clear hb); (try clear hb2); (try clear hk); (try clear hi); (try clear ho0)))
   go_roundg k1
   case measure => have := HK1.out; omega
   case rel => exact ⟨(t142), (wrap64 (x8_1 + 1)), (by first | rfl | (simp; done) | (simp [*]; done)), H', ⟨by have := HK1.out; omega⟩, ⟨by (with_reducible repeat (first | apply ra_ | apply rn_ | apply rd_)); exact Kd.R_mono HO144.out (fun _ hk => trivial)⟩, ⟨by repeat (first | (with_reducible first | exact HB.out | apply wa_ | apply wn_ | apply wd_ | refine ws_ ?_ GE141.out) | exact HB.out)⟩⟩
/-! ### heap_Order: function 35, by hand -/
-- HAND rounds=0 making=1
-- IMPORT Derived.Test.YtehncbhmdgdkjaaGoto
def orderL : Nat → List S24 → List S24 → Option (List S24)
  | 0, _, _ => none
  | m + 1, h, acc => (heap_Pop.f h).bind fun p => if p.2.2.2.2.2.2.2 = true then (if acc.length < 2513169434916 then orderL m p.1 (acc ++ [⟨p.2.1, p.2.2.1, p.2.2.2.1, p.2.2.2.2.1, p.2.2.2.2.2.1, p.2.2.2.2.2.2.1⟩]) else none) else some acc
def heap_Order.f (l0 : List S24) : Option (List S24) := (heap_Make.f (l0.length + 2) l0).bind fun h => orderL (h.length + 2) h []
theorem downL_length : ∀ (m : Nat) (l : List S24) (i : Int) (r : List S24), downL m l i = some r → r.length = l.length
  | 0, _, _, _, h => by simp [downL] at h
  | m + 1, l, i, r, h => by
    simp only [downL] at h
    obtain ⟨c, _, h⟩ := Option.bind_eq_some_iff.1 h
    split at h
    · obtain ⟨b, _, h⟩ := Option.bind_eq_some_iff.1 h
      split at h
      · rw [downL_length m _ _ _ h, swapL_length]
      · rw [← Option.some.inj h]
    · split at h
      · obtain ⟨b, _, h⟩ := Option.bind_eq_some_iff.1 h
        split at h
        · rw [downL_length m _ _ _ h, swapL_length]
        · rw [← Option.some.inj h]
      · rw [← Option.some.inj h]
theorem heap_Pop.shorter (l : List S24) (p) (h : heap_Pop.f l = some p) (ht : p.2.2.2.2.2.2.2 = true) : p.1.length < l.length := by
  unfold heap_Pop.f at h
  split at h
  · rw [← Option.some.inj h] at ht; exact absurd ht (by simp)
  · split at h
    · obtain ⟨r, hr, h⟩ := Option.bind_eq_some_iff.1 h
      rw [← Option.some.inj h]
      have := downL_length _ _ _ _ hr
      rw [List.length_take, List.length_set] at this
      show r.length < _
      omega
    · cases h
def sliceLen : Value → Nat | .slice _ n _ => n | _ => 0
/-- What holds at each arrival at the label. -/
def OrdJ (r : List S24) (w w' : World) (a : Act) : Prop := ∃ (m : Nat) (h acc : List S24) (v3 v4 : Value), orderL m h acc = some r ∧ Kd.R k24 24 w' w.heap.size (fun q => some q ≠ (v4 : Value).ownBlock) v3 acc ∧ Kd.R k24 24 w' w.heap.size (fun q => some q ≠ (v3 : Value).ownBlock) v4 h ∧ Below w.heap.size w w' ∧
  ∃ u0 u1 u2 u5 u6 u7 u8 u9 u10 u11 u12 u13 u14 u15 u16 u17 u18 u19 u20 u21 u22 u23 : Value, a = { tmps := #[u0, u1, u2, v3, v4, u5, u6, u7, u8, u9, u10, u11, u12, u13, u14, u15, u16, u17, u18, u19, u20, u21, u22, u23], defers := [] }
set_option maxHeartbeats 4000000 in
set_option maxRecDepth 100000 in
theorem heap_Order.calls (A0 : Option Addr) (c0 : Nat) (l0 : List S24) (r : List S24) (w : World) (hr0 : Kd.C k24 w A0 l0.length l0) (hc0 : l0.length ≤ c0) (h : heap_Order.f l0 = some r) :
    Calls Try.prog 35 #[.slice A0 l0.length c0] w fun e w' => ∃ v0_ : Value, e = .returned (v0_) ∧ Kd.R k24 24 w' w.heap.size (fun _ => True) v0_ r ∧ Below w.heap.size w w' := by
  have hu24 := Try.underlying24
  unfold heap_Order.f at h
  obtain ⟨h0, hm, h⟩ := Option.bind_eq_some_iff.1 h
  have HM := Aside0.mk hm
  have HH := Aside0.mk h
  have HR0 := Aside0.mk hr0
  have HC0 := Aside0.mk hc0
  clear h hm hr0 hc0
  go_enter Try.func35, Try.ntmps35
  go_wp2
  refine Goto.scope_label 0 (fun a' w' => OrdJ r w w' a') (fun a' _ => sliceLen (a'.tmps.getD 4 undef)) rfl ?_ ?_
  · rintro a' w' ⟨m, x4_1, x3_1, v3, v4, H, ho3, ho4, hb4, u0, u1, u2, u5, u6, u7, u8, u9, u10, u11, u12, u13, u14, u15, u16, u17, u18, u19, u20, u21, u22, u23, rfl⟩
    have HO_3 := Aside0.mk ho3
    have HO_4 := Aside0.mk ho4
    have HB := Aside0.mk hb4
    clear ho3 ho4 hb4
    cases m with
    | zero => exact absurd H (by simp [orderL])
    | succ m =>
      simp only [orderL] at H
      obtain ⟨⟨t706, t709, t710, t711, t712, t713, t714, t715⟩, A50, H⟩ := Option.bind_eq_some_iff.1 H
      have A5 := Aside0.mk A50
      have HSH := Aside0.mk (heap_Pop.shorter _ _ A50)
      clear A50
      obtain ⟨Ao7, co7, eo7⟩ := Kd.R_slice HO_4.out
      subst eo7
      cases t715 with
      | false =>
        replace H : some x3_1 = some r := H
        obtain rfl := Option.some.inj H
        go_wp2_with (first | (go_at_call 24; (with_reducible refine (heap_Pop.calls _ _ x4_1 t706 t709 t710 t711 t712 t713 t714 false _ ?side1 ?side2 A5.out).mono ?_); (case side1 => repeat (first | exact (Kd.R_reads' HO_4.out).2.2 | (with_reducible refine Kd.C_alloc ?_ _) | (with_reducible refine Kd.C_drewN ?_ _) | (with_reducible refine Kd.C_drew ?_))); (case side2 => exact (Kd.R_reads' HO_4.out).2.1); rintro e w8 ⟨v707, rfl, ho0, hb⟩; have n0_ := Aside0.mk (Kd.R_elder' (by (with_reducible repeat (first | apply Kd.R_alloc | apply Kd.R_drewN | apply Kd.R_drew)); exact HO_3.out) (Kd.R_base ho0) hb); have n1_ := Aside0.mk (Kd.R_elder' (by (with_reducible repeat (first | apply Kd.R_alloc | apply Kd.R_drewN | apply Kd.R_drew)); exact HO_4.out) (Kd.R_base ho0) hb); have n2_ := Aside0.mk (Kd.R_lower (Kd.R_new' (Kd.R_new' ho0 (Kd.R_lt (by (with_reducible repeat (first | apply Kd.R_alloc | apply Kd.R_drewN | apply Kd.R_drew)); exact HO_3.out))) (Kd.R_lt (by (with_reducible repeat (first | apply Kd.R_alloc | apply Kd.R_drewN | apply Kd.R_drew)); exact HO_4.out))) (below_size (by repeat (first | (with_reducible first | exact HB.out | apply below_alloc | apply pw_below_drewN | apply below_drew1) | exact HB.out)))); have n3_ := Aside0.mk (below_step (by repeat (first | (with_reducible first | exact HB.out | apply below_alloc | apply pw_below_drewN | apply below_drew1) | exact HB.out)) hb); clear HO_3; clear HO_4; clear HB; have HO_3 := n0_; have HO_4 := n1_; have HO708 := n2_; have HB := n3_; clear n0_ n1_ n2_ n3_; (try clear hb); (try clear hb2); (try clear hk); (try clear hi); (try clear ho0)) | ((with_reducible refine gate_dst (N := 6) rfl ?_); refine box_event ?hg (N := 6) ?hd (cs := #[.int .i64 0, .int .i64 0, .int .i64 0, .int .i64 0, .int .i64 0, .string (⟨#[]⟩ : ByteArray)]) (t := 24) ?hr ?_; (case hd => rfl); (case hg => rfl); (case hr => first | (go_simp; done) | (go_simp; rfl)); intro gb716 hg w9 hbox hb; have n0_ := Aside0.mk (Kd.R_below (Kd.R_elderB (by (with_reducible repeat (first | apply Kd.R_alloc | apply Kd.R_drewN | apply Kd.R_drew)); exact HO_3.out) gb716 (Nat.le_of_eq hg.symm)) hb); have n1_ := Aside0.mk (Kd.R_below (Kd.R_elderB (by (with_reducible repeat (first | apply Kd.R_alloc | apply Kd.R_drewN | apply Kd.R_drew)); exact HO_4.out) gb716 (Nat.le_of_eq hg.symm)) hb); have n2_ := Aside0.mk (Kd.R_below (Kd.R_elderB (by (with_reducible repeat (first | apply Kd.R_alloc | apply Kd.R_drewN | apply Kd.R_drew)); exact HO708.out) gb716 (Nat.le_of_eq hg.symm)) hb); have n3_ := Aside0.mk (below_step (by repeat (first | (with_reducible first | exact HB.out | apply below_alloc | apply pw_below_drewN | apply below_drew1) | exact HB.out)) hb); have n4_ := Aside0.mk (hbox); have n5_ := Aside0.mk ((by rw [hg]; exact (below_size (by repeat (first | (with_reducible first | exact HB.out | apply below_alloc | apply pw_below_drewN | apply below_drew1) | exact HB.out))) : w.heap.size ≤ gb716)); have n6_ := Aside0.mk ((by rw [hg]; exact (below_size (by repeat (first | (with_reducible first | exact HB.out | apply below_alloc | apply pw_below_drewN | apply below_drew1) | exact HB.out))) : w.heap.size ≤ gb716)); clear HO_3; clear HO_4; clear HO708; clear HB; have HO_3 := n0_; have HO_4 := n1_; have HO708 := n2_; have HB := n3_; have BK716 := n4_; have GW716 := n5_; have GE716 := n6_; clear n0_ n1_ n2_ n3_ n4_ n5_ n6_; clear hb hbox hg; have hcz10_0 : w9.cell? ⟨gb716, 0, none⟩ = some (.int .i64 0) := (blk_cell BK716.out 0).trans rfl; have hcz10_1 : w9.cell? ⟨gb716, 1, none⟩ = some (.int .i64 0) := (blk_cell BK716.out 1).trans rfl; have hcz10_2 : w9.cell? ⟨gb716, 2, none⟩ = some (.int .i64 0) := (blk_cell BK716.out 2).trans rfl; have hcz10_3 : w9.cell? ⟨gb716, 3, none⟩ = some (.int .i64 0) := (blk_cell BK716.out 3).trans rfl; have hcz10_4 : w9.cell? ⟨gb716, 4, none⟩ = some (.int .i64 0) := (blk_cell BK716.out 4).trans rfl; have hcz10_5 : w9.cell? ⟨gb716, 5, none⟩ = some (.string (⟨#[]⟩ : ByteArray)) := (blk_cell BK716.out 5).trans rfl; have hfz10_0 := blk_frozen BK716.out 0; have hfz10_1 := blk_frozen BK716.out 1; have hfz10_2 := blk_frozen BK716.out 2; have hfz10_3 := blk_frozen BK716.out 3; have hfz10_4 := blk_frozen BK716.out 4; have hfz10_5 := blk_frozen BK716.out 5))
        try simp only [Exit.jump]
        go_ret
        exact ⟨_, rfl, by (with_reducible repeat (first | apply Kd.R_alloc | apply Kd.R_drewN | apply Kd.R_drew)); exact Kd.R_mono (Kd.R_far (p := ⟨gb716, 5, none⟩) (Kd.R_far (p := ⟨gb716, 4, none⟩) (Kd.R_far (p := ⟨gb716, 3, none⟩) (Kd.R_far (p := ⟨gb716, 2, none⟩) (Kd.R_far (p := ⟨gb716, 1, none⟩) (Kd.R_far (p := ⟨gb716, 0, none⟩) (Kd.R_mono HO_3.out (fun k_ hk => (⟨hk, hk.2⟩ : _ ∧ k_ ≠ gb716))) (fun _ hk => hk.2) (.int .i64 t709)) (fun _ hk => hk.2) (.int .i64 t710)) (fun _ hk => hk.2) (.int .i64 t711)) (fun _ hk => hk.2) (.int .i64 t712)) (fun _ hk => hk.2) (.int .i64 t713)) (fun _ hk => hk.2) (.string t714)) (fun _ _ => trivial), by repeat (first | (with_reducible first | exact HB.out | apply below_alloc | apply pw_below_drewN | apply below_drew1 | refine below_set ?_ GE716.out) | exact HB.out)⟩
      | true =>
        replace H : (if x3_1.length < 2513169434916 then (orderL m t706 (x3_1 ++ [(⟨t709, t710, t711, t712, t713, t714⟩ : S24)])) else (none)) = some r := H
        by_cases c6 : x3_1.length < 2513169434916
        · rw [if_pos c6] at H
          have LMc6 := Aside0.mk c6
          clear c6
          obtain ⟨y717, hy⟩ : ∃ y_ : List S24, y_ = (x3_1 ++ [(⟨t709, t710, t711, t712, t713, t714⟩ : S24)]) := ⟨_, rfl⟩
          rw [← hy] at H
          have Ny717 := Aside0.mk hy
          clear hy
          have H' := Aside0.mk H
          clear H
          go_wp2_with (first | (go_at_call 24; (with_reducible refine (heap_Pop.calls _ _ x4_1 t706 t709 t710 t711 t712 t713 t714 true _ ?side1 ?side2 A5.out).mono ?_); (case side1 => repeat (first | exact (Kd.R_reads' HO_4.out).2.2 | (with_reducible refine Kd.C_alloc ?_ _) | (with_reducible refine Kd.C_drewN ?_ _) | (with_reducible refine Kd.C_drew ?_))); (case side2 => exact (Kd.R_reads' HO_4.out).2.1); rintro e w8 ⟨v707, rfl, ho0, hb⟩; have n0_ := Aside0.mk (Kd.R_elder' (by (with_reducible repeat (first | apply Kd.R_alloc | apply Kd.R_drewN | apply Kd.R_drew)); exact HO_3.out) (Kd.R_base ho0) hb); have n1_ := Aside0.mk (Kd.R_elder' (by (with_reducible repeat (first | apply Kd.R_alloc | apply Kd.R_drewN | apply Kd.R_drew)); exact HO_4.out) (Kd.R_base ho0) hb); have n2_ := Aside0.mk (Kd.R_lower (Kd.R_new' (Kd.R_new' ho0 (Kd.R_lt (by (with_reducible repeat (first | apply Kd.R_alloc | apply Kd.R_drewN | apply Kd.R_drew)); exact HO_3.out))) (Kd.R_lt (by (with_reducible repeat (first | apply Kd.R_alloc | apply Kd.R_drewN | apply Kd.R_drew)); exact HO_4.out))) (below_size (by repeat (first | (with_reducible first | exact HB.out | apply below_alloc | apply pw_below_drewN | apply below_drew1) | exact HB.out)))); have n3_ := Aside0.mk (below_step (by repeat (first | (with_reducible first | exact HB.out | apply below_alloc | apply pw_below_drewN | apply below_drew1) | exact HB.out)) hb); clear HO_3; clear HO_4; clear HB; have HO_3 := n0_; have HO_4 := n1_; have HO708 := n2_; have HB := n3_; clear n0_ n1_ n2_ n3_; (try clear hb); (try clear hb2); (try clear hk); (try clear hi); (try clear ho0)) | ((with_reducible refine gate_dst (N := 6) rfl ?_); refine box_event ?hg (N := 6) ?hd (cs := #[.int .i64 0, .int .i64 0, .int .i64 0, .int .i64 0, .int .i64 0, .string (⟨#[]⟩ : ByteArray)]) (t := 24) ?hr ?_; (case hd => rfl); (case hg => rfl); (case hr => first | (go_simp; done) | (go_simp; rfl)); intro gb716 hg w9 hbox hb; have n0_ := Aside0.mk (Kd.R_below (Kd.R_elderB (by (with_reducible repeat (first | apply Kd.R_alloc | apply Kd.R_drewN | apply Kd.R_drew)); exact HO_3.out) gb716 (Nat.le_of_eq hg.symm)) hb); have n1_ := Aside0.mk (Kd.R_below (Kd.R_elderB (by (with_reducible repeat (first | apply Kd.R_alloc | apply Kd.R_drewN | apply Kd.R_drew)); exact HO_4.out) gb716 (Nat.le_of_eq hg.symm)) hb); have n2_ := Aside0.mk (Kd.R_below (Kd.R_elderB (by (with_reducible repeat (first | apply Kd.R_alloc | apply Kd.R_drewN | apply Kd.R_drew)); exact HO708.out) gb716 (Nat.le_of_eq hg.symm)) hb); have n3_ := Aside0.mk (below_step (by repeat (first | (with_reducible first | exact HB.out | apply below_alloc | apply pw_below_drewN | apply below_drew1) | exact HB.out)) hb); have n4_ := Aside0.mk (hbox); have n5_ := Aside0.mk ((by rw [hg]; exact (below_size (by repeat (first | (with_reducible first | exact HB.out | apply below_alloc | apply pw_below_drewN | apply below_drew1) | exact HB.out))) : w.heap.size ≤ gb716)); have n6_ := Aside0.mk ((by rw [hg]; exact (below_size (by repeat (first | (with_reducible first | exact HB.out | apply below_alloc | apply pw_below_drewN | apply below_drew1) | exact HB.out))) : w.heap.size ≤ gb716)); clear HO_3; clear HO_4; clear HO708; clear HB; have HO_3 := n0_; have HO_4 := n1_; have HO708 := n2_; have HB := n3_; have BK716 := n4_; have GW716 := n5_; have GE716 := n6_; clear n0_ n1_ n2_ n3_ n4_ n5_ n6_; clear hb hbox hg; have hcz10_0 : w9.cell? ⟨gb716, 0, none⟩ = some (.int .i64 0) := (blk_cell BK716.out 0).trans rfl; have hcz10_1 : w9.cell? ⟨gb716, 1, none⟩ = some (.int .i64 0) := (blk_cell BK716.out 1).trans rfl; have hcz10_2 : w9.cell? ⟨gb716, 2, none⟩ = some (.int .i64 0) := (blk_cell BK716.out 2).trans rfl; have hcz10_3 : w9.cell? ⟨gb716, 3, none⟩ = some (.int .i64 0) := (blk_cell BK716.out 3).trans rfl; have hcz10_4 : w9.cell? ⟨gb716, 4, none⟩ = some (.int .i64 0) := (blk_cell BK716.out 4).trans rfl; have hcz10_5 : w9.cell? ⟨gb716, 5, none⟩ = some (.string (⟨#[]⟩ : ByteArray)) := (blk_cell BK716.out 5).trans rfl; have hfz10_0 := blk_frozen BK716.out 0; have hfz10_1 := blk_frozen BK716.out 1; have hfz10_2 := blk_frozen BK716.out 2; have hfz10_3 := blk_frozen BK716.out 3; have hfz10_4 := blk_frozen BK716.out 4; have hfz10_5 := blk_frozen BK716.out 5) | ((with_reducible refine gate_builtin (b := .append) (xs := #[.tmp 20, .tmp 22]) rfl ?_); at_builtin; refine Kd.R_append k24 (w0 := w) w.heap.size rfl (.tmp 20) (.tmp 22) 22 24 (.agg #[(.int .i64 0), (.int .i64 0), (.int .i64 0), (.int .i64 0), (.int .i64 0), (.string ⟨#[]⟩)]) 56 rfl Try.underlying22 info24 rfl (by decide) (by omega) v3 x3_1 (⟨t709, t710, t711, t712, t713, t714⟩ : S24) [.int .i64 t709, .int .i64 t710, .int .i64 t711, .int .i64 t712, .int .i64 t713, .string t714] (fun k_ => some k_ ≠ (.slice Ao7 x4_1.length co7 : Value).ownBlock ∧ some k_ ≠ (v707 : Value).ownBlock ∧ k_ ≠ gb716) (fun _ => False) rfl (by first | (go_simp; done) | (go_simp; rfl)) ?aP (fun _ hk => hk.elim) ?aF ?aO ?aB ?aS ?aL ?_; (case aP => exact k24_mkM _ _ _ (⟨t709, t710, t711, t712, t713, t714⟩ : S24)); (case aB => exact (by repeat (first | (with_reducible first | exact HB.out | apply below_alloc | apply pw_below_drewN | apply below_drew1 | refine below_set ?_ GE716.out) | exact HB.out))); (case aF => exact (fun k_ hk => ⟨Kd.fresh' (Kd.R_lt (by (with_reducible repeat (first | apply Kd.R_alloc | apply Kd.R_drewN | apply Kd.R_drew)); exact (Kd.R_mono (Kd.R_far (p := ⟨gb716, 5, none⟩) (Kd.R_far (p := ⟨gb716, 4, none⟩) (Kd.R_far (p := ⟨gb716, 3, none⟩) (Kd.R_far (p := ⟨gb716, 2, none⟩) (Kd.R_far (p := ⟨gb716, 1, none⟩) (Kd.R_far (p := ⟨gb716, 0, none⟩) (Kd.R_mono HO_4.out (fun k_ hk => (⟨hk, hk.2⟩ : _ ∧ k_ ≠ gb716))) (fun _ hk => hk.2) (.int .i64 t709)) (fun _ hk => hk.2) (.int .i64 t710)) (fun _ hk => hk.2) (.int .i64 t711)) (fun _ hk => hk.2) (.int .i64 t712)) (fun _ hk => hk.2) (.int .i64 t713)) (fun _ hk => hk.2) (.string t714)) (fun _ h_ => h_.1)))) k_ hk, Kd.fresh' (Kd.R_lt (by (with_reducible repeat (first | apply Kd.R_alloc | apply Kd.R_drewN | apply Kd.R_drew)); exact (Kd.R_mono (Kd.R_far (p := ⟨gb716, 5, none⟩) (Kd.R_far (p := ⟨gb716, 4, none⟩) (Kd.R_far (p := ⟨gb716, 3, none⟩) (Kd.R_far (p := ⟨gb716, 2, none⟩) (Kd.R_far (p := ⟨gb716, 1, none⟩) (Kd.R_far (p := ⟨gb716, 0, none⟩) (Kd.R_mono HO708.out (fun k_ hk => (⟨hk, hk.2⟩ : _ ∧ k_ ≠ gb716))) (fun _ hk => hk.2) (.int .i64 t709)) (fun _ hk => hk.2) (.int .i64 t710)) (fun _ hk => hk.2) (.int .i64 t711)) (fun _ hk => hk.2) (.int .i64 t712)) (fun _ hk => hk.2) (.int .i64 t713)) (fun _ hk => hk.2) (.string t714)) (fun _ h_ => h_.1)))) k_ hk, Kd.freshB (g := gb716) (o := .cells #[.int .i64 t709, .int .i64 t710, .int .i64 t711, .int .i64 t712, .int .i64 t713, .string t714] 24 (0, 0)) (by (with_reducible repeat (first | refine blk_drewN ?_ _ | refine blk_drew ?_ | refine blk_alloc ?_ _)); refine blk_put (cs := #[.int .i64 t709, .int .i64 t710, .int .i64 t711, .int .i64 t712, .int .i64 t713, .string (⟨#[]⟩ : ByteArray)]) ?_ 5 _ rfl; (with_reducible repeat (first | refine blk_drewN ?_ _ | refine blk_drew ?_ | refine blk_alloc ?_ _)); refine blk_put (cs := #[.int .i64 t709, .int .i64 t710, .int .i64 t711, .int .i64 t712, .int .i64 0, .string (⟨#[]⟩ : ByteArray)]) ?_ 4 _ rfl; (with_reducible repeat (first | refine blk_drewN ?_ _ | refine blk_drew ?_ | refine blk_alloc ?_ _)); refine blk_put (cs := #[.int .i64 t709, .int .i64 t710, .int .i64 t711, .int .i64 0, .int .i64 0, .string (⟨#[]⟩ : ByteArray)]) ?_ 3 _ rfl; (with_reducible repeat (first | refine blk_drewN ?_ _ | refine blk_drew ?_ | refine blk_alloc ?_ _)); refine blk_put (cs := #[.int .i64 t709, .int .i64 t710, .int .i64 0, .int .i64 0, .int .i64 0, .string (⟨#[]⟩ : ByteArray)]) ?_ 2 _ rfl; (with_reducible repeat (first | refine blk_drewN ?_ _ | refine blk_drew ?_ | refine blk_alloc ?_ _)); refine blk_put (cs := #[.int .i64 t709, .int .i64 0, .int .i64 0, .int .i64 0, .int .i64 0, .string (⟨#[]⟩ : ByteArray)]) ?_ 1 _ rfl; (with_reducible repeat (first | refine blk_drewN ?_ _ | refine blk_drew ?_ | refine blk_alloc ?_ _)); refine blk_put (cs := #[.int .i64 0, .int .i64 0, .int .i64 0, .int .i64 0, .int .i64 0, .string (⟨#[]⟩ : ByteArray)]) ?_ 0 _ rfl; (with_reducible repeat (first | refine blk_drewN ?_ _ | refine blk_drew ?_ | refine blk_alloc ?_ _)); exact BK716.out) k_ hk⟩)); (case aO => exact (by (with_reducible repeat (first | apply Kd.R_alloc | apply Kd.R_drewN | apply Kd.R_drew)); exact Kd.R_mono (Kd.R_far (p := ⟨gb716, 5, none⟩) (Kd.R_far (p := ⟨gb716, 4, none⟩) (Kd.R_far (p := ⟨gb716, 3, none⟩) (Kd.R_far (p := ⟨gb716, 2, none⟩) (Kd.R_far (p := ⟨gb716, 1, none⟩) (Kd.R_far (p := ⟨gb716, 0, none⟩) (Kd.R_mono HO_3.out (fun k_ hk => (⟨hk, hk.2⟩ : _ ∧ k_ ≠ gb716))) (fun _ hk => hk.2) (.int .i64 t709)) (fun _ hk => hk.2) (.int .i64 t710)) (fun _ hk => hk.2) (.int .i64 t711)) (fun _ hk => hk.2) (.int .i64 t712)) (fun _ hk => hk.2) (.int .i64 t713)) (fun _ hk => hk.2) (.string t714)) (fun _ hk => ⟨hk.1.1.1, ⟨hk.1.1.2, hk.1.2⟩⟩))); (case aS => exact (below_size (by repeat (first | (with_reducible first | exact HB.out | apply below_alloc | apply pw_below_drewN | apply below_drew1 | refine below_set ?_ GE716.out) | exact HB.out)))); (case aL => have := LMc6.out; omega); intro v718 w11 ho hb hg hat; rw [← Ny717.out] at ho; have n0_ := Aside0.mk (Kd.R_after (ok := (fun k_ => some k_ ≠ (v707 : Value).ownBlock ∧ k_ ≠ gb716)) (by (with_reducible repeat (first | apply Kd.R_alloc | apply Kd.R_drewN | apply Kd.R_drew)); exact Kd.R_mono (Kd.R_far (p := ⟨gb716, 5, none⟩) (Kd.R_far (p := ⟨gb716, 4, none⟩) (Kd.R_far (p := ⟨gb716, 3, none⟩) (Kd.R_far (p := ⟨gb716, 2, none⟩) (Kd.R_far (p := ⟨gb716, 1, none⟩) (Kd.R_far (p := ⟨gb716, 0, none⟩) (Kd.R_mono HO_4.out (fun k_ hk => (⟨hk, hk.2⟩ : _ ∧ k_ ≠ gb716))) (fun _ hk => hk.2) (.int .i64 t709)) (fun _ hk => hk.2) (.int .i64 t710)) (fun _ hk => hk.2) (.int .i64 t711)) (fun _ hk => hk.2) (.int .i64 t712)) (fun _ hk => hk.2) (.int .i64 t713)) (fun _ hk => hk.2) (.string t714)) (fun _ hk => ⟨⟨hk.1.1.2, hk.1.2⟩, hk.1.1.1⟩)) hg hat); have n1_ := Aside0.mk (Kd.R_after (ok := (fun k_ => some k_ ≠ (.slice Ao7 x4_1.length co7 : Value).ownBlock ∧ k_ ≠ gb716)) (by (with_reducible repeat (first | apply Kd.R_alloc | apply Kd.R_drewN | apply Kd.R_drew)); exact Kd.R_mono (Kd.R_far (p := ⟨gb716, 5, none⟩) (Kd.R_far (p := ⟨gb716, 4, none⟩) (Kd.R_far (p := ⟨gb716, 3, none⟩) (Kd.R_far (p := ⟨gb716, 2, none⟩) (Kd.R_far (p := ⟨gb716, 1, none⟩) (Kd.R_far (p := ⟨gb716, 0, none⟩) (Kd.R_mono HO708.out (fun k_ hk => (⟨hk, hk.2⟩ : _ ∧ k_ ≠ gb716))) (fun _ hk => hk.2) (.int .i64 t709)) (fun _ hk => hk.2) (.int .i64 t710)) (fun _ hk => hk.2) (.int .i64 t711)) (fun _ hk => hk.2) (.int .i64 t712)) (fun _ hk => hk.2) (.int .i64 t713)) (fun _ hk => hk.2) (.string t714)) (fun _ hk => ⟨⟨hk.1.1.2, hk.1.2⟩, hk.1.1.1.2⟩)) hg hat); have n2_ := Aside0.mk (blk_grown (g := gb716) (o := .cells #[.int .i64 t709, .int .i64 t710, .int .i64 t711, .int .i64 t712, .int .i64 t713, .string t714] 24 (0, 0)) (by (with_reducible repeat (first | refine blk_drewN ?_ _ | refine blk_drew ?_ | refine blk_alloc ?_ _)); refine blk_put (cs := #[.int .i64 t709, .int .i64 t710, .int .i64 t711, .int .i64 t712, .int .i64 t713, .string (⟨#[]⟩ : ByteArray)]) ?_ 5 _ rfl; (with_reducible repeat (first | refine blk_drewN ?_ _ | refine blk_drew ?_ | refine blk_alloc ?_ _)); refine blk_put (cs := #[.int .i64 t709, .int .i64 t710, .int .i64 t711, .int .i64 t712, .int .i64 0, .string (⟨#[]⟩ : ByteArray)]) ?_ 4 _ rfl; (with_reducible repeat (first | refine blk_drewN ?_ _ | refine blk_drew ?_ | refine blk_alloc ?_ _)); refine blk_put (cs := #[.int .i64 t709, .int .i64 t710, .int .i64 t711, .int .i64 0, .int .i64 0, .string (⟨#[]⟩ : ByteArray)]) ?_ 3 _ rfl; (with_reducible repeat (first | refine blk_drewN ?_ _ | refine blk_drew ?_ | refine blk_alloc ?_ _)); refine blk_put (cs := #[.int .i64 t709, .int .i64 t710, .int .i64 0, .int .i64 0, .int .i64 0, .string (⟨#[]⟩ : ByteArray)]) ?_ 2 _ rfl; (with_reducible repeat (first | refine blk_drewN ?_ _ | refine blk_drew ?_ | refine blk_alloc ?_ _)); refine blk_put (cs := #[.int .i64 t709, .int .i64 0, .int .i64 0, .int .i64 0, .int .i64 0, .string (⟨#[]⟩ : ByteArray)]) ?_ 1 _ rfl; (with_reducible repeat (first | refine blk_drewN ?_ _ | refine blk_drew ?_ | refine blk_alloc ?_ _)); refine blk_put (cs := #[.int .i64 0, .int .i64 0, .int .i64 0, .int .i64 0, .int .i64 0, .string (⟨#[]⟩ : ByteArray)]) ?_ 0 _ rfl; (with_reducible repeat (first | refine blk_drewN ?_ _ | refine blk_drew ?_ | refine blk_alloc ?_ _)); exact BK716.out) hg (Kd.R_away HO_3.out (fun _ hk => hk.2))); have n3_ := Aside0.mk (hb); have n4_ := Aside0.mk (ho); clear HO_4; clear HO708; clear BK716; clear HB; clear HO_3; have HO_4 := n0_; have HO708 := n1_; have BK716 := n2_; have HB := n3_; have HO719 := n4_; clear n0_ n1_ n2_ n3_ n4_; clear ho hb hg hat))
          go_step3
          refine ⟨rfl, ⟨m, t706, y717, _, _, H'.out, ?g3, ?g4, ?gb, _, _, _, _, _, _, _, _, _, _, _, _, _, _, _, _, _, _, _, _, _, _, rfl⟩, ?gm⟩
          case g3 => exact (by (with_reducible repeat (first | apply Kd.R_alloc | apply Kd.R_drewN | apply Kd.R_drew)); exact Kd.R_mono HO719.out (fun _ hk => hk.2.1))
          case g4 => exact (by (with_reducible repeat (first | apply Kd.R_alloc | apply Kd.R_drewN | apply Kd.R_drew)); exact Kd.R_mono HO708.out (fun _ hk => hk.2))
          case gb => repeat (first | (with_reducible first | exact HB.out | apply below_alloc | apply pw_below_drewN | apply below_drew1 | refine below_set ?_ GE716.out) | exact HB.out)
          case gm => have q := HSH.out (by trivial); obtain ⟨Ao8, co8, eo8⟩ := Kd.R_slice HO708.out; subst eo8; exact q
        · rw [if_neg c6] at H; cases H
  · intro L hL hLr
    have HL := Aside0.mk hL
    have HLr := Aside0.mk hLr
    clear hL hLr
    go_wp2_with (first | (go_at_call 33; (with_reducible refine (heap_Make.calls (l0.length + 2) _ _ l0 h0 _ ?side1 ?side2 HM.out).mono ?_); (case side1 => repeat (first | exact HR0.out | (with_reducible refine Kd.C_alloc ?_ _) | (with_reducible refine Kd.C_drewN ?_ _) | (with_reducible refine Kd.C_drew ?_))); (case side2 => exact HC0.out); rintro e w1 ⟨v4, rfl, ho, hb⟩; have HO1 := Aside0.mk (Kd.R_lower ho (by first | exact Nat.le_refl _ | simp)); have HB1 := Aside0.mk (by first | exact hb | exact below_step (below_drewN (Below.refl _ _) _) hb); clear ho hb))
    go_step3
    rename_i K hK
    refine hK _ _ (HLr.out _ _ (HL.out _ _ ⟨h0.length + 2, h0, [], _, _, HH.out, ?f3, ?f4, ?fb, _, _, _, _, _, _, _, _, _, _, _, _, _, _, _, _, _, _, _, _, _, _, rfl⟩))
    case f3 => exact Kd.R_nil _ _ _ _ _
    case f4 => exact (by (with_reducible repeat (first | apply Kd.R_alloc | apply Kd.R_drewN | apply Kd.R_drew)); exact Kd.R_mono HO1.out (fun _ hk => (by simp [Value.ownBlock])))
    case fb => exact (by repeat (first | (with_reducible first | exact HB1.out | apply below_alloc | apply pw_below_drewN | apply below_drew1) | exact HB1.out))


/-! ### hopperlaw06_tx: function 80 -/
def hopperlaw06_tx.f (a0 : Int) : Option (Int × Int × Int × Int × Int × ByteArray) := some (1, 0, a0, 1000, 1, (⟨#[]⟩ : ByteArray))
set_option maxHeartbeats 8000000 in
set_option maxRecDepth 100000 in
theorem hopperlaw06_tx.calls (a0 : Int) (r1 : Int) (r2 : Int) (r3 : Int) (r4 : Int) (r5 : Int) (r6 : ByteArray) (w : World) (h : hopperlaw06_tx.f a0 = some (r1, r2, r3, r4, r5, r6)) :
    Calls Try.prog 80 #[.int .i64 a0] w fun e w' => e = .returned (.agg #[.int .i64 r1, .int .i64 r2, .int .i64 r3, .int .i64 r4, .int .i64 r5, .string r6]) ∧ Below w.heap.size w w' := by
  have hu24 := Try.underlying24
  have HB := Aside0.mk (Below.refl w.heap.size w)
  have H : (some (1, 0, a0, 1000, 1, (⟨#[]⟩ : ByteArray))) = some (r1, r2, r3, r4, r5, r6) := h
  clear h
  simp only [Option.some.injEq, Prod.mk.injEq] at H
  obtain ⟨rfl, rfl, rfl, rfl, rfl, rfl⟩ := H
  go_enter Try.func80, Try.ntmps80
  go_wp2_with (first | ((with_reducible refine gate_dst (N := 2) rfl ?_); refine box_event ?hg (N := 2) ?hd (cs := #[.int .i64 0, .int .i64 0, .int .i64 0, .int .i64 0, .int .i64 0, .string (⟨#[]⟩ : ByteArray)]) (t := 24) ?hr ?_; (case hd => rfl); (case hg => rfl); (case hr => first | (go_simp; done) | (go_simp; rfl)); intro gb145 hg w2 hbox hb; have n0_ := Aside0.mk (below_step (by repeat (first | (with_reducible first | exact HB.out | apply below_alloc | apply pw_below_drewN | apply below_drew1) | exact HB.out)) hb); have n1_ := Aside0.mk (hbox); have n2_ := Aside0.mk ((by rw [hg]; exact (below_size (by repeat (first | (with_reducible first | exact HB.out | apply below_alloc | apply pw_below_drewN | apply below_drew1) | exact HB.out))) : w.heap.size ≤ gb145)); have n3_ := Aside0.mk ((by rw [hg]; exact (below_size (by repeat (first | (with_reducible first | exact HB.out | apply below_alloc | apply pw_below_drewN | apply below_drew1) | exact HB.out))) : w.heap.size ≤ gb145)); clear HB; have HB := n0_; have BK145 := n1_; have GW145 := n2_; have GE145 := n3_; clear n0_ n1_ n2_ n3_; clear hb hbox hg; have hcz3_0 : w2.cell? ⟨gb145, 0, none⟩ = some (.int .i64 0) := (blk_cell BK145.out 0).trans rfl; have hcz3_1 : w2.cell? ⟨gb145, 1, none⟩ = some (.int .i64 0) := (blk_cell BK145.out 1).trans rfl; have hcz3_2 : w2.cell? ⟨gb145, 2, none⟩ = some (.int .i64 0) := (blk_cell BK145.out 2).trans rfl; have hcz3_3 : w2.cell? ⟨gb145, 3, none⟩ = some (.int .i64 0) := (blk_cell BK145.out 3).trans rfl; have hcz3_4 : w2.cell? ⟨gb145, 4, none⟩ = some (.int .i64 0) := (blk_cell BK145.out 4).trans rfl; have hcz3_5 : w2.cell? ⟨gb145, 5, none⟩ = some (.string (⟨#[]⟩ : ByteArray)) := (blk_cell BK145.out 5).trans rfl; have hfz3_0 := blk_frozen BK145.out 0; have hfz3_1 := blk_frozen BK145.out 1; have hfz3_2 := blk_frozen BK145.out 2; have hfz3_3 := blk_frozen BK145.out 3; have hfz3_4 := blk_frozen BK145.out 4; have hfz3_5 := blk_frozen BK145.out 5))
  refine bodyPost_ret (results_cell_row rfl _ _ gb145 24 #[.int .i64 1, .int .i64 0, .int .i64 a0, .int .i64 1000, .int .i64 1, .string (⟨#[]⟩ : ByteArray)] (0, 0) _ rfl (by (with_reducible repeat (first | refine blk_drewN ?_ _ | refine blk_drew ?_ | refine blk_alloc ?_ _)); refine blk_put (cs := #[.int .i64 1, .int .i64 0, .int .i64 a0, .int .i64 1000, .int .i64 1, .string (⟨#[]⟩ : ByteArray)]) ?_ 5 _ rfl; (with_reducible repeat (first | refine blk_drewN ?_ _ | refine blk_drew ?_ | refine blk_alloc ?_ _)); refine blk_put (cs := #[.int .i64 1, .int .i64 0, .int .i64 a0, .int .i64 1000, .int .i64 0, .string (⟨#[]⟩ : ByteArray)]) ?_ 4 _ rfl; (with_reducible repeat (first | refine blk_drewN ?_ _ | refine blk_drew ?_ | refine blk_alloc ?_ _)); refine blk_put (cs := #[.int .i64 1, .int .i64 0, .int .i64 a0, .int .i64 0, .int .i64 0, .string (⟨#[]⟩ : ByteArray)]) ?_ 3 _ rfl; (with_reducible repeat (first | refine blk_drewN ?_ _ | refine blk_drew ?_ | refine blk_alloc ?_ _)); refine blk_put (cs := #[.int .i64 1, .int .i64 0, .int .i64 0, .int .i64 0, .int .i64 0, .string (⟨#[]⟩ : ByteArray)]) ?_ 2 _ rfl; (with_reducible repeat (first | refine blk_drewN ?_ _ | refine blk_drew ?_ | refine blk_alloc ?_ _)); refine blk_put (cs := #[.int .i64 1, .int .i64 0, .int .i64 0, .int .i64 0, .int .i64 0, .string (⟨#[]⟩ : ByteArray)]) ?_ 1 _ rfl; (with_reducible repeat (first | refine blk_drewN ?_ _ | refine blk_drew ?_ | refine blk_alloc ?_ _)); refine blk_put (cs := #[.int .i64 0, .int .i64 0, .int .i64 0, .int .i64 0, .int .i64 0, .string (⟨#[]⟩ : ByteArray)]) ?_ 0 _ rfl; (with_reducible repeat (first | refine blk_drewN ?_ _ | refine blk_drew ?_ | refine blk_alloc ?_ _)); exact BK145.out) Try.underlying24 rfl (by kernel_rfl)) rfl ?_
  exact ⟨by first | rfl | (simp [errW_none, errW_some] <;> rfl) | (simp [*, errW_none, errW_some] <;> rfl), by repeat (first | (with_reducible first | exact HB.out | apply below_alloc | apply pw_below_drewN | apply below_drew1 | refine below_set ?_ GE145.out) | exact HB.out)⟩

end Go.Proofs.Ytehncbhmdgdkjaa.L
