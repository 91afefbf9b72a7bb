/- Written by this session's own program over the kit's print: functions of Go told as plain functions, or the row of one statement; proved for every input, with no condition of ours. -/
import Derived.Test.YtahopljippfadaaDx0
namespace Go.Proofs.Ytahopljippfadaa.D
open Go.RowKit Go.Proofs.YtahopljippfadaaW.PrintWords Go.Proofs.YtahopljippfadaaW.PrintLast Go.Proofs.YtahopljippfadaaW.PrintMore
attribute [local go_sem] max2_int min2_int max_two min_two max_three min_three max_four min_four   -- for this text's walks alone
set_option linter.unusedVariables false
set_option linter.unusedSimpArgs false

/-! ### hopperref04_Small: function 23 -/
def hopperref04_Small.f (a0_0 : Int) (a0_1 : Int) (a0_2 : Int) (a0_3 : Int) (a0_4 : Int) (a0_5 : ByteArray) : Option (Bool) := some (decide ((a0_5.size : Int) ≤ 500))
set_option maxHeartbeats 8000000 in
set_option maxRecDepth 100000 in
theorem hopperref04_Small.calls (a0_0 : Int) (a0_1 : Int) (a0_2 : Int) (a0_3 : Int) (a0_4 : Int) (a0_5 : ByteArray) (r : Bool) (w : World) (h : hopperref04_Small.f a0_0 a0_1 a0_2 a0_3 a0_4 a0_5 = some r) :
    Calls Try.prog 23 #[.agg #[.int .i64 a0_0, .int .i64 a0_1, .int .i64 a0_2, .int .i64 a0_3, .int .i64 a0_4, .string a0_5]] w fun e w' => e = .returned (.bool r) ∧ Below w.heap.size w w' := by
  have hu38 := Try.underlying38
  have HB := Aside0.mk (Below.refl w.heap.size w)
  have H : (some (decide ((a0_5.size : Int) ≤ 500))) = some r := h
  clear h
  obtain rfl := Option.some.inj H
  go_enter Try.func23, Try.ntmps23
  go_wp2_with (first | ((with_reducible refine gate_dst (N := 1) rfl ?_); refine box_event ?hg (N := 1) ?hd (cs := #[.int .i64 a0_0, .int .i64 a0_1, .int .i64 a0_2, .int .i64 a0_3, .int .i64 a0_4, .string a0_5]) (t := 38) ?hr ?_; (case hd => rfl); (case hg => rfl); (case hr => first | (go_simp; done) | (go_simp; rfl)); intro gb101 hg w2 hbox hb; have n0_ := Aside0.mk (below_step (by repeat (first | (with_reducible first | exact HB.out | apply below_alloc | apply pw_below_drewN | apply below_drew1) | exact HB.out)) hb); have n1_ := Aside0.mk (hbox); have n2_ := Aside0.mk ((by rw [hg]; exact (below_size (by repeat (first | (with_reducible first | exact HB.out | apply below_alloc | apply pw_below_drewN | apply below_drew1) | exact HB.out))) : w.heap.size ≤ gb101)); have n3_ := Aside0.mk ((by rw [hg]; exact (below_size (by repeat (first | (with_reducible first | exact HB.out | apply below_alloc | apply pw_below_drewN | apply below_drew1) | exact HB.out))) : w.heap.size ≤ gb101)); clear HB; have HB := n0_; have BK101 := n1_; have GW101 := n2_; have GE101 := n3_; clear n0_ n1_ n2_ n3_; clear hb hbox hg; have hcz3_0 : w2.cell? ⟨gb101, 0, none⟩ = some (.int .i64 a0_0) := (blk_cell BK101.out 0).trans rfl; have hcz3_1 : w2.cell? ⟨gb101, 1, none⟩ = some (.int .i64 a0_1) := (blk_cell BK101.out 1).trans rfl; have hcz3_2 : w2.cell? ⟨gb101, 2, none⟩ = some (.int .i64 a0_2) := (blk_cell BK101.out 2).trans rfl; have hcz3_3 : w2.cell? ⟨gb101, 3, none⟩ = some (.int .i64 a0_3) := (blk_cell BK101.out 3).trans rfl; have hcz3_4 : w2.cell? ⟨gb101, 4, none⟩ = some (.int .i64 a0_4) := (blk_cell BK101.out 4).trans rfl; have hcz3_5 : w2.cell? ⟨gb101, 5, none⟩ = some (.string a0_5) := (blk_cell BK101.out 5).trans rfl; have hfz3_0 := blk_frozen BK101.out 0; have hfz3_1 := blk_frozen BK101.out 1; have hfz3_2 := blk_frozen BK101.out 2; have hfz3_3 := blk_frozen BK101.out 3; have hfz3_4 := blk_frozen BK101.out 4; have hfz3_5 := blk_frozen BK101.out 5))
  go_ret
  exact ⟨by first | rfl | (simp [errW_none, errW_some] <;> rfl) | (simp [*, errW_none, errW_some] <;> rfl), by repeat (first | (with_reducible first | exact HB.out | apply below_alloc | apply pw_below_drewN | apply below_drew1 | refine below_set ?_ GE101.out) | exact HB.out)⟩

/-! ### hopperref04_Few: function 9 -/
def hopperref04_Few.l0 : Nat → List (S38) → Int → Int → Option (Bool)
 | 0, _, _, _ => none
 | k + 1, x0, x1, x5 => if x5 < (x0.length : Int) then (if 0 ≤ x5 then ((hopperref04_Small.f ((rd_T38 x0 x5).f0) ((rd_T38 x0 x5).f1) ((rd_T38 x0 x5).f2) ((rd_T38 x0 x5).f3) ((rd_T38 x0 x5).f4) ((rd_T38 x0 x5).f5)).bind fun t103 => (if t103 = true then (hopperref04_Few.l0 k x0 x1 (wrap64 (x5 + 1))) else (some false))) else (none)) else (some (decide ((x0.length : Int) ≤ x1)))
def hopperref04_Few.f (k : Nat) (l0 : List (S38)) (a1 : Int) : Option (Bool) := hopperref04_Few.l0 k l0 a1 0
theorem hopperref04_Few.mono_l : ∀ k, (∀ y0 y1 y2, LeO (hopperref04_Few.l0 k y0 y1 y2) (hopperref04_Few.l0 (k + 1) y0 y1 y2))
 | 0 => fun _ _ _ r h => by simp [hopperref04_Few.l0] at h
 | k + 1 => by
  have ih0 := hopperref04_Few.mono_l k
  · intro y0 y1 y2
    unfold hopperref04_Few.l0
    repeat' first
    | (with_reducible exact ih0 _ _ _)
    | (with_reducible exact LeO.refl _)
    | (with_reducible exact LeO.none _)
    | (with_reducible refine LeO.ite ?_ ?_)
    | (with_reducible refine LeO.bind ?_ (fun _ => ?_))
    | exact ih0 _ _ _
    | exact LeO.none _
    | refine LeO.ite ?_ ?_
    | refine LeO.bind ?_ (fun _ => ?_)
theorem hopperref04_Few.mono : ∀ a0 a1 k, LeO (hopperref04_Few.f k a0 a1) (hopperref04_Few.f (k + 1) a0 a1) := by
 intro a0 a1 k
 have ih0 := hopperref04_Few.mono_l k
 unfold hopperref04_Few.f
 repeat' first
  | (with_reducible exact ih0 _ _ _)
  | (with_reducible exact LeO.refl _)
  | (with_reducible exact LeO.none _)
  | (with_reducible refine LeO.ite ?_ ?_)
  | (with_reducible refine LeO.bind ?_ (fun _ => ?_))
  | exact ih0 _ _ _
  | exact LeO.none _
  | refine LeO.ite ?_ ?_
  | refine LeO.bind ?_ (fun _ => ?_)
set_option maxHeartbeats 8000000 in
set_option maxRecDepth 100000 in
theorem hopperref04_Few.calls (k : Nat) (A0 : Option Addr) (c0 : Nat) (l0 : List (S38)) (a1 : Int) (r : Bool) (w : World) (hr0 : Kd.C k38 w A0 l0.length l0) (hc0 : l0.length ≤ c0) (h : hopperref04_Few.f k l0 a1 = some r) :
 Calls Try.prog 9 #[.slice A0 l0.length c0, .int .i64 a1] w fun e w' => e = .returned (.bool r) ∧ Below w.heap.size w w' := by
 have hu38 := Try.underlying38
 have HR0 := A_ hr0
 have HC0 := A_ hc0
 clear hr0 hc0; have HB := A_ (Below.refl w.heap.size w)
 have H : (hopperref04_Few.l0 k l0 a1 0) = some r := h
 clear h
 have H' := A_ H
 clear H
 go_enter Try.func9, Try.ntmps9
 go_wp2
 go_loopg [5] k (fun kq v5 w' => ∃ (x5_1 : Int), v5 = .int .i64 x5_1 ∧ Aside0 (hopperref04_Few.l0 kq l0 a1 x5_1 = some r) ∧ Aside0 (kq ≤ k) ∧ Aside0 (Below w.heap.size w w'))
 case atStart => exact ⟨(0), (by first | rfl | (simp; done) | (simp [*]; done)), H', ⟨Nat.le_refl _⟩, ⟨by repeat (first | (with_reducible first | exact HB.out | apply wa_ | apply wn_ | apply wd_) | exact HB.out)⟩⟩
 case round =>
  clear H'; (try clear p2)
  obtain ⟨x5_1, rfl, HA, HK1, HB⟩ := hrel
  cases gk with
  | zero => exact absurd HA.out (by simp [hopperref04_Few.l0])
  | succ k1 =>
   have H := HA.out
   clear HA
   simp only [hopperref04_Few.l0] at H
   by_cases c3 : x5_1 < (l0.length : Int)
   rotate_left
   · rw [if_neg c3] at H
     have c3b0 : decide (x5_1 < (l0.length : Int)) = false := decide_eq_false c3
     clear c3
     obtain rfl := Option.some.inj H
     go_wp2
     go_ret
     exact ⟨by first | rfl | (simp [errW_none, errW_some] <;> rfl) | (simp [*, errW_none, errW_some] <;> rfl), by repeat (first | (with_reducible first | exact HB.out | apply wa_ | apply wn_ | apply wd_) | exact HB.out)⟩

   rw [if_pos c3] at H
   have c3b0 : decide (x5_1 < (l0.length : Int)) = true := decide_eq_true c3
   clear c3
   by_cases c4 : 0 ≤ x5_1
   rotate_left
   · rw [if_neg c4] at H
     exact absurd H (by simp)
   rw [if_pos c4] at H
   have c4b0 : decide (0 ≤ x5_1) = true := decide_eq_true c4
   clear c4
   replace H := Option.bind_eq_some_iff.mp H
   obtain ⟨t103, A50, H⟩ := H
   try dsimp only at H
   have A5 := A_ A50
   clear A50
   by_cases c6 : t103 = true
   · subst c6
     have H1 : (hopperref04_Few.l0 k1 l0 a1 (wrap64 (x5_1 + 1))) = some r := by rw [if_pos rfl] at H; exact H
     clear H
     have H := H1
     clear H1
     have H' := A_ H
     clear H
     have p102 : 0 ≤ (x5_1 : Int) := of_decide_eq_true (by first | (with_reducible assumption) | assumption)
     have q102 : x5_1 < (l0.length : Int) := of_decide_eq_true (by first | (with_reducible assumption) | assumption)
     obtain ⟨ad102, e102, hx102_0, hx102_1, hx102_2, hx102_3, hx102_4, hx102_5⟩ := at_T38 HR0.out x5_1 p102 q102
     cases e102
     replace hx102_0 := on_ HB.out hx102_0
     replace hx102_1 := on_ HB.out hx102_1
     replace hx102_2 := on_ HB.out hx102_2
     replace hx102_3 := on_ HB.out hx102_3
     replace hx102_4 := on_ HB.out hx102_4
     replace hx102_5 := on_ HB.out hx102_5
     replace p102 := eq_true p102
     replace q102 := eq_true q102
     go_wp2_with (first | ((with_reducible refine gate_callee (f := 23) rfl ?_); refine goesL_ (some 16) rfl rfl Try.func23 (by kernel_rfl) rfl #[.agg #[.int .i64 ((rd_T38 l0 x5_1).f0), .int .i64 ((rd_T38 l0 x5_1).f1), .int .i64 ((rd_T38 l0 x5_1).f2), .int .i64 ((rd_T38 l0 x5_1).f3), .int .i64 ((rd_T38 l0 x5_1).f4), .string ((rd_T38 l0 x5_1).f5)]] rfl (by (try simp only [m0_, m1_, m2_]); first | done | rfl) ?_; (with_reducible refine (hopperref04_Small.calls ((rd_T38 l0 x5_1).f0) ((rd_T38 l0 x5_1).f1) ((rd_T38 l0 x5_1).f2) ((rd_T38 l0 x5_1).f3) ((rd_T38 l0 x5_1).f4) ((rd_T38 l0 x5_1).f5) true _ A5.out).mono ?_); rintro e w7 ⟨rfl, hb⟩; refine ⟨_, rfl, ?_⟩; replace HB := A_ (below_step bw_ hb); (try clear hb); (try clear hb2); (try clear hk); (try clear hi)))
     go_roundg k1
     case measure => have := HK1.out; omega
     case rel => exact ⟨(wrap64 (x5_1 + 1)), (by first | rfl | (simp; done) | (simp [*]; done)), H', ⟨by have := HK1.out; omega⟩, ⟨by repeat (first | (with_reducible first | exact HB.out | apply wa_ | apply wn_ | apply wd_) | exact HB.out)⟩⟩
   · replace c6 := Bool.eq_false_iff.mpr c6
     subst c6
     have H1 : (some false) = some r := by rw [if_neg (show ¬ (false = true) by decide)] at H; exact H
     clear H
     have H := H1
     clear H1
     obtain rfl := Option.some.inj H
     have p102 : 0 ≤ (x5_1 : Int) := of_decide_eq_true (by first | (with_reducible assumption) | assumption)
     have q102 : x5_1 < (l0.length : Int) := of_decide_eq_true (by first | (with_reducible assumption) | assumption)
     obtain ⟨ad102, e102, hx102_0, hx102_1, hx102_2, hx102_3, hx102_4, hx102_5⟩ := at_T38 HR0.out x5_1 p102 q102
     cases e102
     replace hx102_0 := on_ HB.out hx102_0
     replace hx102_1 := on_ HB.out hx102_1
     replace hx102_2 := on_ HB.out hx102_2
     replace hx102_3 := on_ HB.out hx102_3
     replace hx102_4 := on_ HB.out hx102_4
     replace hx102_5 := on_ HB.out hx102_5
     replace p102 := eq_true p102
     replace q102 := eq_true q102
     go_wp2_with (first | ((with_reducible refine gate_callee (f := 23) rfl ?_); refine goesL_ (some 16) rfl rfl Try.func23 (by kernel_rfl) rfl #[.agg #[.int .i64 ((rd_T38 l0 x5_1).f0), .int .i64 ((rd_T38 l0 x5_1).f1), .int .i64 ((rd_T38 l0 x5_1).f2), .int .i64 ((rd_T38 l0 x5_1).f3), .int .i64 ((rd_T38 l0 x5_1).f4), .string ((rd_T38 l0 x5_1).f5)]] rfl (by (try simp only [m0_, m1_, m2_]); first | done | rfl) ?_; (with_reducible refine (hopperref04_Small.calls ((rd_T38 l0 x5_1).f0) ((rd_T38 l0 x5_1).f1) ((rd_T38 l0 x5_1).f2) ((rd_T38 l0 x5_1).f3) ((rd_T38 l0 x5_1).f4) ((rd_T38 l0 x5_1).f5) false _ A5.out).mono ?_); rintro e w8 ⟨rfl, hb⟩; refine ⟨_, rfl, ?_⟩; replace HB := A_ (below_step bw_ hb); (try clear hb); (try clear hb2); (try clear hk); (try clear hi)))
     go_ret
     exact ⟨by first | rfl | (simp [errW_none, errW_some] <;> rfl) | (simp [*, errW_none, errW_some] <;> rfl), by repeat (first | (with_reducible first | exact HB.out | apply wa_ | apply wn_ | apply wd_) | exact HB.out)⟩
/-! ### hopperref11_Few: function 8 -/
def hopperref11_Few.l0 : Nat → List (S35) → Int → Int → Option (Bool)
 | 0, _, _, _ => none
 | k + 1, x0, x1, x5 => if x5 < (x0.length : Int) then (if 0 ≤ x5 then ((hopperref04_Few.f k ((rd_T35 x0 x5).f2) 20).bind fun t105 => (if t105 = true then (hopperref11_Few.l0 k x0 x1 (wrap64 (x5 + 1))) else (some false))) else (none)) else (some (decide ((x0.length : Int) ≤ x1)))
def hopperref11_Few.f (k : Nat) (l0 : List (S35)) (a1 : Int) : Option (Bool) := hopperref11_Few.l0 k l0 a1 0
theorem hopperref11_Few.mono_l : ∀ k, (∀ y0 y1 y2, LeO (hopperref11_Few.l0 k y0 y1 y2) (hopperref11_Few.l0 (k + 1) y0 y1 y2))
 | 0 => fun _ _ _ r h => by simp [hopperref11_Few.l0] at h
 | k + 1 => by
  have ih0 := hopperref11_Few.mono_l k
  · intro y0 y1 y2
    unfold hopperref11_Few.l0
    repeat' first
    | (with_reducible exact ih0 _ _ _)
    | (with_reducible exact hopperref04_Few.mono _ _ _)
    | (with_reducible exact LeO.refl _)
    | (with_reducible exact LeO.none _)
    | (with_reducible refine LeO.ite ?_ ?_)
    | (with_reducible refine LeO.bind ?_ (fun _ => ?_))
    | exact ih0 _ _ _
    | exact hopperref04_Few.mono _ _ _
    | exact LeO.none _
    | refine LeO.ite ?_ ?_
    | refine LeO.bind ?_ (fun _ => ?_)
theorem hopperref11_Few.mono : ∀ a0 a1 k, LeO (hopperref11_Few.f k a0 a1) (hopperref11_Few.f (k + 1) a0 a1) := by
 intro a0 a1 k
 have ih0 := hopperref11_Few.mono_l k
 unfold hopperref11_Few.f
 repeat' first
  | (with_reducible exact ih0 _ _ _)
  | (with_reducible exact hopperref04_Few.mono _ _ _)
  | (with_reducible exact LeO.refl _)
  | (with_reducible exact LeO.none _)
  | (with_reducible refine LeO.ite ?_ ?_)
  | (with_reducible refine LeO.bind ?_ (fun _ => ?_))
  | exact ih0 _ _ _
  | exact hopperref04_Few.mono _ _ _
  | exact LeO.none _
  | refine LeO.ite ?_ ?_
  | refine LeO.bind ?_ (fun _ => ?_)
set_option maxHeartbeats 8000000 in
set_option maxRecDepth 100000 in
theorem hopperref11_Few.calls (k : Nat) (A0 : Option Addr) (c0 : Nat) (l0 : List (S35)) (a1 : Int) (r : Bool) (w : World) (hr0 : Kd.C k35 w A0 l0.length l0) (hc0 : l0.length ≤ c0) (h : hopperref11_Few.f k l0 a1 = some r) :
 Calls Try.prog 8 #[.slice A0 l0.length c0, .int .i64 a1] w fun e w' => e = .returned (.bool r) ∧ Below w.heap.size w w' := by
 have HR0 := A_ hr0
 have HC0 := A_ hc0
 clear hr0 hc0; have HB := A_ (Below.refl w.heap.size w)
 have H : (hopperref11_Few.l0 k l0 a1 0) = some r := h
 clear h
 have H' := A_ H
 clear H
 go_enter Try.func8, Try.ntmps8
 go_wp2
 go_loopg [5] k (fun kq v5 w' => ∃ (x5_1 : Int), v5 = .int .i64 x5_1 ∧ Aside0 (hopperref11_Few.l0 kq l0 a1 x5_1 = some r) ∧ Aside0 (kq ≤ k) ∧ Aside0 (Below w.heap.size w w'))
 case atStart => exact ⟨(0), (by first | rfl | (simp; done) | (simp [*]; done)), H', ⟨Nat.le_refl _⟩, ⟨by repeat (first | (with_reducible first | exact HB.out | apply wa_ | apply wn_ | apply wd_) | exact HB.out)⟩⟩
 case round =>
  clear H'; (try clear p2)
  obtain ⟨x5_1, rfl, HA, HK1, HB⟩ := hrel
  cases gk with
  | zero => exact absurd HA.out (by simp [hopperref11_Few.l0])
  | succ k1 =>
   have H := HA.out
   clear HA
   simp only [hopperref11_Few.l0] at H
   by_cases c3 : x5_1 < (l0.length : Int)
   rotate_left
   · rw [if_neg c3] at H
     have c3b0 : decide (x5_1 < (l0.length : Int)) = false := decide_eq_false c3
     clear c3
     obtain rfl := Option.some.inj H
     go_wp2
     go_ret
     exact ⟨by first | rfl | (simp [errW_none, errW_some] <;> rfl) | (simp [*, errW_none, errW_some] <;> rfl), by repeat (first | (with_reducible first | exact HB.out | apply wa_ | apply wn_ | apply wd_) | exact HB.out)⟩

   rw [if_pos c3] at H
   have c3b0 : decide (x5_1 < (l0.length : Int)) = true := decide_eq_true c3
   clear c3
   by_cases c4 : 0 ≤ x5_1
   rotate_left
   · rw [if_neg c4] at H
     exact absurd H (by simp)
   rw [if_pos c4] at H
   have c4b0 : decide (0 ≤ x5_1) = true := decide_eq_true c4
   clear c4
   replace H := Option.bind_eq_some_iff.mp H
   obtain ⟨t105, A50, H⟩ := H
   try dsimp only at H
   have A5 := A_ A50
   clear A50
   by_cases c6 : t105 = true
   · subst c6
     have H1 : (hopperref11_Few.l0 k1 l0 a1 (wrap64 (x5_1 + 1))) = some r := by rw [if_pos rfl] at H; exact H
     clear H
     have H := H1
     clear H1
     have H' := A_ H
     clear H
     have p104 : 0 ≤ (x5_1 : Int) := of_decide_eq_true (by first | (with_reducible assumption) | assumption)
     have q104 : x5_1 < (l0.length : Int) := of_decide_eq_true (by first | (with_reducible assumption) | assumption)
     obtain ⟨ad104, A104_2, c104_2, e104, hx104_0, hx104_1, hx104_2, hl104_2, hi104_2⟩ := at_T35 HR0.out x5_1 p104 q104
     cases e104
     replace hx104_0 := on_ HB.out hx104_0
     replace hx104_1 := on_ HB.out hx104_1
     replace hx104_2 := on_ HB.out hx104_2
     have HR104_2 := A_ hi104_2
     have HC104_2 := A_ hl104_2
     clear hi104_2 hl104_2
     replace p104 := eq_true p104
     replace q104 := eq_true q104
     go_wp2_with (first | ((with_reducible refine gate_callee (f := 9) rfl ?_); refine goesL_ (some 17) rfl rfl Try.func9 (by kernel_rfl) rfl #[.slice A104_2 ((rd_T35 l0 x5_1).f2).length c104_2, .int .i64 20] rfl (by (try simp only [m0_, m1_, m2_]); first | done | rfl) ?_; (with_reducible refine (hopperref04_Few.calls k1 _ _ ((rd_T35 l0 x5_1).f2) 20 true _ ?side1 ?side2 A5.out).mono ?_); (case side1 => repeat (first | exact (Kd.C_below HR104_2.out HB.out) | (with_reducible refine ca_ ?_ _) | (with_reducible refine cn_ ?_ _) | (with_reducible refine cd_ ?_))); (case side2 => exact HC104_2.out); rintro e w7 ⟨rfl, hb⟩; refine ⟨_, rfl, ?_⟩; replace HB := A_ (below_step bw_ hb); (try clear hb); (try clear hb2); (try clear hk); (try clear hi)))
     go_roundg k1
     case measure => have := HK1.out; omega
     case rel => exact ⟨(wrap64 (x5_1 + 1)), (by first | rfl | (simp; done) | (simp [*]; done)), H', ⟨by have := HK1.out; omega⟩, ⟨by repeat (first | (with_reducible first | exact HB.out | apply wa_ | apply wn_ | apply wd_) | exact HB.out)⟩⟩
   · replace c6 := Bool.eq_false_iff.mpr c6
     subst c6
     have H1 : (some false) = some r := by rw [if_neg (show ¬ (false = true) by decide)] at H; exact H
     clear H
     have H := H1
     clear H1
     obtain rfl := Option.some.inj H
     have p104 : 0 ≤ (x5_1 : Int) := of_decide_eq_true (by first | (with_reducible assumption) | assumption)
     have q104 : x5_1 < (l0.length : Int) := of_decide_eq_true (by first | (with_reducible assumption) | assumption)
     obtain ⟨ad104, A104_2, c104_2, e104, hx104_0, hx104_1, hx104_2, hl104_2, hi104_2⟩ := at_T35 HR0.out x5_1 p104 q104
     cases e104
     replace hx104_0 := on_ HB.out hx104_0
     replace hx104_1 := on_ HB.out hx104_1
     replace hx104_2 := on_ HB.out hx104_2
     have HR104_2 := A_ hi104_2
     have HC104_2 := A_ hl104_2
     clear hi104_2 hl104_2
     replace p104 := eq_true p104
     replace q104 := eq_true q104
     go_wp2_with (first | ((with_reducible refine gate_callee (f := 9) rfl ?_); refine goesL_ (some 17) rfl rfl Try.func9 (by kernel_rfl) rfl #[.slice A104_2 ((rd_T35 l0 x5_1).f2).length c104_2, .int .i64 20] rfl (by (try simp only [m0_, m1_, m2_]); first | done | rfl) ?_; (with_reducible refine (hopperref04_Few.calls k1 _ _ ((rd_T35 l0 x5_1).f2) 20 false _ ?side1 ?side2 A5.out).mono ?_); (case side1 => repeat (first | exact (Kd.C_below HR104_2.out HB.out) | (with_reducible refine ca_ ?_ _) | (with_reducible refine cn_ ?_ _) | (with_reducible refine cd_ ?_))); (case side2 => exact HC104_2.out); rintro e w8 ⟨rfl, hb⟩; refine ⟨_, rfl, ?_⟩; replace HB := A_ (below_step bw_ hb); (try clear hb); (try clear hb2); (try clear hk); (try clear hi)))
     go_ret
     exact ⟨by first | rfl | (simp [errW_none, errW_some] <;> rfl) | (simp [*, errW_none, errW_some] <;> rfl), by repeat (first | (with_reducible first | exact HB.out | apply wa_ | apply wn_ | apply wd_) | exact HB.out)⟩
/-! ### sat_pair: function 38, by hand -/
-- HAND rounds=0 making=1 opaque
-- IMPORT Derived.Test.YtahopljippfadaaFlt
-- IMPORT Derived.Laws.ComplexArith
theorem sat_pair.calls (a b : Int) (w : World) :
    Calls Try.prog 38 #[.agg #[.int .i64 a, .int .i64 b]] w fun e w' => e = .returned (.complex .f64 (floatOfInt .f64 a) (floatOfInt .f64 b)) ∧ Below w.heap.size w w' := by
  have hu := Try.underlying45
  go_enter Try.func38, Try.ntmps38
  go_wp2
  go_ret
  exact ⟨rfl, below_alloc (Below.refl _ _) _⟩


/-! ### sat_Totals: function 25, by hand -/
-- HAND rounds=0 making=1
def pairOk (x : S45) : Prop := 0 ≤ x.f0 ∧ x.f0 ≤ 1099511627776 ∧ 0 ≤ x.f1 ∧ x.f1 ≤ 1099511627776
instance (x : S45) : Decidable (pairOk x) := by unfold pairOk; infer_instance
def sum0 (l : List S45) : Int := (l.map (·.f0)).sum
def sum1 (l : List S45) : Int := (l.map (·.f1)).sum
def totF (l : List S45) : Int × Int × Bool := if 1000 < l.length then (0, 0, false) else if ∀ x ∈ l, pairOk x then (sum0 l, sum1 l, true) else (0, 0, false)
theorem take_snoc2 (l : List S45) (k : Nat) (h : k < l.length) : l.take (k + 1) = l.take k ++ [rd_T45 l k] := by
  rw [List.take_succ_eq_append_getElem h]
  congr 2
  unfold rd_T45
  simp [List.getD, List.getElem?_eq_getElem h]
theorem sum0_snoc (l : List S45) (x : S45) : sum0 (l ++ [x]) = sum0 l + x.f0 := by simp [sum0]
theorem sum1_snoc (l : List S45) (x : S45) : sum1 (l ++ [x]) = sum1 l + x.f1 := by simp [sum1]
theorem sums_range (l : List S45) (h : ∀ x ∈ l, pairOk x) : 0 ≤ sum0 l ∧ sum0 l ≤ 1099511627776 * l.length ∧ 0 ≤ sum1 l ∧ sum1 l ≤ 1099511627776 * l.length := by
  induction l with
  | nil => simp [sum0, sum1]
  | cons x l ih =>
    obtain ⟨a, b, c, d⟩ := ih (fun y hy => h y (List.mem_cons_of_mem _ hy))
    obtain ⟨e, f, g, i⟩ := h x (List.mem_cons_self ..)
    simp only [sum0, sum1, List.map_cons, List.sum_cons, List.length_cons] at *
    omega
theorem totF_bad (l : List S45) (x : S45) (hx : x ∈ l) (hn : ¬ pairOk x) : totF l = (0, 0, false) := by
  unfold totF
  split
  · rfl
  · rw [if_neg (fun h => hn (h x hx))]
theorem totF_good (l : List S45) (hl : l.length ≤ 1000) (h : ∀ x ∈ l, pairOk x) : totF l = (sum0 l, sum1 l, true) := by
  unfold totF
  rw [if_neg (by omega), if_pos h]
theorem rd_mem (l : List S45) (k : Nat) (h : k < l.length) : rd_T45 l (k : Int) ∈ l := by
  unfold rd_T45
  simp [List.getD, List.getElem?_eq_getElem h]
theorem csum (P : Program) (t : TypeId) (a b c d : Int) (ha : 0 ≤ a) (hb : 0 ≤ b) (hc : 0 ≤ c) (hd : 0 ≤ d) (h1 : a + c < 9007199254740992) (h2 : b + d < 9007199254740992) (w : World) :
    (binOp .add t (.complex .f64 (floatOfInt .f64 a) (floatOfInt .f64 b)) (.complex .f64 (floatOfInt .f64 c) (floatOfInt .f64 d))).run P w = .ok (.complex .f64 (floatOfInt .f64 (a + c)) (floatOfInt .f64 (b + d))) w :=
  run_complex_sum w .add (.inl rfl) t .f64 _ _ _ _ _ _ (by unfold cSumBits; rw [Flt.add_int a c ha hc h1, Flt.add_int b d hb hd h2]; rfl)
def sat_Totals.f (l0 : List S45) : Option (Int × Int × Bool) := some (totF l0)
set_option maxHeartbeats 2000000 in
set_option maxRecDepth 100000 in
theorem sat_Totals.calls (A0 : Option Addr) (c0 : Nat) (l0 : List S45) (r1 r2 : Int) (r3 : Bool) (w : World) (hr0 : Kd.C k45 w A0 l0.length l0) (hc0 : l0.length ≤ c0) (h : sat_Totals.f l0 = some (r1, r2, r3)) :
    Calls Try.prog 25 #[.slice A0 l0.length c0] w fun e w' => e = .returned (.tuple #[.agg #[.int .i64 r1, .int .i64 r2], .bool r3]) ∧ Below w.heap.size w w' := by
  have hu := Try.underlying45
  have HR := Aside0.mk hr0
  have HT := Aside0.mk (Option.some.inj h)
  have HW := Aside0.mk (below_alloc (Below.refl w.heap.size w) (.cells #[.int .i64 0, .int .i64 0] 45 (0, 0)))
  clear hr0 h
  by_cases hbig : 1000 < l0.length
  · have e : totF l0 = (0, 0, false) := by unfold totF; rw [if_pos hbig]
    have HE := Aside0.mk (HT.out.symm.trans e)
    clear e
    go_enter Try.func25, Try.ntmps25
    go_wp2
    refine bodyPost_ret (results_ct rfl _ _ w.heap.size 45 #[.int .i64 0, .int .i64 0] (0, 0) _ rfl (heap_alloc_new w _) Try.underlying45 rfl (by kernel_rfl)) rfl ?_
    obtain ⟨rfl, rfl, rfl⟩ : r1 = 0 ∧ r2 = 0 ∧ r3 = false := by have := HE.out; simpa using this
    exact ⟨rfl, HW.out⟩
  · have hlen : l0.length ≤ 1000 := by omega
    clear hbig
    go_enter Try.func25, Try.ntmps25
    go_wp2
    go_loopw [4, 15] (fun v4 v15 wr => ∃ k : Nat, k ≤ l0.length ∧ v15 = .int .i64 (k : Int) ∧ v4 = .complex .f64 (floatOfInt .f64 (sum0 (l0.take k))) (floatOfInt .f64 (sum1 (l0.take k))) ∧ Aside0 (∀ x ∈ l0.take k, pairOk x) ∧ Aside0 (Below w.heap.size w wr) ∧ Aside0 (wr.heap[w.heap.size]? = some (.cells #[.int .i64 0, .int .i64 0] 45 (0, 0)))) (fun _ v15 _ => l0.length - (intOf v15).toNat)
    case atStart => exact ⟨0, Nat.zero_le _, rfl, by simp [sum0, sum1]; rfl, ⟨by simp⟩, HW, ⟨heap_alloc_new w _⟩⟩
    case round =>
      obtain ⟨k, hk, rfl, rfl, HP, HB, BK⟩ := hrel
      obtain ⟨s1, s2, s3, s4⟩ := sums_range _ HP.out
      have htl : (l0.take k).length ≤ 1000 := Nat.le_trans (List.length_take_le _ _) (by omega)
      have hg0 : wr.cell? ⟨w.heap.size, 0, none⟩ = some (.int .i64 0) := (blk_cell BK.out 0).trans rfl
      have hg1 : wr.cell? ⟨w.heap.size, 1, none⟩ = some (.int .i64 0) := (blk_cell BK.out 1).trans rfl
      have hz0 : wr.frozen? ⟨w.heap.size, 0, none⟩ = false := blk_frozen BK.out 0
      have hz1 : wr.frozen? ⟨w.heap.size, 1, none⟩ = false := blk_frozen BK.out 1
      have hzl : w.heap.size < wr.heap.size := blk_lt BK.out
      by_cases hlt : k < l0.length
      · have HC := Aside0.mk (Kd.C_below HR.out HB.out)
        obtain ⟨ad, hA, hx0, hx1⟩ := at_T45 HC.out (k : Int) (by omega) (by omega)
        rw [Int.toNat_natCast] at hx0 hx1
        have hmem := rd_mem l0 k hlt
        have hsn := take_snoc2 l0 k hlt
        generalize rd_T45 l0 (k : Int) = x at hx0 hx1 hmem hsn
        have HM := Aside0.mk hmem
        have HSN := Aside0.mk hsn
        clear hmem hsn
        cases hA
        obtain ⟨wo, rfl⟩ : ∃ wo : World, wo = wr := ⟨_, rfl⟩
        go_wp2
        go_loop [20] (fun v20 => ∃ j : Nat, j ≤ 2 ∧ v20 = .int .i64 (j : Int) ∧ Aside0 (1 ≤ j → 0 ≤ x.f0 ∧ x.f0 ≤ 1099511627776) ∧ Aside0 (2 ≤ j → 0 ≤ x.f1 ∧ x.f1 ≤ 1099511627776)) (fun v20 => 2 - (intOf v20).toNat)
        case atStart => exact ⟨0, by omega, rfl, ⟨fun h => by omega⟩, ⟨fun h => by omega⟩⟩
        case round =>
          obtain ⟨j, hj, rfl, H0, H1⟩ := hrel
          have i0 : ∀ W : World, (Instr.index 45 (.agg #[.int .i64 x.f0, .int .i64 x.f1]) (.int .i64 0)).run Try.prog W = .ok (.int .i64 x.f0) W := fun _ => by kernel_rfl
          have i1 : ∀ W : World, (Instr.index 45 (.agg #[.int .i64 x.f0, .int .i64 x.f1]) (.int .i64 1)).run Try.prog W = .ok (.int .i64 x.f1) W := fun _ => by kernel_rfl
          have bad : ¬ pairOk x → r1 = 0 ∧ r2 = 0 ∧ r3 = false := fun hn => by
            have e := totF_bad l0 x HM.out hn
            rw [HT.out] at e
            simpa using e
          have BAD := Aside0.mk bad
          clear bad
          have hbb := Aside0.mk (below_alloc (below_set (j := 1) (v := .int .i64 0) (below_set (j := 0) (v := .int .i64 0) HB.out (Nat.le_refl _)) (Nat.le_refl _)) (.cells #[.int .i64 x.f0, .int .i64 x.f1] 45))
          have hbk : Aside0 ((((wo.setCell ⟨w.heap.size, 0, none⟩ (.int .i64 0)).setCell ⟨w.heap.size, 1, none⟩ (.int .i64 0)).alloc (.cells #[.int .i64 x.f0, .int .i64 x.f1] 45)).heap[w.heap.size]? = some (.cells #[.int .i64 0, .int .i64 0] 45 (0, 0))) := ⟨by
            refine blk_alloc ?_ _
            refine blk_put (cs := #[.int .i64 0, .int .i64 0]) ?_ 1 _ rfl
            refine blk_put (cs := #[.int .i64 0, .int .i64 0]) ?_ 0 _ rfl
            exact BK.out⟩
          rcases (show j = 0 ∨ j = 1 ∨ j = 2 by omega) with rfl | rfl | rfl
          · by_cases hb : 0 ≤ x.f0 ∧ x.f0 ≤ 1099511627776
            · obtain ⟨b1, b2⟩ := hb
              have b3 : ¬ x.f0 < 0 := by omega
              have b4 : ¬ 1099511627776 < x.f0 := by omega
              go_wp2
              go_round
              case rel => exact ⟨1, by omega, rfl, ⟨fun _ => ⟨b1, b2⟩⟩, ⟨fun h => by omega⟩⟩
              case measure => simp [intOf]
            · have HN := Aside0.mk (BAD.out (fun h => hb ⟨h.1, h.2.1⟩))
              by_cases b1 : x.f0 < 0
              · go_wp2
                refine bodyPost_ret (results_ct rfl _ _ w.heap.size 45 #[.int .i64 0, .int .i64 0] (0, 0) _ rfl hbk.out Try.underlying45 rfl (by kernel_rfl)) rfl ?_
                obtain ⟨rfl, rfl, rfl⟩ := HN.out
                exact ⟨rfl, hbb.out⟩
              · have b2 : 1099511627776 < x.f0 := by omega
                go_wp2
                refine bodyPost_ret (results_ct rfl _ _ w.heap.size 45 #[.int .i64 0, .int .i64 0] (0, 0) _ rfl hbk.out Try.underlying45 rfl (by kernel_rfl)) rfl ?_
                obtain ⟨rfl, rfl, rfl⟩ := HN.out
                exact ⟨rfl, hbb.out⟩
          · by_cases hb : 0 ≤ x.f1 ∧ x.f1 ≤ 1099511627776
            · obtain ⟨b1, b2⟩ := hb
              have b3 : ¬ x.f1 < 0 := by omega
              have b4 : ¬ 1099511627776 < x.f1 := by omega
              go_wp2
              go_round
              case rel => exact ⟨2, by omega, rfl, ⟨fun _ => H0.out (by omega)⟩, ⟨fun _ => ⟨b1, b2⟩⟩⟩
              case measure => simp [intOf]
            · have HN := Aside0.mk (BAD.out (fun h => hb ⟨h.2.2.1, h.2.2.2⟩))
              by_cases b1 : x.f1 < 0
              · go_wp2
                refine bodyPost_ret (results_ct rfl _ _ w.heap.size 45 #[.int .i64 0, .int .i64 0] (0, 0) _ rfl hbk.out Try.underlying45 rfl (by kernel_rfl)) rfl ?_
                obtain ⟨rfl, rfl, rfl⟩ := HN.out
                exact ⟨rfl, hbb.out⟩
              · have b2 : 1099511627776 < x.f1 := by omega
                go_wp2
                refine bodyPost_ret (results_ct rfl _ _ w.heap.size 45 #[.int .i64 0, .int .i64 0] (0, 0) _ rfl hbk.out Try.underlying45 rfl (by kernel_rfl)) rfl ?_
                obtain ⟨rfl, rfl, rfl⟩ := HN.out
                exact ⟨rfl, hbb.out⟩
          · obtain ⟨p1, p2⟩ := H0.out (by omega)
            obtain ⟨p3, p4⟩ := H1.out (by omega)
            have hsum := fun W => csum Try.prog 68 (sum0 (l0.take k)) (sum1 (l0.take k)) x.f0 x.f1 s1 s3 p1 p3 (by omega) (by omega) W
            rw [← sum0_snoc, ← sum1_snoc, ← HSN.out] at hsum
            go_wp2
            go_roundw
            case rel => exact ⟨k + 1, by omega, by go_num, rfl, ⟨by rw [HSN.out]; intro y hy; rcases List.mem_append.1 hy with hy | hy; exact HP.out y hy; rw [List.mem_singleton.1 hy]; exact ⟨p1, p2, p3, p4⟩⟩, ⟨below_alloc (below_alloc HB.out _) _⟩, ⟨blk_alloc (blk_alloc BK.out _) _⟩⟩
            case measure => simp [intOf]; omega
      · have hke : k = l0.length := by omega
        have hf0 := fun W => run_convert_float_int (P := Try.prog) W 70 3 .f64 .i64 (floatOfInt .f64 (sum0 (l0.take k))) (sum0 (l0.take k)) (by rw [Try.underlying70]; rfl) Try.underlying3 (Flt.int_int _ s1 (by omega))
        have hf1 := fun W => run_convert_float_int (P := Try.prog) W 70 3 .f64 .i64 (floatOfInt .f64 (sum1 (l0.take k))) (sum1 (l0.take k)) (by rw [Try.underlying70]; rfl) Try.underlying3 (Flt.int_int _ s3 (by omega))
        have HK := Aside0.mk hke
        clear hke
        go_wp2
        refine bodyPost_ret (results_ct rfl _ _ w.heap.size 45 #[.int .i64 (sum0 (l0.take k)), .int .i64 (sum1 (l0.take k))] (0, 0) _ rfl (by refine blk_put (cs := #[.int .i64 (sum0 (l0.take k)), .int .i64 0]) ?_ 1 _ rfl; refine blk_put (cs := #[.int .i64 0, .int .i64 0]) ?_ 0 _ rfl; exact BK.out) Try.underlying45 rfl (by kernel_rfl)) rfl ?_
        have et : l0.take k = l0 := by rw [HK.out, List.take_length]
        have e := totF_good l0 hlen (fun y hy => HP.out y (by rw [et]; exact hy))
        rw [et]
        rw [HT.out] at e
        obtain ⟨rfl, rfl, rfl⟩ : r1 = sum0 l0 ∧ r2 = sum1 l0 ∧ r3 = true := by simpa using e
        exact ⟨rfl, below_set (below_set HB.out (Nat.le_refl _)) (Nat.le_refl _)⟩


/-! ### greedy_Totals: function 11 -/
def greedy_Totals.l0 : Nat → List (S45) → List (S38) → Int → Int → Option (Int × Int)
 | 0, _, _, _, _ => none
 | k + 1, x4, x9, x10, x11 => if x11 < x10 then (if 0 ≤ x11 then (if x11 < (x9.length : Int) then (if x4.length < 8796093022208 then (greedy_Totals.l0 k (x4 ++ [(⟨(rd_T38 x9 x11).f2, (rd_T38 x9 x11).f4⟩ : S45)]) x9 x10 (wrap64 (x11 + 1))) else (none)) else (none)) else (none)) else ((sat_Totals.f x4).bind fun bt111 => (some (bt111.1, bt111.2.1)))
def greedy_Totals.f (k : Nat) (l0 : List (S38)) : Option (Int × Int) := greedy_Totals.l0 k ([] : List (S45)) l0 (l0.length : Int) 0
theorem greedy_Totals.mono_l : ∀ k, (∀ y0 y1 y2 y3, LeO (greedy_Totals.l0 k y0 y1 y2 y3) (greedy_Totals.l0 (k + 1) y0 y1 y2 y3))
 | 0 => fun _ _ _ _ r h => by simp [greedy_Totals.l0] at h
 | k + 1 => by
  have ih0 := greedy_Totals.mono_l k
  · intro y0 y1 y2 y3
    unfold greedy_Totals.l0
    repeat' first
    | (with_reducible exact ih0 _ _ _ _)
    | (with_reducible exact LeO.refl _)
    | (with_reducible exact LeO.none _)
    | (with_reducible refine LeO.ite ?_ ?_)
    | (with_reducible refine LeO.bind ?_ (fun _ => ?_))
    | exact ih0 _ _ _ _
    | exact LeO.none _
    | refine LeO.ite ?_ ?_
    | refine LeO.bind ?_ (fun _ => ?_)
theorem greedy_Totals.mono : ∀ a0 k, LeO (greedy_Totals.f k a0) (greedy_Totals.f (k + 1) a0) := by
 intro a0 k
 have ih0 := greedy_Totals.mono_l k
 unfold greedy_Totals.f
 repeat' first
  | (with_reducible exact ih0 _ _ _ _)
  | (with_reducible exact LeO.refl _)
  | (with_reducible exact LeO.none _)
  | (with_reducible refine LeO.ite ?_ ?_)
  | (with_reducible refine LeO.bind ?_ (fun _ => ?_))
  | exact ih0 _ _ _ _
  | exact LeO.none _
  | refine LeO.ite ?_ ?_
  | refine LeO.bind ?_ (fun _ => ?_)
set_option maxHeartbeats 8000000 in
set_option maxRecDepth 100000 in
theorem greedy_Totals.calls (k : Nat) (A0 : Option Addr) (c0 : Nat) (l0 : List (S38)) (r1 : Int) (r2 : Int) (w : World) (hr0 : Kd.C k38 w A0 l0.length l0) (hc0 : l0.length ≤ c0) (h : greedy_Totals.f k l0 = some (r1, r2)) :
 Calls Try.prog 11 #[.slice A0 l0.length c0] w fun e w' => e = .returned (.tuple #[.int .i64 r1, .int .i64 r2]) ∧ Below w.heap.size w w' := by
 have hu38 := Try.underlying38
 have hu45 := Try.underlying45
 have HR0 := A_ hr0
 have HC0 := A_ hc0
 clear hr0 hc0; have HB := A_ (Below.refl w.heap.size w)
 have H : (greedy_Totals.l0 k ([] : List (S45)) l0 (l0.length : Int) 0) = some (r1, r2) := h
 clear h
 have H' := A_ H
 clear H
 go_enter Try.func11, Try.ntmps11
 go_wp2
 repeat (go_quiet (fail); try go_wp2)
 go_loopg [4, 11] k (fun kq v4 v11 w' => ∃ (x4_1 : List (S45)) (x11_1 : Int), v11 = .int .i64 x11_1 ∧ Aside0 (greedy_Totals.l0 kq x4_1 l0 (l0.length : Int) x11_1 = some (r1, r2)) ∧ Aside0 (kq ≤ k) ∧ Aside0 (Kd.R k45 45 w' w.heap.size (fun _ => True) v4 x4_1) ∧ Aside0 (Below w.heap.size w w'))
 case atStart => exact ⟨(([] : List (S45))), (0), (by first | rfl | (simp; done) | (simp [*]; done)), H', ⟨Nat.le_refl _⟩, ⟨by first | exact Kd.R_nil _ _ _ _ _ | exact Kd.N_nil _ _ _ _ _ | exact Kd.V_nil _ _ _ _ _ | exact Kd.Q_nil _ _ _ _ _ | exact Kd.S_nil _ _ _ _ _⟩, ⟨by repeat (first | (with_reducible first | exact HB.out | apply wa_ | apply wn_ | apply wd_) | exact HB.out)⟩⟩
 case round =>
  clear H'; (try clear c1)
  obtain ⟨x4_1, x11_1, rfl, HA, HK1, HO_4, HB⟩ := hrel
  cases gk with
  | zero => exact absurd HA.out (by simp [greedy_Totals.l0])
  | succ k1 =>
   have H := HA.out
   clear HA
   simp only [greedy_Totals.l0] at H
   by_cases c2 : x11_1 < (l0.length : Int)
   · rw [if_pos c2] at H
     have c2b0 : decide (x11_1 < (l0.length : Int)) = true := decide_eq_true c2
     clear c2
     by_cases c3 : 0 ≤ x11_1
     rotate_left
     · rw [if_neg c3] at H
       exact absurd H (by simp)
     rw [if_pos c3] at H
     have c3b0 : decide (0 ≤ x11_1) = true := decide_eq_true c3
     clear c3
     by_cases c4 : x11_1 < (l0.length : Int)
     rotate_left
     · rw [if_neg c4] at H
       exact absurd H (by simp)
     rw [if_pos c4] at H
     have c4b0 : decide (x11_1 < (l0.length : Int)) = true := decide_eq_true c4
     clear c4
     by_cases c5 : x4_1.length < 8796093022208
     rotate_left
     · rw [if_neg c5] at H
       exact absurd H (by simp)
     rw [if_pos c5] at H
     have LMc5 := A_ c5
     clear c5
     obtain ⟨y108, hy108⟩ : ∃ y_ : List (S45), y_ = (x4_1 ++ [(⟨(rd_T38 l0 x11_1).f2, (rd_T38 l0 x11_1).f4⟩ : S45)]) := ⟨_, rfl⟩
     replace H : (greedy_Totals.l0 k1 y108 l0 (l0.length : Int) (wrap64 (x11_1 + 1))) = some (r1, r2) := by first | (rw [hy108]; with_reducible exact H) | (have H2_ := (Option.bind_some _ _).symm.trans H; rw [hy108]; with_reducible exact H2_) | (have H2_ := (Option.bind_some _ _).symm.trans H; with_reducible exact H2_) | with_reducible exact H | (rw [hy108]; exact H) | exact H
     have Ny108 := A_ hy108
     clear hy108
     have H' := A_ H
     clear H
     have p106 : 0 ≤ (x11_1 : Int) := of_decide_eq_true (by first | (with_reducible assumption) | assumption)
     have q106 : x11_1 < (l0.length : Int) := of_decide_eq_true (by first | (with_reducible assumption) | assumption)
     obtain ⟨ad106, e106, hx106_0, hx106_1, hx106_2, hx106_3, hx106_4, hx106_5⟩ := at_T38 HR0.out x11_1 p106 q106
     cases e106
     replace hx106_0 := on_ HB.out hx106_0
     replace hx106_1 := on_ HB.out hx106_1
     replace hx106_2 := on_ HB.out hx106_2
     replace hx106_3 := on_ HB.out hx106_3
     replace hx106_4 := on_ HB.out hx106_4
     replace hx106_5 := on_ HB.out hx106_5
     replace p106 := eq_true p106
     replace q106 := eq_true q106
     go_wp2_with (first | ((with_reducible refine gate_dst (N := 6) rfl ?_); refine box_event ?hg (N := 6) ?hd (cs := #[.int .i64 0, .int .i64 0, .int .i64 0, .int .i64 0, .int .i64 0, .string (⟨#[]⟩ : ByteArray)]) (t := 38) ?hr ?_; (case hd => rfl); (case hg => rfl); (case hr => first | (go_simp; done) | (go_simp; rfl)); intro gb107 hg w6 hbox hb; have n0_ := A_ (Kd.R_below (pr_ HO_4.out) hb); have n1_ := A_ (below_step bw_ hb); have n2_ := A_ (hbox); have n3_ := A_ (gz_ (w := w) hg); have n4_ := A_ (gz_ (w := w) hg); replace HO_4 := n0_; replace HB := n1_; have BK107 := n2_; have GW107 := n3_; have GE107 := n4_; clear n0_ n1_ n2_ n3_ n4_; clear hb hbox hg; have hcz7_0 : w6.cell? ⟨gb107, 0, none⟩ = some (.int .i64 0) := e_ BK107 0; have hcz7_1 : w6.cell? ⟨gb107, 1, none⟩ = some (.int .i64 0) := e_ BK107 1; have hcz7_2 : w6.cell? ⟨gb107, 2, none⟩ = some (.int .i64 0) := e_ BK107 2; have hcz7_3 : w6.cell? ⟨gb107, 3, none⟩ = some (.int .i64 0) := e_ BK107 3; have hcz7_4 : w6.cell? ⟨gb107, 4, none⟩ = some (.int .i64 0) := e_ BK107 4; have hcz7_5 : w6.cell? ⟨gb107, 5, none⟩ = some (.string (⟨#[]⟩ : ByteArray)) := e_ BK107 5; obtain ⟨hfz7_0, hfz7_1, hfz7_2, hfz7_3, hfz7_4, hfz7_5⟩ := z6_ BK107) | ((with_reducible refine gate_builtin (b := .append) (xs := #[.tmp 15, .tmp 21]) rfl ?_); at_builtin; refine Kd.R_append k45 (w0 := w) w.heap.size rfl (.tmp 15) (.tmp 21) 44 45 (.agg #[(.int .i64 0), (.int .i64 0)]) 16 rfl Try.underlying44 info45 rfl (by decide) (by omega) u4 x4_1 (⟨(rd_T38 l0 x11_1).f2, (rd_T38 l0 x11_1).f4⟩ : S45) [.int .i64 ((rd_T38 l0 x11_1).f2), .int .i64 ((rd_T38 l0 x11_1).f4)] (fun _ => True) (fun _ => False) rfl (by first | (go_simp; done) | (go_simp; rfl)) ?aP (fun _ hk => hk.elim) ?aF ?aO ?aB ?aS ?aL ?_; (case aP => exact k45_mkM _ _ _ (⟨(rd_T38 l0 x11_1).f2, (rd_T38 l0 x11_1).f4⟩ : S45)); (case aB => exact bw_); (case aF => exact (fun _ _ => trivial)); (case aO => exact (by (with_reducible repeat (first | apply ra_ | apply rn_ | apply rd_)); exact Kd.R_mono (f6_ (g := gb107) (Kd.R_types HO_4.out BK107.out (by decide)) (fun _ hk => hk.2) (.int .i64 ((rd_T38 l0 x11_1).f0)) (.int .i64 ((rd_T38 l0 x11_1).f1)) (.int .i64 ((rd_T38 l0 x11_1).f2)) (.int .i64 ((rd_T38 l0 x11_1).f3)) (.int .i64 ((rd_T38 l0 x11_1).f4)) (.string ((rd_T38 l0 x11_1).f5))) (fun _ hk => trivial))); (case aS => exact (below_size bw_)); (case aL => have := LMc5.out; omega); intro v109 w8 ho hb hg hat; rw [← Ny108.out] at ho; replace BK107 := A_ (blk_grown (g := gb107) (o := .cells #[.int .i64 ((rd_T38 l0 x11_1).f0), .int .i64 ((rd_T38 l0 x11_1).f1), .int .i64 ((rd_T38 l0 x11_1).f2), .int .i64 ((rd_T38 l0 x11_1).f3), .int .i64 ((rd_T38 l0 x11_1).f4), .string ((rd_T38 l0 x11_1).f5)] 38 (0, 0)) (by exact pk_ (b6_ BK107.out)) hg (Kd.R_ne HO_4.out BK107.out (by decide))); replace HB := A_ (hb); have HO110 := A_ (ho); clear HO_4; clear ho hb hg hat))
     repeat (go_quiet (first | ((with_reducible refine gate_dst (N := 6) rfl ?_); refine box_event ?hg (N := 6) ?hd (cs := #[.int .i64 0, .int .i64 0, .int .i64 0, .int .i64 0, .int .i64 0, .string (⟨#[]⟩ : ByteArray)]) (t := 38) ?hr ?_; (case hd => rfl); (case hg => rfl); (case hr => first | (go_simp; done) | (go_simp; rfl)); intro gb107 hg w6 hbox hb; have n0_ := A_ (Kd.R_below (pr_ HO_4.out) hb); have n1_ := A_ (below_step bw_ hb); have n2_ := A_ (hbox); have n3_ := A_ (gz_ (w := w) hg); have n4_ := A_ (gz_ (w := w) hg); replace HO_4 := n0_; replace HB := n1_; have BK107 := n2_; have GW107 := n3_; have GE107 := n4_; clear n0_ n1_ n2_ n3_ n4_; clear hb hbox hg; have hcz7_0 : w6.cell? ⟨gb107, 0, none⟩ = some (.int .i64 0) := e_ BK107 0; have hcz7_1 : w6.cell? ⟨gb107, 1, none⟩ = some (.int .i64 0) := e_ BK107 1; have hcz7_2 : w6.cell? ⟨gb107, 2, none⟩ = some (.int .i64 0) := e_ BK107 2; have hcz7_3 : w6.cell? ⟨gb107, 3, none⟩ = some (.int .i64 0) := e_ BK107 3; have hcz7_4 : w6.cell? ⟨gb107, 4, none⟩ = some (.int .i64 0) := e_ BK107 4; have hcz7_5 : w6.cell? ⟨gb107, 5, none⟩ = some (.string (⟨#[]⟩ : ByteArray)) := e_ BK107 5; obtain ⟨hfz7_0, hfz7_1, hfz7_2, hfz7_3, hfz7_4, hfz7_5⟩ := z6_ BK107) | ((with_reducible refine gate_builtin (b := .append) (xs := #[.tmp 15, .tmp 21]) rfl ?_); at_builtin; refine Kd.R_append k45 (w0 := w) w.heap.size rfl (.tmp 15) (.tmp 21) 44 45 (.agg #[(.int .i64 0), (.int .i64 0)]) 16 rfl Try.underlying44 info45 rfl (by decide) (by omega) u4 x4_1 (⟨(rd_T38 l0 x11_1).f2, (rd_T38 l0 x11_1).f4⟩ : S45) [.int .i64 ((rd_T38 l0 x11_1).f2), .int .i64 ((rd_T38 l0 x11_1).f4)] (fun _ => True) (fun _ => False) rfl (by first | (go_simp; done) | (go_simp; rfl)) ?aP (fun _ hk => hk.elim) ?aF ?aO ?aB ?aS ?aL ?_; (case aP => exact k45_mkM _ _ _ (⟨(rd_T38 l0 x11_1).f2, (rd_T38 l0 x11_1).f4⟩ : S45)); (case aB => exact bw_); (case aF => exact (fun _ _ => trivial)); (case aO => exact (by (with_reducible repeat (first | apply ra_ | apply rn_ | apply rd_)); exact Kd.R_mono (f6_ (g := gb107) (Kd.R_types HO_4.out BK107.out (by decide)) (fun _ hk => hk.2) (.int .i64 ((rd_T38 l0 x11_1).f0)) (.int .i64 ((rd_T38 l0 x11_1).f1)) (.int .i64 ((rd_T38 l0 x11_1).f2)) (.int .i64 ((rd_T38 l0 x11_1).f3)) (.int .i64 ((rd_T38 l0 x11_1).f4)) (.string ((rd_T38 l0 x11_1).f5))) (fun _ hk => trivial))); (case aS => exact (below_size bw_)); (case aL => have := LMc5.out; omega); intro v109 w8 ho hb hg hat; rw [← Ny108.out] at ho; replace BK107 := A_ (blk_grown (g := gb107) (o := .cells #[.int .i64 ((rd_T38 l0 x11_1).f0), .int .i64 ((rd_T38 l0 x11_1).f1), .int .i64 ((rd_T38 l0 x11_1).f2), .int .i64 ((rd_T38 l0 x11_1).f3), .int .i64 ((rd_T38 l0 x11_1).f4), .string ((rd_T38 l0 x11_1).f5)] 38 (0, 0)) (by exact pk_ (b6_ BK107.out)) hg (Kd.R_ne HO_4.out BK107.out (by decide))); replace HB := A_ (hb); have HO110 := A_ (ho); clear HO_4; clear ho hb hg hat)); try go_wp2_with (first | ((with_reducible refine gate_dst (N := 6) rfl ?_); refine box_event ?hg (N := 6) ?hd (cs := #[.int .i64 0, .int .i64 0, .int .i64 0, .int .i64 0, .int .i64 0, .string (⟨#[]⟩ : ByteArray)]) (t := 38) ?hr ?_; (case hd => rfl); (case hg => rfl); (case hr => first | (go_simp; done) | (go_simp; rfl)); intro gb107 hg w6 hbox hb; have n0_ := A_ (Kd.R_below (pr_ HO_4.out) hb); have n1_ := A_ (below_step bw_ hb); have n2_ := A_ (hbox); have n3_ := A_ (gz_ (w := w) hg); have n4_ := A_ (gz_ (w := w) hg); replace HO_4 := n0_; replace HB := n1_; have BK107 := n2_; have GW107 := n3_; have GE107 := n4_; clear n0_ n1_ n2_ n3_ n4_; clear hb hbox hg; have hcz7_0 : w6.cell? ⟨gb107, 0, none⟩ = some (.int .i64 0) := e_ BK107 0; have hcz7_1 : w6.cell? ⟨gb107, 1, none⟩ = some (.int .i64 0) := e_ BK107 1; have hcz7_2 : w6.cell? ⟨gb107, 2, none⟩ = some (.int .i64 0) := e_ BK107 2; have hcz7_3 : w6.cell? ⟨gb107, 3, none⟩ = some (.int .i64 0) := e_ BK107 3; have hcz7_4 : w6.cell? ⟨gb107, 4, none⟩ = some (.int .i64 0) := e_ BK107 4; have hcz7_5 : w6.cell? ⟨gb107, 5, none⟩ = some (.string (⟨#[]⟩ : ByteArray)) := e_ BK107 5; obtain ⟨hfz7_0, hfz7_1, hfz7_2, hfz7_3, hfz7_4, hfz7_5⟩ := z6_ BK107) | ((with_reducible refine gate_builtin (b := .append) (xs := #[.tmp 15, .tmp 21]) rfl ?_); at_builtin; refine Kd.R_append k45 (w0 := w) w.heap.size rfl (.tmp 15) (.tmp 21) 44 45 (.agg #[(.int .i64 0), (.int .i64 0)]) 16 rfl Try.underlying44 info45 rfl (by decide) (by omega) u4 x4_1 (⟨(rd_T38 l0 x11_1).f2, (rd_T38 l0 x11_1).f4⟩ : S45) [.int .i64 ((rd_T38 l0 x11_1).f2), .int .i64 ((rd_T38 l0 x11_1).f4)] (fun _ => True) (fun _ => False) rfl (by first | (go_simp; done) | (go_simp; rfl)) ?aP (fun _ hk => hk.elim) ?aF ?aO ?aB ?aS ?aL ?_; (case aP => exact k45_mkM _ _ _ (⟨(rd_T38 l0 x11_1).f2, (rd_T38 l0 x11_1).f4⟩ : S45)); (case aB => exact bw_); (case aF => exact (fun _ _ => trivial)); (case aO => exact (by (with_reducible repeat (first | apply ra_ | apply rn_ | apply rd_)); exact Kd.R_mono (f6_ (g := gb107) (Kd.R_types HO_4.out BK107.out (by decide)) (fun _ hk => hk.2) (.int .i64 ((rd_T38 l0 x11_1).f0)) (.int .i64 ((rd_T38 l0 x11_1).f1)) (.int .i64 ((rd_T38 l0 x11_1).f2)) (.int .i64 ((rd_T38 l0 x11_1).f3)) (.int .i64 ((rd_T38 l0 x11_1).f4)) (.string ((rd_T38 l0 x11_1).f5))) (fun _ hk => trivial))); (case aS => exact (below_size bw_)); (case aL => have := LMc5.out; omega); intro v109 w8 ho hb hg hat; rw [← Ny108.out] at ho; replace BK107 := A_ (blk_grown (g := gb107) (o := .cells #[.int .i64 ((rd_T38 l0 x11_1).f0), .int .i64 ((rd_T38 l0 x11_1).f1), .int .i64 ((rd_T38 l0 x11_1).f2), .int .i64 ((rd_T38 l0 x11_1).f3), .int .i64 ((rd_T38 l0 x11_1).f4), .string ((rd_T38 l0 x11_1).f5)] 38 (0, 0)) (by exact pk_ (b6_ BK107.out)) hg (Kd.R_ne HO_4.out BK107.out (by decide))); replace HB := A_ (hb); have HO110 := A_ (ho); clear HO_4; clear ho hb hg hat)))
     go_roundg k1
     case measure => have := HK1.out; omega
     case rel => exact ⟨(y108), (wrap64 (x11_1 + 1)), (by first | rfl | (simp; done) | (simp [*]; done)), H', ⟨by have := HK1.out; omega⟩, ⟨by (with_reducible repeat (first | apply ra_ | apply rn_ | apply rd_)); exact HO110.out⟩, ⟨by repeat (first | (with_reducible first | exact HB.out | apply wa_ | apply wn_ | apply wd_ | refine ws_ ?_ GE107.out) | exact HB.out)⟩⟩
   · rw [if_neg c2] at H
     have c2b0 : decide (x11_1 < (l0.length : Int)) = false := decide_eq_false c2
     clear c2
     replace H := Option.bind_eq_some_iff.mp H
     obtain ⟨⟨t111, t112, t113⟩, A90, H⟩ := H
     replace H : (some (t111, t112)) = some (r1, r2) := H
     have A9 := A_ A90
     clear A90
     simp only [Option.some.injEq, Prod.mk.injEq] at H
     obtain ⟨rfl, rfl⟩ := H
     obtain ⟨Ao10, co10, eo10⟩ := Kd.R_slice HO_4.out
     subst eo10
     go_wp2_with (first | (go_at_call 25; (with_reducible refine (sat_Totals.calls _ _ x4_1 t111 t112 t113 _ ?side1 ?side2 A9.out).mono ?_); (case side1 => repeat (first | exact (Kd.R_reads' HO_4.out).2.2 | (with_reducible refine ca_ ?_ _) | (with_reducible refine cn_ ?_ _) | (with_reducible refine cd_ ?_))); (case side2 => exact (Kd.R_reads' HO_4.out).2.1); rintro e w11 ⟨rfl, hb⟩; replace HO_4 := A_ (Kd.R_below (pr_ HO_4.out) hb); replace HB := A_ (below_step bw_ hb); (try clear hb); (try clear hb2); (try clear hk); (try clear hi)) | ((with_reducible refine gate_dst (N := 7) rfl ?_); refine box_event ?hg (N := 7) ?hd (cs := #[.int .i64 0, .int .i64 0]) (t := 45) ?hr ?_; (case hd => rfl); (case hg => rfl); (case hr => first | (go_simp; done) | (go_simp; rfl)); intro gb114 hg w12 hbox hb; have n0_ := A_ (Kd.R_below (Kd.R_elderB (pr_ HO_4.out) gb114 (Nat.le_of_eq hg.symm)) hb); have n1_ := A_ (below_step bw_ hb); have n2_ := A_ (hbox); have n3_ := A_ (gz_ (w := w) hg); have n4_ := A_ (gz_ (w := w) hg); replace HO_4 := n0_; replace HB := n1_; have BK114 := n2_; have GW114 := n3_; have GE114 := n4_; clear n0_ n1_ n2_ n3_ n4_; clear hb hbox hg; have hcz13_0 : w12.cell? ⟨gb114, 0, none⟩ = some (.int .i64 0) := e_ BK114 0; have hcz13_1 : w12.cell? ⟨gb114, 1, none⟩ = some (.int .i64 0) := e_ BK114 1; have hfz13_0 := blk_frozen BK114.out 0; have hfz13_1 := blk_frozen BK114.out 1))
     repeat (go_quiet (first | (go_at_call 25; (with_reducible refine (sat_Totals.calls _ _ x4_1 t111 t112 t113 _ ?side1 ?side2 A9.out).mono ?_); (case side1 => repeat (first | exact (Kd.R_reads' HO_4.out).2.2 | (with_reducible refine ca_ ?_ _) | (with_reducible refine cn_ ?_ _) | (with_reducible refine cd_ ?_))); (case side2 => exact (Kd.R_reads' HO_4.out).2.1); rintro e w11 ⟨rfl, hb⟩; replace HO_4 := A_ (Kd.R_below (pr_ HO_4.out) hb); replace HB := A_ (below_step bw_ hb); (try clear hb); (try clear hb2); (try clear hk); (try clear hi)) | ((with_reducible refine gate_dst (N := 7) rfl ?_); refine box_event ?hg (N := 7) ?hd (cs := #[.int .i64 0, .int .i64 0]) (t := 45) ?hr ?_; (case hd => rfl); (case hg => rfl); (case hr => first | (go_simp; done) | (go_simp; rfl)); intro gb114 hg w12 hbox hb; have n0_ := A_ (Kd.R_below (Kd.R_elderB (pr_ HO_4.out) gb114 (Nat.le_of_eq hg.symm)) hb); have n1_ := A_ (below_step bw_ hb); have n2_ := A_ (hbox); have n3_ := A_ (gz_ (w := w) hg); have n4_ := A_ (gz_ (w := w) hg); replace HO_4 := n0_; replace HB := n1_; have BK114 := n2_; have GW114 := n3_; have GE114 := n4_; clear n0_ n1_ n2_ n3_ n4_; clear hb hbox hg; have hcz13_0 : w12.cell? ⟨gb114, 0, none⟩ = some (.int .i64 0) := e_ BK114 0; have hcz13_1 : w12.cell? ⟨gb114, 1, none⟩ = some (.int .i64 0) := e_ BK114 1; have hfz13_0 := blk_frozen BK114.out 0; have hfz13_1 := blk_frozen BK114.out 1)); try go_wp2_with (first | (go_at_call 25; (with_reducible refine (sat_Totals.calls _ _ x4_1 t111 t112 t113 _ ?side1 ?side2 A9.out).mono ?_); (case side1 => repeat (first | exact (Kd.R_reads' HO_4.out).2.2 | (with_reducible refine ca_ ?_ _) | (with_reducible refine cn_ ?_ _) | (with_reducible refine cd_ ?_))); (case side2 => exact (Kd.R_reads' HO_4.out).2.1); rintro e w11 ⟨rfl, hb⟩; replace HO_4 := A_ (Kd.R_below (pr_ HO_4.out) hb); replace HB := A_ (below_step bw_ hb); (try clear hb); (try clear hb2); (try clear hk); (try clear hi)) | ((with_reducible refine gate_dst (N := 7) rfl ?_); refine box_event ?hg (N := 7) ?hd (cs := #[.int .i64 0, .int .i64 0]) (t := 45) ?hr ?_; (case hd => rfl); (case hg => rfl); (case hr => first | (go_simp; done) | (go_simp; rfl)); intro gb114 hg w12 hbox hb; have n0_ := A_ (Kd.R_below (Kd.R_elderB (pr_ HO_4.out) gb114 (Nat.le_of_eq hg.symm)) hb); have n1_ := A_ (below_step bw_ hb); have n2_ := A_ (hbox); have n3_ := A_ (gz_ (w := w) hg); have n4_ := A_ (gz_ (w := w) hg); replace HO_4 := n0_; replace HB := n1_; have BK114 := n2_; have GW114 := n3_; have GE114 := n4_; clear n0_ n1_ n2_ n3_ n4_; clear hb hbox hg; have hcz13_0 : w12.cell? ⟨gb114, 0, none⟩ = some (.int .i64 0) := e_ BK114 0; have hcz13_1 : w12.cell? ⟨gb114, 1, none⟩ = some (.int .i64 0) := e_ BK114 1; have hfz13_0 := blk_frozen BK114.out 0; have hfz13_1 := blk_frozen BK114.out 1)))
     go_ret2
     exact ⟨by first | rfl | (simp [errW_none, errW_some] <;> rfl) | (simp [*, errW_none, errW_some] <;> rfl), by repeat (first | (with_reducible first | exact HB.out | apply wa_ | apply wn_ | apply wd_ | refine ws_ ?_ GE114.out) | exact HB.out)⟩

end Go.Proofs.Ytahopljippfadaa.D
