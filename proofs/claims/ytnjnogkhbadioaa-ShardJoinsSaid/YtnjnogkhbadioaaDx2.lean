/- Written by this session's own program over the kit's print: functions of Go told as plain functions, or the row of one statement; proved for every input, with no condition of ours. -/
import Derived.Test.YtnjnogkhbadioaaDx0
namespace Go.Proofs.Ytnjnogkhbadioaa.D
open Go.RowKit Go.Proofs.YtnjnogkhbadioaaW.PrintWords Go.Proofs.YtnjnogkhbadioaaW.PrintLast Go.Proofs.YtnjnogkhbadioaaW.PrintMore
attribute [local go_sem] max2_int min2_int max_two min_two max_three min_three max_four min_four   -- for this text's walks alone
set_option linter.unusedVariables false
set_option linter.unusedSimpArgs false

/-! ### hopperref04_Small: function 42 -/
def hopperref04_Small.f (a0_0 : Int) (a0_1 : Int) (a0_2 : Int) (a0_3 : Int) (a0_4 : Int) (a0_5 : ByteArray) : Option (Bool) := some (decide ((a0_5.size : Int) ≤ 500))
set_option maxHeartbeats 8000000 in
set_option maxRecDepth 100000 in
theorem hopperref04_Small.calls (a0_0 : Int) (a0_1 : Int) (a0_2 : Int) (a0_3 : Int) (a0_4 : Int) (a0_5 : ByteArray) (r : Bool) (w : World) (h : hopperref04_Small.f a0_0 a0_1 a0_2 a0_3 a0_4 a0_5 = some r) :
    Calls Try.prog 42 #[.agg #[.int .i64 a0_0, .int .i64 a0_1, .int .i64 a0_2, .int .i64 a0_3, .int .i64 a0_4, .string a0_5]] w fun e w' => e = .returned (.bool r) ∧ Below w.heap.size w w' := by
  have hu32 := Try.underlying32
  have HB := Aside0.mk (Below.refl w.heap.size w)
  have H : (some (decide ((a0_5.size : Int) ≤ 500))) = some r := h
  clear h
  obtain rfl := Option.some.inj H
  go_enter Try.func42, Try.ntmps42
  go_wp2_with (first | ((with_reducible refine gate_dst (N := 1) rfl ?_); refine box_event ?hg (N := 1) ?hd (cs := #[.int .i64 a0_0, .int .i64 a0_1, .int .i64 a0_2, .int .i64 a0_3, .int .i64 a0_4, .string a0_5]) (t := 32) ?hr ?_; (case hd => rfl); (case hg => rfl); (case hr => first | (go_simp; done) | (go_simp; rfl)); intro gb101 hg w2 hbox hb; have n0_ := Aside0.mk (below_step (by repeat (first | (with_reducible first | exact HB.out | apply below_alloc | apply pw_below_drewN | apply below_drew1) | exact HB.out)) hb); have n1_ := Aside0.mk (hbox); have n2_ := Aside0.mk ((by rw [hg]; exact (below_size (by repeat (first | (with_reducible first | exact HB.out | apply below_alloc | apply pw_below_drewN | apply below_drew1) | exact HB.out))) : w.heap.size ≤ gb101)); have n3_ := Aside0.mk ((by rw [hg]; exact (below_size (by repeat (first | (with_reducible first | exact HB.out | apply below_alloc | apply pw_below_drewN | apply below_drew1) | exact HB.out))) : w.heap.size ≤ gb101)); clear HB; have HB := n0_; have BK101 := n1_; have GW101 := n2_; have GE101 := n3_; clear n0_ n1_ n2_ n3_; clear hb hbox hg; have hcz3_0 : w2.cell? ⟨gb101, 0, none⟩ = some (.int .i64 a0_0) := (blk_cell BK101.out 0).trans rfl; have hcz3_1 : w2.cell? ⟨gb101, 1, none⟩ = some (.int .i64 a0_1) := (blk_cell BK101.out 1).trans rfl; have hcz3_2 : w2.cell? ⟨gb101, 2, none⟩ = some (.int .i64 a0_2) := (blk_cell BK101.out 2).trans rfl; have hcz3_3 : w2.cell? ⟨gb101, 3, none⟩ = some (.int .i64 a0_3) := (blk_cell BK101.out 3).trans rfl; have hcz3_4 : w2.cell? ⟨gb101, 4, none⟩ = some (.int .i64 a0_4) := (blk_cell BK101.out 4).trans rfl; have hcz3_5 : w2.cell? ⟨gb101, 5, none⟩ = some (.string a0_5) := (blk_cell BK101.out 5).trans rfl; have hfz3_0 := blk_frozen BK101.out 0; have hfz3_1 := blk_frozen BK101.out 1; have hfz3_2 := blk_frozen BK101.out 2; have hfz3_3 := blk_frozen BK101.out 3; have hfz3_4 := blk_frozen BK101.out 4; have hfz3_5 := blk_frozen BK101.out 5))
  go_ret
  exact ⟨by first | rfl | (simp [errW_none, errW_some] <;> rfl) | (simp [*, errW_none, errW_some] <;> rfl), by repeat (first | (with_reducible first | exact HB.out | apply below_alloc | apply pw_below_drewN | apply below_drew1 | refine below_set ?_ GE101.out) | exact HB.out)⟩

/-! ### hopperref04_Few: function 24 -/
def hopperref04_Few.l0 : Nat → List (S32) → Int → Int → Option (Bool)
 | 0, _, _, _ => none
 | k + 1, x0, x1, x5 => if x5 < (x0.length : Int) then (if 0 ≤ x5 then ((hopperref04_Small.f ((rd_T32 x0 x5).f0) ((rd_T32 x0 x5).f1) ((rd_T32 x0 x5).f2) ((rd_T32 x0 x5).f3) ((rd_T32 x0 x5).f4) ((rd_T32 x0 x5).f5)).bind fun t103 => (if t103 = true then (hopperref04_Few.l0 k x0 x1 (wrap64 (x5 + 1))) else (some false))) else (none)) else (some (decide ((x0.length : Int) ≤ x1)))
def hopperref04_Few.f (k : Nat) (l0 : List (S32)) (a1 : Int) : Option (Bool) := hopperref04_Few.l0 k l0 a1 0
theorem hopperref04_Few.mono_l : ∀ k, (∀ y0 y1 y2, LeO (hopperref04_Few.l0 k y0 y1 y2) (hopperref04_Few.l0 (k + 1) y0 y1 y2))
 | 0 => fun _ _ _ r h => by simp [hopperref04_Few.l0] at h
 | k + 1 => by
  have ih0 := hopperref04_Few.mono_l k
  · intro y0 y1 y2
    unfold hopperref04_Few.l0
    repeat' first
    | (with_reducible exact ih0 _ _ _)
    | (with_reducible exact LeO.refl _)
    | (with_reducible exact LeO.none _)
    | (with_reducible refine LeO.ite ?_ ?_)
    | (with_reducible refine LeO.bind ?_ (fun _ => ?_))
    | exact ih0 _ _ _
    | exact LeO.none _
    | refine LeO.ite ?_ ?_
    | refine LeO.bind ?_ (fun _ => ?_)
theorem hopperref04_Few.mono : ∀ a0 a1 k, LeO (hopperref04_Few.f k a0 a1) (hopperref04_Few.f (k + 1) a0 a1) := by
 intro a0 a1 k
 have ih0 := hopperref04_Few.mono_l k
 unfold hopperref04_Few.f
 repeat' first
  | (with_reducible exact ih0 _ _ _)
  | (with_reducible exact LeO.refl _)
  | (with_reducible exact LeO.none _)
  | (with_reducible refine LeO.ite ?_ ?_)
  | (with_reducible refine LeO.bind ?_ (fun _ => ?_))
  | exact ih0 _ _ _
  | exact LeO.none _
  | refine LeO.ite ?_ ?_
  | refine LeO.bind ?_ (fun _ => ?_)
set_option maxHeartbeats 8000000 in
set_option maxRecDepth 100000 in
theorem hopperref04_Few.calls (k : Nat) (A0 : Option Addr) (c0 : Nat) (l0 : List (S32)) (a1 : Int) (r : Bool) (w : World) (hr0 : Kd.C k32 w A0 l0.length l0) (hc0 : l0.length ≤ c0) (h : hopperref04_Few.f k l0 a1 = some r) :
 Calls Try.prog 24 #[.slice A0 l0.length c0, .int .i64 a1] w fun e w' => e = .returned (.bool r) ∧ Below w.heap.size w w' := by
 have hu32 := Try.underlying32
 have HR0 := A_ hr0
 have HC0 := A_ hc0
 clear hr0 hc0; have HB := A_ (Below.refl w.heap.size w)
 have H : (hopperref04_Few.l0 k l0 a1 0) = some r := h
 clear h
 have H' := A_ H
 clear H
 go_enter Try.func24, Try.ntmps24
 go_wp2
 go_loopg [5] k (fun kq v5 w' => ∃ (x5_1 : Int), v5 = .int .i64 x5_1 ∧ Aside0 (hopperref04_Few.l0 kq l0 a1 x5_1 = some r) ∧ Aside0 (kq ≤ k) ∧ Aside0 (Below w.heap.size w w'))
 case atStart => exact ⟨(0), (by first | rfl | (simp; done) | (simp [*]; done)), H', ⟨Nat.le_refl _⟩, ⟨by repeat (first | (with_reducible first | exact HB.out | apply wa_ | apply wn_ | apply wd_) | exact HB.out)⟩⟩
 case round =>
  clear H'; (try clear c2); (try clear p2)
  obtain ⟨x5_1, rfl, HA, HK1, HB⟩ := hrel
  cases gk with
  | zero => exact absurd HA.out (by simp [hopperref04_Few.l0])
  | succ k1 =>
   have H := HA.out
   clear HA
   simp only [hopperref04_Few.l0] at H
   by_cases c3 : x5_1 < (l0.length : Int)
   rotate_left
   · rw [if_neg c3] at H
     have c3b0 : decide (x5_1 < (l0.length : Int)) = false := decide_eq_false c3
     clear c3
     obtain rfl := Option.some.inj H
     go_wp2
     go_ret
     exact ⟨by first | rfl | (simp [errW_none, errW_some] <;> rfl) | (simp [*, errW_none, errW_some] <;> rfl), by repeat (first | (with_reducible first | exact HB.out | apply wa_ | apply wn_ | apply wd_) | exact HB.out)⟩

   rw [if_pos c3] at H
   have c3b0 : decide (x5_1 < (l0.length : Int)) = true := decide_eq_true c3
   clear c3
   by_cases c4 : 0 ≤ x5_1
   rotate_left
   · rw [if_neg c4] at H
     exact absurd H (by simp)
   rw [if_pos c4] at H
   have c4b0 : decide (0 ≤ x5_1) = true := decide_eq_true c4
   clear c4
   replace H := Option.bind_eq_some_iff.mp H
   obtain ⟨t103, A50, H⟩ := H
   try dsimp only at H
   have A5 := A_ A50
   clear A50
   by_cases c6 : t103 = true
   · subst c6
     have H1 : (hopperref04_Few.l0 k1 l0 a1 (wrap64 (x5_1 + 1))) = some r := by rw [if_pos rfl] at H; exact H
     clear H
     have H := H1
     clear H1
     have H' := A_ H
     clear H
     have p102 : 0 ≤ (x5_1 : Int) := of_decide_eq_true (by first | (with_reducible assumption) | assumption)
     have q102 : x5_1 < (l0.length : Int) := of_decide_eq_true (by first | (with_reducible assumption) | assumption)
     obtain ⟨ad102, e102, hx102_0, hx102_1, hx102_2, hx102_3, hx102_4, hx102_5⟩ := at_T32 HR0.out x5_1 p102 q102
     cases e102
     replace hx102_0 := on_ HB.out hx102_0
     replace hx102_1 := on_ HB.out hx102_1
     replace hx102_2 := on_ HB.out hx102_2
     replace hx102_3 := on_ HB.out hx102_3
     replace hx102_4 := on_ HB.out hx102_4
     replace hx102_5 := on_ HB.out hx102_5
     replace p102 := eq_true p102
     replace q102 := eq_true q102
     go_wp2_with (first | ((with_reducible refine gate_callee (f := 42) rfl ?_); refine goesL_ (some 16) rfl rfl Try.func42 (by kernel_rfl) rfl #[.agg #[.int .i64 ((rd_T32 l0 x5_1).f0), .int .i64 ((rd_T32 l0 x5_1).f1), .int .i64 ((rd_T32 l0 x5_1).f2), .int .i64 ((rd_T32 l0 x5_1).f3), .int .i64 ((rd_T32 l0 x5_1).f4), .string ((rd_T32 l0 x5_1).f5)]] rfl (by (try simp only [m0_, m1_, m2_]); first | done | rfl) ?_; (with_reducible refine (hopperref04_Small.calls ((rd_T32 l0 x5_1).f0) ((rd_T32 l0 x5_1).f1) ((rd_T32 l0 x5_1).f2) ((rd_T32 l0 x5_1).f3) ((rd_T32 l0 x5_1).f4) ((rd_T32 l0 x5_1).f5) true _ A5.out).mono ?_); rintro e w7 ⟨rfl, hb⟩; refine ⟨_, rfl, ?_⟩; replace HB := A_ (below_step bw_ hb); (try clear hb); (try clear hb2); (try clear hk); (try clear hi)))
     go_roundg k1
     case measure => have := HK1.out; omega
     case rel => exact ⟨(wrap64 (x5_1 + 1)), (by first | rfl | (simp; done) | (simp [*]; done)), H', ⟨by have := HK1.out; omega⟩, ⟨by repeat (first | (with_reducible first | exact HB.out | apply wa_ | apply wn_ | apply wd_) | exact HB.out)⟩⟩
   · replace c6 := Bool.eq_false_iff.mpr c6
     subst c6
     have H1 : (some false) = some r := by rw [if_neg (show ¬ (false = true) by decide)] at H; exact H
     clear H
     have H := H1
     clear H1
     obtain rfl := Option.some.inj H
     have p102 : 0 ≤ (x5_1 : Int) := of_decide_eq_true (by first | (with_reducible assumption) | assumption)
     have q102 : x5_1 < (l0.length : Int) := of_decide_eq_true (by first | (with_reducible assumption) | assumption)
     obtain ⟨ad102, e102, hx102_0, hx102_1, hx102_2, hx102_3, hx102_4, hx102_5⟩ := at_T32 HR0.out x5_1 p102 q102
     cases e102
     replace hx102_0 := on_ HB.out hx102_0
     replace hx102_1 := on_ HB.out hx102_1
     replace hx102_2 := on_ HB.out hx102_2
     replace hx102_3 := on_ HB.out hx102_3
     replace hx102_4 := on_ HB.out hx102_4
     replace hx102_5 := on_ HB.out hx102_5
     replace p102 := eq_true p102
     replace q102 := eq_true q102
     go_wp2_with (first | ((with_reducible refine gate_callee (f := 42) rfl ?_); refine goesL_ (some 16) rfl rfl Try.func42 (by kernel_rfl) rfl #[.agg #[.int .i64 ((rd_T32 l0 x5_1).f0), .int .i64 ((rd_T32 l0 x5_1).f1), .int .i64 ((rd_T32 l0 x5_1).f2), .int .i64 ((rd_T32 l0 x5_1).f3), .int .i64 ((rd_T32 l0 x5_1).f4), .string ((rd_T32 l0 x5_1).f5)]] rfl (by (try simp only [m0_, m1_, m2_]); first | done | rfl) ?_; (with_reducible refine (hopperref04_Small.calls ((rd_T32 l0 x5_1).f0) ((rd_T32 l0 x5_1).f1) ((rd_T32 l0 x5_1).f2) ((rd_T32 l0 x5_1).f3) ((rd_T32 l0 x5_1).f4) ((rd_T32 l0 x5_1).f5) false _ A5.out).mono ?_); rintro e w8 ⟨rfl, hb⟩; refine ⟨_, rfl, ?_⟩; replace HB := A_ (below_step bw_ hb); (try clear hb); (try clear hb2); (try clear hk); (try clear hi)))
     go_ret
     exact ⟨by first | rfl | (simp [errW_none, errW_some] <;> rfl) | (simp [*, errW_none, errW_some] <;> rfl), by repeat (first | (with_reducible first | exact HB.out | apply wa_ | apply wn_ | apply wd_) | exact HB.out)⟩
/-! ### hopperref11_Few: function 7 -/
def hopperref11_Few.l0 : Nat → List (S46) → Int → Int → Option (Bool)
 | 0, _, _, _ => none
 | k + 1, x0, x1, x5 => if x5 < (x0.length : Int) then (if 0 ≤ x5 then ((hopperref04_Few.f k ((rd_T46 x0 x5).f2) 20).bind fun t105 => (if t105 = true then (hopperref11_Few.l0 k x0 x1 (wrap64 (x5 + 1))) else (some false))) else (none)) else (some (decide ((x0.length : Int) ≤ x1)))
def hopperref11_Few.f (k : Nat) (l0 : List (S46)) (a1 : Int) : Option (Bool) := hopperref11_Few.l0 k l0 a1 0
theorem hopperref11_Few.mono_l : ∀ k, (∀ y0 y1 y2, LeO (hopperref11_Few.l0 k y0 y1 y2) (hopperref11_Few.l0 (k + 1) y0 y1 y2))
 | 0 => fun _ _ _ r h => by simp [hopperref11_Few.l0] at h
 | k + 1 => by
  have ih0 := hopperref11_Few.mono_l k
  · intro y0 y1 y2
    unfold hopperref11_Few.l0
    repeat' first
    | (with_reducible exact ih0 _ _ _)
    | (with_reducible exact hopperref04_Few.mono _ _ _)
    | (with_reducible exact LeO.refl _)
    | (with_reducible exact LeO.none _)
    | (with_reducible refine LeO.ite ?_ ?_)
    | (with_reducible refine LeO.bind ?_ (fun _ => ?_))
    | exact ih0 _ _ _
    | exact hopperref04_Few.mono _ _ _
    | exact LeO.none _
    | refine LeO.ite ?_ ?_
    | refine LeO.bind ?_ (fun _ => ?_)
theorem hopperref11_Few.mono : ∀ a0 a1 k, LeO (hopperref11_Few.f k a0 a1) (hopperref11_Few.f (k + 1) a0 a1) := by
 intro a0 a1 k
 have ih0 := hopperref11_Few.mono_l k
 unfold hopperref11_Few.f
 repeat' first
  | (with_reducible exact ih0 _ _ _)
  | (with_reducible exact hopperref04_Few.mono _ _ _)
  | (with_reducible exact LeO.refl _)
  | (with_reducible exact LeO.none _)
  | (with_reducible refine LeO.ite ?_ ?_)
  | (with_reducible refine LeO.bind ?_ (fun _ => ?_))
  | exact ih0 _ _ _
  | exact hopperref04_Few.mono _ _ _
  | exact LeO.none _
  | refine LeO.ite ?_ ?_
  | refine LeO.bind ?_ (fun _ => ?_)
set_option maxHeartbeats 8000000 in
set_option maxRecDepth 100000 in
theorem hopperref11_Few.calls (k : Nat) (A0 : Option Addr) (c0 : Nat) (l0 : List (S46)) (a1 : Int) (r : Bool) (w : World) (hr0 : Kd.C k46 w A0 l0.length l0) (hc0 : l0.length ≤ c0) (h : hopperref11_Few.f k l0 a1 = some r) :
 Calls Try.prog 7 #[.slice A0 l0.length c0, .int .i64 a1] w fun e w' => e = .returned (.bool r) ∧ Below w.heap.size w w' := by
 have HR0 := A_ hr0
 have HC0 := A_ hc0
 clear hr0 hc0; have HB := A_ (Below.refl w.heap.size w)
 have H : (hopperref11_Few.l0 k l0 a1 0) = some r := h
 clear h
 have H' := A_ H
 clear H
 go_enter Try.func7, Try.ntmps7
 go_wp2
 go_loopg [5] k (fun kq v5 w' => ∃ (x5_1 : Int), v5 = .int .i64 x5_1 ∧ Aside0 (hopperref11_Few.l0 kq l0 a1 x5_1 = some r) ∧ Aside0 (kq ≤ k) ∧ Aside0 (Below w.heap.size w w'))
 case atStart => exact ⟨(0), (by first | rfl | (simp; done) | (simp [*]; done)), H', ⟨Nat.le_refl _⟩, ⟨by repeat (first | (with_reducible first | exact HB.out | apply wa_ | apply wn_ | apply wd_) | exact HB.out)⟩⟩
 case round =>
  clear H'; (try clear p2)
  obtain ⟨x5_1, rfl, HA, HK1, HB⟩ := hrel
  cases gk with
  | zero => exact absurd HA.out (by simp [hopperref11_Few.l0])
  | succ k1 =>
   have H := HA.out
   clear HA
   simp only [hopperref11_Few.l0] at H
   by_cases c3 : x5_1 < (l0.length : Int)
   rotate_left
   · rw [if_neg c3] at H
     have c3b0 : decide (x5_1 < (l0.length : Int)) = false := decide_eq_false c3
     clear c3
     obtain rfl := Option.some.inj H
     go_wp2
     go_ret
     exact ⟨by first | rfl | (simp [errW_none, errW_some] <;> rfl) | (simp [*, errW_none, errW_some] <;> rfl), by repeat (first | (with_reducible first | exact HB.out | apply wa_ | apply wn_ | apply wd_) | exact HB.out)⟩

   rw [if_pos c3] at H
   have c3b0 : decide (x5_1 < (l0.length : Int)) = true := decide_eq_true c3
   clear c3
   by_cases c4 : 0 ≤ x5_1
   rotate_left
   · rw [if_neg c4] at H
     exact absurd H (by simp)
   rw [if_pos c4] at H
   have c4b0 : decide (0 ≤ x5_1) = true := decide_eq_true c4
   clear c4
   replace H := Option.bind_eq_some_iff.mp H
   obtain ⟨t105, A50, H⟩ := H
   try dsimp only at H
   have A5 := A_ A50
   clear A50
   by_cases c6 : t105 = true
   · subst c6
     have H1 : (hopperref11_Few.l0 k1 l0 a1 (wrap64 (x5_1 + 1))) = some r := by rw [if_pos rfl] at H; exact H
     clear H
     have H := H1
     clear H1
     have H' := A_ H
     clear H
     have p104 : 0 ≤ (x5_1 : Int) := of_decide_eq_true (by first | (with_reducible assumption) | assumption)
     have q104 : x5_1 < (l0.length : Int) := of_decide_eq_true (by first | (with_reducible assumption) | assumption)
     obtain ⟨ad104, A104_2, c104_2, e104, hx104_0, hx104_1, hx104_2, hl104_2, hi104_2⟩ := at_T46 HR0.out x5_1 p104 q104
     cases e104
     replace hx104_0 := on_ HB.out hx104_0
     replace hx104_1 := on_ HB.out hx104_1
     replace hx104_2 := on_ HB.out hx104_2
     have HR104_2 := A_ hi104_2
     have HC104_2 := A_ hl104_2
     clear hi104_2 hl104_2
     replace p104 := eq_true p104
     replace q104 := eq_true q104
     go_wp2_with (first | ((with_reducible refine gate_callee (f := 24) rfl ?_); refine goesL_ (some 17) rfl rfl Try.func24 (by kernel_rfl) rfl #[.slice A104_2 ((rd_T46 l0 x5_1).f2).length c104_2, .int .i64 20] rfl (by (try simp only [m0_, m1_, m2_]); first | done | rfl) ?_; (with_reducible refine (hopperref04_Few.calls k1 _ _ ((rd_T46 l0 x5_1).f2) 20 true _ ?side1 ?side2 A5.out).mono ?_); (case side1 => repeat (first | exact (Kd.C_below HR104_2.out HB.out) | (with_reducible refine ca_ ?_ _) | (with_reducible refine cn_ ?_ _) | (with_reducible refine cd_ ?_))); (case side2 => exact HC104_2.out); rintro e w7 ⟨rfl, hb⟩; refine ⟨_, rfl, ?_⟩; replace HB := A_ (below_step bw_ hb); (try clear hb); (try clear hb2); (try clear hk); (try clear hi)))
     go_roundg k1
     case measure => have := HK1.out; omega
     case rel => exact ⟨(wrap64 (x5_1 + 1)), (by first | rfl | (simp; done) | (simp [*]; done)), H', ⟨by have := HK1.out; omega⟩, ⟨by repeat (first | (with_reducible first | exact HB.out | apply wa_ | apply wn_ | apply wd_) | exact HB.out)⟩⟩
   · replace c6 := Bool.eq_false_iff.mpr c6
     subst c6
     have H1 : (some false) = some r := by rw [if_neg (show ¬ (false = true) by decide)] at H; exact H
     clear H
     have H := H1
     clear H1
     obtain rfl := Option.some.inj H
     have p104 : 0 ≤ (x5_1 : Int) := of_decide_eq_true (by first | (with_reducible assumption) | assumption)
     have q104 : x5_1 < (l0.length : Int) := of_decide_eq_true (by first | (with_reducible assumption) | assumption)
     obtain ⟨ad104, A104_2, c104_2, e104, hx104_0, hx104_1, hx104_2, hl104_2, hi104_2⟩ := at_T46 HR0.out x5_1 p104 q104
     cases e104
     replace hx104_0 := on_ HB.out hx104_0
     replace hx104_1 := on_ HB.out hx104_1
     replace hx104_2 := on_ HB.out hx104_2
     have HR104_2 := A_ hi104_2
     have HC104_2 := A_ hl104_2
     clear hi104_2 hl104_2
     replace p104 := eq_true p104
     replace q104 := eq_true q104
     go_wp2_with (first | ((with_reducible refine gate_callee (f := 24) rfl ?_); refine goesL_ (some 17) rfl rfl Try.func24 (by kernel_rfl) rfl #[.slice A104_2 ((rd_T46 l0 x5_1).f2).length c104_2, .int .i64 20] rfl (by (try simp only [m0_, m1_, m2_]); first | done | rfl) ?_; (with_reducible refine (hopperref04_Few.calls k1 _ _ ((rd_T46 l0 x5_1).f2) 20 false _ ?side1 ?side2 A5.out).mono ?_); (case side1 => repeat (first | exact (Kd.C_below HR104_2.out HB.out) | (with_reducible refine ca_ ?_ _) | (with_reducible refine cn_ ?_ _) | (with_reducible refine cd_ ?_))); (case side2 => exact HC104_2.out); rintro e w8 ⟨rfl, hb⟩; refine ⟨_, rfl, ?_⟩; replace HB := A_ (below_step bw_ hb); (try clear hb); (try clear hb2); (try clear hk); (try clear hi)))
     go_ret
     exact ⟨by first | rfl | (simp [errW_none, errW_some] <;> rfl) | (simp [*, errW_none, errW_some] <;> rfl), by repeat (first | (with_reducible first | exact HB.out | apply wa_ | apply wn_ | apply wd_) | exact HB.out)⟩
-- NOT PRINTED: function 59 (api_Account_59)

-- NOT PRINTED: function 83 (api_Account_83)

-- NOT PRINTED: function 74 (api_Account_74)

-- NOT PRINTED: function 60 (api_Account_60)

-- NOT PRINTED: function 46 (api_Account_46)

-- NOT PRINTED: function 27 (api_Account_27)

/-! ### shard_Join: function 9, by hand -/
-- HAND rounds=0 making=1 share=0 rsh=0:N
-- IMPORT Derived.Test.YtnjnogkhbadioaaRowN
-- IMPORT Derived.Test.YtnjnogkhbadioaaSortN
-- IMPORT Derived.Test.YtnjnogkhbadioaaStabK
-- IMPORT Derived.Shelf.SlSortCmp.InsertionK
/-- An account, with where its row lies. -/
structure AC where
  x : S46
  A : Option Addr
  c : Nat
instance : Inhabited AC := ⟨⟨⟨0, 0, []⟩, none, 0⟩⟩
def encAC (a : AC) : List Value := [.int .i64 a.x.f0, .int .i64 a.x.f1, .slice a.A a.x.f2.length a.c]
def keyAC (a : AC) : Int := a.x.f0
theorem encAC_len (a : AC) : (encAC a).length = 3 := rfl
theorem encAC_one (a : AC) : ∀ v ∈ encAC a, v.oneCell' = true := by
  intro v hv
  simp only [encAC, List.mem_cons, List.not_mem_nil, or_false] at hv
  rcases hv with rfl | rfl | rfl <;> rfl
theorem cmpAC (x y : AC) : Go.Lib.compareInt (keyAC x) (keyAC y) < 0 ↔ keyAC x < keyAC y := by
  unfold Go.Lib.compareInt
  constructor
  · intro h
    split at h
    · assumption
    · split at h <;> omega
  · intro h
    rw [if_pos h]
    omega
theorem shard_Join.sf : SymK.SF Try.prog 3 := {
  mixed := by kernel_rfl
  tn := Try.underlying0
  an := Try.isAgg0
  zn := Try.sizeOf0
  vn := Try.zeroValue0
  ti := Try.underlying3
  ai := Try.isAgg3
  zi := Try.sizeOf3
  vi := Try.zeroValue3
  tb := Try.underlying4
  ab := Try.isAgg4
  zb := Try.sizeOf4
  vb := Try.zeroValue4
  ts := Try.underlying24
  as_ := Try.isAgg24
  zs := Try.sizeOf24
  vs := Try.zeroValue24
  tf := Try.underlying60
  af := Try.isAgg60
  zf := Try.sizeOf60
  vf := Try.zeroValue60
  tu := Try.underlying98
  au := Try.isAgg98
  zu := Try.sizeOf98
  vu := Try.zeroValue98
  aE := Try.isAgg46
  zE := Try.sizeOf46
  fsw := Try.func83
  fro := Try.func74
  fsy := Try.func60 }
def shard_Join.ren : Go.Shelf.Ren := ⟨fun | 20 => 59 | n => n, fun | 0 => 0 | 3 => 3 | 4 => 4 | 22 => 24 | 24 => 46 | 25 => 60 | n => n, fun | n => n⟩
theorem shard_Join.lay : Go.Proofs.SlLaysF0.n20 Try.prog shard_Join.ren := {
  mixed := by kernel_rfl
  f20 := ⟨Try.f59.name, by decide, Try.func59.trans (congrArg some (by kernel_rfl))⟩
  t0 := Try.underlying0
  a0 := Try.isAgg0
  z0 := Try.sizeOf0
  v0 := Try.zeroValue0
  t3 := Try.underlying3
  a3 := Try.isAgg3
  z3 := Try.sizeOf3
  v3 := Try.zeroValue3
  t4 := Try.underlying4
  a4 := Try.isAgg4
  z4 := Try.sizeOf4
  v4 := Try.zeroValue4
  t22 := Try.underlying24
  a22 := Try.isAgg24
  z22 := Try.sizeOf24
  v22 := Try.zeroValue24
  t25 := Try.underlying60
  a25 := Try.isAgg60
  z25 := Try.sizeOf60
  v25 := Try.zeroValue60 }
set_option maxHeartbeats 1000000 in
theorem shard_Join.nan (a : Int) (W : World) : Calls Try.prog 47 #[.int .i64 a] W fun e w' => e = .returned (.bool false) ∧ w' = W := by
  go_enter Try.func47, Try.ntmps47
  go_wp2
  go_ret
  exact ⟨by simp, rfl⟩
set_option maxHeartbeats 1000000 in
theorem shard_Join.cmp (a b : Int) (W : World) : Calls Try.prog 29 #[.int .i64 a, .int .i64 b] W fun e w' => e = .returned (.int .i64 (Go.Lib.compareInt a b)) ∧ w' = W := by
  unfold Go.Lib.compareInt
  rcases Int.lt_trichotomy a b with h | h | h
  · rw [if_pos h]
    go_enter Try.func29, Try.ntmps29
    go_wp2_with (go_at_call 47; refine (shard_Join.nan _ _).mono ?_; rintro e w' ⟨rfl, rfl⟩)
    go_ret
    exact ⟨rfl, rfl⟩
  · subst h
    rw [if_neg (by omega), if_neg (by omega)]
    go_enter Try.func29, Try.ntmps29
    go_wp2_with (go_at_call 47; refine (shard_Join.nan _ _).mono ?_; rintro e w' ⟨rfl, rfl⟩)
    go_ret
    exact ⟨rfl, rfl⟩
  · rw [if_neg (by omega), if_pos h]
    have h2 : ¬ a < b := by omega
    go_enter Try.func29, Try.ntmps29
    go_wp2_with (go_at_call 47; refine (shard_Join.nan _ _).mono ?_; rintro e w' ⟨rfl, rfl⟩)
    go_ret
    exact ⟨rfl, rfl⟩
set_option maxHeartbeats 1000000 in
theorem shard_Join.closure (x y : AC) (W : World) : Calls Try.prog 28 #[.agg #[.int .i64 x.x.f0, .int .i64 x.x.f1, .slice x.A x.x.f2.length x.c], .agg #[.int .i64 y.x.f0, .int .i64 y.x.f1, .slice y.A y.x.f2.length y.c]] W fun e w' => e = .returned (.int .i64 (Go.Lib.compareInt (keyAC x) (keyAC y))) ∧ ∃ q os', w' = Go.Sort.grow (W.drewN q) os' := by
  have hcon := fun W' => shard_Join.cmp (keyAC x) (keyAC y) W'
  generalize Go.Lib.compareInt (keyAC x) (keyAC y) = r at hcon ⊢
  unfold keyAC at hcon
  go_enter Try.func28, Try.ntmps28
  go_wp2_with (go_at_call 29; refine (hcon _).mono ?_; rintro e w' ⟨rfl, rfl⟩)
  go_ret
  exact ⟨rfl, 0, _, by rw [Go.Sort.alloc_eq_grow, Go.Sort.alloc_eq_grow, Go.Sort.grow_grow]; rfl⟩
theorem shard_Join.calls28 (x y : AC) (W : World) : Calls Try.prog 28 (#[.agg (encAC x).toArray, .agg (encAC y).toArray] ++ #[]) W fun e w' => e = .returned (.int .i64 (Go.Lib.compareInt (keyAC x) (keyAC y))) ∧ ∃ q os', w' = Go.Sort.grow (W.drewN q) os' := shard_Join.closure x y W
theorem shard_Join.ins (blk cap : Nat) (d0 : Array AC) (w0 : World) (R : Go.Proofs.RowK encAC 3 w0 blk 0 d0) (hsz : d0.size < 2305843009213693952) : SymK.Ins Try.prog keyAC encAC 3 28 #[] blk 0 cap d0 w0 := by
  intro a b d w hs S hab hb
  have eg : ∀ args w, (callFunc 28 args).run Try.prog w = .ok (.enter 28 args) w := enters_of Try.func28 (by kernel_rfl) rfl
  have hc := Go.Proofs.AnyQ.insertionSortCmpFunc shard_Join.lay 3 Try.isAgg46 Try.sizeOf46 encAC encAC_len encAC_one (fun x y => Go.Lib.compareInt (keyAC x) (keyAC y)) 28 #[] blk 0 cap a b d w eg (fun m os dk _ x y => shard_Join.calls28 x y _) (S.holds R.hblk R.hH hs.symm) (S.lt R.hblk) hab hb (by omega)
  change Calls Try.prog 59 _ _ _ at hc
  refine hc.mono ?_
  rintro e w' ⟨rfl, m, os, rfl⟩
  have hl : ∀ x y : AC, Go.Proofs.ltOf (fun x y => Go.Lib.compareInt (keyAC x) (keyAC y)) x y = decide (keyAC x < keyAC y) := fun x y => by
    unfold Go.Proofs.ltOf
    exact decide_eq_decide.2 (cmpAC x y)
  obtain ⟨h1, h2⟩ := StableK.ins_all hl d a b hab hb
  exact ⟨rfl, _, h1, h2, S.on R.hblk m _ os h1.1⟩
set_option maxHeartbeats 1000000 in
theorem shard_Join.insNil (w : World) (f : Value) : Calls Try.prog 59 #[.slice none 0 0, .int .i64 0, .int .i64 0, f] w fun e w' => e = .returned (.tuple #[]) ∧ w' = w := by
  go_enter Try.func59, Try.ntmps59
  go_wp2
  go_loopg [8] 1 (fun gg s8 wr => s8 = .int .i64 1 ∧ wr = w)
  case atStart => exact ⟨rfl, rfl⟩
  case round =>
    obtain ⟨rfl, rfl⟩ := hrel
    go_wp2
    go_end0
    exact ⟨rfl, rfl⟩
set_option maxHeartbeats 1000000 in
theorem shard_Join.stabNil (w : World) (f : Value) : Calls Try.prog 46 #[.slice none 0 0, .int .i64 0, f] w fun e w' => e = .returned (.tuple #[]) ∧ w' = w := by
  go_enter Try.func46, Try.ntmps46
  go_wp2
  go_loopg [7, 8] 1 (fun gg s7 s8 wr => s7 = .int .i64 0 ∧ s8 = .int .i64 20 ∧ wr = w)
  case atStart => exact ⟨rfl, rfl, rfl⟩
  case round =>
    obtain ⟨rfl, rfl, rfl⟩ := hrel
    go_wp2_with (go_at_call 59; refine (shard_Join.insNil _ _).mono ?_; rintro e w' ⟨rfl, rfl⟩)
    go_loopg [6] 1 (fun gg s6 wr => s6 = .int .i64 20 ∧ wr = w')
    case atStart => exact ⟨rfl, rfl⟩
    case round =>
      obtain ⟨rfl, rfl⟩ := hrel
      go_wp2
      go_end0
      exact ⟨rfl, rfl⟩
set_option maxHeartbeats 1000000 in
/-- A row of accounts of the call's own, sorted by their senders. -/
theorem shard_Join.sorts (base : Nat) (v : Value) (Y : List AC) (W : World) (HO : W.ownsRow base 46 3 v Y.length (Y.map encAC).flatten) (hbig : Y.length < 2305843009213693952) :
    Calls Try.prog 27 #[v, .func (.func 28) #[] #[]] W fun e w' => e = .returned (.tuple #[]) ∧ ∃ Y' : List AC, StableK.Sim keyAC Y Y' ∧ Y'.Pairwise (fun x y => keyAC x ≤ keyAC y) ∧ Y'.length = Y.length ∧ w'.ownsRow base 46 3 v Y'.length (Y'.map encAC).flatten ∧ W.grownBy w' v.ownBlock := by
  rcases CopyK.Blk.of HO with ⟨rfl, hz, hz2⟩ | ⟨g, cap, rfl, hbg, hB⟩
  · obtain rfl : Y = [] := List.eq_nil_of_length_eq_zero hz
    go_enter Try.func27, Try.ntmps27
    go_wp2_with (go_at_call 46; refine (shard_Join.stabNil _ _).mono ?_; rintro e w' ⟨rfl, rfl⟩)
    go_end0
    exact ⟨rfl, [], StableK.Sim.refl _, List.Pairwise.nil, rfl, HO, CopyK.grown_refl _ _⟩
  · have hd0 : (Y.map encAC).flatten = (Go.Sort.flatK encAC 3 Y.toArray).toList := by rw [SymK.flat_list encAC_len (by omega)]
    have hH := SymK.blk_holds hB Y.toArray hd0
    have R : Go.Proofs.RowK encAC 3 W g 0 Y.toArray := ⟨encAC_len, encAC_one, hH, hB.lt⟩
    have eg : ∀ args w, (callFunc 28 args).run Try.prog w = .ok (.enter 28 args) w := enters_of Try.func28 (by kernel_rfl) rfl
    have ei : ∀ args w, (callFunc 59 args).run Try.prog w = .ok (.enter 59 args) w := enters_of Try.func59 (by kernel_rfl) rfl
    have hst := SymK.stable shard_Join.sf Try.func46 ei encAC (fun x y => Go.Lib.compareInt (keyAC x) (keyAC y)) cmpAC 28 #[] g 0 cap Y.toArray W eg (fun m os dk _ x y => shard_Join.calls28 x y _) R (by simpa using hbig) (shard_Join.ins g cap Y.toArray W R (by simpa using hbig)) Y.toArray W rfl (Go.Proofs.SWK.start hH)
    rw [List.size_toArray] at hst
    have HST := Aside0.mk hst
    have HBB := Aside0.mk hB
    have HBG := Aside0.mk hbg
    have HD := Aside0.mk hd0
    clear hst hB hbg hd0 hH R HO
    go_enter Try.func27, Try.ntmps27
    go_wp2_with (go_at_call 46; refine HST.out.mono ?_; rintro e w' ⟨rfl, d', T1, R1, S1⟩)
    go_end0
    have hsz : d'.size = Y.length := by rw [T1.1, List.size_toArray]
    obtain ⟨hb2, hg2⟩ := SymK.blk_sorted HBB.out Y.toArray d' HD.out T1.1 S1
    rw [SymK.flat_list encAC_len (by omega)] at hb2
    refine ⟨rfl, d'.toList, by simpa using T1.sim, ?_, by rw [Array.length_toList, hsz], ?_, hg2⟩
    · rw [List.pairwise_iff_getElem]
      intro i j hi hj hij
      rw [Array.length_toList] at hi hj
      have := R1 i j (Nat.zero_le _) hij (by rw [← hsz]; exact hj)
      rw [getElem!_pos d' i hi, getElem!_pos d' j hj] at this
      simpa using this
    · rw [show d'.toList.length = Y.length from hsz]
      exact hb2.own HBG.out
/-- An account laid ahead of all whose sender is not less. -/
def shard_Join.lay1 (a : S46) : List S46 → List S46
  | [] => [a]
  | b :: l => if a.f0 ≤ b.f0 then a :: b :: l else b :: shard_Join.lay1 a l
/-- Accounts by their senders; those of one sender in order. -/
def shard_Join.sort : List S46 → List S46
  | [] => []
  | a :: l => shard_Join.lay1 a (shard_Join.sort l)
theorem shard_Join.lay1_mem (a x : S46) : ∀ (l : List S46), x ∈ shard_Join.lay1 a l ↔ x = a ∨ x ∈ l
  | [] => by simp [shard_Join.lay1]
  | b :: l => by
    rw [shard_Join.lay1]
    split
    · simp
    · rw [List.mem_cons, shard_Join.lay1_mem a x l, List.mem_cons]
      constructor
      · rintro (h | h | h)
        · exact Or.inr (Or.inl h)
        · exact Or.inl h
        · exact Or.inr (Or.inr h)
      · rintro (h | h | h)
        · exact Or.inr (Or.inl h)
        · exact Or.inl h
        · exact Or.inr (Or.inr h)
theorem shard_Join.lay1_sorted (a : S46) : ∀ (l : List S46), l.Pairwise (fun x y => x.f0 ≤ y.f0) → (shard_Join.lay1 a l).Pairwise (fun x y => x.f0 ≤ y.f0)
  | [], _ => List.pairwise_singleton _ _
  | b :: l, h => by
    rw [shard_Join.lay1]
    obtain ⟨h1, h2⟩ := List.pairwise_cons.1 h
    split
    · rename_i c
      refine List.pairwise_cons.2 ⟨fun x hx => ?_, h⟩
      rcases List.mem_cons.1 hx with rfl | hx
      · exact c
      · exact Int.le_trans c (h1 x hx)
    · rename_i c
      refine List.pairwise_cons.2 ⟨fun x hx => ?_, shard_Join.lay1_sorted a l h2⟩
      rcases (shard_Join.lay1_mem a x l).1 hx with rfl | hx
      · omega
      · exact h1 x hx
theorem shard_Join.lay1_sim (a : S46) : ∀ (l : List S46), l.Pairwise (fun x y => x.f0 ≤ y.f0) → StableK.Sim (fun x : S46 => x.f0) (a :: l) (shard_Join.lay1 a l)
  | [], _ => StableK.Sim.refl _
  | b :: l, h => by
    rw [shard_Join.lay1]
    split
    · exact StableK.Sim.refl _
    · rename_i c
      have s1 : StableK.Sim (fun x : S46 => x.f0) ([a] ++ [b] ++ l) ([b] ++ [a] ++ l) := (StableK.Sim.swap (A := [a]) (B := [b]) (by
        intro x hx y hy
        rw [List.mem_singleton] at hx hy
        subst hx hy
        omega)).app (StableK.Sim.refl l)
      exact StableK.Sim.trans (show StableK.Sim _ (a :: b :: l) (b :: a :: l) from s1) ((StableK.Sim.refl [b]).app (shard_Join.lay1_sim a l (List.pairwise_cons.1 h).2))
theorem shard_Join.sort_sorted : ∀ (l : List S46), (shard_Join.sort l).Pairwise (fun x y => x.f0 ≤ y.f0)
  | [] => List.Pairwise.nil
  | a :: l => shard_Join.lay1_sorted a _ (shard_Join.sort_sorted l)
theorem shard_Join.sort_sim : ∀ (l : List S46), StableK.Sim (fun x : S46 => x.f0) l (shard_Join.sort l)
  | [] => StableK.Sim.refl _
  | a :: l => ((StableK.Sim.refl [a]).app (shard_Join.sort_sim l)).trans (shard_Join.lay1_sim a _ (shard_Join.sort_sorted l))
/-- Pairs of accounts' kind, with where their rows lie. -/
theorem shard_Join.acs {w : World} {ok : Nat → Prop} : ∀ {Z : List (S46 × List Value)}, RowN.Prs k46 w ok Z → ∃ Y : List AC, Z = Y.map fun a => (a.x, encAC a)
  | [], _ => ⟨[], rfl⟩
  | z :: Z, h => by
    obtain ⟨Y, rfl⟩ := shard_Join.acs (fun y hy => h y (List.mem_cons_of_mem _ hy) : RowN.Prs k46 w ok Z)
    obtain ⟨A, c, e, _⟩ := k46_open (Kd.FK_now (h z (List.mem_cons_self ..)).2)
    exact ⟨⟨z.1, A, c⟩ :: Y, by rw [List.map_cons]; congr 1; exact Prod.ext rfl e⟩
theorem shard_Join.sim_map {l r : List AC} (h : StableK.Sim keyAC l r) : StableK.Sim (fun x : S46 => x.f0) (l.map AC.x) (r.map AC.x) := fun v => by
  rw [List.filter_map, List.filter_map]
  exact congrArg (List.map AC.x) (h v)
def shard_Join.f (l0 : List S48) : Option (List S46) := if (l0.flatMap fun s => s.f0).length < 2305843009213 then some (shard_Join.sort (l0.flatMap fun s => s.f0)) else none
theorem shard_Join.pick {l0 : List S48} {i : Nat} {x : S48} (h : l0[i]? = some x) : (l0.take (i + 1)).flatMap (fun s => s.f0) = (l0.take i).flatMap (fun s => s.f0) ++ x.f0 := by
  rw [CopyK.take_next h, List.flatMap_append]
  simp
theorem shard_Join.le {l0 : List S48} (i : Nat) : ((l0.take i).flatMap fun s => s.f0).length ≤ (l0.flatMap fun s => s.f0).length := by
  conv => rhs; rw [← List.take_append_drop i l0]
  rw [List.flatMap_append, List.length_append]
  omega
theorem shard_Join.info_ : (Try.prog.info? 46).map (fun i => (i.zero, i.size, i.bytes)) = some (some (.agg #[(.int .i64 0), (.int .i64 0), (.slice none 0 0)]), 3, 40) := by kernel_rfl
set_option maxHeartbeats 8000000 in
set_option maxRecDepth 100000 in
theorem shard_Join.calls (P0_ : Nat → Prop) (A0 : Option Addr) (c0 : Nat) (l0 : List S48) (r : List S46) (w : World) (hs0 : Kd.V k48 48 w w.heap.size (fun k_ => P0_ k_) (.slice A0 l0.length c0) l0) (h : shard_Join.f l0 = some r) :
    Calls Try.prog 9 #[.slice A0 l0.length c0] w fun e w' => ∃ v0_ : Value, e = .returned (v0_) ∧ Kd.N k46 46 w' w.heap.size (fun k_ => (P0_ k_ ∨ w.heap.size ≤ k_)) v0_ r ∧ Below w.heap.size w w' := by
  unfold shard_Join.f at h
  by_cases hl : (l0.flatMap fun s => s.f0).length < 2305843009213
  · rw [if_pos hl] at h
    have HR := Aside0.mk (Option.some.inj h)
    have HL := Aside0.mk hl
    obtain ⟨_, hc0, hF0⟩ := Kd.V_at hs0
    have HF := Aside0.mk (Kd.F_bound hF0)
    have HM := Aside0.mk (Kd.F_max hF0)
    clear h hl hs0 hF0
    go_enter Try.func9, Try.ntmps9
    go_wp2
    go_loopg [3, 5, 8] l0.length (fun kx s3 _ s8 wr => ∃ (i : Nat) (xs : List S46), s8 = .int .i64 i ∧ i ≤ l0.length ∧ l0.length - i ≤ kx ∧ Aside0 (Kd.N k46 46 wr w.heap.size (fun k_ => (P0_ k_ ∨ w.heap.size ≤ k_)) s3 xs) ∧ Aside0 (Below w.heap.size w wr) ∧ Aside0 (xs = (l0.take i).flatMap fun s => s.f0))
    case atStart => exact ⟨0, [], rfl, Nat.zero_le _, Nat.le_refl _, ⟨Kd.N_nil _ _ _ _ _⟩, ⟨Below.refl _ _⟩, ⟨rfl⟩⟩
    case round =>
      obtain ⟨i, xs, rfl, hin, hkx, HN, HB, HX⟩ := hrel
      obtain ⟨A3, c3, rfl⟩ := Kd.N_slice HN.out
      by_cases hlt : i < l0.length
      · have hltz : (i : Int) < (l0.length : Int) := by omega
        obtain ⟨ad, cs, rfl, hcl, hK, hcc, _⟩ := Kd.F_get (Kd.F_below HF.out HB.out) ⟨[], 0⟩ (i : Int) (by omega) (by omega)
        rw [Int.toNat_natCast, List.getD_eq_getElem?_getD, List.getElem?_eq_getElem hlt] at hK
        rw [Int.toNat_natCast] at hcc
        obtain ⟨x, hx⟩ : ∃ x, x = l0[i] := ⟨_, rfl⟩
        have HXI := Aside0.mk (show l0[i]? = some x by rw [hx, List.getElem?_eq_getElem hlt])
        simp only [Option.getD_some] at hK
        rw [← hx] at hK
        obtain ⟨A1, c1, rfl, hc1, hF1⟩ := k48_openF hK
        have u0 : wr.cell? (ad.add (i * 2)) = some (.slice A1 x.f0.length c1) := hcc 0 _ rfl
        have u1 : wr.cell? ⟨(ad.add (i * 2)).block, (ad.add (i * 2)).off + 1, none⟩ = some (.int .i64 x.f1) := by rw [← add_field _ _ 1 (by omega)]; exact hcc 1 _ rfl
        have HF1 := Aside0.mk hF1
        clear hcc hK hF1 hcl hx
        go_upto_region 5 with (fail)
        have HW := Aside0.mk (below_alloc (Below.refl wr.heap.size wr) (.cells #[.slice A1 x.f0.length c1, .int .i64 x.f1] 48))
        have v0 : (wr.alloc (.cells #[.slice A1 x.f0.length c1, .int .i64 x.f1] 48)).cell? ⟨wr.heap.size, 0, none⟩ = some (.slice A1 x.f0.length c1) := (blk_cell (heap_alloc_new _ _) 0).trans rfl
        generalize wr.alloc (.cells #[.slice A1 x.f0.length c1, .int .i64 x.f1] 48) = w2 at HW v0 ⊢
        have HN2 := Aside0.mk (Kd.N_below HN.out HW.out)
        have HF2 := Aside0.mk (Kd.F_below HF1.out HW.out)
        have HB2 := Aside0.mk (below_step HB.out HW.out)
        have HS2 := Aside0.mk HB2.out.size
        have HLN := Aside0.mk (show (xs.length + x.f0.length) * 40 ≤ 140737488355328 by
          have := shard_Join.le (l0 := l0) (i + 1)
          rw [shard_Join.pick HXI.out, List.length_append, ← HX.out] at this
          have := HL.out
          omega)
        have HOK := Aside0.mk (fun k (hk : P0_ k ∧ k < w.heap.size) => (⟨Or.inl hk.1, fun e => by have := Kd.N_base HN2.out k e.symm; have := hk.2; omega⟩ : (P0_ k ∨ w.heap.size ≤ k) ∧ some k ≠ (Value.slice A3 xs.length c3).ownBlock))
        have HFR := Aside0.mk (fun k (hk : w2.heap.size ≤ k) => (Or.inr (by have := HS2.out; omega) : P0_ k ∨ w.heap.size ≤ k))
        clear HN HF1 u0 u1
        have hwi : wrap64 ((i : Int) + 1) = ((i + 1 : Nat) : Int) := by have := HM.out; unfold wrap64; omega
        go_wp2_with (at_builtin; refine Kd.N_append_rows k46 w.heap.size rfl _ _ 24 46 (.agg #[(.int .i64 0), (.int .i64 0), (.slice none 0 0)]) 40 rfl Try.underlying24 shard_Join.info_ rfl (by decide) (by decide) _ xs x.f0 A1 x.f0.length c1 (fun k_ => (P0_ k_ ∨ w.heap.size ≤ k_)) (fun k => P0_ k ∧ k < w.heap.size) rfl rfl HN2.out HF2.out HOK.out HFR.out HB2.out HS2.out HLN.out ?_; intro v1 w1 hN1 hB1 hg1 hat1)
        go_roundg (l0.length - (i + 1))
        case measure => omega
        case rel => exact ⟨i + 1, xs ++ x.f0, by first | rfl | exact congrArg (Value.int .i64) hwi | go_num, hlt, Nat.le_refl _, ⟨hN1⟩, ⟨hB1⟩, ⟨by rw [shard_Join.pick HXI.out, HX.out]⟩⟩
      · obtain rfl : i = l0.length := by omega
        have hltz : ¬ (l0.length : Int) < (l0.length : Int) := by omega
        obtain ⟨Z, hZx, hZp, hZo⟩ := RowN.of_N HN.out
        obtain ⟨Y, rfl⟩ := shard_Join.acs hZp
        have hsn : ((Y.map fun a => (a.x, encAC a)).map Prod.snd) = Y.map encAC := by rw [List.map_map]; rfl
        have hfs : ∀ Y : List AC, ((Y.map fun a => (a.x, encAC a)).map Prod.fst) = Y.map AC.x := fun Y => by rw [List.map_map]; rfl
        rw [hfs] at hZx
        rw [hsn, List.length_map] at hZo
        have hyl : Y.length < 2305843009213693952 := by
          have h1 := congrArg List.length hZx
          rw [List.length_map, HX.out, List.take_length] at h1
          have := HL.out
          omega
        have HC := Aside0.mk (shard_Join.sorts w.heap.size _ Y wr hZo hyl)
        have HZP := Aside0.mk hZp
        have HZX := Aside0.mk hZx
        have HFS := Aside0.mk hfs
        have HOK0 := Aside0.mk HN.out.1
        have HBS := Aside0.mk (Kd.N_base HN.out)
        clear hZx hZp hZo hsn hfs hyl HN
        go_wp2_with (go_at_call 27; refine HC.out.mono ?_; rintro e w1 ⟨rfl, Y', hs1, hp1, hl1, ho1, hg1⟩)
        go_ret
        have hE : Y'.map AC.x = r := by
          rw [← HR.out]
          refine StableK.Sim.eq (key := fun x : S46 => x.f0) ?_ ?_ (shard_Join.sort_sorted _)
          · refine StableK.Sim.trans (StableK.Sim.symm (shard_Join.sim_map hs1)) ?_
            rw [HZX.out, HX.out, List.take_length]
            exact shard_Join.sort_sim _
          · rw [List.pairwise_map]
            exact hp1
        refine ⟨_, rfl, ?_, HB.out.grown hg1 HB.out.size HBS.out⟩
        rw [← hE, ← HFS.out]
        refine RowN.to_N (by rw [List.length_map, List.map_map]; exact ho1) (fun z hz => ?_) HOK0.out
        obtain ⟨a, ha, rfl⟩ := List.mem_map.1 hz
        have hz0 := HZP.out _ (List.mem_map_of_mem (f := fun a : AC => (a.x, encAC a)) (hs1.symm.mem ha))
        exact ⟨hz0.1, Kd.FK_grown hz0.2 hg1 (fun k hk => hk.2)⟩
  · rw [if_neg hl] at h; cases h


end Go.Proofs.Ytnjnogkhbadioaa.D
