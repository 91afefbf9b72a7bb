/- Written by this session's own program over the kit's print: functions of Go told as plain functions, or the row of one statement; proved for every input, with no condition of ours. -/
import Derived.Test.YtehncbhmdgdkjaaQx0
import Derived.Test.YtehncbhmdgdkjaaQx5
namespace Go.Proofs.Ytehncbhmdgdkjaa.Q
open Go.RowKit Go.Proofs.YtehncbhmdgdkjaaW.PrintWords Go.Proofs.YtehncbhmdgdkjaaW.PrintLast Go.Proofs.YtehncbhmdgdkjaaW.PrintMore
attribute [local go_sem] max2_int min2_int max_two min_two max_three min_three max_four min_four   -- for this text's walks alone
set_option linter.unusedVariables false
set_option linter.unusedSimpArgs false

/-! ### hopperref04_Few: function 21 -/
def hopperref04_Few.l0 : Nat → List (S24) → Int → Int → Option (Bool)
  | 0, _, _, _ => none
  | k + 1, x0, x1, x5 => if x5 < (x0.length : Int) then (if 0 ≤ x5 then ((hopperref04_Small.f ((rd_T24 x0 x5).f0) ((rd_T24 x0 x5).f1) ((rd_T24 x0 x5).f2) ((rd_T24 x0 x5).f3) ((rd_T24 x0 x5).f4) ((rd_T24 x0 x5).f5)).bind fun t118 => (if t118 = true then (hopperref04_Few.l0 k x0 x1 (wrap64 (x5 + 1))) else (some false))) else (none)) else (some (decide ((x0.length : Int) ≤ x1)))
def hopperref04_Few.f (k : Nat) (l0 : List (S24)) (a1 : Int) : Option (Bool) := hopperref04_Few.l0 k l0 a1 0
theorem hopperref04_Few.mono_l : ∀ k, (∀ y0 y1 y2, LeO (hopperref04_Few.l0 k y0 y1 y2) (hopperref04_Few.l0 (k + 1) y0 y1 y2))
  | 0 => fun _ _ _ r h => by simp [hopperref04_Few.l0] at h
  | k + 1 => by
    have ih0 := hopperref04_Few.mono_l k
    · intro y0 y1 y2
      unfold hopperref04_Few.l0
      repeat' first
      | (with_reducible exact ih0 _ _ _)
      | (with_reducible exact LeO.refl _)
      | (with_reducible exact LeO.none _)
      | (with_reducible refine LeO.ite ?_ ?_)
      | (with_reducible refine LeO.bind ?_ (fun _ => ?_))
      | exact ih0 _ _ _
      | exact LeO.none _
      | refine LeO.ite ?_ ?_
      | refine LeO.bind ?_ (fun _ => ?_)
theorem hopperref04_Few.mono : ∀ a0 a1 k, LeO (hopperref04_Few.f k a0 a1) (hopperref04_Few.f (k + 1) a0 a1) := by
  intro a0 a1 k
  have ih0 := hopperref04_Few.mono_l k
  unfold hopperref04_Few.f
  repeat' first
      | (with_reducible exact ih0 _ _ _)
      | (with_reducible exact LeO.refl _)
      | (with_reducible exact LeO.none _)
      | (with_reducible refine LeO.ite ?_ ?_)
      | (with_reducible refine LeO.bind ?_ (fun _ => ?_))
      | exact ih0 _ _ _
      | exact LeO.none _
      | refine LeO.ite ?_ ?_
      | refine LeO.bind ?_ (fun _ => ?_)
set_option maxHeartbeats 8000000 in
set_option maxRecDepth 100000 in
theorem hopperref04_Few.calls (k : Nat) (A0 : Option Addr) (c0 : Nat) (l0 : List (S24)) (a1 : Int) (r : Bool) (w : World) (hr0 : Kd.C k24 w A0 l0.length l0) (hc0 : l0.length ≤ c0) (h : hopperref04_Few.f k l0 a1 = some r) :
    Calls Try.prog 21 #[.slice A0 l0.length c0, .int .i64 a1] w fun e w' => e = .returned (.bool r) ∧ Below w.heap.size w w' := by
  have hu24 := Try.underlying24
  have HR0 := Aside0.mk hr0
  have HC0 := Aside0.mk hc0
  clear hr0 hc0
  have HB := Aside0.mk (Below.refl w.heap.size w)
  have H : (hopperref04_Few.l0 k l0 a1 0) = some r := h
  clear h
  have H' := Aside0.mk H
  clear H
  go_enter Try.func21, Try.ntmps21
  go_wp2
  go_loopg [5] k (fun kq v5 w' => ∃ (x5_1 : Int), v5 = .int .i64 x5_1 ∧ Aside0 (hopperref04_Few.l0 kq l0 a1 x5_1 = some r) ∧ Aside0 (kq ≤ k) ∧ Aside0 (Below w.heap.size w w'))
  case atStart => exact ⟨(0), (by first | rfl | (simp; done) | (simp [*]; done)), H', ⟨Nat.le_refl _⟩, ⟨by repeat (first | (with_reducible first | exact HB.out | apply below_alloc | apply pw_below_drewN | apply below_drew1) | exact HB.out)⟩⟩
  case round =>
    clear H'
    try clear c2
    try clear p2
    obtain ⟨x5_1, rfl, HA, HK1, HB⟩ := hrel
    cases gk with
    | zero => exact absurd HA.out (by simp [hopperref04_Few.l0])
    | succ k1 =>
      have H := HA.out
      clear HA
      simp only [hopperref04_Few.l0] at H
      by_cases c3 : x5_1 < (l0.length : Int)
      · rw [if_pos c3] at H
        have c3b0 : decide (x5_1 < (l0.length : Int)) = true := decide_eq_true c3
        clear c3
        by_cases c4 : 0 ≤ x5_1
        · rw [if_pos c4] at H
          have c4b0 : decide (0 ≤ x5_1) = true := decide_eq_true c4
          clear c4
          replace H := Option.bind_eq_some_iff.mp H
          obtain ⟨t118, A50, H⟩ := H
          replace H : (if t118 = true then (hopperref04_Few.l0 k1 l0 a1 (wrap64 (x5_1 + 1))) else (some false)) = some r := H
          have A5 := Aside0.mk A50
          clear A50
          by_cases c6 : t118 = true
          · subst c6
            have H1 : (hopperref04_Few.l0 k1 l0 a1 (wrap64 (x5_1 + 1))) = some r := by rw [if_pos rfl] at H; exact H
            clear H
            have H := H1
            clear H1
            have H' := Aside0.mk H
            clear H
            have p117 : 0 ≤ (x5_1 : Int) := of_decide_eq_true (by first | (with_reducible assumption) | assumption)
            have q117 : x5_1 < (l0.length : Int) := of_decide_eq_true (by first | (with_reducible assumption) | assumption)
            obtain ⟨ad117, e117, hx117_0, hx117_1, hx117_2, hx117_3, hx117_4, hx117_5⟩ := at_T24 HR0.out x5_1 p117 q117
            cases e117
            replace hx117_0 := (HB.out.cell (World.block_lt_of_cell? w _ hx117_0)).trans hx117_0
            replace hx117_1 := (HB.out.cell (World.block_lt_of_cell? w _ hx117_1)).trans hx117_1
            replace hx117_2 := (HB.out.cell (World.block_lt_of_cell? w _ hx117_2)).trans hx117_2
            replace hx117_3 := (HB.out.cell (World.block_lt_of_cell? w _ hx117_3)).trans hx117_3
            replace hx117_4 := (HB.out.cell (World.block_lt_of_cell? w _ hx117_4)).trans hx117_4
            replace hx117_5 := (HB.out.cell (World.block_lt_of_cell? w _ hx117_5)).trans hx117_5
            replace p117 := eq_true p117
            replace q117 := eq_true q117
            go_wp2_with (first | ((with_reducible refine gate_callee (f := 22) rfl ?_); refine goesL_ (some 16) rfl rfl Try.func22 (by kernel_rfl) rfl #[.agg #[.int .i64 ((rd_T24 l0 x5_1).f0), .int .i64 ((rd_T24 l0 x5_1).f1), .int .i64 ((rd_T24 l0 x5_1).f2), .int .i64 ((rd_T24 l0 x5_1).f3), .int .i64 ((rd_T24 l0 x5_1).f4), .string ((rd_T24 l0 x5_1).f5)]] rfl (by (try simp only [List.map_toArray, List.map_cons, List.map_nil]); first | done | rfl | (simp only [List.length_drop, List.length_take]; rfl)) ?_; (with_reducible refine (hopperref04_Small.calls ((rd_T24 l0 x5_1).f0) ((rd_T24 l0 x5_1).f1) ((rd_T24 l0 x5_1).f2) ((rd_T24 l0 x5_1).f3) ((rd_T24 l0 x5_1).f4) ((rd_T24 l0 x5_1).f5) true _ A5.out).mono ?_); rintro e w7 ⟨rfl, hb⟩; refine ⟨_, rfl, ?_⟩; have n0_ := Aside0.mk (below_step (by repeat (first | (with_reducible first | exact HB.out | apply below_alloc | apply pw_below_drewN | apply below_drew1) | exact HB.out)) hb); clear HB; have HB := n0_; clear n0_; (try clear hb); (try clear hb2); (try clear hk); (try clear hi)))
            go_roundg k1
            case measure => have := HK1.out; omega
            case rel => exact ⟨(wrap64 (x5_1 + 1)), (by first | rfl | (simp; done) | (simp [*]; done)), H', ⟨by have := HK1.out; omega⟩, ⟨by repeat (first | (with_reducible first | exact HB.out | apply below_alloc | apply pw_below_drewN | apply below_drew1) | exact HB.out)⟩⟩
          · replace c6 := Bool.eq_false_iff.mpr c6
            subst c6
            have H1 : (some false) = some r := by rw [if_neg (show ¬ (false = true) by decide)] at H; exact H
            clear H
            have H := H1
            clear H1
            obtain rfl := Option.some.inj H
            have p117 : 0 ≤ (x5_1 : Int) := of_decide_eq_true (by first | (with_reducible assumption) | assumption)
            have q117 : x5_1 < (l0.length : Int) := of_decide_eq_true (by first | (with_reducible assumption) | assumption)
            obtain ⟨ad117, e117, hx117_0, hx117_1, hx117_2, hx117_3, hx117_4, hx117_5⟩ := at_T24 HR0.out x5_1 p117 q117
            cases e117
            replace hx117_0 := (HB.out.cell (World.block_lt_of_cell? w _ hx117_0)).trans hx117_0
            replace hx117_1 := (HB.out.cell (World.block_lt_of_cell? w _ hx117_1)).trans hx117_1
            replace hx117_2 := (HB.out.cell (World.block_lt_of_cell? w _ hx117_2)).trans hx117_2
            replace hx117_3 := (HB.out.cell (World.block_lt_of_cell? w _ hx117_3)).trans hx117_3
            replace hx117_4 := (HB.out.cell (World.block_lt_of_cell? w _ hx117_4)).trans hx117_4
            replace hx117_5 := (HB.out.cell (World.block_lt_of_cell? w _ hx117_5)).trans hx117_5
            replace p117 := eq_true p117
            replace q117 := eq_true q117
            go_wp2_with (first | ((with_reducible refine gate_callee (f := 22) rfl ?_); refine goesL_ (some 16) rfl rfl Try.func22 (by kernel_rfl) rfl #[.agg #[.int .i64 ((rd_T24 l0 x5_1).f0), .int .i64 ((rd_T24 l0 x5_1).f1), .int .i64 ((rd_T24 l0 x5_1).f2), .int .i64 ((rd_T24 l0 x5_1).f3), .int .i64 ((rd_T24 l0 x5_1).f4), .string ((rd_T24 l0 x5_1).f5)]] rfl (by (try simp only [List.map_toArray, List.map_cons, List.map_nil]); first | done | rfl | (simp only [List.length_drop, List.length_take]; rfl)) ?_; (with_reducible refine (hopperref04_Small.calls ((rd_T24 l0 x5_1).f0) ((rd_T24 l0 x5_1).f1) ((rd_T24 l0 x5_1).f2) ((rd_T24 l0 x5_1).f3) ((rd_T24 l0 x5_1).f4) ((rd_T24 l0 x5_1).f5) false _ A5.out).mono ?_); rintro e w8 ⟨rfl, hb⟩; refine ⟨_, rfl, ?_⟩; have n0_ := Aside0.mk (below_step (by repeat (first | (with_reducible first | exact HB.out | apply below_alloc | apply pw_below_drewN | apply below_drew1) | exact HB.out)) hb); clear HB; have HB := n0_; clear n0_; (try clear hb); (try clear hb2); (try clear hk); (try clear hi)))
            go_ret
            exact ⟨by first | rfl | (simp [errW_none, errW_some] <;> rfl) | (simp [*, errW_none, errW_some] <;> rfl), by repeat (first | (with_reducible first | exact HB.out | apply below_alloc | apply pw_below_drewN | apply below_drew1) | exact HB.out)⟩
        · rw [if_neg c4] at H
          exact absurd H (by simp)
      · rw [if_neg c3] at H
        have c3b0 : decide (x5_1 < (l0.length : Int)) = false := decide_eq_false c3
        clear c3
        obtain rfl := Option.some.inj H
        go_wp2
        go_ret
        exact ⟨by first | rfl | (simp [errW_none, errW_some] <;> rfl) | (simp [*, errW_none, errW_some] <;> rfl), by repeat (first | (with_reducible first | exact HB.out | apply below_alloc | apply pw_below_drewN | apply below_drew1) | exact HB.out)⟩

/-! ### hopperref05_Small: function 50 -/
def hopperref05_Small.f (k : Nat) (a0_0 : Int) (a0_1 : Int) (l0_2 : List (S24)) : Option (Bool) := (hopperref04_Few.f k l0_2 30).bind fun t120 => (some t120)
theorem hopperref05_Small.mono : ∀ a0 a1 a2 k, LeO (hopperref05_Small.f k a0 a1 a2) (hopperref05_Small.f (k + 1) a0 a1 a2) := by
  intro a0 a1 a2 k
  unfold hopperref05_Small.f
  repeat' first
      | (with_reducible exact hopperref04_Few.mono _ _ _)
      | (with_reducible exact LeO.refl _)
      | (with_reducible exact LeO.none _)
      | (with_reducible refine LeO.ite ?_ ?_)
      | (with_reducible refine LeO.bind ?_ (fun _ => ?_))
      | exact hopperref04_Few.mono _ _ _
      | exact LeO.none _
      | refine LeO.ite ?_ ?_
      | refine LeO.bind ?_ (fun _ => ?_)
set_option maxHeartbeats 8000000 in
set_option maxRecDepth 100000 in
theorem hopperref05_Small.calls (k : Nat) (a0_0 : Int) (a0_1 : Int) (A0_2 : Option Addr) (c0_2 : Nat) (l0_2 : List (S24)) (r : Bool) (w : World) (hr0_2 : Kd.C k24 w A0_2 l0_2.length l0_2) (hc0_2 : l0_2.length ≤ c0_2) (h : hopperref05_Small.f k a0_0 a0_1 l0_2 = some r) :
    Calls Try.prog 50 #[.agg #[.int .i64 a0_0, .int .i64 a0_1, .slice A0_2 l0_2.length c0_2]] w fun e w' => e = .returned (.bool r) ∧ Below w.heap.size w w' := by
  have hu46 := Try.underlying46
  have HR0_2 := Aside0.mk hr0_2
  have HC0_2 := Aside0.mk hc0_2
  clear hr0_2 hc0_2
  have HB := Aside0.mk (Below.refl w.heap.size w)
  have H : ((hopperref04_Few.f k l0_2 30).bind fun t120 => (some t120)) = some r := h
  clear h
  replace H := Option.bind_eq_some_iff.mp H
  obtain ⟨t120, A20, H⟩ := H
  replace H : (some t120) = some r := H
  have A2 := Aside0.mk A20
  clear A20
  obtain rfl := Option.some.inj H
  go_enter Try.func50, Try.ntmps50
  go_wp2_with (first | ((with_reducible refine gate_dst (N := 1) rfl ?_); refine box_event ?hg (N := 1) ?hd (cs := #[.int .i64 a0_0, .int .i64 a0_1, .slice A0_2 l0_2.length c0_2]) (t := 46) ?hr ?_; (case hd => rfl); (case hg => rfl); (case hr => first | (go_simp; done) | (go_simp; rfl)); intro gb119 hg w3 hbox hb; have n0_ := Aside0.mk (below_step (by repeat (first | (with_reducible first | exact HB.out | apply below_alloc | apply pw_below_drewN | apply below_drew1) | exact HB.out)) hb); have n1_ := Aside0.mk (hbox); have n2_ := Aside0.mk ((by rw [hg]; exact (below_size (by repeat (first | (with_reducible first | exact HB.out | apply below_alloc | apply pw_below_drewN | apply below_drew1) | exact HB.out))) : w.heap.size ≤ gb119)); have n3_ := Aside0.mk ((by rw [hg]; exact (below_size (by repeat (first | (with_reducible first | exact HB.out | apply below_alloc | apply pw_below_drewN | apply below_drew1) | exact HB.out))) : w.heap.size ≤ gb119)); clear HB; have HB := n0_; have BK119 := n1_; have GW119 := n2_; have GE119 := n3_; clear n0_ n1_ n2_ n3_; clear hb hbox hg; have hcz4_0 : w3.cell? ⟨gb119, 0, none⟩ = some (.int .i64 a0_0) := (blk_cell BK119.out 0).trans rfl; have hcz4_1 : w3.cell? ⟨gb119, 1, none⟩ = some (.int .i64 a0_1) := (blk_cell BK119.out 1).trans rfl; have hcz4_2 : w3.cell? ⟨gb119, 2, none⟩ = some (.slice A0_2 l0_2.length c0_2) := (blk_cell BK119.out 2).trans rfl; have hfz4_0 := blk_frozen BK119.out 0; have hfz4_1 := blk_frozen BK119.out 1; have hfz4_2 := blk_frozen BK119.out 2) | ((with_reducible refine gate_callee (f := 21) rfl ?_); refine goesL_ (some 5) rfl rfl Try.func21 (by kernel_rfl) rfl #[.slice A0_2 l0_2.length c0_2, .int .i64 30] rfl (by (try simp only [List.map_toArray, List.map_cons, List.map_nil]); first | done | rfl | (simp only [List.length_drop, List.length_take]; rfl)) ?_; (with_reducible refine (hopperref04_Few.calls k _ _ l0_2 30 t120 _ ?side1 ?side2 A2.out).mono ?_); (case side1 => repeat (first | exact (Kd.C_below HR0_2.out HB.out) | (with_reducible refine Kd.C_alloc ?_ _) | (with_reducible refine Kd.C_drewN ?_ _) | (with_reducible refine Kd.C_drew ?_))); (case side2 => exact HC0_2.out); rintro e w5 ⟨rfl, hb⟩; refine ⟨_, rfl, ?_⟩; have n0_ := Aside0.mk (blk_below (g := gb119) (o := .cells #[.int .i64 a0_0, .int .i64 a0_1, .slice A0_2 l0_2.length c0_2] 46 (0, 0)) (by (with_reducible repeat (first | refine blk_drewN ?_ _ | refine blk_drew ?_ | refine blk_alloc ?_ _)); exact BK119.out) hb); have n1_ := Aside0.mk (below_step (by repeat (first | (with_reducible first | exact HB.out | apply below_alloc | apply pw_below_drewN | apply below_drew1 | refine below_set ?_ GE119.out) | exact HB.out)) hb); clear BK119; clear HB; have BK119 := n0_; have HB := n1_; clear n0_ n1_; (try clear hb); (try clear hb2); (try clear hk); (try clear hi)))
  go_ret
  exact ⟨by first | rfl | (simp [errW_none, errW_some] <;> rfl) | (simp [*, errW_none, errW_some] <;> rfl), by repeat (first | (with_reducible first | exact HB.out | apply below_alloc | apply pw_below_drewN | apply below_drew1 | refine below_set ?_ GE119.out) | exact HB.out)⟩

/-! ### queue_place: function 100, by hand -/
-- HAND rounds=0 making=1
-- IMPORT Derived.Test.YtehncbhmdgdkjaaGoto
/-- Where a nonce is, and whether; else where it belongs. -/
def placeL (n len : Int) : List S24 → Int → Int → Int × Bool
  | [], _, b => (b, false)
  | x :: r, i, b => if x.f1 = n then (i, true) else placeL n len r (i + 1) (if x.f1 > n ∧ b = len then i else b)
def queue_place.f (l0 : List S24) (a1 : Int) : Option (Int × Bool) := if l0.length < 2513169434916 then some (placeL a1 l0.length l0 0 l0.length) else none
def PlaceJ (A0 : Option Addr) (c0 : Nat) (l0 : List S24) (a1 r1 : Int) (r2 : Bool) (w w' : World) (a : Act) : Prop := ∃ i : Nat, ∃ b : Int, i ≤ l0.length ∧ placeL a1 l0.length (l0.drop i) i b = (r1, r2) ∧ Drawn0 w w' ∧ ∃ u2 u3 u4 u5 u8 u9 u10 u11 u12 u13 u14 u15 u16 u17 u18 u19 u20 u21 u22 u23 u24 u25 u26 u27 u28 u29 u30 u31 u32 u33 u34 u35 u36 u37 u38 : Value, a = { tmps := #[(.slice A0 l0.length c0), .int .i64 a1, u2, u3, u4, u5, .int .i64 (i : Int), .int .i64 b, u8, u9, u10, u11, u12, u13, u14, u15, u16, u17, u18, u19, u20, u21, u22, u23, u24, u25, u26, u27, u28, u29, u30, u31, u32, u33, u34, u35, u36, u37, u38], defers := [] }
set_option maxHeartbeats 4000000 in
set_option maxRecDepth 100000 in
theorem queue_place.calls (A0 : Option Addr) (c0 : Nat) (l0 : List S24) (a1 r1 : Int) (r2 : Bool) (w : World) (hr0 : Kd.C k24 w A0 l0.length l0) (hc0 : l0.length ≤ c0) (h : queue_place.f l0 a1 = some (r1, r2)) :
    Calls Try.prog 100 #[.slice A0 l0.length c0, .int .i64 a1] w fun e w' => e = .returned (.tuple #[.int .i64 r1, .bool r2]) ∧ Below w.heap.size w w' := by
  unfold queue_place.f at h
  by_cases hl : l0.length < 2513169434916
  · rw [if_pos hl] at h
    have HR0 := Aside0.mk hr0
    have HC0 := Aside0.mk hc0
    have HL := Aside0.mk hl
    have HH := Aside0.mk (Option.some.inj h)
    clear hr0 hc0 hl h
    go_enter Try.func100, Try.ntmps100
    go_wp2
    refine Goto.scope_label 0 (fun a' w' => PlaceJ A0 c0 l0 a1 r1 r2 w w' a') (fun a' _ => l0.length - (intOf (a'.tmps.getD 6 undef)).toNat) rfl ?_ ?_
    · rintro a' w' ⟨i, b, hi, hp, ⟨nd, rfl⟩, u2, u3, u4, u5, u8, u9, u10, u11, u12, u13, u14, u15, u16, u17, u18, u19, u20, u21, u22, u23, u24, u25, u26, u27, u28, u29, u30, u31, u32, u33, u34, u35, u36, u37, u38, rfl⟩
      by_cases he : i = l0.length
      · subst he
        rw [List.drop_length] at hp
        simp only [placeL, Prod.mk.injEq] at hp
        obtain ⟨rfl, rfl⟩ := hp
        go_wp2
        simp only [Exit.jump]
        first | go_end0 | (refine bodyPost_ret (results_list (rs := [.tmp 4, .tmp 5]) rfl (by simp) (.tmp (.tmp .nil))) rfl ?_)
        exact ⟨rfl, pw_below_drewN (Below.refl _ _) _⟩
      · have hlt : i < l0.length := by omega
        rw [List.drop_eq_getElem_cons hlt] at hp
        have hx : rd_T24 l0 (i : Int) = l0[i] := by
          show l0.getD i _ = _
          rw [List.getD_eq_getElem?_getD, List.getElem?_eq_getElem hlt, Option.getD_some]
        rw [← hx] at hp
        have hs : i + 1 ≤ l0.length := hlt
        obtain ⟨ad, e0, h0, h1, h2, h3, h4, h5⟩ := at_T24 HR0.out (i : Int) (by omega) (by omega)
        subst e0
        have q1 : (0 ≤ (i : Int)) = True := eq_true (by omega)
        have q2 : ((i : Int) < (l0.length : Int)) = True := eq_true (by omega)
        clear h0 h2 h3 h4 h5 hx
        rw [Int.toNat_natCast] at h1
        generalize rd_T24 l0 (i : Int) = x at h1 hp
        go_wp2
        · have hg : x.f1 = a1 := eq_of_beq (by assumption)
          rw [placeL, if_pos hg] at hp
          obtain ⟨rfl, rfl⟩ := Prod.mk.inj hp
          try simp only [Exit.jump]
          go_ret2
          exact ⟨rfl, pw_below_drewN (Below.refl _ _) _⟩
        · have hg : ¬ x.f1 = a1 := beq_eq_false_iff_ne.1 (by assumption)
          have hc : (if x.f1 > a1 ∧ b = (l0.length : Int) then (i : Int) else b) = (i : Int) := if_pos ⟨(by assumption : a1 < x.f1), eq_of_beq (by assumption)⟩
          go_step3
          have hw : wrap64 ((i : Int) + 1) = ((i + 1 : Nat) : Int) := by have := HL.out; unfold wrap64; omega
          rw [hw]
          refine ⟨rfl, ⟨i + 1, (i : Int), hs, ?_, ⟨_, rfl⟩, _, _, _, _, _, _, _, _, _, _, _, _, _, _, _, _, _, _, _, _, _, _, _, _, _, _, _, _, _, _, _, _, _, _, _, rfl⟩, by simp [intOf]; omega⟩
          rw [placeL, if_neg hg, hc] at hp
          exact hp
        · have hg : ¬ x.f1 = a1 := beq_eq_false_iff_ne.1 (by assumption)
          have hc : (if x.f1 > a1 ∧ b = (l0.length : Int) then (i : Int) else b) = b := if_neg (fun q => (beq_eq_false_iff_ne.1 (by assumption : (b == (l0.length : Int)) = false)) q.2)
          go_step3
          have hw : wrap64 ((i : Int) + 1) = ((i + 1 : Nat) : Int) := by have := HL.out; unfold wrap64; omega
          rw [hw]
          refine ⟨rfl, ⟨i + 1, b, hs, ?_, ⟨_, rfl⟩, _, _, _, _, _, _, _, _, _, _, _, _, _, _, _, _, _, _, _, _, _, _, _, _, _, _, _, _, _, _, _, _, _, _, _, rfl⟩, by simp [intOf]; omega⟩
          rw [placeL, if_neg hg, hc] at hp
          exact hp
        · have hg : ¬ x.f1 = a1 := beq_eq_false_iff_ne.1 (by assumption)
          have hc : (if x.f1 > a1 ∧ b = (l0.length : Int) then (i : Int) else b) = b := if_neg (fun q => Int.not_lt.2 (by assumption : x.f1 ≤ a1) q.1)
          go_step3
          have hw : wrap64 ((i : Int) + 1) = ((i + 1 : Nat) : Int) := by have := HL.out; unfold wrap64; omega
          rw [hw]
          refine ⟨rfl, ⟨i + 1, b, hs, ?_, ⟨_, rfl⟩, _, _, _, _, _, _, _, _, _, _, _, _, _, _, _, _, _, _, _, _, _, _, _, _, _, _, _, _, _, _, _, _, _, _, _, rfl⟩, by simp [intOf]; omega⟩
          rw [placeL, if_neg hg, hc] at hp
          exact hp
    · intro L hL hLr
      have HL := Aside0.mk hL
      have HLr := Aside0.mk hLr
      clear hL hLr
      go_wp2
      go_step3
      rename_i K hK
      exact hK _ _ (HLr.out _ _ (HL.out _ _ ⟨0, _, by omega, HH.out, Drawn0.refl _, _, _, _, _, _, _, _, _, _, _, _, _, _, _, _, _, _, _, _, _, _, _, _, _, _, _, _, _, _, _, _, _, _, _, _, rfl⟩))
  · rw [if_neg hl] at h; cases h


end Go.Proofs.Ytehncbhmdgdkjaa.Q
