/- Written by this session's own program over the kit's print: functions of Go told as plain functions, or the row of one statement; proved for every input, with no condition of ours. -/
import Derived.Test.YtfpomamhcjkoeabCx0
import Derived.Test.YtfpomamhcjkoeabCx1
import Derived.Test.YtfpomamhcjkoeabCx3
namespace Go.Proofs.Ytfpomamhcjkoeab.C
open Go.RowKit Go.Proofs.YtfpomamhcjkoeabW.PrintWords Go.Proofs.YtfpomamhcjkoeabW.PrintLast Go.Proofs.YtfpomamhcjkoeabW.PrintMore
attribute [local go_sem] max2_int min2_int max_two min_two max_three min_three max_four min_four   -- for this text's walks alone
set_option linter.unusedVariables false
set_option linter.unusedSimpArgs false

/-! ### hopperlaw03_CodecOrder: function 13 -/
mutual
def hopperlaw03_CodecOrder.j0 : Nat → ByteArray → ByteArray → Bool → Int → Int → Option (Bool)
  | 0, _, _, _, _, _ => none
  | k + 1, x1, x2, x26, x231000, x231001 => if x26 = true then ((hopperlaw03_live.f).bind fun t231 => (some t231)) else ((codec_Number.f x231000).bind fun t232 => ((codec_Number.f x231001).bind fun t233 => (if ((Op.bytesLess t232.toList t233.toList) != (decide (x231000 < x231001))) = true then (hopperlaw03_CodecOrder.j1 k x1 x2 true) else (hopperlaw03_CodecOrder.j1 k x1 x2 ((t232.toList == t233.toList) != (x231000 == x231001))))))
def hopperlaw03_CodecOrder.j1 : Nat → ByteArray → ByteArray → Bool → Option (Bool)
  | 0, _, _, _ => none
  | k + 1, x1, x2, x53 => if x53 = true then (none) else (if (x1.size : Int) = (x2.size : Int) then ((codec_Text.f x1).bind fun t234 => ((codec_Text.f x2).bind fun t235 => (if ((Op.bytesLess t234.toList t235.toList) == (Op.bytesLess x1.toList x2.toList)) = true then ((codec_Text.f x1).bind fun t236 => ((codec_Text.f x2).bind fun t237 => (if ((t236.toList == t237.toList) == (x1.toList == x2.toList)) = true then ((hopperlaw03_live.f).bind fun t238 => (some t238)) else (none)))) else (none)))) else ((codec_Text.f x1).bind fun t239 => ((codec_Text.f x2).bind fun t240 => (if ((t239.toList == t240.toList) == (x1.toList == x2.toList)) = true then ((hopperlaw03_live.f).bind fun t241 => (some t241)) else (none)))))
end
def hopperlaw03_CodecOrder.f (k : Nat) (a0_0 : Int) (a0_1 : Int) (a1 : ByteArray) (a2 : ByteArray) : Option (Bool) := if a0_0 < 0 then (hopperlaw03_CodecOrder.j0 k a1 a2 true a0_0 a0_1) else (if a0_1 < 0 then (hopperlaw03_CodecOrder.j0 k a1 a2 true a0_0 a0_1) else (if (a1.size : Int) > 2000 then (hopperlaw03_CodecOrder.j0 k a1 a2 true a0_0 a0_1) else (hopperlaw03_CodecOrder.j0 k a1 a2 (decide ((a2.size : Int) > 2000)) a0_0 a0_1)))
theorem hopperlaw03_CodecOrder.mono_l : ∀ k, (∀ y0 y1 y2 y3 y4, LeO (hopperlaw03_CodecOrder.j0 k y0 y1 y2 y3 y4) (hopperlaw03_CodecOrder.j0 (k + 1) y0 y1 y2 y3 y4)) ∧ (∀ y0 y1 y2, LeO (hopperlaw03_CodecOrder.j1 k y0 y1 y2) (hopperlaw03_CodecOrder.j1 (k + 1) y0 y1 y2))
  | 0 => ⟨fun _ _ _ _ _ r h => by simp [hopperlaw03_CodecOrder.j0] at h, fun _ _ _ r h => by simp [hopperlaw03_CodecOrder.j1] at h⟩
  | k + 1 => by
    obtain ⟨ih0, ih1⟩ := hopperlaw03_CodecOrder.mono_l k
    refine ⟨?_, ?_⟩
    · intro y0 y1 y2 y3 y4
      unfold hopperlaw03_CodecOrder.j0
      repeat' first
      | (with_reducible exact ih0 _ _ _ _ _)
      | (with_reducible exact ih1 _ _ _)
      | (with_reducible exact LeO.refl _)
      | (with_reducible exact LeO.none _)
      | (with_reducible refine LeO.ite ?_ ?_)
      | (with_reducible refine LeO.bind ?_ (fun _ => ?_))
      | exact ih0 _ _ _ _ _
      | exact ih1 _ _ _
      | exact LeO.none _
      | refine LeO.ite ?_ ?_
      | refine LeO.bind ?_ (fun _ => ?_)
    · intro y0 y1 y2
      unfold hopperlaw03_CodecOrder.j1
      repeat' first
      | (with_reducible exact ih0 _ _ _ _ _)
      | (with_reducible exact ih1 _ _ _)
      | (with_reducible exact LeO.refl _)
      | (with_reducible exact LeO.none _)
      | (with_reducible refine LeO.ite ?_ ?_)
      | (with_reducible refine LeO.bind ?_ (fun _ => ?_))
      | exact ih0 _ _ _ _ _
      | exact ih1 _ _ _
      | exact LeO.none _
      | refine LeO.ite ?_ ?_
      | refine LeO.bind ?_ (fun _ => ?_)
theorem hopperlaw03_CodecOrder.mono : ∀ a0 a1 a2 a3 k, LeO (hopperlaw03_CodecOrder.f k a0 a1 a2 a3) (hopperlaw03_CodecOrder.f (k + 1) a0 a1 a2 a3) := by
  intro a0 a1 a2 a3 k
  obtain ⟨ih0, ih1⟩ := hopperlaw03_CodecOrder.mono_l k
  unfold hopperlaw03_CodecOrder.f
  repeat' first
      | (with_reducible exact ih0 _ _ _ _ _)
      | (with_reducible exact ih1 _ _ _)
      | (with_reducible exact LeO.refl _)
      | (with_reducible exact LeO.none _)
      | (with_reducible refine LeO.ite ?_ ?_)
      | (with_reducible refine LeO.bind ?_ (fun _ => ?_))
      | exact ih0 _ _ _ _ _
      | exact ih1 _ _ _
      | exact LeO.none _
      | refine LeO.ite ?_ ?_
      | refine LeO.bind ?_ (fun _ => ?_)
set_option maxHeartbeats 8000000 in
set_option maxRecDepth 100000 in
theorem hopperlaw03_CodecOrder.calls (k : Nat) (a0_0 : Int) (a0_1 : Int) (a1 : ByteArray) (a2 : ByteArray) (r : Bool) (w : World) (h : hopperlaw03_CodecOrder.f k a0_0 a0_1 a1 a2 = some r) :
    Calls Try.prog 13 #[.agg #[.int .i64 a0_0, .int .i64 a0_1], .string a1, .string a2] w fun e w' => e = .returned (.bool r) ∧ Below w.heap.size w w' := by
  have hu53 := Try.underlying53
  have HB := Aside0.mk (Below.refl w.heap.size w)
  have H : (if a0_0 < 0 then (hopperlaw03_CodecOrder.j0 k a1 a2 true a0_0 a0_1) else (if a0_1 < 0 then (hopperlaw03_CodecOrder.j0 k a1 a2 true a0_0 a0_1) else (if (a1.size : Int) > 2000 then (hopperlaw03_CodecOrder.j0 k a1 a2 true a0_0 a0_1) else (hopperlaw03_CodecOrder.j0 k a1 a2 (decide ((a2.size : Int) > 2000)) a0_0 a0_1)))) = some r := h
  clear h
  have HC4 := Aside0.mk H
  clear H
  go_enter Try.func13, Try.ntmps13
  go_upto_region 1 with (first | ((with_reducible refine gate_dst (N := 3) rfl ?_); (try (refine gate_guard (by rfl) ?_; dsimp only)); refine box_event ?hg (N := 3) ?hd (cs := #[.int .i64 a0_0, .int .i64 a0_1]) (t := 53) ?hr ?_; (case hd => rfl); (case hg => rfl); (case hr => first | (go_simp; done) | (go_simp; rfl)); intro gb230 hg w5 hbox hb; have n0_ := Aside0.mk (below_step (by repeat (first | (with_reducible first | exact HB.out | apply below_alloc | apply pw_below_drewN | apply below_drew1) | exact HB.out)) hb); have n1_ := Aside0.mk (hbox); have n2_ := Aside0.mk ((by rw [hg]; exact (below_size (by repeat (first | (with_reducible first | exact HB.out | apply below_alloc | apply pw_below_drewN | apply below_drew1) | exact HB.out))) : w.heap.size ≤ gb230)); have n3_ := Aside0.mk ((by rw [hg]; exact (below_size (by repeat (first | (with_reducible first | exact HB.out | apply below_alloc | apply pw_below_drewN | apply below_drew1) | exact HB.out))) : w.heap.size ≤ gb230)); clear HB; have HB := n0_; have BK230 := n1_; have GW230 := n2_; have GE230 := n3_; clear n0_ n1_ n2_ n3_; clear hb hbox hg))
  (try simp only [Act.put, List.setIfInBounds_toArray, List.set_cons_zero, List.set_cons_succ])
  go_cut [26] (fun v26 wc => ∃ (kq : Nat) (x26_3 : Bool), v26 = .bool x26_3 ∧ Aside0 (hopperlaw03_CodecOrder.j0 kq a1 a2 x26_3 a0_0 a0_1 = some r) ∧ Aside0 (kq ≤ k) ∧ Aside0 (wc.heap[gb230]? = some (.cells #[.int .i64 a0_0, .int .i64 a0_1] 53 (0, 0))) ∧ Aside0 (Below w.heap.size w wc))
  case first =>
    have H := HC4.out
    clear HC4
    by_cases c6 : a0_0 < 0
    · rw [if_pos c6] at H
      have c6b0 : decide (a0_0 < 0) = true := decide_eq_true c6
      clear c6
      (first | rw [c6b0] | (simp only [i64_w, i32_w]; rw [c6b0]) | skip)
      have H' := Aside0.mk H
      clear H
      have hcz7_0 : w5.cell? ⟨gb230, 0, none⟩ = some (.int .i64 a0_0) := (blk_cell BK230.out 0).trans rfl
      have hcz7_1 : w5.cell? ⟨gb230, 1, none⟩ = some (.int .i64 a0_1) := (blk_cell BK230.out 1).trans rfl
      have hfz7_0 := blk_frozen BK230.out 0
      have hfz7_1 := blk_frozen BK230.out 1
      go_wp2
      go_meet
      case rel => exact ⟨_, (true), (by first | rfl | (simp; done) | (simp [*]; done)), H', ⟨by first | omega | exact Nat.le_refl _⟩, ⟨by (with_reducible repeat (first | refine blk_drewN ?_ _ | refine blk_drew ?_ | refine blk_alloc ?_ _)); exact BK230.out⟩, ⟨by repeat (first | (with_reducible first | exact HB.out | apply below_alloc | apply pw_below_drewN | apply below_drew1 | refine below_set ?_ GE230.out) | exact HB.out)⟩⟩
    · rw [if_neg c6] at H
      have c6b0 : decide (a0_0 < 0) = false := decide_eq_false c6
      clear c6
      (first | rw [c6b0] | (simp only [i64_w, i32_w]; rw [c6b0]) | skip)
      by_cases c8 : a0_1 < 0
      · rw [if_pos c8] at H
        have c8b0 : decide (a0_1 < 0) = true := decide_eq_true c8
        clear c8
        have H' := Aside0.mk H
        clear H
        have hcz9_0 : w5.cell? ⟨gb230, 0, none⟩ = some (.int .i64 a0_0) := (blk_cell BK230.out 0).trans rfl
        have hcz9_1 : w5.cell? ⟨gb230, 1, none⟩ = some (.int .i64 a0_1) := (blk_cell BK230.out 1).trans rfl
        have hfz9_0 := blk_frozen BK230.out 0
        have hfz9_1 := blk_frozen BK230.out 1
        go_wp2
        go_meet
        case rel => exact ⟨_, (true), (by first | rfl | (simp; done) | (simp [*]; done)), H', ⟨by first | omega | exact Nat.le_refl _⟩, ⟨by (with_reducible repeat (first | refine blk_drewN ?_ _ | refine blk_drew ?_ | refine blk_alloc ?_ _)); exact BK230.out⟩, ⟨by repeat (first | (with_reducible first | exact HB.out | apply below_alloc | apply pw_below_drewN | apply below_drew1 | refine below_set ?_ GE230.out) | exact HB.out)⟩⟩
      · rw [if_neg c8] at H
        have c8b0 : decide (a0_1 < 0) = false := decide_eq_false c8
        clear c8
        by_cases c10 : (a1.size : Int) > 2000
        · rw [if_pos c10] at H
          have c10b0 : decide (2000 < (a1.size : Int)) = true := decide_eq_true c10
          have c10b1 : decide (2000 < a1.size) = true := decide_eq_true (by omega)
          clear c10
          have H' := Aside0.mk H
          clear H
          have hcz11_0 : w5.cell? ⟨gb230, 0, none⟩ = some (.int .i64 a0_0) := (blk_cell BK230.out 0).trans rfl
          have hcz11_1 : w5.cell? ⟨gb230, 1, none⟩ = some (.int .i64 a0_1) := (blk_cell BK230.out 1).trans rfl
          have hfz11_0 := blk_frozen BK230.out 0
          have hfz11_1 := blk_frozen BK230.out 1
          go_wp2
          go_meet
          case rel => exact ⟨_, (true), (by first | rfl | (simp; done) | (simp [*]; done)), H', ⟨by first | omega | exact Nat.le_refl _⟩, ⟨by (with_reducible repeat (first | refine blk_drewN ?_ _ | refine blk_drew ?_ | refine blk_alloc ?_ _)); exact BK230.out⟩, ⟨by repeat (first | (with_reducible first | exact HB.out | apply below_alloc | apply pw_below_drewN | apply below_drew1 | refine below_set ?_ GE230.out) | exact HB.out)⟩⟩
        · rw [if_neg c10] at H
          have c10b0 : decide (2000 < (a1.size : Int)) = false := decide_eq_false c10
          have c10b1 : decide (2000 < a1.size) = false := decide_eq_false (by omega)
          clear c10
          have H' := Aside0.mk H
          clear H
          have hcz12_0 : w5.cell? ⟨gb230, 0, none⟩ = some (.int .i64 a0_0) := (blk_cell BK230.out 0).trans rfl
          have hcz12_1 : w5.cell? ⟨gb230, 1, none⟩ = some (.int .i64 a0_1) := (blk_cell BK230.out 1).trans rfl
          have hfz12_0 := blk_frozen BK230.out 0
          have hfz12_1 := blk_frozen BK230.out 1
          go_wp2
          go_meet
          case rel => exact ⟨_, (decide ((a2.size : Int) > 2000)), (by first | rfl | (simp; done) | (simp [*]; done)), H', ⟨by first | omega | exact Nat.le_refl _⟩, ⟨by (with_reducible repeat (first | refine blk_drewN ?_ _ | refine blk_drew ?_ | refine blk_alloc ?_ _)); exact BK230.out⟩, ⟨by repeat (first | (with_reducible first | exact HB.out | apply below_alloc | apply pw_below_drewN | apply below_drew1 | refine below_set ?_ GE230.out) | exact HB.out)⟩⟩
  case rest =>
    clear HC4
    try clear c1
    try clear p2
    try clear c6
    try clear c6b0
    try clear c8
    try clear c8b0
    try clear c10
    try clear c10b0
    try clear c10b1
    try clear hcz11_0
    try clear hcz11_1
    try clear hcz12_0
    try clear hcz12_1
    try clear hcz7_0
    try clear hcz7_1
    try clear hcz9_0
    try clear hcz9_1
    try clear hfz11_0
    try clear hfz11_1
    try clear hfz12_0
    try clear hfz12_1
    try clear hfz7_0
    try clear hfz7_1
    try clear hfz9_0
    try clear hfz9_1
    obtain ⟨kq, x26_3, rfl, HA, HJ3, BK230, HB⟩ := hcut
    cases kq with
    | zero => exact absurd HA.out (by simp [hopperlaw03_CodecOrder.j0])
    | succ kj3 =>
      have H := HA.out
      clear HA
      simp only [hopperlaw03_CodecOrder.j0] at H
      by_cases c13 : x26_3 = true
      · subst c13
        have H1 : ((hopperlaw03_live.f).bind fun t231 => (some t231)) = some r := by rw [if_pos rfl] at H; exact H
        clear H
        have H := H1
        clear H1
        replace H := Option.bind_eq_some_iff.mp H
        obtain ⟨t231, A140, H⟩ := H
        replace H : (some t231) = some r := H
        have A14 := Aside0.mk A140
        clear A140
        obtain rfl := Option.some.inj H
        go_wp2_with (first | ((with_reducible refine gate_callee (f := 28) rfl ?_); refine goesL_ (some 27) rfl rfl Try.func28 (by kernel_rfl) rfl #[] rfl (by (try simp only [List.map_toArray, List.map_cons, List.map_nil]); first | done | rfl | (simp only [List.length_drop, List.length_take]; rfl)) ?_; (with_reducible refine (hopperlaw03_live.calls  t231 _ A14.out).mono ?_); rintro e w15 ⟨rfl, hb⟩; refine ⟨_, rfl, ?_⟩; have n0_ := Aside0.mk (blk_below (g := gb230) (o := .cells #[.int .i64 a0_0, .int .i64 a0_1] 53 (0, 0)) (by (with_reducible repeat (first | refine blk_drewN ?_ _ | refine blk_drew ?_ | refine blk_alloc ?_ _)); exact BK230.out) hb); have n1_ := Aside0.mk (below_step (by repeat (first | (with_reducible first | exact HB.out | apply below_alloc | apply pw_below_drewN | apply below_drew1 | refine below_set ?_ GE230.out) | exact HB.out)) hb); clear BK230; clear HB; have BK230 := n0_; have HB := n1_; clear n0_ n1_; (try clear hb); (try clear hb2); (try clear hk); (try clear hi)))
        go_ret
        exact ⟨by first | rfl | (simp [errW_none, errW_some] <;> rfl) | (simp [*, errW_none, errW_some] <;> rfl), by repeat (first | (with_reducible first | exact HB.out | apply below_alloc | apply pw_below_drewN | apply below_drew1 | refine below_set ?_ GE230.out) | exact HB.out)⟩
      · replace c13 := Bool.eq_false_iff.mpr c13
        subst c13
        have H1 : ((codec_Number.f a0_0).bind fun t232 => ((codec_Number.f a0_1).bind fun t233 => (if ((Op.bytesLess t232.toList t233.toList) != (decide (a0_0 < a0_1))) = true then (hopperlaw03_CodecOrder.j1 kj3 a1 a2 true) else (hopperlaw03_CodecOrder.j1 kj3 a1 a2 ((t232.toList == t233.toList) != (a0_0 == a0_1)))))) = some r := by rw [if_neg (show ¬ (false = true) by decide)] at H; exact H
        clear H
        have H := H1
        clear H1
        replace H := Option.bind_eq_some_iff.mp H
        obtain ⟨t232, A160, H⟩ := H
        replace H : ((codec_Number.f a0_1).bind fun t233 => (if ((Op.bytesLess t232.toList t233.toList) != (decide (a0_0 < a0_1))) = true then (hopperlaw03_CodecOrder.j1 kj3 a1 a2 true) else (hopperlaw03_CodecOrder.j1 kj3 a1 a2 ((t232.toList == t233.toList) != (a0_0 == a0_1))))) = some r := H
        have A16 := Aside0.mk A160
        clear A160
        replace H := Option.bind_eq_some_iff.mp H
        obtain ⟨t233, A170, H⟩ := H
        replace H : (if ((Op.bytesLess t232.toList t233.toList) != (decide (a0_0 < a0_1))) = true then (hopperlaw03_CodecOrder.j1 kj3 a1 a2 true) else (hopperlaw03_CodecOrder.j1 kj3 a1 a2 ((t232.toList == t233.toList) != (a0_0 == a0_1)))) = some r := H
        have A17 := Aside0.mk A170
        clear A170
        have HC18 := Aside0.mk H
        clear H
        have hcz19_0 : wc.cell? ⟨gb230, 0, none⟩ = some (.int .i64 a0_0) := (blk_cell BK230.out 0).trans rfl
        have hcz19_1 : wc.cell? ⟨gb230, 1, none⟩ = some (.int .i64 a0_1) := (blk_cell BK230.out 1).trans rfl
        have hfz19_0 := blk_frozen BK230.out 0
        have hfz19_1 := blk_frozen BK230.out 1
        go_upto_region 5 with (first | ((with_reducible refine gate_callee (f := 24) rfl ?_); refine goesL_ (some 30) rfl rfl Try.func24 (by kernel_rfl) rfl #[.int .i64 a0_0] rfl (by (try simp only [List.map_toArray, List.map_cons, List.map_nil]); first | done | rfl | (simp only [List.length_drop, List.length_take]; rfl)) ?_; (with_reducible refine (codec_Number.calls a0_0 t232 _ A16.out).mono ?_); rintro e w20 ⟨rfl, hb⟩; refine ⟨_, rfl, ?_⟩; have n0_ := Aside0.mk (blk_below (g := gb230) (o := .cells #[.int .i64 a0_0, .int .i64 a0_1] 53 (0, 0)) (by (with_reducible repeat (first | refine blk_drewN ?_ _ | refine blk_drew ?_ | refine blk_alloc ?_ _)); exact BK230.out) hb); have n1_ := Aside0.mk (below_step (by repeat (first | (with_reducible first | exact HB.out | apply below_alloc | apply pw_below_drewN | apply below_drew1 | refine below_set ?_ GE230.out) | exact HB.out)) hb); clear BK230; clear HB; have BK230 := n0_; have HB := n1_; clear n0_ n1_; (try clear hb); (try clear hb2); (try clear hk); (try clear hi); have hcz21_0 : w20.cell? ⟨gb230, 0, none⟩ = some (.int .i64 a0_0) := (blk_cell BK230.out 0).trans rfl; have hcz21_1 : w20.cell? ⟨gb230, 1, none⟩ = some (.int .i64 a0_1) := (blk_cell BK230.out 1).trans rfl; have hfz21_0 := blk_frozen BK230.out 0; have hfz21_1 := blk_frozen BK230.out 1) | ((with_reducible refine gate_callee (f := 24) rfl ?_); refine goesL_ (some 33) rfl rfl Try.func24 (by kernel_rfl) rfl #[.int .i64 a0_1] rfl (by (try simp only [List.map_toArray, List.map_cons, List.map_nil]); first | done | rfl | (simp only [List.length_drop, List.length_take]; rfl)) ?_; (with_reducible refine (codec_Number.calls a0_1 t233 _ A17.out).mono ?_); rintro e w22 ⟨rfl, hb⟩; refine ⟨_, rfl, ?_⟩; have n0_ := Aside0.mk (blk_below (g := gb230) (o := .cells #[.int .i64 a0_0, .int .i64 a0_1] 53 (0, 0)) (by (with_reducible repeat (first | refine blk_drewN ?_ _ | refine blk_drew ?_ | refine blk_alloc ?_ _)); exact BK230.out) hb); have n1_ := Aside0.mk (below_step (by repeat (first | (with_reducible first | exact HB.out | apply below_alloc | apply pw_below_drewN | apply below_drew1 | refine below_set ?_ GE230.out) | exact HB.out)) hb); clear BK230; clear HB; have BK230 := n0_; have HB := n1_; clear n0_ n1_; (try clear hb); (try clear hb2); (try clear hk); (try clear hi)))
        (try simp only [Act.put, List.setIfInBounds_toArray, List.set_cons_zero, List.set_cons_succ])
        go_cut [53] (fun v53 wc => ∃ (kq : Nat) (x53_17 : Bool), v53 = .bool x53_17 ∧ Aside0 (hopperlaw03_CodecOrder.j1 kq a1 a2 x53_17 = some r) ∧ Aside0 (kq ≤ kj3) ∧ Aside0 (wc.heap[gb230]? = some (.cells #[.int .i64 a0_0, .int .i64 a0_1] 53 (0, 0))) ∧ Aside0 (Below w.heap.size w wc))
        case first =>
          have H := HC18.out
          clear HC18
          by_cases c23 : ((Op.bytesLess t232.toList t233.toList) != (decide (a0_0 < a0_1))) = true
          · rw [if_pos c23] at H
            have c23b0 : ((Op.bytesLess t232.toList t233.toList) != (decide (a0_0 < a0_1))) = true := c23
            (try (have c23b1 : decide ((Op.bytesLess t232.toList t233.toList) = (decide (a0_0 < a0_1))) = false := by simpa using c23))
            (try (have c23b2 : ((Op.bytesLess t232.toList t233.toList) == (decide (a0_0 < a0_1))) = false := by simpa using c23))
            (try (have c23b3 : ¬ ((Op.bytesLess t232.toList t233.toList) = (decide (a0_0 < a0_1))) := by simpa using c23))
            clear c23
            (first | rw [c23b0] | (simp only [i64_w, i32_w]; rw [c23b0]) | skip)
            have H' := Aside0.mk H
            clear H
            have hcz24_0 : w22.cell? ⟨gb230, 0, none⟩ = some (.int .i64 a0_0) := (blk_cell BK230.out 0).trans rfl
            have hcz24_1 : w22.cell? ⟨gb230, 1, none⟩ = some (.int .i64 a0_1) := (blk_cell BK230.out 1).trans rfl
            have hfz24_0 := blk_frozen BK230.out 0
            have hfz24_1 := blk_frozen BK230.out 1
            go_wp2
            go_meet
            case rel => exact ⟨_, (true), (by first | rfl | (simp; done) | (simp [*]; done)), H', ⟨by have := HJ3.out; first | omega | exact Nat.le_refl _⟩, ⟨by (with_reducible repeat (first | refine blk_drewN ?_ _ | refine blk_drew ?_ | refine blk_alloc ?_ _)); exact BK230.out⟩, ⟨by repeat (first | (with_reducible first | exact HB.out | apply below_alloc | apply pw_below_drewN | apply below_drew1 | refine below_set ?_ GE230.out) | exact HB.out)⟩⟩
          · rw [if_neg c23] at H
            have c23b0 : ((Op.bytesLess t232.toList t233.toList) != (decide (a0_0 < a0_1))) = false := by simpa using c23
            (try (have c23b1 : decide ((Op.bytesLess t232.toList t233.toList) = (decide (a0_0 < a0_1))) = true := by simpa using c23))
            (try (have c23b2 : ((Op.bytesLess t232.toList t233.toList) == (decide (a0_0 < a0_1))) = true := by simpa using c23))
            clear c23
            (first | rw [c23b0] | (simp only [i64_w, i32_w]; rw [c23b0]) | skip)
            have H' := Aside0.mk H
            clear H
            have hcz25_0 : w22.cell? ⟨gb230, 0, none⟩ = some (.int .i64 a0_0) := (blk_cell BK230.out 0).trans rfl
            have hcz25_1 : w22.cell? ⟨gb230, 1, none⟩ = some (.int .i64 a0_1) := (blk_cell BK230.out 1).trans rfl
            have hfz25_0 := blk_frozen BK230.out 0
            have hfz25_1 := blk_frozen BK230.out 1
            go_wp2
            go_meet
            case rel => exact ⟨_, (((t232.toList == t233.toList) != (a0_0 == a0_1))), (by first | rfl | (simp; done) | (simp [*]; done)), H', ⟨by have := HJ3.out; first | omega | exact Nat.le_refl _⟩, ⟨by (with_reducible repeat (first | refine blk_drewN ?_ _ | refine blk_drew ?_ | refine blk_alloc ?_ _)); exact BK230.out⟩, ⟨by repeat (first | (with_reducible first | exact HB.out | apply below_alloc | apply pw_below_drewN | apply below_drew1 | refine below_set ?_ GE230.out) | exact HB.out)⟩⟩
        case rest =>
          clear HC18
          try clear c1
          try clear c2
          try clear p2
          try clear c6
          try clear c6b0
          try clear c8
          try clear c8b0
          try clear c10
          try clear c10b0
          try clear c10b1
          try clear c13
          try clear c23
          try clear c23b0
          try clear c23b1
          try clear c23b2
          try clear c24
          try clear hcz11_0
          try clear hcz11_1
          try clear hcz12_0
          try clear hcz12_1
          try clear hcz19_0
          try clear hcz19_1
          try clear hcz21_0
          try clear hcz21_1
          try clear hcz24_0
          try clear hcz24_1
          try clear hcz25_0
          try clear hcz25_1
          try clear hcz7_0
          try clear hcz7_1
          try clear hcz9_0
          try clear hcz9_1
          try clear hfz11_0
          try clear hfz11_1
          try clear hfz12_0
          try clear hfz12_1
          try clear hfz19_0
          try clear hfz19_1
          try clear hfz21_0
          try clear hfz21_1
          try clear hfz24_0
          try clear hfz24_1
          try clear hfz25_0
          try clear hfz25_1
          try clear hfz7_0
          try clear hfz7_1
          try clear hfz9_0
          try clear hfz9_1
          try clear p2
          obtain ⟨kq, x53_17, rfl, HA, HJ17, BK230, HB⟩ := hcut
          cases kq with
          | zero => exact absurd HA.out (by simp [hopperlaw03_CodecOrder.j1])
          | succ kj17 =>
            have H := HA.out
            clear HA
            simp only [hopperlaw03_CodecOrder.j1] at H
            by_cases c26 : x53_17 = true
            · subst c26
              have H1 : (none) = some r := by rw [if_pos rfl] at H; exact H
              clear H
              have H := H1
              clear H1
              exact absurd H (by simp)
            · replace c26 := Bool.eq_false_iff.mpr c26
              subst c26
              have H1 : (if (a1.size : Int) = (a2.size : Int) then ((codec_Text.f a1).bind fun t234 => ((codec_Text.f a2).bind fun t235 => (if ((Op.bytesLess t234.toList t235.toList) == (Op.bytesLess a1.toList a2.toList)) = true then ((codec_Text.f a1).bind fun t236 => ((codec_Text.f a2).bind fun t237 => (if ((t236.toList == t237.toList) == (a1.toList == a2.toList)) = true then ((hopperlaw03_live.f).bind fun t238 => (some t238)) else (none)))) else (none)))) else ((codec_Text.f a1).bind fun t239 => ((codec_Text.f a2).bind fun t240 => (if ((t239.toList == t240.toList) == (a1.toList == a2.toList)) = true then ((hopperlaw03_live.f).bind fun t241 => (some t241)) else (none))))) = some r := by rw [if_neg (show ¬ (false = true) by decide)] at H; exact H
              clear H
              have H := H1
              clear H1
              by_cases c27 : (a1.size : Int) = (a2.size : Int)
              · rw [if_pos c27] at H
                have c27b0 : ((a1.size : Int) == (a2.size : Int)) = true := beq_iff_eq.mpr c27
                have c27b1 : ((a1.size : Int) != (a2.size : Int)) = false := bne_eq_false_iff_eq.mpr c27
                have c27b2 : (a1.size == a2.size) = true := by first | simpa using c27 | (simp at c27 ⊢; omega)
                clear c27
                replace H := Option.bind_eq_some_iff.mp H
                obtain ⟨t234, A280, H⟩ := H
                replace H : ((codec_Text.f a2).bind fun t235 => (if ((Op.bytesLess t234.toList t235.toList) == (Op.bytesLess a1.toList a2.toList)) = true then ((codec_Text.f a1).bind fun t236 => ((codec_Text.f a2).bind fun t237 => (if ((t236.toList == t237.toList) == (a1.toList == a2.toList)) = true then ((hopperlaw03_live.f).bind fun t238 => (some t238)) else (none)))) else (none))) = some r := H
                have A28 := Aside0.mk A280
                clear A280
                replace H := Option.bind_eq_some_iff.mp H
                obtain ⟨t235, A290, H⟩ := H
                replace H : (if ((Op.bytesLess t234.toList t235.toList) == (Op.bytesLess a1.toList a2.toList)) = true then ((codec_Text.f a1).bind fun t236 => ((codec_Text.f a2).bind fun t237 => (if ((t236.toList == t237.toList) == (a1.toList == a2.toList)) = true then ((hopperlaw03_live.f).bind fun t238 => (some t238)) else (none)))) else (none)) = some r := H
                have A29 := Aside0.mk A290
                clear A290
                by_cases c30 : ((Op.bytesLess t234.toList t235.toList) == (Op.bytesLess a1.toList a2.toList)) = true
                · rw [if_pos c30] at H
                  have c30b0 : ((Op.bytesLess t234.toList t235.toList) == (Op.bytesLess a1.toList a2.toList)) = true := c30
                  (try (have c30b1 : decide ((Op.bytesLess t234.toList t235.toList) = (Op.bytesLess a1.toList a2.toList)) = true := by simpa using c30))
                  (try (have c30b2 : ((Op.bytesLess t234.toList t235.toList) == (Op.bytesLess a1.toList a2.toList)) = true := by simpa using c30))
                  clear c30
                  replace H := Option.bind_eq_some_iff.mp H
                  obtain ⟨t236, A310, H⟩ := H
                  replace H : ((codec_Text.f a2).bind fun t237 => (if ((t236.toList == t237.toList) == (a1.toList == a2.toList)) = true then ((hopperlaw03_live.f).bind fun t238 => (some t238)) else (none))) = some r := H
                  have A31 := Aside0.mk A310
                  clear A310
                  replace H := Option.bind_eq_some_iff.mp H
                  obtain ⟨t237, A320, H⟩ := H
                  replace H : (if ((t236.toList == t237.toList) == (a1.toList == a2.toList)) = true then ((hopperlaw03_live.f).bind fun t238 => (some t238)) else (none)) = some r := H
                  have A32 := Aside0.mk A320
                  clear A320
                  by_cases c33 : ((t236.toList == t237.toList) == (a1.toList == a2.toList)) = true
                  · rw [if_pos c33] at H
                    have c33b0 : ((t236.toList == t237.toList) == (a1.toList == a2.toList)) = true := c33
                    have E1_ : t236 = t234 := Option.some.inj (A31.out.symm.trans A28.out)
                    have E2_ : t237 = t235 := Option.some.inj (A32.out.symm.trans A29.out)
                    have c33c0 : ((t234.toList == t235.toList) == (a1.toList == a2.toList)) = true := by rw [← E1_, ← E2_]; exact c33
                    have c33c1 : (t234.toList == t235.toList) = (a1.toList == a2.toList) := eq_of_beq c33c0
                    (try (have c33b1 : decide ((t236.toList == t237.toList) = (a1.toList == a2.toList)) = true := by simpa using c33))
                    (try (have c33b2 : ((t236.toList == t237.toList) == (a1.toList == a2.toList)) = true := by simpa using c33))
                    clear c33
                    replace H := Option.bind_eq_some_iff.mp H
                    obtain ⟨t238, A340, H⟩ := H
                    replace H : (some t238) = some r := H
                    have A34 := Aside0.mk A340
                    clear A340
                    obtain rfl := Option.some.inj H
                    go_wp2_with (first | (go_at_call 26; (with_reducible refine (codec_Text.calls a1 t234 _ A28.out).mono ?_); rintro e w35 ⟨rfl, hb⟩; have n0_ := Aside0.mk (blk_below (g := gb230) (o := .cells #[.int .i64 a0_0, .int .i64 a0_1] 53 (0, 0)) (by (with_reducible repeat (first | refine blk_drewN ?_ _ | refine blk_drew ?_ | refine blk_alloc ?_ _)); exact BK230.out) hb); have n1_ := Aside0.mk (below_step (by repeat (first | (with_reducible first | exact HB.out | apply below_alloc | apply pw_below_drewN | apply below_drew1 | refine below_set ?_ GE230.out) | exact HB.out)) hb); clear BK230; clear HB; have BK230 := n0_; have HB := n1_; clear n0_ n1_; (try clear hb); (try clear hb2); (try clear hk); (try clear hi)) | (go_at_call 26; (with_reducible refine (codec_Text.calls a2 t235 _ A29.out).mono ?_); rintro e w36 ⟨rfl, hb⟩; have n0_ := Aside0.mk (blk_below (g := gb230) (o := .cells #[.int .i64 a0_0, .int .i64 a0_1] 53 (0, 0)) (by (with_reducible repeat (first | refine blk_drewN ?_ _ | refine blk_drew ?_ | refine blk_alloc ?_ _)); exact BK230.out) hb); have n1_ := Aside0.mk (below_step (by repeat (first | (with_reducible first | exact HB.out | apply below_alloc | apply pw_below_drewN | apply below_drew1 | refine below_set ?_ GE230.out) | exact HB.out)) hb); clear BK230; clear HB; have BK230 := n0_; have HB := n1_; clear n0_ n1_; (try clear hb); (try clear hb2); (try clear hk); (try clear hi)) | (go_at_call 26; (with_reducible refine (codec_Text.calls a1 t236 _ A31.out).mono ?_); rintro e w37 ⟨rfl, hb⟩; have n0_ := Aside0.mk (blk_below (g := gb230) (o := .cells #[.int .i64 a0_0, .int .i64 a0_1] 53 (0, 0)) (by (with_reducible repeat (first | refine blk_drewN ?_ _ | refine blk_drew ?_ | refine blk_alloc ?_ _)); exact BK230.out) hb); have n1_ := Aside0.mk (below_step (by repeat (first | (with_reducible first | exact HB.out | apply below_alloc | apply pw_below_drewN | apply below_drew1 | refine below_set ?_ GE230.out) | exact HB.out)) hb); clear BK230; clear HB; have BK230 := n0_; have HB := n1_; clear n0_ n1_; (try clear hb); (try clear hb2); (try clear hk); (try clear hi)) | (go_at_call 26; (with_reducible refine (codec_Text.calls a2 t237 _ A32.out).mono ?_); rintro e w38 ⟨rfl, hb⟩; have n0_ := Aside0.mk (blk_below (g := gb230) (o := .cells #[.int .i64 a0_0, .int .i64 a0_1] 53 (0, 0)) (by (with_reducible repeat (first | refine blk_drewN ?_ _ | refine blk_drew ?_ | refine blk_alloc ?_ _)); exact BK230.out) hb); have n1_ := Aside0.mk (below_step (by repeat (first | (with_reducible first | exact HB.out | apply below_alloc | apply pw_below_drewN | apply below_drew1 | refine below_set ?_ GE230.out) | exact HB.out)) hb); clear BK230; clear HB; have BK230 := n0_; have HB := n1_; clear n0_ n1_; (try clear hb); (try clear hb2); (try clear hk); (try clear hi)) | (go_at_call 28; (with_reducible refine (hopperlaw03_live.calls  t238 _ A34.out).mono ?_); rintro e w39 ⟨rfl, hb⟩; have n0_ := Aside0.mk (blk_below (g := gb230) (o := .cells #[.int .i64 a0_0, .int .i64 a0_1] 53 (0, 0)) (by (with_reducible repeat (first | refine blk_drewN ?_ _ | refine blk_drew ?_ | refine blk_alloc ?_ _)); exact BK230.out) hb); have n1_ := Aside0.mk (below_step (by repeat (first | (with_reducible first | exact HB.out | apply below_alloc | apply pw_below_drewN | apply below_drew1 | refine below_set ?_ GE230.out) | exact HB.out)) hb); clear BK230; clear HB; have BK230 := n0_; have HB := n1_; clear n0_ n1_; (try clear hb); (try clear hb2); (try clear hk); (try clear hi)))
                    go_ret
                    exact ⟨by first | rfl | (simp [errW_none, errW_some] <;> rfl) | (simp [*, errW_none, errW_some] <;> rfl), by repeat (first | (with_reducible first | exact HB.out | apply below_alloc | apply pw_below_drewN | apply below_drew1 | refine below_set ?_ GE230.out) | exact HB.out)⟩
                  · rw [if_neg c33] at H
                    exact absurd H (by simp)
                · rw [if_neg c30] at H
                  exact absurd H (by simp)
              · rw [if_neg c27] at H
                have c27b0 : ((a1.size : Int) == (a2.size : Int)) = false := beq_eq_false_iff_ne.mpr c27
                have c27b1 : ((a1.size : Int) != (a2.size : Int)) = true := bne_iff_ne.mpr c27
                have c27b2 : (a1.size == a2.size) = false := by first | simpa using c27 | (simp at c27 ⊢; omega)
                replace H := Option.bind_eq_some_iff.mp H
                obtain ⟨t239, A400, H⟩ := H
                replace H : ((codec_Text.f a2).bind fun t240 => (if ((t239.toList == t240.toList) == (a1.toList == a2.toList)) = true then ((hopperlaw03_live.f).bind fun t241 => (some t241)) else (none))) = some r := H
                have A40 := Aside0.mk A400
                clear A400
                replace H := Option.bind_eq_some_iff.mp H
                obtain ⟨t240, A410, H⟩ := H
                replace H : (if ((t239.toList == t240.toList) == (a1.toList == a2.toList)) = true then ((hopperlaw03_live.f).bind fun t241 => (some t241)) else (none)) = some r := H
                have A41 := Aside0.mk A410
                clear A410
                by_cases c42 : ((t239.toList == t240.toList) == (a1.toList == a2.toList)) = true
                · rw [if_pos c42] at H
                  have c42b0 : ((t239.toList == t240.toList) == (a1.toList == a2.toList)) = true := c42
                  (try (have c42b1 : decide ((t239.toList == t240.toList) = (a1.toList == a2.toList)) = true := by simpa using c42))
                  (try (have c42b2 : ((t239.toList == t240.toList) == (a1.toList == a2.toList)) = true := by simpa using c42))
                  clear c42
                  replace H := Option.bind_eq_some_iff.mp H
                  obtain ⟨t241, A430, H⟩ := H
                  replace H : (some t241) = some r := H
                  have A43 := Aside0.mk A430
                  clear A430
                  obtain rfl := Option.some.inj H
                  go_wp2_with (first | (go_at_call 26; (with_reducible refine (codec_Text.calls a1 t239 _ A40.out).mono ?_); rintro e w44 ⟨rfl, hb⟩; have n0_ := Aside0.mk (blk_below (g := gb230) (o := .cells #[.int .i64 a0_0, .int .i64 a0_1] 53 (0, 0)) (by (with_reducible repeat (first | refine blk_drewN ?_ _ | refine blk_drew ?_ | refine blk_alloc ?_ _)); exact BK230.out) hb); have n1_ := Aside0.mk (below_step (by repeat (first | (with_reducible first | exact HB.out | apply below_alloc | apply pw_below_drewN | apply below_drew1 | refine below_set ?_ GE230.out) | exact HB.out)) hb); clear BK230; clear HB; have BK230 := n0_; have HB := n1_; clear n0_ n1_; (try clear hb); (try clear hb2); (try clear hk); (try clear hi)) | (go_at_call 26; (with_reducible refine (codec_Text.calls a2 t240 _ A41.out).mono ?_); rintro e w45 ⟨rfl, hb⟩; have n0_ := Aside0.mk (blk_below (g := gb230) (o := .cells #[.int .i64 a0_0, .int .i64 a0_1] 53 (0, 0)) (by (with_reducible repeat (first | refine blk_drewN ?_ _ | refine blk_drew ?_ | refine blk_alloc ?_ _)); exact BK230.out) hb); have n1_ := Aside0.mk (below_step (by repeat (first | (with_reducible first | exact HB.out | apply below_alloc | apply pw_below_drewN | apply below_drew1 | refine below_set ?_ GE230.out) | exact HB.out)) hb); clear BK230; clear HB; have BK230 := n0_; have HB := n1_; clear n0_ n1_; (try clear hb); (try clear hb2); (try clear hk); (try clear hi)) | (go_at_call 28; (with_reducible refine (hopperlaw03_live.calls  t241 _ A43.out).mono ?_); rintro e w46 ⟨rfl, hb⟩; have n0_ := Aside0.mk (blk_below (g := gb230) (o := .cells #[.int .i64 a0_0, .int .i64 a0_1] 53 (0, 0)) (by (with_reducible repeat (first | refine blk_drewN ?_ _ | refine blk_drew ?_ | refine blk_alloc ?_ _)); exact BK230.out) hb); have n1_ := Aside0.mk (below_step (by repeat (first | (with_reducible first | exact HB.out | apply below_alloc | apply pw_below_drewN | apply below_drew1 | refine below_set ?_ GE230.out) | exact HB.out)) hb); clear BK230; clear HB; have BK230 := n0_; have HB := n1_; clear n0_ n1_; (try clear hb); (try clear hb2); (try clear hk); (try clear hi)))
                  go_ret
                  exact ⟨by first | rfl | (simp [errW_none, errW_some] <;> rfl) | (simp [*, errW_none, errW_some] <;> rfl), by repeat (first | (with_reducible first | exact HB.out | apply below_alloc | apply pw_below_drewN | apply below_drew1 | refine below_set ?_ GE230.out) | exact HB.out)⟩
                · rw [if_neg c42] at H
                  exact absurd H (by simp)

open Go.Proofs.Ytfpomamhcjkoeab.Row (okI okB okS okL) in
/-- THE ONE PURE STATEMENT of hopperlaw03_CodecOrder. -/
def hopperlaw03_CodecOrder.Pure : Prop := ∀ (a0_0 : Int) (a0_1 : Int) (a1 : ByteArray) (a2 : ByteArray), ok53 (⟨a0_0, a0_1⟩ : S53) → okS a1 → okS a2 → ∃ k, hopperlaw03_CodecOrder.f k a0_0 a0_1 a1 a2 = some true

end Go.Proofs.Ytfpomamhcjkoeab.C
