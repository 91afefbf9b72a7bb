/- Written by this session's own program over the kit's print: functions of Go told as plain functions, or the row of one statement; proved for every input, with no condition of ours. -/
import Derived.Test.YtfpomamhcjkoeaaLx0
import Derived.Test.YtfpomamhcjkoeaaLx1
namespace Go.Proofs.Ytfpomamhcjkoeaa.L
open Go.RowKit Go.Proofs.YtfpomamhcjkoeaaW.PrintWords Go.Proofs.YtfpomamhcjkoeaaW.PrintLast Go.Proofs.YtfpomamhcjkoeaaW.PrintMore
attribute [local go_sem] max2_int min2_int max_two min_two max_three min_three max_four min_four   -- for this text's walks alone
set_option linter.unusedVariables false
set_option linter.unusedSimpArgs false

/-! ### hopperlaw02_FnvRolls: function 11 -/
mutual
def hopperlaw02_FnvRolls.j0 : Nat → ByteArray → ByteArray → Bool → Int → Int → Option (Bool)
  | 0, _, _, _, _, _ => none
  | k + 1, x0, x1, x16, x130000, x130001 => if x16 = true then ((hopperlaw02_live.f).bind fun t130 => (some t130)) else (if x0.size + x1.size ≤ 9223372036854775807 then ((fnv_Of.f (x0 ++ x1)).bind fun t131 => ((fnv_Of.f x0).bind fun t132 => ((fnv_Roll.f t132 x1).bind fun t133 => (if t131 = t133 then ((fnv_Of.f x0).bind fun t134 => ((fnv_Roll.f t134 (⟨#[]⟩ : ByteArray)).bind fun t135 => ((fnv_Of.f x0).bind fun t136 => (hopperlaw02_FnvRolls.j1 k x0 (t135 != t136) x130000 x130001)))) else (hopperlaw02_FnvRolls.j1 k x0 true x130000 x130001))))) else (none))
def hopperlaw02_FnvRolls.j1 : Nat → ByteArray → Bool → Int → Int → Option (Bool)
  | 0, _, _, _, _ => none
  | k + 1, x0, x34, x130000, x130001 => if x34 = true then (some false) else ((some (([x130000] : List Int) : List Int)).bind fun y137 => (if x0.size + (strOfNums y137).size ≤ 9223372036854775807 then ((fnv_Of.f (x0 ++ (strOfNums y137))).bind fun t140 => ((some (([x130001] : List Int) : List Int)).bind fun y141 => (if x0.size + (strOfNums y141).size ≤ 9223372036854775807 then ((fnv_Of.f (x0 ++ (strOfNums y141))).bind fun t144 => (if ((t140 == t144) == (x130000 == x130001)) = true then ((hopperlaw02_live.f).bind fun t145 => (some t145)) else (some false))) else (none)))) else (none)))
end
def hopperlaw02_FnvRolls.f (k : Nat) (a0 : ByteArray) (a1 : ByteArray) (a2_0 : Int) (a2_1 : Int) : Option (Bool) := if (a0.size : Int) > 70000 then (hopperlaw02_FnvRolls.j0 k a0 a1 true a2_0 a2_1) else (hopperlaw02_FnvRolls.j0 k a0 a1 (decide ((a1.size : Int) > 70000)) a2_0 a2_1)
theorem hopperlaw02_FnvRolls.mono_l : ∀ k, (∀ y0 y1 y2 y3 y4, LeO (hopperlaw02_FnvRolls.j0 k y0 y1 y2 y3 y4) (hopperlaw02_FnvRolls.j0 (k + 1) y0 y1 y2 y3 y4)) ∧ (∀ y0 y1 y2 y3, LeO (hopperlaw02_FnvRolls.j1 k y0 y1 y2 y3) (hopperlaw02_FnvRolls.j1 (k + 1) y0 y1 y2 y3))
  | 0 => ⟨fun _ _ _ _ _ r h => by simp [hopperlaw02_FnvRolls.j0] at h, fun _ _ _ _ r h => by simp [hopperlaw02_FnvRolls.j1] at h⟩
  | k + 1 => by
    obtain ⟨ih0, ih1⟩ := hopperlaw02_FnvRolls.mono_l k
    refine ⟨?_, ?_⟩
    · intro y0 y1 y2 y3 y4
      unfold hopperlaw02_FnvRolls.j0
      repeat' first
      | (with_reducible exact ih0 _ _ _ _ _)
      | (with_reducible exact ih1 _ _ _ _)
      | (with_reducible exact LeO.refl _)
      | (with_reducible exact LeO.none _)
      | (with_reducible refine LeO.ite ?_ ?_)
      | (with_reducible refine LeO.bind ?_ (fun _ => ?_))
      | exact ih0 _ _ _ _ _
      | exact ih1 _ _ _ _
      | exact LeO.none _
      | refine LeO.ite ?_ ?_
      | refine LeO.bind ?_ (fun _ => ?_)
    · intro y0 y1 y2 y3
      unfold hopperlaw02_FnvRolls.j1
      repeat' first
      | (with_reducible exact ih0 _ _ _ _ _)
      | (with_reducible exact ih1 _ _ _ _)
      | (with_reducible exact LeO.refl _)
      | (with_reducible exact LeO.none _)
      | (with_reducible refine LeO.ite ?_ ?_)
      | (with_reducible refine LeO.bind ?_ (fun _ => ?_))
      | exact ih0 _ _ _ _ _
      | exact ih1 _ _ _ _
      | exact LeO.none _
      | refine LeO.ite ?_ ?_
      | refine LeO.bind ?_ (fun _ => ?_)
theorem hopperlaw02_FnvRolls.mono : ∀ a0 a1 a2 a3 k, LeO (hopperlaw02_FnvRolls.f k a0 a1 a2 a3) (hopperlaw02_FnvRolls.f (k + 1) a0 a1 a2 a3) := by
  intro a0 a1 a2 a3 k
  obtain ⟨ih0, ih1⟩ := hopperlaw02_FnvRolls.mono_l k
  unfold hopperlaw02_FnvRolls.f
  repeat' first
      | (with_reducible exact ih0 _ _ _ _ _)
      | (with_reducible exact ih1 _ _ _ _)
      | (with_reducible exact LeO.refl _)
      | (with_reducible exact LeO.none _)
      | (with_reducible refine LeO.ite ?_ ?_)
      | (with_reducible refine LeO.bind ?_ (fun _ => ?_))
      | exact ih0 _ _ _ _ _
      | exact ih1 _ _ _ _
      | exact LeO.none _
      | refine LeO.ite ?_ ?_
      | refine LeO.bind ?_ (fun _ => ?_)
set_option maxHeartbeats 8000000 in
set_option maxRecDepth 100000 in
theorem hopperlaw02_FnvRolls.calls (k : Nat) (a0 : ByteArray) (a1 : ByteArray) (a2_0 : Int) (a2_1 : Int) (r : Bool) (w : World) (h : hopperlaw02_FnvRolls.f k a0 a1 a2_0 a2_1 = some r) :
    Calls Try.prog 11 #[.string a0, .string a1, .agg #[.int .u8 a2_0, .int .u8 a2_1]] w fun e w' => e = .returned (.bool r) ∧ Below w.heap.size w w' := by
  have hu41 := Try.underlying41
  have HB := Aside0.mk (Below.refl w.heap.size w)
  have H : (if (a0.size : Int) > 70000 then (hopperlaw02_FnvRolls.j0 k a0 a1 true a2_0 a2_1) else (hopperlaw02_FnvRolls.j0 k a0 a1 (decide ((a1.size : Int) > 70000)) a2_0 a2_1)) = some r := h
  clear h
  have HC4 := Aside0.mk H
  clear H
  go_enter Try.func11, Try.ntmps11
  go_upto_region 1 with (first | ((with_reducible refine gate_dst (N := 5) rfl ?_); (try (refine gate_guard (by rfl) ?_; dsimp only)); refine box_event ?hg (N := 5) ?hd (cs := #[.int .u8 a2_0, .int .u8 a2_1]) (t := 41) ?hr ?_; (case hd => rfl); (case hg => rfl); (case hr => first | (go_simp; done) | (go_simp; rfl)); intro gb129 hg w5 hbox hb; have n0_ := Aside0.mk (below_step (by repeat (first | (with_reducible first | exact HB.out | apply below_alloc | apply pw_below_drewN | apply below_drew1) | exact HB.out)) hb); have n1_ := Aside0.mk (hbox); have n2_ := Aside0.mk ((by rw [hg]; exact (below_size (by repeat (first | (with_reducible first | exact HB.out | apply below_alloc | apply pw_below_drewN | apply below_drew1) | exact HB.out))) : w.heap.size ≤ gb129)); have n3_ := Aside0.mk ((by rw [hg]; exact (below_size (by repeat (first | (with_reducible first | exact HB.out | apply below_alloc | apply pw_below_drewN | apply below_drew1) | exact HB.out))) : w.heap.size ≤ gb129)); clear HB; have HB := n0_; have BK129 := n1_; have GW129 := n2_; have GE129 := n3_; clear n0_ n1_ n2_ n3_; clear hb hbox hg))
  (try simp only [Act.put, List.setIfInBounds_toArray, List.set_cons_zero, List.set_cons_succ])
  go_cut [16] (fun v16 wc => ∃ (kq : Nat) (x16_3 : Bool), v16 = .bool x16_3 ∧ Aside0 (hopperlaw02_FnvRolls.j0 kq a0 a1 x16_3 a2_0 a2_1 = some r) ∧ Aside0 (kq ≤ k) ∧ Aside0 (wc.heap[gb129]? = some (.cells #[.int .u8 a2_0, .int .u8 a2_1] 41 (0, 0))) ∧ Aside0 (Below w.heap.size w wc))
  case first =>
    have H := HC4.out
    clear HC4
    by_cases c6 : (a0.size : Int) > 70000
    · rw [if_pos c6] at H
      have c6b0 : decide (70000 < (a0.size : Int)) = true := decide_eq_true c6
      have c6b1 : decide (70000 < a0.size) = true := decide_eq_true (by omega)
      clear c6
      (first | rw [c6b0] | (simp only [i64_w, i32_w]; rw [c6b0]) | skip)
      have H' := Aside0.mk H
      clear H
      go_wp2
      go_meet
      case rel => exact ⟨_, (true), (by first | rfl | (simp; done) | (simp [*]; done)), H', ⟨by first | omega | exact Nat.le_refl _⟩, ⟨by (with_reducible repeat (first | refine blk_drewN ?_ _ | refine blk_drew ?_ | refine blk_alloc ?_ _)); exact BK129.out⟩, ⟨by repeat (first | (with_reducible first | exact HB.out | apply below_alloc | apply pw_below_drewN | apply below_drew1 | refine below_set ?_ GE129.out) | exact HB.out)⟩⟩
    · rw [if_neg c6] at H
      have c6b0 : decide (70000 < (a0.size : Int)) = false := decide_eq_false c6
      have c6b1 : decide (70000 < a0.size) = false := decide_eq_false (by omega)
      clear c6
      (first | rw [c6b0] | (simp only [i64_w, i32_w]; rw [c6b0]) | skip)
      have H' := Aside0.mk H
      clear H
      go_wp2
      go_meet
      case rel => exact ⟨_, (decide ((a1.size : Int) > 70000)), (by first | rfl | (simp; done) | (simp [*]; done)), H', ⟨by first | omega | exact Nat.le_refl _⟩, ⟨by (with_reducible repeat (first | refine blk_drewN ?_ _ | refine blk_drew ?_ | refine blk_alloc ?_ _)); exact BK129.out⟩, ⟨by repeat (first | (with_reducible first | exact HB.out | apply below_alloc | apply pw_below_drewN | apply below_drew1 | refine below_set ?_ GE129.out) | exact HB.out)⟩⟩
  case rest =>
    clear HC4
    try clear c1
    try clear p2
    try clear c6
    try clear c6b0
    try clear c6b1
    obtain ⟨kq, x16_3, rfl, HA, HJ3, BK129, HB⟩ := hcut
    cases kq with
    | zero => exact absurd HA.out (by simp [hopperlaw02_FnvRolls.j0])
    | succ kj3 =>
      have H := HA.out
      clear HA
      simp only [hopperlaw02_FnvRolls.j0] at H
      by_cases c7 : x16_3 = true
      · subst c7
        have H1 : ((hopperlaw02_live.f).bind fun t130 => (some t130)) = some r := by rw [if_pos rfl] at H; exact H
        clear H
        have H := H1
        clear H1
        replace H := Option.bind_eq_some_iff.mp H
        obtain ⟨t130, A80, H⟩ := H
        replace H : (some t130) = some r := H
        have A8 := Aside0.mk A80
        clear A80
        obtain rfl := Option.some.inj H
        go_wp2_with (first | ((with_reducible refine gate_callee (f := 26) rfl ?_); refine goesL_ (some 17) rfl rfl Try.func26 (by kernel_rfl) rfl #[] rfl (by (try simp only [List.map_toArray, List.map_cons, List.map_nil]); first | done | rfl | (simp only [List.length_drop, List.length_take]; rfl)) ?_; (with_reducible refine (hopperlaw02_live.calls  t130 _ A8.out).mono ?_); rintro e w9 ⟨rfl, hb⟩; refine ⟨_, rfl, ?_⟩; have n0_ := Aside0.mk (blk_below (g := gb129) (o := .cells #[.int .u8 a2_0, .int .u8 a2_1] 41 (0, 0)) (by (with_reducible repeat (first | refine blk_drewN ?_ _ | refine blk_drew ?_ | refine blk_alloc ?_ _)); exact BK129.out) hb); have n1_ := Aside0.mk (below_step (by repeat (first | (with_reducible first | exact HB.out | apply below_alloc | apply pw_below_drewN | apply below_drew1 | refine below_set ?_ GE129.out) | exact HB.out)) hb); clear BK129; clear HB; have BK129 := n0_; have HB := n1_; clear n0_ n1_; (try clear hb); (try clear hb2); (try clear hk); (try clear hi)))
        go_ret
        exact ⟨by first | rfl | (simp [errW_none, errW_some] <;> rfl) | (simp [*, errW_none, errW_some] <;> rfl), by repeat (first | (with_reducible first | exact HB.out | apply below_alloc | apply pw_below_drewN | apply below_drew1 | refine below_set ?_ GE129.out) | exact HB.out)⟩
      · replace c7 := Bool.eq_false_iff.mpr c7
        subst c7
        have H1 : (if a0.size + a1.size ≤ 9223372036854775807 then ((fnv_Of.f (a0 ++ a1)).bind fun t131 => ((fnv_Of.f a0).bind fun t132 => ((fnv_Roll.f t132 a1).bind fun t133 => (if t131 = t133 then ((fnv_Of.f a0).bind fun t134 => ((fnv_Roll.f t134 (⟨#[]⟩ : ByteArray)).bind fun t135 => ((fnv_Of.f a0).bind fun t136 => (hopperlaw02_FnvRolls.j1 kj3 a0 (t135 != t136) a2_0 a2_1)))) else (hopperlaw02_FnvRolls.j1 kj3 a0 true a2_0 a2_1))))) else (none)) = some r := by rw [if_neg (show ¬ (false = true) by decide)] at H; exact H
        clear H
        have H := H1
        clear H1
        have HC10 := Aside0.mk H
        clear H
        go_upto_region 3 with (fail)
        go_cut [34] (fun v34 wc => ∃ (kq : Nat) (x34_9 : Bool), v34 = .bool x34_9 ∧ Aside0 (hopperlaw02_FnvRolls.j1 kq a0 x34_9 a2_0 a2_1 = some r) ∧ Aside0 (kq ≤ kj3) ∧ Aside0 (wc.heap[gb129]? = some (.cells #[.int .u8 a2_0, .int .u8 a2_1] 41 (0, 0))) ∧ Aside0 (Below w.heap.size w wc))
        case first =>
          have H := HC10.out
          clear HC10
          by_cases c11 : a0.size + a1.size ≤ 9223372036854775807
          · rw [if_pos c11] at H
            have c11b0 := eq_true c11
            have c11b1 : decide (a0.size + a1.size ≤ 9223372036854775807) = true := decide_eq_true c11
            try have c11b2 : (9223372036854775807 < a0.size + a1.size) = False := eq_false (Nat.not_lt.2 c11)
            replace H := Option.bind_eq_some_iff.mp H
            obtain ⟨t131, A120, H⟩ := H
            replace H : ((fnv_Of.f a0).bind fun t132 => ((fnv_Roll.f t132 a1).bind fun t133 => (if t131 = t133 then ((fnv_Of.f a0).bind fun t134 => ((fnv_Roll.f t134 (⟨#[]⟩ : ByteArray)).bind fun t135 => ((fnv_Of.f a0).bind fun t136 => (hopperlaw02_FnvRolls.j1 kj3 a0 (t135 != t136) a2_0 a2_1)))) else (hopperlaw02_FnvRolls.j1 kj3 a0 true a2_0 a2_1)))) = some r := H
            have A12 := Aside0.mk A120
            clear A120
            replace H := Option.bind_eq_some_iff.mp H
            obtain ⟨t132, A130, H⟩ := H
            replace H : ((fnv_Roll.f t132 a1).bind fun t133 => (if t131 = t133 then ((fnv_Of.f a0).bind fun t134 => ((fnv_Roll.f t134 (⟨#[]⟩ : ByteArray)).bind fun t135 => ((fnv_Of.f a0).bind fun t136 => (hopperlaw02_FnvRolls.j1 kj3 a0 (t135 != t136) a2_0 a2_1)))) else (hopperlaw02_FnvRolls.j1 kj3 a0 true a2_0 a2_1))) = some r := H
            have A13 := Aside0.mk A130
            clear A130
            replace H := Option.bind_eq_some_iff.mp H
            obtain ⟨t133, A140, H⟩ := H
            replace H : (if t131 = t133 then ((fnv_Of.f a0).bind fun t134 => ((fnv_Roll.f t134 (⟨#[]⟩ : ByteArray)).bind fun t135 => ((fnv_Of.f a0).bind fun t136 => (hopperlaw02_FnvRolls.j1 kj3 a0 (t135 != t136) a2_0 a2_1)))) else (hopperlaw02_FnvRolls.j1 kj3 a0 true a2_0 a2_1)) = some r := H
            have A14 := Aside0.mk A140
            clear A140
            by_cases c15 : t131 = t133
            · rw [if_pos c15] at H
              have c15b0 : (t131 == t133) = true := beq_iff_eq.mpr c15
              have c15b1 : (t131 != t133) = false := bne_eq_false_iff_eq.mpr c15
              clear c15
              (first | rw [c15b0] | (simp only [i64_w, i32_w]; rw [c15b0]) | skip)
              replace H := Option.bind_eq_some_iff.mp H
              obtain ⟨t134, A160, H⟩ := H
              replace H : ((fnv_Roll.f t134 (⟨#[]⟩ : ByteArray)).bind fun t135 => ((fnv_Of.f a0).bind fun t136 => (hopperlaw02_FnvRolls.j1 kj3 a0 (t135 != t136) a2_0 a2_1))) = some r := H
              have A16 := Aside0.mk A160
              clear A160
              replace H := Option.bind_eq_some_iff.mp H
              obtain ⟨t135, A170, H⟩ := H
              replace H : ((fnv_Of.f a0).bind fun t136 => (hopperlaw02_FnvRolls.j1 kj3 a0 (t135 != t136) a2_0 a2_1)) = some r := H
              have A17 := Aside0.mk A170
              clear A170
              replace H := Option.bind_eq_some_iff.mp H
              obtain ⟨t136, A180, H⟩ := H
              replace H : (hopperlaw02_FnvRolls.j1 kj3 a0 (t135 != t136) a2_0 a2_1) = some r := H
              have A18 := Aside0.mk A180
              clear A180
              have H' := Aside0.mk H
              clear H
              go_wp2_with (first | ((with_reducible refine gate_callee (f := 27) rfl ?_); refine goesL_ (some 21) rfl rfl Try.func27 (by kernel_rfl) rfl #[.string (a0 ++ a1)] rfl (by (try simp only [List.map_toArray, List.map_cons, List.map_nil]); first | done | rfl | (simp only [List.length_drop, List.length_take]; rfl)) ?_; (with_reducible refine (fnv_Of.calls (a0 ++ a1) t131 _ A12.out).mono ?_); rintro e w' ⟨rfl, ⟨nd, rfl⟩⟩; refine ⟨_, rfl, ?_⟩) | ((with_reducible refine gate_callee (f := 27) rfl ?_); refine goesL_ (some 23) rfl rfl Try.func27 (by kernel_rfl) rfl #[.string a0] rfl (by (try simp only [List.map_toArray, List.map_cons, List.map_nil]); first | done | rfl | (simp only [List.length_drop, List.length_take]; rfl)) ?_; (with_reducible refine (fnv_Of.calls a0 t132 _ A13.out).mono ?_); rintro e w' ⟨rfl, ⟨nd, rfl⟩⟩; refine ⟨_, rfl, ?_⟩) | ((with_reducible refine gate_callee (f := 29) rfl ?_); refine goesL_ (some 25) rfl rfl Try.func29 (by kernel_rfl) rfl #[.int .u64 t132, .string a1] rfl (by (try simp only [List.map_toArray, List.map_cons, List.map_nil]); first | done | rfl | (simp only [List.length_drop, List.length_take]; rfl)) ?_; (with_reducible refine (fnv_Roll.calls t132 a1 t133 _ A14.out).mono ?_); rintro e w' ⟨rfl, ⟨nd, rfl⟩⟩; refine ⟨_, rfl, ?_⟩) | (go_at_call 27; (with_reducible refine (fnv_Of.calls a0 t134 _ A16.out).mono ?_); rintro e w' ⟨rfl, ⟨nd, rfl⟩⟩) | (go_at_call 29; (with_reducible refine (fnv_Roll.calls t134 (⟨#[]⟩ : ByteArray) t135 _ A17.out).mono ?_); rintro e w' ⟨rfl, ⟨nd, rfl⟩⟩) | (go_at_call 27; (with_reducible refine (fnv_Of.calls a0 t136 _ A18.out).mono ?_); rintro e w' ⟨rfl, ⟨nd, rfl⟩⟩))
              go_meet
              case rel => exact ⟨_, ((t135 != t136)), (by first | rfl | (simp; done) | (simp [*]; done) | (simp only [Option.some.inj (A16.out.symm.trans A18.out)])), H', ⟨by have := HJ3.out; first | omega | exact Nat.le_refl _⟩, ⟨by (with_reducible repeat (first | refine blk_drewN ?_ _ | refine blk_drew ?_ | refine blk_alloc ?_ _)); exact BK129.out⟩, ⟨by repeat (first | (with_reducible first | exact HB.out | apply below_alloc | apply pw_below_drewN | apply below_drew1 | refine below_set ?_ GE129.out) | exact HB.out)⟩⟩
            · rw [if_neg c15] at H
              have c15b0 : (t131 == t133) = false := beq_eq_false_iff_ne.mpr c15
              have c15b1 : (t131 != t133) = true := bne_iff_ne.mpr c15
              (first | rw [c15b0] | (simp only [i64_w, i32_w]; rw [c15b0]) | skip)
              have H' := Aside0.mk H
              clear H
              go_wp2_with (first | ((with_reducible refine gate_callee (f := 27) rfl ?_); refine goesL_ (some 21) rfl rfl Try.func27 (by kernel_rfl) rfl #[.string (a0 ++ a1)] rfl (by (try simp only [List.map_toArray, List.map_cons, List.map_nil]); first | done | rfl | (simp only [List.length_drop, List.length_take]; rfl)) ?_; (with_reducible refine (fnv_Of.calls (a0 ++ a1) t131 _ A12.out).mono ?_); rintro e w' ⟨rfl, ⟨nd, rfl⟩⟩; refine ⟨_, rfl, ?_⟩) | ((with_reducible refine gate_callee (f := 27) rfl ?_); refine goesL_ (some 23) rfl rfl Try.func27 (by kernel_rfl) rfl #[.string a0] rfl (by (try simp only [List.map_toArray, List.map_cons, List.map_nil]); first | done | rfl | (simp only [List.length_drop, List.length_take]; rfl)) ?_; (with_reducible refine (fnv_Of.calls a0 t132 _ A13.out).mono ?_); rintro e w' ⟨rfl, ⟨nd, rfl⟩⟩; refine ⟨_, rfl, ?_⟩) | ((with_reducible refine gate_callee (f := 29) rfl ?_); refine goesL_ (some 25) rfl rfl Try.func29 (by kernel_rfl) rfl #[.int .u64 t132, .string a1] rfl (by (try simp only [List.map_toArray, List.map_cons, List.map_nil]); first | done | rfl | (simp only [List.length_drop, List.length_take]; rfl)) ?_; (with_reducible refine (fnv_Roll.calls t132 a1 t133 _ A14.out).mono ?_); rintro e w' ⟨rfl, ⟨nd, rfl⟩⟩; refine ⟨_, rfl, ?_⟩))
              go_meet
              case rel => exact ⟨_, (true), (by first | rfl | (simp; done) | (simp [*]; done)), H', ⟨by have := HJ3.out; first | omega | exact Nat.le_refl _⟩, ⟨by (with_reducible repeat (first | refine blk_drewN ?_ _ | refine blk_drew ?_ | refine blk_alloc ?_ _)); exact BK129.out⟩, ⟨by repeat (first | (with_reducible first | exact HB.out | apply below_alloc | apply pw_below_drewN | apply below_drew1 | refine below_set ?_ GE129.out) | exact HB.out)⟩⟩
          · rw [if_neg c11] at H
            exact absurd H (by simp)
        case rest =>
          clear HC10
          try clear c1
          try clear c2
          try clear p2
          try clear c6
          try clear c6b0
          try clear c6b1
          try clear c7
          try clear c11
          try clear c11b0
          try clear c11b1
          try clear c11b2
          try clear c15
          try clear c15b0
          try clear c15b1
          try clear p2
          obtain ⟨kq, x34_9, rfl, HA, HJ9, BK129, HB⟩ := hcut
          cases kq with
          | zero => exact absurd HA.out (by simp [hopperlaw02_FnvRolls.j1])
          | succ kj9 =>
            have H := HA.out
            clear HA
            simp only [hopperlaw02_FnvRolls.j1] at H
            by_cases c19 : x34_9 = true
            · subst c19
              have H1 : (some false) = some r := by rw [if_pos rfl] at H; exact H
              clear H
              have H := H1
              clear H1
              obtain rfl := Option.some.inj H
              go_wp2
              go_ret
              exact ⟨by first | rfl | (simp [errW_none, errW_some] <;> rfl) | (simp [*, errW_none, errW_some] <;> rfl), by repeat (first | (with_reducible first | exact HB.out | apply below_alloc | apply pw_below_drewN | apply below_drew1 | refine below_set ?_ GE129.out) | exact HB.out)⟩
            · replace c19 := Bool.eq_false_iff.mpr c19
              subst c19
              have H1 : ((some (([a2_0] : List Int) : List Int)).bind fun y137 => (if a0.size + (strOfNums y137).size ≤ 9223372036854775807 then ((fnv_Of.f (a0 ++ (strOfNums y137))).bind fun t140 => ((some (([a2_1] : List Int) : List Int)).bind fun y141 => (if a0.size + (strOfNums y141).size ≤ 9223372036854775807 then ((fnv_Of.f (a0 ++ (strOfNums y141))).bind fun t144 => (if ((t140 == t144) == (a2_0 == a2_1)) = true then ((hopperlaw02_live.f).bind fun t145 => (some t145)) else (some false))) else (none)))) else (none))) = some r := by rw [if_neg (show ¬ (false = true) by decide)] at H; exact H
              clear H
              have H := H1
              clear H1
              obtain ⟨y137, hy137⟩ : ∃ y_ : List Int, y_ = (([a2_0] : List Int)) := ⟨_, rfl⟩
              replace H : (if a0.size + (strOfNums y137).size ≤ 9223372036854775807 then ((fnv_Of.f (a0 ++ (strOfNums y137))).bind fun t140 => ((some (([a2_1] : List Int) : List Int)).bind fun y141 => (if a0.size + (strOfNums y141).size ≤ 9223372036854775807 then ((fnv_Of.f (a0 ++ (strOfNums y141))).bind fun t144 => (if ((t140 == t144) == (a2_0 == a2_1)) = true then ((hopperlaw02_live.f).bind fun t145 => (some t145)) else (some false))) else (none)))) else (none)) = some r := by first | (rw [hy137]; with_reducible exact H) | (have H2_ := (Option.bind_some _ _).symm.trans H; rw [hy137]; with_reducible exact H2_) | (have H2_ := (Option.bind_some _ _).symm.trans H; with_reducible exact H2_) | with_reducible exact H | (rw [hy137]; exact H) | exact H
              have Ny137 := Aside0.mk hy137
              clear hy137
              by_cases c20 : a0.size + (strOfNums y137).size ≤ 9223372036854775807
              · rw [if_pos c20] at H
                have c20b0 := eq_true c20
                have c20b1 : decide (a0.size + (strOfNums y137).size ≤ 9223372036854775807) = true := decide_eq_true c20
                try have c20b2 : (9223372036854775807 < a0.size + (strOfNums y137).size) = False := eq_false (Nat.not_lt.2 c20)
                replace H := Option.bind_eq_some_iff.mp H
                obtain ⟨t140, A210, H⟩ := H
                replace H : ((some (([a2_1] : List Int) : List Int)).bind fun y141 => (if a0.size + (strOfNums y141).size ≤ 9223372036854775807 then ((fnv_Of.f (a0 ++ (strOfNums y141))).bind fun t144 => (if ((t140 == t144) == (a2_0 == a2_1)) = true then ((hopperlaw02_live.f).bind fun t145 => (some t145)) else (some false))) else (none))) = some r := H
                have A21 := Aside0.mk A210
                clear A210
                obtain ⟨y141, hy141⟩ : ∃ y_ : List Int, y_ = (([a2_1] : List Int)) := ⟨_, rfl⟩
                replace H : (if a0.size + (strOfNums y141).size ≤ 9223372036854775807 then ((fnv_Of.f (a0 ++ (strOfNums y141))).bind fun t144 => (if ((t140 == t144) == (a2_0 == a2_1)) = true then ((hopperlaw02_live.f).bind fun t145 => (some t145)) else (some false))) else (none)) = some r := by first | (rw [hy141]; with_reducible exact H) | (have H2_ := (Option.bind_some _ _).symm.trans H; rw [hy141]; with_reducible exact H2_) | (have H2_ := (Option.bind_some _ _).symm.trans H; with_reducible exact H2_) | with_reducible exact H | (rw [hy141]; exact H) | exact H
                have Ny141 := Aside0.mk hy141
                clear hy141
                by_cases c22 : a0.size + (strOfNums y141).size ≤ 9223372036854775807
                · rw [if_pos c22] at H
                  have c22b0 := eq_true c22
                  have c22b1 : decide (a0.size + (strOfNums y141).size ≤ 9223372036854775807) = true := decide_eq_true c22
                  try have c22b2 : (9223372036854775807 < a0.size + (strOfNums y141).size) = False := eq_false (Nat.not_lt.2 c22)
                  replace H := Option.bind_eq_some_iff.mp H
                  obtain ⟨t144, A230, H⟩ := H
                  replace H : (if ((t140 == t144) == (a2_0 == a2_1)) = true then ((hopperlaw02_live.f).bind fun t145 => (some t145)) else (some false)) = some r := H
                  have A23 := Aside0.mk A230
                  clear A230
                  by_cases c24 : ((t140 == t144) == (a2_0 == a2_1)) = true
                  · rw [if_pos c24] at H
                    have c24b0 : ((t140 == t144) == (a2_0 == a2_1)) = true := c24
                    (try (have c24b1 : decide ((t140 == t144) = (a2_0 == a2_1)) = true := by simpa using c24))
                    (try (have c24b2 : ((t140 == t144) == (a2_0 == a2_1)) = true := by simpa using c24))
                    clear c24
                    replace H := Option.bind_eq_some_iff.mp H
                    obtain ⟨t145, A250, H⟩ := H
                    replace H : (some t145) = some r := H
                    have A25 := Aside0.mk A250
                    clear A250
                    obtain rfl := Option.some.inj H
                    have hcz26_0 : wc.cell? ⟨gb129, 0, none⟩ = some (.int .u8 a2_0) := (blk_cell BK129.out 0).trans rfl
                    have hcz26_1 : wc.cell? ⟨gb129, 1, none⟩ = some (.int .u8 a2_1) := (blk_cell BK129.out 1).trans rfl
                    have hfz26_0 := blk_frozen BK129.out 0
                    have hfz26_1 := blk_frozen BK129.out 1
                    go_wp2_with (first | ((with_reducible refine gate_dst (N := 38) rfl ?_); (try (refine gate_guard (by rfl) ?_; dsimp only)); refine Kd.R_lit (Kd.int .u8) _ 5 ?hg (N := 38) ?hd (xs := ([a2_0] : List Int)) (inner := [.int .u8 a2_0]) (ok := fun _ => True) (okp := fun _ => True) ?hr ?hp (fun _ hk => hk) trivial (Below.refl _ _) (Nat.le_refl _) (by simp) ?_; (case hd => rfl); (case hg => rfl); (case hr => first | (go_simp; done) | (go_simp; rfl)); (case hp => exact (Reps.one (show Kd.M (Kd.int .u8) _ _ _ a2_0 [.int .u8 a2_0] from rfl) (Reps.none _ _))); intro v138 w27 ho28 hb hg_ hnew_; clear hg_ hnew_; (first | rw [← Ny137.out] at ho28 | (simp only [Int.reduceToNat] at ho28; rw [← Ny137.out] at ho28)); have n0_ := Aside0.mk (Kd.R_lower ho28 (below_size (by repeat (first | (with_reducible first | exact HB.out | apply below_alloc | apply pw_below_drewN | apply below_drew1 | refine below_set ?_ GE129.out) | exact HB.out)))); have n1_ := Aside0.mk (blk_below (g := gb129) (o := .cells #[.int .u8 a2_0, .int .u8 a2_1] 41 (0, 0)) (by (with_reducible repeat (first | refine blk_drewN ?_ _ | refine blk_drew ?_ | refine blk_alloc ?_ _)); exact BK129.out) hb); have n2_ := Aside0.mk (below_step (by repeat (first | (with_reducible first | exact HB.out | apply below_alloc | apply pw_below_drewN | apply below_drew1 | refine below_set ?_ GE129.out) | exact HB.out)) hb); clear BK129; clear HB; have HO139 := n0_; have BK129 := n1_; have HB := n2_; clear n0_ n1_ n2_; clear hb ho28; have hcv29 := own_string (P := Try.prog) Try.underlying42 Try.underlying5 Try.underlying9 (Kd.own_of_R HO139.out)) | ((with_reducible refine gate_callee (f := 27) rfl ?_); refine goesL_ (some 41) rfl rfl Try.func27 (by kernel_rfl) rfl #[.string (a0 ++ (strOfNums y137))] rfl (by (try simp only [List.map_toArray, List.map_cons, List.map_nil]); first | done | rfl | (simp only [List.length_drop, List.length_take]; rfl)) ?_; (with_reducible refine (fnv_Of.calls (a0 ++ (strOfNums y137)) t140 _ A21.out).mono ?_); rintro e w' ⟨rfl, ⟨nd, rfl⟩⟩; refine ⟨_, rfl, ?_⟩; have hcz30_0 : w27.cell? ⟨gb129, 0, none⟩ = some (.int .u8 a2_0) := (blk_cell BK129.out 0).trans rfl; have hcz30_1 : w27.cell? ⟨gb129, 1, none⟩ = some (.int .u8 a2_1) := (blk_cell BK129.out 1).trans rfl; have hfz30_0 := blk_frozen BK129.out 0; have hfz30_1 := blk_frozen BK129.out 1) | ((with_reducible refine gate_dst (N := 45) rfl ?_); (try (refine gate_guard (by rfl) ?_; dsimp only)); refine Kd.R_lit (Kd.int .u8) _ 5 ?hg (N := 45) ?hd (xs := ([a2_1] : List Int)) (inner := [.int .u8 a2_1]) (ok := fun _ => True) (okp := fun _ => True) ?hr ?hp (fun _ hk => hk) trivial (Below.refl _ _) (Nat.le_refl _) (by simp) ?_; (case hd => rfl); (case hg => rfl); (case hr => first | (go_simp; done) | (go_simp; rfl)); (case hp => exact (Reps.one (show Kd.M (Kd.int .u8) _ _ _ a2_1 [.int .u8 a2_1] from rfl) (Reps.none _ _))); intro v142 w31 ho32 hb hg_ hnew_; clear hg_ hnew_; (first | rw [← Ny141.out] at ho32 | (simp only [Int.reduceToNat] at ho32; rw [← Ny141.out] at ho32)); have n0_ := Aside0.mk (Kd.R_elder' (by (with_reducible repeat (first | apply Kd.R_alloc | apply Kd.R_drewN | apply Kd.R_drew)); exact HO139.out) (Kd.R_base ho32) hb); have n1_ := Aside0.mk (Kd.R_lower (Kd.R_new' ho32 (Kd.R_lt (by (with_reducible repeat (first | apply Kd.R_alloc | apply Kd.R_drewN | apply Kd.R_drew)); exact HO139.out))) (below_size (by repeat (first | (with_reducible first | exact HB.out | apply below_alloc | apply pw_below_drewN | apply below_drew1 | refine below_set ?_ GE129.out) | exact HB.out)))); have n2_ := Aside0.mk (blk_below (g := gb129) (o := .cells #[.int .u8 a2_0, .int .u8 a2_1] 41 (0, 0)) (by (with_reducible repeat (first | refine blk_drewN ?_ _ | refine blk_drew ?_ | refine blk_alloc ?_ _)); exact BK129.out) hb); have n3_ := Aside0.mk (below_step (by repeat (first | (with_reducible first | exact HB.out | apply below_alloc | apply pw_below_drewN | apply below_drew1 | refine below_set ?_ GE129.out) | exact HB.out)) hb); clear HO139; clear BK129; clear HB; have HO139 := n0_; have HO143 := n1_; have BK129 := n2_; have HB := n3_; clear n0_ n1_ n2_ n3_; clear hb ho32; have hcv33 := own_string (P := Try.prog) Try.underlying42 Try.underlying5 Try.underlying9 (Kd.own_of_R HO143.out)) | ((with_reducible refine gate_callee (f := 27) rfl ?_); refine goesL_ (some 48) rfl rfl Try.func27 (by kernel_rfl) rfl #[.string (a0 ++ (strOfNums y141))] rfl (by (try simp only [List.map_toArray, List.map_cons, List.map_nil]); first | done | rfl | (simp only [List.length_drop, List.length_take]; rfl)) ?_; (with_reducible refine (fnv_Of.calls (a0 ++ (strOfNums y141)) t144 _ A23.out).mono ?_); rintro e w' ⟨rfl, ⟨nd, rfl⟩⟩; refine ⟨_, rfl, ?_⟩; have hcz34_0 : w31.cell? ⟨gb129, 0, none⟩ = some (.int .u8 a2_0) := (blk_cell BK129.out 0).trans rfl; have hcz34_1 : w31.cell? ⟨gb129, 1, none⟩ = some (.int .u8 a2_1) := (blk_cell BK129.out 1).trans rfl; have hfz34_0 := blk_frozen BK129.out 0; have hfz34_1 := blk_frozen BK129.out 1) | (go_at_call 26; (with_reducible refine (hopperlaw02_live.calls  t145 _ A25.out).mono ?_); rintro e w35 ⟨rfl, hb⟩; have n0_ := Aside0.mk (Kd.R_below (by (with_reducible repeat (first | apply Kd.R_alloc | apply Kd.R_drewN | apply Kd.R_drew)); exact HO139.out) hb); have n1_ := Aside0.mk (Kd.R_below (by (with_reducible repeat (first | apply Kd.R_alloc | apply Kd.R_drewN | apply Kd.R_drew)); exact HO143.out) hb); have n2_ := Aside0.mk (blk_below (g := gb129) (o := .cells #[.int .u8 a2_0, .int .u8 a2_1] 41 (0, 0)) (by (with_reducible repeat (first | refine blk_drewN ?_ _ | refine blk_drew ?_ | refine blk_alloc ?_ _)); exact BK129.out) hb); have n3_ := Aside0.mk (below_step (by repeat (first | (with_reducible first | exact HB.out | apply below_alloc | apply pw_below_drewN | apply below_drew1 | refine below_set ?_ GE129.out) | exact HB.out)) hb); clear HO139; clear HO143; clear BK129; clear HB; have HO139 := n0_; have HO143 := n1_; have BK129 := n2_; have HB := n3_; clear n0_ n1_ n2_ n3_; (try clear hb); (try clear hb2); (try clear hk); (try clear hi)))
                    go_ret
                    exact ⟨by first | rfl | (simp [errW_none, errW_some] <;> rfl) | (simp [*, errW_none, errW_some] <;> rfl), by repeat (first | (with_reducible first | exact HB.out | apply below_alloc | apply pw_below_drewN | apply below_drew1 | refine below_set ?_ GE129.out) | exact HB.out)⟩
                  · rw [if_neg c24] at H
                    have c24b0 : ((t140 == t144) == (a2_0 == a2_1)) = false := by simpa using c24
                    (try (have c24b1 : decide ((t140 == t144) = (a2_0 == a2_1)) = false := by simpa using c24))
                    (try (have c24b2 : ((t140 == t144) == (a2_0 == a2_1)) = false := by simpa using c24))
                    (try (have c24b3 : ¬ ((t140 == t144) = (a2_0 == a2_1)) := by simpa using c24))
                    clear c24
                    obtain rfl := Option.some.inj H
                    have hcz36_0 : wc.cell? ⟨gb129, 0, none⟩ = some (.int .u8 a2_0) := (blk_cell BK129.out 0).trans rfl
                    have hcz36_1 : wc.cell? ⟨gb129, 1, none⟩ = some (.int .u8 a2_1) := (blk_cell BK129.out 1).trans rfl
                    have hfz36_0 := blk_frozen BK129.out 0
                    have hfz36_1 := blk_frozen BK129.out 1
                    go_wp2_with (first | ((with_reducible refine gate_dst (N := 38) rfl ?_); (try (refine gate_guard (by rfl) ?_; dsimp only)); refine Kd.R_lit (Kd.int .u8) _ 5 ?hg (N := 38) ?hd (xs := ([a2_0] : List Int)) (inner := [.int .u8 a2_0]) (ok := fun _ => True) (okp := fun _ => True) ?hr ?hp (fun _ hk => hk) trivial (Below.refl _ _) (Nat.le_refl _) (by simp) ?_; (case hd => rfl); (case hg => rfl); (case hr => first | (go_simp; done) | (go_simp; rfl)); (case hp => exact (Reps.one (show Kd.M (Kd.int .u8) _ _ _ a2_0 [.int .u8 a2_0] from rfl) (Reps.none _ _))); intro v138 w37 ho38 hb hg_ hnew_; clear hg_ hnew_; (first | rw [← Ny137.out] at ho38 | (simp only [Int.reduceToNat] at ho38; rw [← Ny137.out] at ho38)); have n0_ := Aside0.mk (Kd.R_lower ho38 (below_size (by repeat (first | (with_reducible first | exact HB.out | apply below_alloc | apply pw_below_drewN | apply below_drew1 | refine below_set ?_ GE129.out) | exact HB.out)))); have n1_ := Aside0.mk (blk_below (g := gb129) (o := .cells #[.int .u8 a2_0, .int .u8 a2_1] 41 (0, 0)) (by (with_reducible repeat (first | refine blk_drewN ?_ _ | refine blk_drew ?_ | refine blk_alloc ?_ _)); exact BK129.out) hb); have n2_ := Aside0.mk (below_step (by repeat (first | (with_reducible first | exact HB.out | apply below_alloc | apply pw_below_drewN | apply below_drew1 | refine below_set ?_ GE129.out) | exact HB.out)) hb); clear BK129; clear HB; have HO139 := n0_; have BK129 := n1_; have HB := n2_; clear n0_ n1_ n2_; clear hb ho38; have hcv39 := own_string (P := Try.prog) Try.underlying42 Try.underlying5 Try.underlying9 (Kd.own_of_R HO139.out)) | ((with_reducible refine gate_callee (f := 27) rfl ?_); refine goesL_ (some 41) rfl rfl Try.func27 (by kernel_rfl) rfl #[.string (a0 ++ (strOfNums y137))] rfl (by (try simp only [List.map_toArray, List.map_cons, List.map_nil]); first | done | rfl | (simp only [List.length_drop, List.length_take]; rfl)) ?_; (with_reducible refine (fnv_Of.calls (a0 ++ (strOfNums y137)) t140 _ A21.out).mono ?_); rintro e w' ⟨rfl, ⟨nd, rfl⟩⟩; refine ⟨_, rfl, ?_⟩; have hcz40_0 : w37.cell? ⟨gb129, 0, none⟩ = some (.int .u8 a2_0) := (blk_cell BK129.out 0).trans rfl; have hcz40_1 : w37.cell? ⟨gb129, 1, none⟩ = some (.int .u8 a2_1) := (blk_cell BK129.out 1).trans rfl; have hfz40_0 := blk_frozen BK129.out 0; have hfz40_1 := blk_frozen BK129.out 1) | ((with_reducible refine gate_dst (N := 45) rfl ?_); (try (refine gate_guard (by rfl) ?_; dsimp only)); refine Kd.R_lit (Kd.int .u8) _ 5 ?hg (N := 45) ?hd (xs := ([a2_1] : List Int)) (inner := [.int .u8 a2_1]) (ok := fun _ => True) (okp := fun _ => True) ?hr ?hp (fun _ hk => hk) trivial (Below.refl _ _) (Nat.le_refl _) (by simp) ?_; (case hd => rfl); (case hg => rfl); (case hr => first | (go_simp; done) | (go_simp; rfl)); (case hp => exact (Reps.one (show Kd.M (Kd.int .u8) _ _ _ a2_1 [.int .u8 a2_1] from rfl) (Reps.none _ _))); intro v142 w41 ho42 hb hg_ hnew_; clear hg_ hnew_; (first | rw [← Ny141.out] at ho42 | (simp only [Int.reduceToNat] at ho42; rw [← Ny141.out] at ho42)); have n0_ := Aside0.mk (Kd.R_elder' (by (with_reducible repeat (first | apply Kd.R_alloc | apply Kd.R_drewN | apply Kd.R_drew)); exact HO139.out) (Kd.R_base ho42) hb); have n1_ := Aside0.mk (Kd.R_lower (Kd.R_new' ho42 (Kd.R_lt (by (with_reducible repeat (first | apply Kd.R_alloc | apply Kd.R_drewN | apply Kd.R_drew)); exact HO139.out))) (below_size (by repeat (first | (with_reducible first | exact HB.out | apply below_alloc | apply pw_below_drewN | apply below_drew1 | refine below_set ?_ GE129.out) | exact HB.out)))); have n2_ := Aside0.mk (blk_below (g := gb129) (o := .cells #[.int .u8 a2_0, .int .u8 a2_1] 41 (0, 0)) (by (with_reducible repeat (first | refine blk_drewN ?_ _ | refine blk_drew ?_ | refine blk_alloc ?_ _)); exact BK129.out) hb); have n3_ := Aside0.mk (below_step (by repeat (first | (with_reducible first | exact HB.out | apply below_alloc | apply pw_below_drewN | apply below_drew1 | refine below_set ?_ GE129.out) | exact HB.out)) hb); clear HO139; clear BK129; clear HB; have HO139 := n0_; have HO143 := n1_; have BK129 := n2_; have HB := n3_; clear n0_ n1_ n2_ n3_; clear hb ho42; have hcv43 := own_string (P := Try.prog) Try.underlying42 Try.underlying5 Try.underlying9 (Kd.own_of_R HO143.out)) | ((with_reducible refine gate_callee (f := 27) rfl ?_); refine goesL_ (some 48) rfl rfl Try.func27 (by kernel_rfl) rfl #[.string (a0 ++ (strOfNums y141))] rfl (by (try simp only [List.map_toArray, List.map_cons, List.map_nil]); first | done | rfl | (simp only [List.length_drop, List.length_take]; rfl)) ?_; (with_reducible refine (fnv_Of.calls (a0 ++ (strOfNums y141)) t144 _ A23.out).mono ?_); rintro e w' ⟨rfl, ⟨nd, rfl⟩⟩; refine ⟨_, rfl, ?_⟩; have hcz44_0 : w41.cell? ⟨gb129, 0, none⟩ = some (.int .u8 a2_0) := (blk_cell BK129.out 0).trans rfl; have hcz44_1 : w41.cell? ⟨gb129, 1, none⟩ = some (.int .u8 a2_1) := (blk_cell BK129.out 1).trans rfl; have hfz44_0 := blk_frozen BK129.out 0; have hfz44_1 := blk_frozen BK129.out 1))
                    go_ret
                    exact ⟨by first | rfl | (simp [errW_none, errW_some] <;> rfl) | (simp [*, errW_none, errW_some] <;> rfl), by repeat (first | (with_reducible first | exact HB.out | apply below_alloc | apply pw_below_drewN | apply below_drew1 | refine below_set ?_ GE129.out) | exact HB.out)⟩
                · rw [if_neg c22] at H
                  exact absurd H (by simp)
              · rw [if_neg c20] at H
                exact absurd H (by simp)

open Go.Proofs.Ytfpomamhcjkoeaa.Row (okI okB okS okL) in
/-- THE ONE PURE STATEMENT of hopperlaw02_FnvRolls. -/
def hopperlaw02_FnvRolls.Pure : Prop := ∀ (a0 : ByteArray) (a1 : ByteArray) (a2_0 : Int) (a2_1 : Int), okS a0 → okS a1 → ok41 (⟨a2_0, a2_1⟩ : S41) → ∃ k, hopperlaw02_FnvRolls.f k a0 a1 a2_0 a2_1 = some true

/-! ### hopperlaw02_FnvTexts: function 12 -/
def hopperlaw02_FnvTexts.f (a0 : Int) (a1 : Int) : Option (Bool) := (fnv_Text.f a0).bind fun t146 => ((fnv_Text.f a1).bind fun t147 => (if (t146.size : Int) = 16 then (if (t147.size : Int) = 16 then (if ((t146.toList == t147.toList) == (a0 == a1)) = true then (if ((Op.bytesLess t146.toList t147.toList) == (decide (a0 < a1))) = true then ((hopperlaw02_live.f).bind fun t148 => (some t148)) else (some false)) else (some false)) else (some false)) else (some false)))
set_option maxHeartbeats 8000000 in
set_option maxRecDepth 100000 in
theorem hopperlaw02_FnvTexts.calls (a0 : Int) (a1 : Int) (r : Bool) (w : World) (h : hopperlaw02_FnvTexts.f a0 a1 = some r) :
    Calls Try.prog 12 #[.int .u64 a0, .int .u64 a1] w fun e w' => e = .returned (.bool r) ∧ Below w.heap.size w w' := by
  have HB := Aside0.mk (Below.refl w.heap.size w)
  have H : ((fnv_Text.f a0).bind fun t146 => ((fnv_Text.f a1).bind fun t147 => (if (t146.size : Int) = 16 then (if (t147.size : Int) = 16 then (if ((t146.toList == t147.toList) == (a0 == a1)) = true then (if ((Op.bytesLess t146.toList t147.toList) == (decide (a0 < a1))) = true then ((hopperlaw02_live.f).bind fun t148 => (some t148)) else (some false)) else (some false)) else (some false)) else (some false)))) = some r := h
  clear h
  replace H := Option.bind_eq_some_iff.mp H
  obtain ⟨t146, A30, H⟩ := H
  replace H : ((fnv_Text.f a1).bind fun t147 => (if (t146.size : Int) = 16 then (if (t147.size : Int) = 16 then (if ((t146.toList == t147.toList) == (a0 == a1)) = true then (if ((Op.bytesLess t146.toList t147.toList) == (decide (a0 < a1))) = true then ((hopperlaw02_live.f).bind fun t148 => (some t148)) else (some false)) else (some false)) else (some false)) else (some false))) = some r := H
  have A3 := Aside0.mk A30
  clear A30
  replace H := Option.bind_eq_some_iff.mp H
  obtain ⟨t147, A40, H⟩ := H
  replace H : (if (t146.size : Int) = 16 then (if (t147.size : Int) = 16 then (if ((t146.toList == t147.toList) == (a0 == a1)) = true then (if ((Op.bytesLess t146.toList t147.toList) == (decide (a0 < a1))) = true then ((hopperlaw02_live.f).bind fun t148 => (some t148)) else (some false)) else (some false)) else (some false)) else (some false)) = some r := H
  have A4 := Aside0.mk A40
  clear A40
  by_cases c5 : (t146.size : Int) = 16
  · rw [if_pos c5] at H
    have c5b0 : ((t146.size : Int) == 16) = true := beq_iff_eq.mpr c5
    have c5b1 : ((t146.size : Int) != 16) = false := bne_eq_false_iff_eq.mpr c5
    clear c5
    by_cases c6 : (t147.size : Int) = 16
    · rw [if_pos c6] at H
      have c6b0 : ((t147.size : Int) == 16) = true := beq_iff_eq.mpr c6
      have c6b1 : ((t147.size : Int) != 16) = false := bne_eq_false_iff_eq.mpr c6
      clear c6
      by_cases c7 : ((t146.toList == t147.toList) == (a0 == a1)) = true
      · rw [if_pos c7] at H
        have c7b0 : ((t146.toList == t147.toList) == (a0 == a1)) = true := c7
        (try (have c7b1 : decide ((t146.toList == t147.toList) = (a0 == a1)) = true := by simpa using c7))
        (try (have c7b2 : ((t146.toList == t147.toList) == (a0 == a1)) = true := by simpa using c7))
        clear c7
        by_cases c8 : ((Op.bytesLess t146.toList t147.toList) == (decide (a0 < a1))) = true
        · rw [if_pos c8] at H
          have c8b0 : ((Op.bytesLess t146.toList t147.toList) == (decide (a0 < a1))) = true := c8
          (try (have c8b1 : decide ((Op.bytesLess t146.toList t147.toList) = (decide (a0 < a1))) = true := by simpa using c8))
          (try (have c8b2 : ((Op.bytesLess t146.toList t147.toList) == (decide (a0 < a1))) = true := by simpa using c8))
          clear c8
          replace H := Option.bind_eq_some_iff.mp H
          obtain ⟨t148, A90, H⟩ := H
          replace H : (some t148) = some r := H
          have A9 := Aside0.mk A90
          clear A90
          obtain rfl := Option.some.inj H
          go_enter Try.func12, Try.ntmps12
          go_wp2_with (first | ((with_reducible refine gate_callee (f := 31) rfl ?_); refine goesL_ (some 8) rfl rfl Try.func31 (by kernel_rfl) rfl #[.int .u64 a0] rfl (by (try simp only [List.map_toArray, List.map_cons, List.map_nil]); first | done | rfl | (simp only [List.length_drop, List.length_take]; rfl)) ?_; (with_reducible refine (fnv_Text.calls a0 t146 _ A3.out).mono ?_); rintro e w10 ⟨rfl, hb⟩; refine ⟨_, rfl, ?_⟩; have n0_ := Aside0.mk (below_step (by repeat (first | (with_reducible first | exact HB.out | apply below_alloc | apply pw_below_drewN | apply below_drew1) | exact HB.out)) hb); clear HB; have HB := n0_; clear n0_; (try clear hb); (try clear hb2); (try clear hk); (try clear hi)) | ((with_reducible refine gate_callee (f := 31) rfl ?_); refine goesL_ (some 10) rfl rfl Try.func31 (by kernel_rfl) rfl #[.int .u64 a1] rfl (by (try simp only [List.map_toArray, List.map_cons, List.map_nil]); first | done | rfl | (simp only [List.length_drop, List.length_take]; rfl)) ?_; (with_reducible refine (fnv_Text.calls a1 t147 _ A4.out).mono ?_); rintro e w11 ⟨rfl, hb⟩; refine ⟨_, rfl, ?_⟩; have n0_ := Aside0.mk (below_step (by repeat (first | (with_reducible first | exact HB.out | apply below_alloc | apply pw_below_drewN | apply below_drew1) | exact HB.out)) hb); clear HB; have HB := n0_; clear n0_; (try clear hb); (try clear hb2); (try clear hk); (try clear hi)) | (go_at_call 26; (with_reducible refine (hopperlaw02_live.calls  t148 _ A9.out).mono ?_); rintro e w12 ⟨rfl, hb⟩; have n0_ := Aside0.mk (below_step (by repeat (first | (with_reducible first | exact HB.out | apply below_alloc | apply pw_below_drewN | apply below_drew1) | exact HB.out)) hb); clear HB; have HB := n0_; clear n0_; (try clear hb); (try clear hb2); (try clear hk); (try clear hi)))
          go_ret
          exact ⟨by first | rfl | (simp [errW_none, errW_some] <;> rfl) | (simp [*, errW_none, errW_some] <;> rfl), by repeat (first | (with_reducible first | exact HB.out | apply below_alloc | apply pw_below_drewN | apply below_drew1) | exact HB.out)⟩
        · rw [if_neg c8] at H
          have c8b0 : ((Op.bytesLess t146.toList t147.toList) == (decide (a0 < a1))) = false := by simpa using c8
          (try (have c8b1 : decide ((Op.bytesLess t146.toList t147.toList) = (decide (a0 < a1))) = false := by simpa using c8))
          (try (have c8b2 : ((Op.bytesLess t146.toList t147.toList) == (decide (a0 < a1))) = false := by simpa using c8))
          (try (have c8b3 : ¬ ((Op.bytesLess t146.toList t147.toList) = (decide (a0 < a1))) := by simpa using c8))
          clear c8
          obtain rfl := Option.some.inj H
          go_enter Try.func12, Try.ntmps12
          go_wp2_with (first | ((with_reducible refine gate_callee (f := 31) rfl ?_); refine goesL_ (some 8) rfl rfl Try.func31 (by kernel_rfl) rfl #[.int .u64 a0] rfl (by (try simp only [List.map_toArray, List.map_cons, List.map_nil]); first | done | rfl | (simp only [List.length_drop, List.length_take]; rfl)) ?_; (with_reducible refine (fnv_Text.calls a0 t146 _ A3.out).mono ?_); rintro e w13 ⟨rfl, hb⟩; refine ⟨_, rfl, ?_⟩; have n0_ := Aside0.mk (below_step (by repeat (first | (with_reducible first | exact HB.out | apply below_alloc | apply pw_below_drewN | apply below_drew1) | exact HB.out)) hb); clear HB; have HB := n0_; clear n0_; (try clear hb); (try clear hb2); (try clear hk); (try clear hi)) | ((with_reducible refine gate_callee (f := 31) rfl ?_); refine goesL_ (some 10) rfl rfl Try.func31 (by kernel_rfl) rfl #[.int .u64 a1] rfl (by (try simp only [List.map_toArray, List.map_cons, List.map_nil]); first | done | rfl | (simp only [List.length_drop, List.length_take]; rfl)) ?_; (with_reducible refine (fnv_Text.calls a1 t147 _ A4.out).mono ?_); rintro e w14 ⟨rfl, hb⟩; refine ⟨_, rfl, ?_⟩; have n0_ := Aside0.mk (below_step (by repeat (first | (with_reducible first | exact HB.out | apply below_alloc | apply pw_below_drewN | apply below_drew1) | exact HB.out)) hb); clear HB; have HB := n0_; clear n0_; (try clear hb); (try clear hb2); (try clear hk); (try clear hi)))
          go_ret
          exact ⟨by first | rfl | (simp [errW_none, errW_some] <;> rfl) | (simp [*, errW_none, errW_some] <;> rfl), by repeat (first | (with_reducible first | exact HB.out | apply below_alloc | apply pw_below_drewN | apply below_drew1) | exact HB.out)⟩
      · rw [if_neg c7] at H
        have c7b0 : ((t146.toList == t147.toList) == (a0 == a1)) = false := by simpa using c7
        (try (have c7b1 : decide ((t146.toList == t147.toList) = (a0 == a1)) = false := by simpa using c7))
        (try (have c7b2 : ((t146.toList == t147.toList) == (a0 == a1)) = false := by simpa using c7))
        (try (have c7b3 : ¬ ((t146.toList == t147.toList) = (a0 == a1)) := by simpa using c7))
        clear c7
        obtain rfl := Option.some.inj H
        go_enter Try.func12, Try.ntmps12
        go_wp2_with (first | ((with_reducible refine gate_callee (f := 31) rfl ?_); refine goesL_ (some 8) rfl rfl Try.func31 (by kernel_rfl) rfl #[.int .u64 a0] rfl (by (try simp only [List.map_toArray, List.map_cons, List.map_nil]); first | done | rfl | (simp only [List.length_drop, List.length_take]; rfl)) ?_; (with_reducible refine (fnv_Text.calls a0 t146 _ A3.out).mono ?_); rintro e w15 ⟨rfl, hb⟩; refine ⟨_, rfl, ?_⟩; have n0_ := Aside0.mk (below_step (by repeat (first | (with_reducible first | exact HB.out | apply below_alloc | apply pw_below_drewN | apply below_drew1) | exact HB.out)) hb); clear HB; have HB := n0_; clear n0_; (try clear hb); (try clear hb2); (try clear hk); (try clear hi)) | ((with_reducible refine gate_callee (f := 31) rfl ?_); refine goesL_ (some 10) rfl rfl Try.func31 (by kernel_rfl) rfl #[.int .u64 a1] rfl (by (try simp only [List.map_toArray, List.map_cons, List.map_nil]); first | done | rfl | (simp only [List.length_drop, List.length_take]; rfl)) ?_; (with_reducible refine (fnv_Text.calls a1 t147 _ A4.out).mono ?_); rintro e w16 ⟨rfl, hb⟩; refine ⟨_, rfl, ?_⟩; have n0_ := Aside0.mk (below_step (by repeat (first | (with_reducible first | exact HB.out | apply below_alloc | apply pw_below_drewN | apply below_drew1) | exact HB.out)) hb); clear HB; have HB := n0_; clear n0_; (try clear hb); (try clear hb2); (try clear hk); (try clear hi)))
        go_ret
        exact ⟨by first | rfl | (simp [errW_none, errW_some] <;> rfl) | (simp [*, errW_none, errW_some] <;> rfl), by repeat (first | (with_reducible first | exact HB.out | apply below_alloc | apply pw_below_drewN | apply below_drew1) | exact HB.out)⟩
    · rw [if_neg c6] at H
      have c6b0 : ((t147.size : Int) == 16) = false := beq_eq_false_iff_ne.mpr c6
      have c6b1 : ((t147.size : Int) != 16) = true := bne_iff_ne.mpr c6
      obtain rfl := Option.some.inj H
      go_enter Try.func12, Try.ntmps12
      go_wp2_with (first | ((with_reducible refine gate_callee (f := 31) rfl ?_); refine goesL_ (some 8) rfl rfl Try.func31 (by kernel_rfl) rfl #[.int .u64 a0] rfl (by (try simp only [List.map_toArray, List.map_cons, List.map_nil]); first | done | rfl | (simp only [List.length_drop, List.length_take]; rfl)) ?_; (with_reducible refine (fnv_Text.calls a0 t146 _ A3.out).mono ?_); rintro e w17 ⟨rfl, hb⟩; refine ⟨_, rfl, ?_⟩; have n0_ := Aside0.mk (below_step (by repeat (first | (with_reducible first | exact HB.out | apply below_alloc | apply pw_below_drewN | apply below_drew1) | exact HB.out)) hb); clear HB; have HB := n0_; clear n0_; (try clear hb); (try clear hb2); (try clear hk); (try clear hi)) | ((with_reducible refine gate_callee (f := 31) rfl ?_); refine goesL_ (some 10) rfl rfl Try.func31 (by kernel_rfl) rfl #[.int .u64 a1] rfl (by (try simp only [List.map_toArray, List.map_cons, List.map_nil]); first | done | rfl | (simp only [List.length_drop, List.length_take]; rfl)) ?_; (with_reducible refine (fnv_Text.calls a1 t147 _ A4.out).mono ?_); rintro e w18 ⟨rfl, hb⟩; refine ⟨_, rfl, ?_⟩; have n0_ := Aside0.mk (below_step (by repeat (first | (with_reducible first | exact HB.out | apply below_alloc | apply pw_below_drewN | apply below_drew1) | exact HB.out)) hb); clear HB; have HB := n0_; clear n0_; (try clear hb); (try clear hb2); (try clear hk); (try clear hi)))
      go_ret
      exact ⟨by first | rfl | (simp [errW_none, errW_some] <;> rfl) | (simp [*, errW_none, errW_some] <;> rfl), by repeat (first | (with_reducible first | exact HB.out | apply below_alloc | apply pw_below_drewN | apply below_drew1) | exact HB.out)⟩
  · rw [if_neg c5] at H
    have c5b0 : ((t146.size : Int) == 16) = false := beq_eq_false_iff_ne.mpr c5
    have c5b1 : ((t146.size : Int) != 16) = true := bne_iff_ne.mpr c5
    obtain rfl := Option.some.inj H
    go_enter Try.func12, Try.ntmps12
    go_wp2_with (first | ((with_reducible refine gate_callee (f := 31) rfl ?_); refine goesL_ (some 8) rfl rfl Try.func31 (by kernel_rfl) rfl #[.int .u64 a0] rfl (by (try simp only [List.map_toArray, List.map_cons, List.map_nil]); first | done | rfl | (simp only [List.length_drop, List.length_take]; rfl)) ?_; (with_reducible refine (fnv_Text.calls a0 t146 _ A3.out).mono ?_); rintro e w19 ⟨rfl, hb⟩; refine ⟨_, rfl, ?_⟩; have n0_ := Aside0.mk (below_step (by repeat (first | (with_reducible first | exact HB.out | apply below_alloc | apply pw_below_drewN | apply below_drew1) | exact HB.out)) hb); clear HB; have HB := n0_; clear n0_; (try clear hb); (try clear hb2); (try clear hk); (try clear hi)) | ((with_reducible refine gate_callee (f := 31) rfl ?_); refine goesL_ (some 10) rfl rfl Try.func31 (by kernel_rfl) rfl #[.int .u64 a1] rfl (by (try simp only [List.map_toArray, List.map_cons, List.map_nil]); first | done | rfl | (simp only [List.length_drop, List.length_take]; rfl)) ?_; (with_reducible refine (fnv_Text.calls a1 t147 _ A4.out).mono ?_); rintro e w20 ⟨rfl, hb⟩; refine ⟨_, rfl, ?_⟩; have n0_ := Aside0.mk (below_step (by repeat (first | (with_reducible first | exact HB.out | apply below_alloc | apply pw_below_drewN | apply below_drew1) | exact HB.out)) hb); clear HB; have HB := n0_; clear n0_; (try clear hb); (try clear hb2); (try clear hk); (try clear hi)))
    go_ret
    exact ⟨by first | rfl | (simp [errW_none, errW_some] <;> rfl) | (simp [*, errW_none, errW_some] <;> rfl), by repeat (first | (with_reducible first | exact HB.out | apply below_alloc | apply pw_below_drewN | apply below_drew1) | exact HB.out)⟩

/-- THE ONE PURE STATEMENT of hopperlaw02_FnvTexts: yours. -/
def hopperlaw02_FnvTexts.Pure : Prop := ∀ (a0 : Int) (a1 : Int), (Lit.int .u64 a0).wf = true → (Lit.int .u64 a1).wf = true → hopperlaw02_FnvTexts.f a0 a1 = some true
theorem hopperlaw02_FnvTexts.walk (P : hopperlaw02_FnvTexts.Pure) (a0 : Int) (a1 : Int) (w : World) (w0 : (Lit.int .u64 a0).wf = true) (w1 : (Lit.int .u64 a1).wf = true) :
    Calls Try.prog 12 #[.int .u64 a0, .int .u64 a1] w fun e w' => e = .returned (.bool true) ∧ Below w.heap.size w w' := by
  have h := P a0 a1 w0 w1
  refine (hopperlaw02_FnvTexts.calls a0 a1 true w h).mono ?_
  rintro e w' ⟨rfl, hd⟩
  exact ⟨rfl, hd⟩

/-! ### hopperlaw02_FnvShards: function 13 -/
def hopperlaw02_FnvShards.j0 : Nat → Int → Int → Int → Bool → Option (Bool)
  | 0, _, _, _, _ => none
  | k + 1, x0, x1, x5, x22 => if x22 = true then (if x5 = (-1) then ((hopperlaw02_live.f).bind fun t150 => (some t150)) else (some false)) else (if x5 ≥ 0 then (if x5 < x1 then (if x1 > 1 then ((fnv_Shard.f x0 1).bind fun t151 => (if t151 = 0 then ((hopperlaw02_live.f).bind fun t152 => (some t152)) else (some false))) else (if x5 = 0 then ((fnv_Shard.f x0 1).bind fun t153 => (if t153 = 0 then ((hopperlaw02_live.f).bind fun t154 => (some t154)) else (some false))) else (some false))) else (some false)) else (some false))
def hopperlaw02_FnvShards.f (k : Nat) (a0 : Int) (a1 : Int) : Option (Bool) := (fnv_Shard.f a0 a1).bind fun t149 => (if a0 < 0 then (hopperlaw02_FnvShards.j0 k a0 a1 t149 true) else (if a0 > 255 then (hopperlaw02_FnvShards.j0 k a0 a1 t149 true) else (if a1 < 1 then (hopperlaw02_FnvShards.j0 k a0 a1 t149 true) else (hopperlaw02_FnvShards.j0 k a0 a1 t149 (decide (a1 > 8))))))
theorem hopperlaw02_FnvShards.mono_l : ∀ k, (∀ y0 y1 y2 y3, LeO (hopperlaw02_FnvShards.j0 k y0 y1 y2 y3) (hopperlaw02_FnvShards.j0 (k + 1) y0 y1 y2 y3))
  | 0 => fun _ _ _ _ r h => by simp [hopperlaw02_FnvShards.j0] at h
  | k + 1 => by
    have ih0 := hopperlaw02_FnvShards.mono_l k
    · intro y0 y1 y2 y3
      unfold hopperlaw02_FnvShards.j0
      repeat' first
      | (with_reducible exact ih0 _ _ _ _)
      | (with_reducible exact LeO.refl _)
      | (with_reducible exact LeO.none _)
      | (with_reducible refine LeO.ite ?_ ?_)
      | (with_reducible refine LeO.bind ?_ (fun _ => ?_))
      | exact ih0 _ _ _ _
      | exact LeO.none _
      | refine LeO.ite ?_ ?_
      | refine LeO.bind ?_ (fun _ => ?_)
theorem hopperlaw02_FnvShards.mono : ∀ a0 a1 k, LeO (hopperlaw02_FnvShards.f k a0 a1) (hopperlaw02_FnvShards.f (k + 1) a0 a1) := by
  intro a0 a1 k
  have ih0 := hopperlaw02_FnvShards.mono_l k
  unfold hopperlaw02_FnvShards.f
  repeat' first
      | (with_reducible exact ih0 _ _ _ _)
      | (with_reducible exact LeO.refl _)
      | (with_reducible exact LeO.none _)
      | (with_reducible refine LeO.ite ?_ ?_)
      | (with_reducible refine LeO.bind ?_ (fun _ => ?_))
      | exact ih0 _ _ _ _
      | exact LeO.none _
      | refine LeO.ite ?_ ?_
      | refine LeO.bind ?_ (fun _ => ?_)
set_option maxHeartbeats 8000000 in
set_option maxRecDepth 100000 in
theorem hopperlaw02_FnvShards.calls (k : Nat) (a0 : Int) (a1 : Int) (r : Bool) (w : World) (h : hopperlaw02_FnvShards.f k a0 a1 = some r) :
    Calls Try.prog 13 #[.int .i64 a0, .int .i64 a1] w fun e w' => e = .returned (.bool r) ∧ Below w.heap.size w w' := by
  have HB := Aside0.mk (Below.refl w.heap.size w)
  have H : ((fnv_Shard.f a0 a1).bind fun t149 => (if a0 < 0 then (hopperlaw02_FnvShards.j0 k a0 a1 t149 true) else (if a0 > 255 then (hopperlaw02_FnvShards.j0 k a0 a1 t149 true) else (if a1 < 1 then (hopperlaw02_FnvShards.j0 k a0 a1 t149 true) else (hopperlaw02_FnvShards.j0 k a0 a1 t149 (decide (a1 > 8))))))) = some r := h
  clear h
  replace H := Option.bind_eq_some_iff.mp H
  obtain ⟨t149, A30, H⟩ := H
  replace H : (if a0 < 0 then (hopperlaw02_FnvShards.j0 k a0 a1 t149 true) else (if a0 > 255 then (hopperlaw02_FnvShards.j0 k a0 a1 t149 true) else (if a1 < 1 then (hopperlaw02_FnvShards.j0 k a0 a1 t149 true) else (hopperlaw02_FnvShards.j0 k a0 a1 t149 (decide (a1 > 8)))))) = some r := H
  have A3 := Aside0.mk A30
  clear A30
  have HC4 := Aside0.mk H
  clear H
  go_enter Try.func13, Try.ntmps13
  go_upto_region 2 with (first | ((with_reducible refine gate_callee (f := 33) rfl ?_); refine goesL_ (some 8) rfl rfl Try.func33 (by kernel_rfl) rfl #[.int .i64 a0, .int .i64 a1] rfl (by (try simp only [List.map_toArray, List.map_cons, List.map_nil]); first | done | rfl | (simp only [List.length_drop, List.length_take]; rfl)) ?_; (with_reducible refine (fnv_Shard.calls a0 a1 t149 _ A3.out).mono ?_); rintro e w5 ⟨rfl, hb⟩; refine ⟨_, rfl, ?_⟩; have n0_ := Aside0.mk (below_step (by repeat (first | (with_reducible first | exact HB.out | apply below_alloc | apply pw_below_drewN | apply below_drew1) | exact HB.out)) hb); clear HB; have HB := n0_; clear n0_; (try clear hb); (try clear hb2); (try clear hk); (try clear hi)))
  (try simp only [Act.put, List.setIfInBounds_toArray, List.set_cons_zero, List.set_cons_succ])
  go_cut [22] (fun v22 wc => ∃ (kq : Nat) (x22_3 : Bool), v22 = .bool x22_3 ∧ Aside0 (hopperlaw02_FnvShards.j0 kq a0 a1 t149 x22_3 = some r) ∧ Aside0 (kq ≤ k) ∧ Aside0 (Below w.heap.size w wc))
  case first =>
    have H := HC4.out
    clear HC4
    by_cases c6 : a0 < 0
    · rw [if_pos c6] at H
      have c6b0 : decide (a0 < 0) = true := decide_eq_true c6
      clear c6
      (first | rw [c6b0] | (simp only [i64_w, i32_w]; rw [c6b0]) | skip)
      have H' := Aside0.mk H
      clear H
      go_wp2
      go_meet
      case rel => exact ⟨_, (true), (by first | rfl | (simp; done) | (simp [*]; done)), H', ⟨by first | omega | exact Nat.le_refl _⟩, ⟨by repeat (first | (with_reducible first | exact HB.out | apply below_alloc | apply pw_below_drewN | apply below_drew1) | exact HB.out)⟩⟩
    · rw [if_neg c6] at H
      have c6b0 : decide (a0 < 0) = false := decide_eq_false c6
      clear c6
      (first | rw [c6b0] | (simp only [i64_w, i32_w]; rw [c6b0]) | skip)
      by_cases c7 : a0 > 255
      · rw [if_pos c7] at H
        have c7b0 : decide (255 < a0) = true := decide_eq_true c7
        clear c7
        have H' := Aside0.mk H
        clear H
        go_wp2
        go_meet
        case rel => exact ⟨_, (true), (by first | rfl | (simp; done) | (simp [*]; done)), H', ⟨by first | omega | exact Nat.le_refl _⟩, ⟨by repeat (first | (with_reducible first | exact HB.out | apply below_alloc | apply pw_below_drewN | apply below_drew1) | exact HB.out)⟩⟩
      · rw [if_neg c7] at H
        have c7b0 : decide (255 < a0) = false := decide_eq_false c7
        clear c7
        by_cases c8 : a1 < 1
        · rw [if_pos c8] at H
          have c8b0 : decide (a1 < 1) = true := decide_eq_true c8
          clear c8
          have H' := Aside0.mk H
          clear H
          go_wp2
          go_meet
          case rel => exact ⟨_, (true), (by first | rfl | (simp; done) | (simp [*]; done)), H', ⟨by first | omega | exact Nat.le_refl _⟩, ⟨by repeat (first | (with_reducible first | exact HB.out | apply below_alloc | apply pw_below_drewN | apply below_drew1) | exact HB.out)⟩⟩
        · rw [if_neg c8] at H
          have c8b0 : decide (a1 < 1) = false := decide_eq_false c8
          clear c8
          have H' := Aside0.mk H
          clear H
          go_wp2
          go_meet
          case rel => exact ⟨_, (decide (a1 > 8)), (by first | rfl | (simp; done) | (simp [*]; done)), H', ⟨by first | omega | exact Nat.le_refl _⟩, ⟨by repeat (first | (with_reducible first | exact HB.out | apply below_alloc | apply pw_below_drewN | apply below_drew1) | exact HB.out)⟩⟩
  case rest =>
    clear HC4
    try clear c1
    try clear p2
    try clear c3
    try clear c6
    try clear c6b0
    try clear c7
    try clear c7b0
    try clear c8
    try clear c8b0
    obtain ⟨kq, x22_3, rfl, HA, HJ3, HB⟩ := hcut
    cases kq with
    | zero => exact absurd HA.out (by simp [hopperlaw02_FnvShards.j0])
    | succ kj3 =>
      have H := HA.out
      clear HA
      simp only [hopperlaw02_FnvShards.j0] at H
      by_cases c9 : x22_3 = true
      · subst c9
        have H1 : (if t149 = (-1) then ((hopperlaw02_live.f).bind fun t150 => (some t150)) else (some false)) = some r := by rw [if_pos rfl] at H; exact H
        clear H
        have H := H1
        clear H1
        by_cases c10 : t149 = (-1)
        · rw [if_pos c10] at H
          have c10b0 : (t149 == (-1)) = true := beq_iff_eq.mpr c10
          have c10b1 : (t149 != (-1)) = false := bne_eq_false_iff_eq.mpr c10
          clear c10
          replace H := Option.bind_eq_some_iff.mp H
          obtain ⟨t150, A110, H⟩ := H
          replace H : (some t150) = some r := H
          have A11 := Aside0.mk A110
          clear A110
          obtain rfl := Option.some.inj H
          go_wp2_with (first | (go_at_call 26; (with_reducible refine (hopperlaw02_live.calls  t150 _ A11.out).mono ?_); rintro e w12 ⟨rfl, hb⟩; have n0_ := Aside0.mk (below_step (by repeat (first | (with_reducible first | exact HB.out | apply below_alloc | apply pw_below_drewN | apply below_drew1) | exact HB.out)) hb); clear HB; have HB := n0_; clear n0_; (try clear hb); (try clear hb2); (try clear hk); (try clear hi)))
          go_ret
          exact ⟨by first | rfl | (simp [errW_none, errW_some] <;> rfl) | (simp [*, errW_none, errW_some] <;> rfl), by repeat (first | (with_reducible first | exact HB.out | apply below_alloc | apply pw_below_drewN | apply below_drew1) | exact HB.out)⟩
        · rw [if_neg c10] at H
          have c10b0 : (t149 == (-1)) = false := beq_eq_false_iff_ne.mpr c10
          have c10b1 : (t149 != (-1)) = true := bne_iff_ne.mpr c10
          obtain rfl := Option.some.inj H
          go_wp2
          go_ret
          exact ⟨by first | rfl | (simp [errW_none, errW_some] <;> rfl) | (simp [*, errW_none, errW_some] <;> rfl), by repeat (first | (with_reducible first | exact HB.out | apply below_alloc | apply pw_below_drewN | apply below_drew1) | exact HB.out)⟩
      · replace c9 := Bool.eq_false_iff.mpr c9
        subst c9
        have H1 : (if t149 ≥ 0 then (if t149 < a1 then (if a1 > 1 then ((fnv_Shard.f a0 1).bind fun t151 => (if t151 = 0 then ((hopperlaw02_live.f).bind fun t152 => (some t152)) else (some false))) else (if t149 = 0 then ((fnv_Shard.f a0 1).bind fun t153 => (if t153 = 0 then ((hopperlaw02_live.f).bind fun t154 => (some t154)) else (some false))) else (some false))) else (some false)) else (some false)) = some r := by rw [if_neg (show ¬ (false = true) by decide)] at H; exact H
        clear H
        have H := H1
        clear H1
        by_cases c13 : t149 ≥ 0
        · rw [if_pos c13] at H
          have c13b0 : decide (0 ≤ t149) = true := decide_eq_true c13
          clear c13
          by_cases c14 : t149 < a1
          · rw [if_pos c14] at H
            have c14b0 : decide (t149 < a1) = true := decide_eq_true c14
            clear c14
            by_cases c15 : a1 > 1
            · rw [if_pos c15] at H
              have c15b0 : decide (1 < a1) = true := decide_eq_true c15
              clear c15
              replace H := Option.bind_eq_some_iff.mp H
              obtain ⟨t151, A160, H⟩ := H
              replace H : (if t151 = 0 then ((hopperlaw02_live.f).bind fun t152 => (some t152)) else (some false)) = some r := H
              have A16 := Aside0.mk A160
              clear A160
              by_cases c17 : t151 = 0
              · rw [if_pos c17] at H
                have c17b0 : (t151 == 0) = true := beq_iff_eq.mpr c17
                have c17b1 : (t151 != 0) = false := bne_eq_false_iff_eq.mpr c17
                clear c17
                replace H := Option.bind_eq_some_iff.mp H
                obtain ⟨t152, A180, H⟩ := H
                replace H : (some t152) = some r := H
                have A18 := Aside0.mk A180
                clear A180
                obtain rfl := Option.some.inj H
                go_wp2_with (first | (go_at_call 33; (with_reducible refine (fnv_Shard.calls a0 1 t151 _ A16.out).mono ?_); rintro e w19 ⟨rfl, hb⟩; have n0_ := Aside0.mk (below_step (by repeat (first | (with_reducible first | exact HB.out | apply below_alloc | apply pw_below_drewN | apply below_drew1) | exact HB.out)) hb); clear HB; have HB := n0_; clear n0_; (try clear hb); (try clear hb2); (try clear hk); (try clear hi)) | (go_at_call 26; (with_reducible refine (hopperlaw02_live.calls  t152 _ A18.out).mono ?_); rintro e w20 ⟨rfl, hb⟩; have n0_ := Aside0.mk (below_step (by repeat (first | (with_reducible first | exact HB.out | apply below_alloc | apply pw_below_drewN | apply below_drew1) | exact HB.out)) hb); clear HB; have HB := n0_; clear n0_; (try clear hb); (try clear hb2); (try clear hk); (try clear hi)))
                go_ret
                exact ⟨by first | rfl | (simp [errW_none, errW_some] <;> rfl) | (simp [*, errW_none, errW_some] <;> rfl), by repeat (first | (with_reducible first | exact HB.out | apply below_alloc | apply pw_below_drewN | apply below_drew1) | exact HB.out)⟩
              · rw [if_neg c17] at H
                have c17b0 : (t151 == 0) = false := beq_eq_false_iff_ne.mpr c17
                have c17b1 : (t151 != 0) = true := bne_iff_ne.mpr c17
                obtain rfl := Option.some.inj H
                go_wp2_with (first | (go_at_call 33; (with_reducible refine (fnv_Shard.calls a0 1 t151 _ A16.out).mono ?_); rintro e w21 ⟨rfl, hb⟩; have n0_ := Aside0.mk (below_step (by repeat (first | (with_reducible first | exact HB.out | apply below_alloc | apply pw_below_drewN | apply below_drew1) | exact HB.out)) hb); clear HB; have HB := n0_; clear n0_; (try clear hb); (try clear hb2); (try clear hk); (try clear hi)))
                go_ret
                exact ⟨by first | rfl | (simp [errW_none, errW_some] <;> rfl) | (simp [*, errW_none, errW_some] <;> rfl), by repeat (first | (with_reducible first | exact HB.out | apply below_alloc | apply pw_below_drewN | apply below_drew1) | exact HB.out)⟩
            · rw [if_neg c15] at H
              have c15b0 : decide (1 < a1) = false := decide_eq_false c15
              clear c15
              by_cases c22 : t149 = 0
              · rw [if_pos c22] at H
                have c22b0 : (t149 == 0) = true := beq_iff_eq.mpr c22
                have c22b1 : (t149 != 0) = false := bne_eq_false_iff_eq.mpr c22
                clear c22
                replace H := Option.bind_eq_some_iff.mp H
                obtain ⟨t153, A230, H⟩ := H
                replace H : (if t153 = 0 then ((hopperlaw02_live.f).bind fun t154 => (some t154)) else (some false)) = some r := H
                have A23 := Aside0.mk A230
                clear A230
                by_cases c24 : t153 = 0
                · rw [if_pos c24] at H
                  have c24b0 : (t153 == 0) = true := beq_iff_eq.mpr c24
                  have c24b1 : (t153 != 0) = false := bne_eq_false_iff_eq.mpr c24
                  clear c24
                  replace H := Option.bind_eq_some_iff.mp H
                  obtain ⟨t154, A250, H⟩ := H
                  replace H : (some t154) = some r := H
                  have A25 := Aside0.mk A250
                  clear A250
                  obtain rfl := Option.some.inj H
                  go_wp2_with (first | (go_at_call 33; (with_reducible refine (fnv_Shard.calls a0 1 t153 _ A23.out).mono ?_); rintro e w26 ⟨rfl, hb⟩; have n0_ := Aside0.mk (below_step (by repeat (first | (with_reducible first | exact HB.out | apply below_alloc | apply pw_below_drewN | apply below_drew1) | exact HB.out)) hb); clear HB; have HB := n0_; clear n0_; (try clear hb); (try clear hb2); (try clear hk); (try clear hi)) | (go_at_call 26; (with_reducible refine (hopperlaw02_live.calls  t154 _ A25.out).mono ?_); rintro e w27 ⟨rfl, hb⟩; have n0_ := Aside0.mk (below_step (by repeat (first | (with_reducible first | exact HB.out | apply below_alloc | apply pw_below_drewN | apply below_drew1) | exact HB.out)) hb); clear HB; have HB := n0_; clear n0_; (try clear hb); (try clear hb2); (try clear hk); (try clear hi)))
                  go_ret
                  exact ⟨by first | rfl | (simp [errW_none, errW_some] <;> rfl) | (simp [*, errW_none, errW_some] <;> rfl), by repeat (first | (with_reducible first | exact HB.out | apply below_alloc | apply pw_below_drewN | apply below_drew1) | exact HB.out)⟩
                · rw [if_neg c24] at H
                  have c24b0 : (t153 == 0) = false := beq_eq_false_iff_ne.mpr c24
                  have c24b1 : (t153 != 0) = true := bne_iff_ne.mpr c24
                  obtain rfl := Option.some.inj H
                  go_wp2_with (first | (go_at_call 33; (with_reducible refine (fnv_Shard.calls a0 1 t153 _ A23.out).mono ?_); rintro e w28 ⟨rfl, hb⟩; have n0_ := Aside0.mk (below_step (by repeat (first | (with_reducible first | exact HB.out | apply below_alloc | apply pw_below_drewN | apply below_drew1) | exact HB.out)) hb); clear HB; have HB := n0_; clear n0_; (try clear hb); (try clear hb2); (try clear hk); (try clear hi)))
                  go_ret
                  exact ⟨by first | rfl | (simp [errW_none, errW_some] <;> rfl) | (simp [*, errW_none, errW_some] <;> rfl), by repeat (first | (with_reducible first | exact HB.out | apply below_alloc | apply pw_below_drewN | apply below_drew1) | exact HB.out)⟩
              · rw [if_neg c22] at H
                have c22b0 : (t149 == 0) = false := beq_eq_false_iff_ne.mpr c22
                have c22b1 : (t149 != 0) = true := bne_iff_ne.mpr c22
                obtain rfl := Option.some.inj H
                go_wp2
                go_ret
                exact ⟨by first | rfl | (simp [errW_none, errW_some] <;> rfl) | (simp [*, errW_none, errW_some] <;> rfl), by repeat (first | (with_reducible first | exact HB.out | apply below_alloc | apply pw_below_drewN | apply below_drew1) | exact HB.out)⟩
          · rw [if_neg c14] at H
            have c14b0 : decide (t149 < a1) = false := decide_eq_false c14
            clear c14
            obtain rfl := Option.some.inj H
            go_wp2
            go_ret
            exact ⟨by first | rfl | (simp [errW_none, errW_some] <;> rfl) | (simp [*, errW_none, errW_some] <;> rfl), by repeat (first | (with_reducible first | exact HB.out | apply below_alloc | apply pw_below_drewN | apply below_drew1) | exact HB.out)⟩
        · rw [if_neg c13] at H
          have c13b0 : decide (0 ≤ t149) = false := decide_eq_false c13
          clear c13
          obtain rfl := Option.some.inj H
          go_wp2
          go_ret
          exact ⟨by first | rfl | (simp [errW_none, errW_some] <;> rfl) | (simp [*, errW_none, errW_some] <;> rfl), by repeat (first | (with_reducible first | exact HB.out | apply below_alloc | apply pw_below_drewN | apply below_drew1) | exact HB.out)⟩

/-- THE ONE PURE STATEMENT of hopperlaw02_FnvShards: yours. -/
def hopperlaw02_FnvShards.Pure : Prop := ∀ (a0 : Int) (a1 : Int), (Lit.int .i64 a0).wf = true → (Lit.int .i64 a1).wf = true → ∃ k, hopperlaw02_FnvShards.f k a0 a1 = some true
theorem hopperlaw02_FnvShards.walk (P : hopperlaw02_FnvShards.Pure) (a0 : Int) (a1 : Int) (w : World) (w0 : (Lit.int .i64 a0).wf = true) (w1 : (Lit.int .i64 a1).wf = true) :
    Calls Try.prog 13 #[.int .i64 a0, .int .i64 a1] w fun e w' => e = .returned (.bool true) ∧ Below w.heap.size w w' := by
  obtain ⟨k, h⟩ := P a0 a1 w0 w1
  refine (hopperlaw02_FnvShards.calls k a0 a1 true w h).mono ?_
  rintro e w' ⟨rfl, hd⟩
  exact ⟨rfl, hd⟩

/-! ### hopperlaw02_FnvBytes: function 14 -/
def hopperlaw02_FnvBytes.l0 : Nat → Int → ByteArray → Int → Int → Option (Bool)
  | 0, _, _, _, _ => none
  | k + 1, x0, x1, x5, x6 => if x6 < (x1.size : Int) then (if 0 ≤ x6 then (if x6 ≤ (wrap64 (x6 + 1)) then (if (wrap64 (x6 + 1)) ≤ (x1.size : Int) then ((fnv_Roll.f x5 (x1.extract (x6 : Int).toNat ((wrap64 (x6 + 1)) : Int).toNat)).bind fun t156 => (hopperlaw02_FnvBytes.l0 k x0 x1 t156 (wrap64 (x6 + 1)))) else (none)) else (none)) else (none)) else ((fnv_Roll.f x0 (⟨#[0]⟩ : ByteArray)).bind fun t157 => ((fnv_Roll.f x0 x1).bind fun t158 => (if x5 = t158 then (if t157 = (IntKind.u64.wrap (x0 * 1099511628211)) then (if t157 = x0 then (if x0 = 0 then ((hopperlaw02_live.f).bind fun t159 => (some t159)) else (if (IntKind.u64.wrap (x0 * 1099511628210)) = 0 then ((hopperlaw02_live.f).bind fun t160 => (some t160)) else (some false))) else ((hopperlaw02_live.f).bind fun t161 => (some t161))) else (some false)) else (some false))))
def hopperlaw02_FnvBytes.f (k : Nat) (a0 : Int) (a1 : ByteArray) : Option (Bool) := if (a1.size : Int) > 5000 then ((hopperlaw02_live.f).bind fun t155 => (some t155)) else (hopperlaw02_FnvBytes.l0 k a0 a1 a0 0)
theorem hopperlaw02_FnvBytes.mono_l : ∀ k, (∀ y0 y1 y2 y3, LeO (hopperlaw02_FnvBytes.l0 k y0 y1 y2 y3) (hopperlaw02_FnvBytes.l0 (k + 1) y0 y1 y2 y3))
  | 0 => fun _ _ _ _ r h => by simp [hopperlaw02_FnvBytes.l0] at h
  | k + 1 => by
    have ih0 := hopperlaw02_FnvBytes.mono_l k
    · intro y0 y1 y2 y3
      unfold hopperlaw02_FnvBytes.l0
      repeat' first
      | (with_reducible exact ih0 _ _ _ _)
      | (with_reducible exact LeO.refl _)
      | (with_reducible exact LeO.none _)
      | (with_reducible refine LeO.ite ?_ ?_)
      | (with_reducible refine LeO.bind ?_ (fun _ => ?_))
      | exact ih0 _ _ _ _
      | exact LeO.none _
      | refine LeO.ite ?_ ?_
      | refine LeO.bind ?_ (fun _ => ?_)
theorem hopperlaw02_FnvBytes.mono : ∀ a0 a1 k, LeO (hopperlaw02_FnvBytes.f k a0 a1) (hopperlaw02_FnvBytes.f (k + 1) a0 a1) := by
  intro a0 a1 k
  have ih0 := hopperlaw02_FnvBytes.mono_l k
  unfold hopperlaw02_FnvBytes.f
  repeat' first
      | (with_reducible exact ih0 _ _ _ _)
      | (with_reducible exact LeO.refl _)
      | (with_reducible exact LeO.none _)
      | (with_reducible refine LeO.ite ?_ ?_)
      | (with_reducible refine LeO.bind ?_ (fun _ => ?_))
      | exact ih0 _ _ _ _
      | exact LeO.none _
      | refine LeO.ite ?_ ?_
      | refine LeO.bind ?_ (fun _ => ?_)
set_option maxHeartbeats 8000000 in
set_option maxRecDepth 100000 in
theorem hopperlaw02_FnvBytes.calls (k : Nat) (a0 : Int) (a1 : ByteArray) (r : Bool) (w : World) (h : hopperlaw02_FnvBytes.f k a0 a1 = some r) :
    Calls Try.prog 14 #[.int .u64 a0, .string a1] w fun e w' => e = .returned (.bool r) ∧ Below w.heap.size w w' := by
  have HB := Aside0.mk (Below.refl w.heap.size w)
  have H : (if (a1.size : Int) > 5000 then ((hopperlaw02_live.f).bind fun t155 => (some t155)) else (hopperlaw02_FnvBytes.l0 k a0 a1 a0 0)) = some r := h
  clear h
  by_cases c3 : (a1.size : Int) > 5000
  · rw [if_pos c3] at H
    have c3b0 : decide (5000 < (a1.size : Int)) = true := decide_eq_true c3
    have c3b1 : decide (5000 < a1.size) = true := decide_eq_true (by omega)
    clear c3
    replace H := Option.bind_eq_some_iff.mp H
    obtain ⟨t155, A40, H⟩ := H
    replace H : (some t155) = some r := H
    have A4 := Aside0.mk A40
    clear A40
    obtain rfl := Option.some.inj H
    go_enter Try.func14, Try.ntmps14
    go_wp2_with (first | ((with_reducible refine gate_callee (f := 26) rfl ?_); refine goesL_ (some 11) rfl rfl Try.func26 (by kernel_rfl) rfl #[] rfl (by (try simp only [List.map_toArray, List.map_cons, List.map_nil]); first | done | rfl | (simp only [List.length_drop, List.length_take]; rfl)) ?_; (with_reducible refine (hopperlaw02_live.calls  t155 _ A4.out).mono ?_); rintro e w5 ⟨rfl, hb⟩; refine ⟨_, rfl, ?_⟩; have n0_ := Aside0.mk (below_step (by repeat (first | (with_reducible first | exact HB.out | apply below_alloc | apply pw_below_drewN | apply below_drew1) | exact HB.out)) hb); clear HB; have HB := n0_; clear n0_; (try clear hb); (try clear hb2); (try clear hk); (try clear hi)))
    go_ret
    exact ⟨by first | rfl | (simp [errW_none, errW_some] <;> rfl) | (simp [*, errW_none, errW_some] <;> rfl), by repeat (first | (with_reducible first | exact HB.out | apply below_alloc | apply pw_below_drewN | apply below_drew1) | exact HB.out)⟩
  · rw [if_neg c3] at H
    have c3b0 : decide (5000 < (a1.size : Int)) = false := decide_eq_false c3
    have c3b1 : decide (5000 < a1.size) = false := decide_eq_false (by omega)
    clear c3
    have H' := Aside0.mk H
    clear H
    go_enter Try.func14, Try.ntmps14
    go_wp2
    go_loopg [5, 6] k (fun kq v5 v6 w' => ∃ (x5_1 : Int) (x6_1 : Int), v5 = .int .u64 x5_1 ∧ v6 = .int .i64 x6_1 ∧ Aside0 (hopperlaw02_FnvBytes.l0 kq a0 a1 x5_1 x6_1 = some r) ∧ Aside0 (kq ≤ k) ∧ Aside0 (Below w.heap.size w w'))
    case atStart => exact ⟨(a0), (0), (by first | rfl | (simp; done) | (simp [*]; done)), (by first | rfl | (simp; done) | (simp [*]; done)), H', ⟨Nat.le_refl _⟩, ⟨by repeat (first | (with_reducible first | exact HB.out | apply below_alloc | apply pw_below_drewN | apply below_drew1) | exact HB.out)⟩⟩
    case round =>
      clear H'
      try clear c1
      try clear c2
      try clear p2
      try clear c3
      try clear c3b0
      try clear c3b1
      obtain ⟨x5_1, x6_1, rfl, rfl, HA, HK1, HB⟩ := hrel
      cases gk with
      | zero => exact absurd HA.out (by simp [hopperlaw02_FnvBytes.l0])
      | succ k1 =>
        have H := HA.out
        clear HA
        simp only [hopperlaw02_FnvBytes.l0] at H
        by_cases c6 : x6_1 < (a1.size : Int)
        · rw [if_pos c6] at H
          have c6b0 : decide (x6_1 < (a1.size : Int)) = true := decide_eq_true c6
          clear c6
          by_cases c7 : 0 ≤ x6_1
          · rw [if_pos c7] at H
            have c7b0 := eq_true c7
            have c7b1 : decide (0 ≤ x6_1) = true := decide_eq_true c7
            clear c7
            by_cases c8 : x6_1 ≤ (wrap64 (x6_1 + 1))
            · rw [if_pos c8] at H
              have c8b0 := eq_true c8
              have c8b1 : decide (x6_1 ≤ (wrap64 (x6_1 + 1))) = true := decide_eq_true c8
              by_cases c9 : (wrap64 (x6_1 + 1)) ≤ (a1.size : Int)
              · rw [if_pos c9] at H
                have c9b0 := eq_true c9
                have c9b1 : decide ((wrap64 (x6_1 + 1)) ≤ (a1.size : Int)) = true := decide_eq_true c9
                replace H := Option.bind_eq_some_iff.mp H
                obtain ⟨t156, A100, H⟩ := H
                replace H : (hopperlaw02_FnvBytes.l0 k1 a0 a1 t156 (wrap64 (x6_1 + 1))) = some r := H
                have A10 := Aside0.mk A100
                clear A100
                have H' := Aside0.mk H
                clear H
                go_wp2_with (first | ((with_reducible refine gate_callee (f := 29) rfl ?_); refine goesL_ (some 25) rfl rfl Try.func29 (by kernel_rfl) rfl #[.int .u64 x5_1, .string (a1.extract (x6_1 : Int).toNat ((wrap64 (x6_1 + 1)) : Int).toNat)] rfl (by (try simp only [List.map_toArray, List.map_cons, List.map_nil]); first | done | rfl | (simp only [List.length_drop, List.length_take]; rfl)) ?_; (with_reducible refine (fnv_Roll.calls x5_1 (a1.extract (x6_1 : Int).toNat ((wrap64 (x6_1 + 1)) : Int).toNat) t156 _ A10.out).mono ?_); rintro e w' ⟨rfl, ⟨nd, rfl⟩⟩; refine ⟨_, rfl, ?_⟩))
                go_roundg k1
                case measure => have := HK1.out; omega
                case rel => exact ⟨(t156), (wrap64 (x6_1 + 1)), (by first | rfl | (simp; done) | (simp [*]; done)), (by first | rfl | (simp; done) | (simp [*]; done)), H', ⟨by have := HK1.out; omega⟩, ⟨by repeat (first | (with_reducible first | exact HB.out | apply below_alloc | apply pw_below_drewN | apply below_drew1) | exact HB.out)⟩⟩
              · rw [if_neg c9] at H
                exact absurd H (by simp)
            · rw [if_neg c8] at H
              exact absurd H (by simp)
          · rw [if_neg c7] at H
            exact absurd H (by simp)
        · rw [if_neg c6] at H
          have c6b0 : decide (x6_1 < (a1.size : Int)) = false := decide_eq_false c6
          clear c6
          replace H := Option.bind_eq_some_iff.mp H
          obtain ⟨t157, A110, H⟩ := H
          replace H : ((fnv_Roll.f a0 a1).bind fun t158 => (if x5_1 = t158 then (if t157 = (IntKind.u64.wrap (a0 * 1099511628211)) then (if t157 = a0 then (if a0 = 0 then ((hopperlaw02_live.f).bind fun t159 => (some t159)) else (if (IntKind.u64.wrap (a0 * 1099511628210)) = 0 then ((hopperlaw02_live.f).bind fun t160 => (some t160)) else (some false))) else ((hopperlaw02_live.f).bind fun t161 => (some t161))) else (some false)) else (some false))) = some r := H
          have A11 := Aside0.mk A110
          clear A110
          replace H := Option.bind_eq_some_iff.mp H
          obtain ⟨t158, A120, H⟩ := H
          replace H : (if x5_1 = t158 then (if t157 = (IntKind.u64.wrap (a0 * 1099511628211)) then (if t157 = a0 then (if a0 = 0 then ((hopperlaw02_live.f).bind fun t159 => (some t159)) else (if (IntKind.u64.wrap (a0 * 1099511628210)) = 0 then ((hopperlaw02_live.f).bind fun t160 => (some t160)) else (some false))) else ((hopperlaw02_live.f).bind fun t161 => (some t161))) else (some false)) else (some false)) = some r := H
          have A12 := Aside0.mk A120
          clear A120
          by_cases c13 : x5_1 = t158
          · rw [if_pos c13] at H
            have c13b0 : (x5_1 == t158) = true := beq_iff_eq.mpr c13
            have c13b1 : (x5_1 != t158) = false := bne_eq_false_iff_eq.mpr c13
            clear c13
            by_cases c14 : t157 = (IntKind.u64.wrap (a0 * 1099511628211))
            · rw [if_pos c14] at H
              have c14b0 : (t157 == (IntKind.u64.wrap (a0 * 1099511628211))) = true := beq_iff_eq.mpr c14
              have c14b1 : (t157 != (IntKind.u64.wrap (a0 * 1099511628211))) = false := bne_eq_false_iff_eq.mpr c14
              clear c14
              by_cases c15 : t157 = a0
              · rw [if_pos c15] at H
                have c15b0 : (t157 == a0) = true := beq_iff_eq.mpr c15
                have c15b1 : (t157 != a0) = false := bne_eq_false_iff_eq.mpr c15
                clear c15
                by_cases c16 : a0 = 0
                · rw [if_pos c16] at H
                  have c16b0 : (a0 == 0) = true := beq_iff_eq.mpr c16
                  have c16b1 : (a0 != 0) = false := bne_eq_false_iff_eq.mpr c16
                  clear c16
                  replace H := Option.bind_eq_some_iff.mp H
                  obtain ⟨t159, A170, H⟩ := H
                  replace H : (some t159) = some r := H
                  have A17 := Aside0.mk A170
                  clear A170
                  obtain rfl := Option.some.inj H
                  go_wp2_with (first | ((with_reducible refine gate_callee (f := 29) rfl ?_); refine goesL_ (some 27) rfl rfl Try.func29 (by kernel_rfl) rfl #[.int .u64 a0, .string (⟨#[0]⟩ : ByteArray)] rfl (by (try simp only [List.map_toArray, List.map_cons, List.map_nil]); first | done | rfl | (simp only [List.length_drop, List.length_take]; rfl)) ?_; (with_reducible refine (fnv_Roll.calls a0 (⟨#[0]⟩ : ByteArray) t157 _ A11.out).mono ?_); rintro e w' ⟨rfl, ⟨nd, rfl⟩⟩; refine ⟨_, rfl, ?_⟩) | ((with_reducible refine gate_callee (f := 29) rfl ?_); refine goesL_ (some 31) rfl rfl Try.func29 (by kernel_rfl) rfl #[.int .u64 a0, .string a1] rfl (by (try simp only [List.map_toArray, List.map_cons, List.map_nil]); first | done | rfl | (simp only [List.length_drop, List.length_take]; rfl)) ?_; (with_reducible refine (fnv_Roll.calls a0 a1 t158 _ A12.out).mono ?_); rintro e w' ⟨rfl, ⟨nd, rfl⟩⟩; refine ⟨_, rfl, ?_⟩) | (go_at_call 26; (with_reducible refine (hopperlaw02_live.calls  t159 _ A17.out).mono ?_); rintro e w18 ⟨rfl, hb⟩; have n0_ := Aside0.mk (below_step (by repeat (first | (with_reducible first | exact HB.out | apply below_alloc | apply pw_below_drewN | apply below_drew1) | exact HB.out)) hb); clear HB; have HB := n0_; clear n0_; (try clear hb); (try clear hb2); (try clear hk); (try clear hi)))
                  go_ret
                  exact ⟨by first | rfl | (simp [errW_none, errW_some] <;> rfl) | (simp [*, errW_none, errW_some] <;> rfl), by repeat (first | (with_reducible first | exact HB.out | apply below_alloc | apply pw_below_drewN | apply below_drew1) | exact HB.out)⟩
                · rw [if_neg c16] at H
                  have c16b0 : (a0 == 0) = false := beq_eq_false_iff_ne.mpr c16
                  have c16b1 : (a0 != 0) = true := bne_iff_ne.mpr c16
                  by_cases c19 : (IntKind.u64.wrap (a0 * 1099511628210)) = 0
                  · rw [if_pos c19] at H
                    have c19b0 : ((IntKind.u64.wrap (a0 * 1099511628210)) == 0) = true := beq_iff_eq.mpr c19
                    have c19b1 : ((IntKind.u64.wrap (a0 * 1099511628210)) != 0) = false := bne_eq_false_iff_eq.mpr c19
                    clear c19
                    replace H := Option.bind_eq_some_iff.mp H
                    obtain ⟨t160, A200, H⟩ := H
                    replace H : (some t160) = some r := H
                    have A20 := Aside0.mk A200
                    clear A200
                    obtain rfl := Option.some.inj H
                    go_wp2_with (first | ((with_reducible refine gate_callee (f := 29) rfl ?_); refine goesL_ (some 27) rfl rfl Try.func29 (by kernel_rfl) rfl #[.int .u64 a0, .string (⟨#[0]⟩ : ByteArray)] rfl (by (try simp only [List.map_toArray, List.map_cons, List.map_nil]); first | done | rfl | (simp only [List.length_drop, List.length_take]; rfl)) ?_; (with_reducible refine (fnv_Roll.calls a0 (⟨#[0]⟩ : ByteArray) t157 _ A11.out).mono ?_); rintro e w' ⟨rfl, ⟨nd, rfl⟩⟩; refine ⟨_, rfl, ?_⟩) | ((with_reducible refine gate_callee (f := 29) rfl ?_); refine goesL_ (some 31) rfl rfl Try.func29 (by kernel_rfl) rfl #[.int .u64 a0, .string a1] rfl (by (try simp only [List.map_toArray, List.map_cons, List.map_nil]); first | done | rfl | (simp only [List.length_drop, List.length_take]; rfl)) ?_; (with_reducible refine (fnv_Roll.calls a0 a1 t158 _ A12.out).mono ?_); rintro e w' ⟨rfl, ⟨nd, rfl⟩⟩; refine ⟨_, rfl, ?_⟩) | (go_at_call 26; (with_reducible refine (hopperlaw02_live.calls  t160 _ A20.out).mono ?_); rintro e w21 ⟨rfl, hb⟩; have n0_ := Aside0.mk (below_step (by repeat (first | (with_reducible first | exact HB.out | apply below_alloc | apply pw_below_drewN | apply below_drew1) | exact HB.out)) hb); clear HB; have HB := n0_; clear n0_; (try clear hb); (try clear hb2); (try clear hk); (try clear hi)))
                    go_ret
                    exact ⟨by first | rfl | (simp [errW_none, errW_some] <;> rfl) | (simp [*, errW_none, errW_some] <;> rfl), by repeat (first | (with_reducible first | exact HB.out | apply below_alloc | apply pw_below_drewN | apply below_drew1) | exact HB.out)⟩
                  · rw [if_neg c19] at H
                    have c19b0 : ((IntKind.u64.wrap (a0 * 1099511628210)) == 0) = false := beq_eq_false_iff_ne.mpr c19
                    have c19b1 : ((IntKind.u64.wrap (a0 * 1099511628210)) != 0) = true := bne_iff_ne.mpr c19
                    obtain rfl := Option.some.inj H
                    go_wp2_with (first | ((with_reducible refine gate_callee (f := 29) rfl ?_); refine goesL_ (some 27) rfl rfl Try.func29 (by kernel_rfl) rfl #[.int .u64 a0, .string (⟨#[0]⟩ : ByteArray)] rfl (by (try simp only [List.map_toArray, List.map_cons, List.map_nil]); first | done | rfl | (simp only [List.length_drop, List.length_take]; rfl)) ?_; (with_reducible refine (fnv_Roll.calls a0 (⟨#[0]⟩ : ByteArray) t157 _ A11.out).mono ?_); rintro e w' ⟨rfl, ⟨nd, rfl⟩⟩; refine ⟨_, rfl, ?_⟩) | ((with_reducible refine gate_callee (f := 29) rfl ?_); refine goesL_ (some 31) rfl rfl Try.func29 (by kernel_rfl) rfl #[.int .u64 a0, .string a1] rfl (by (try simp only [List.map_toArray, List.map_cons, List.map_nil]); first | done | rfl | (simp only [List.length_drop, List.length_take]; rfl)) ?_; (with_reducible refine (fnv_Roll.calls a0 a1 t158 _ A12.out).mono ?_); rintro e w' ⟨rfl, ⟨nd, rfl⟩⟩; refine ⟨_, rfl, ?_⟩))
                    go_ret
                    exact ⟨by first | rfl | (simp [errW_none, errW_some] <;> rfl) | (simp [*, errW_none, errW_some] <;> rfl), by repeat (first | (with_reducible first | exact HB.out | apply below_alloc | apply pw_below_drewN | apply below_drew1) | exact HB.out)⟩
              · rw [if_neg c15] at H
                have c15b0 : (t157 == a0) = false := beq_eq_false_iff_ne.mpr c15
                have c15b1 : (t157 != a0) = true := bne_iff_ne.mpr c15
                replace H := Option.bind_eq_some_iff.mp H
                obtain ⟨t161, A220, H⟩ := H
                replace H : (some t161) = some r := H
                have A22 := Aside0.mk A220
                clear A220
                obtain rfl := Option.some.inj H
                go_wp2_with (first | ((with_reducible refine gate_callee (f := 29) rfl ?_); refine goesL_ (some 27) rfl rfl Try.func29 (by kernel_rfl) rfl #[.int .u64 a0, .string (⟨#[0]⟩ : ByteArray)] rfl (by (try simp only [List.map_toArray, List.map_cons, List.map_nil]); first | done | rfl | (simp only [List.length_drop, List.length_take]; rfl)) ?_; (with_reducible refine (fnv_Roll.calls a0 (⟨#[0]⟩ : ByteArray) t157 _ A11.out).mono ?_); rintro e w' ⟨rfl, ⟨nd, rfl⟩⟩; refine ⟨_, rfl, ?_⟩) | ((with_reducible refine gate_callee (f := 29) rfl ?_); refine goesL_ (some 31) rfl rfl Try.func29 (by kernel_rfl) rfl #[.int .u64 a0, .string a1] rfl (by (try simp only [List.map_toArray, List.map_cons, List.map_nil]); first | done | rfl | (simp only [List.length_drop, List.length_take]; rfl)) ?_; (with_reducible refine (fnv_Roll.calls a0 a1 t158 _ A12.out).mono ?_); rintro e w' ⟨rfl, ⟨nd, rfl⟩⟩; refine ⟨_, rfl, ?_⟩) | (go_at_call 26; (with_reducible refine (hopperlaw02_live.calls  t161 _ A22.out).mono ?_); rintro e w23 ⟨rfl, hb⟩; have n0_ := Aside0.mk (below_step (by repeat (first | (with_reducible first | exact HB.out | apply below_alloc | apply pw_below_drewN | apply below_drew1) | exact HB.out)) hb); clear HB; have HB := n0_; clear n0_; (try clear hb); (try clear hb2); (try clear hk); (try clear hi)))
                go_ret
                exact ⟨by first | rfl | (simp [errW_none, errW_some] <;> rfl) | (simp [*, errW_none, errW_some] <;> rfl), by repeat (first | (with_reducible first | exact HB.out | apply below_alloc | apply pw_below_drewN | apply below_drew1) | exact HB.out)⟩
            · rw [if_neg c14] at H
              have c14b0 : (t157 == (IntKind.u64.wrap (a0 * 1099511628211))) = false := beq_eq_false_iff_ne.mpr c14
              have c14b1 : (t157 != (IntKind.u64.wrap (a0 * 1099511628211))) = true := bne_iff_ne.mpr c14
              obtain rfl := Option.some.inj H
              go_wp2_with (first | ((with_reducible refine gate_callee (f := 29) rfl ?_); refine goesL_ (some 27) rfl rfl Try.func29 (by kernel_rfl) rfl #[.int .u64 a0, .string (⟨#[0]⟩ : ByteArray)] rfl (by (try simp only [List.map_toArray, List.map_cons, List.map_nil]); first | done | rfl | (simp only [List.length_drop, List.length_take]; rfl)) ?_; (with_reducible refine (fnv_Roll.calls a0 (⟨#[0]⟩ : ByteArray) t157 _ A11.out).mono ?_); rintro e w' ⟨rfl, ⟨nd, rfl⟩⟩; refine ⟨_, rfl, ?_⟩) | ((with_reducible refine gate_callee (f := 29) rfl ?_); refine goesL_ (some 31) rfl rfl Try.func29 (by kernel_rfl) rfl #[.int .u64 a0, .string a1] rfl (by (try simp only [List.map_toArray, List.map_cons, List.map_nil]); first | done | rfl | (simp only [List.length_drop, List.length_take]; rfl)) ?_; (with_reducible refine (fnv_Roll.calls a0 a1 t158 _ A12.out).mono ?_); rintro e w' ⟨rfl, ⟨nd, rfl⟩⟩; refine ⟨_, rfl, ?_⟩))
              go_ret
              exact ⟨by first | rfl | (simp [errW_none, errW_some] <;> rfl) | (simp [*, errW_none, errW_some] <;> rfl), by repeat (first | (with_reducible first | exact HB.out | apply below_alloc | apply pw_below_drewN | apply below_drew1) | exact HB.out)⟩
          · rw [if_neg c13] at H
            have c13b0 : (x5_1 == t158) = false := beq_eq_false_iff_ne.mpr c13
            have c13b1 : (x5_1 != t158) = true := bne_iff_ne.mpr c13
            obtain rfl := Option.some.inj H
            go_wp2_with (first | ((with_reducible refine gate_callee (f := 29) rfl ?_); refine goesL_ (some 27) rfl rfl Try.func29 (by kernel_rfl) rfl #[.int .u64 a0, .string (⟨#[0]⟩ : ByteArray)] rfl (by (try simp only [List.map_toArray, List.map_cons, List.map_nil]); first | done | rfl | (simp only [List.length_drop, List.length_take]; rfl)) ?_; (with_reducible refine (fnv_Roll.calls a0 (⟨#[0]⟩ : ByteArray) t157 _ A11.out).mono ?_); rintro e w' ⟨rfl, ⟨nd, rfl⟩⟩; refine ⟨_, rfl, ?_⟩) | ((with_reducible refine gate_callee (f := 29) rfl ?_); refine goesL_ (some 31) rfl rfl Try.func29 (by kernel_rfl) rfl #[.int .u64 a0, .string a1] rfl (by (try simp only [List.map_toArray, List.map_cons, List.map_nil]); first | done | rfl | (simp only [List.length_drop, List.length_take]; rfl)) ?_; (with_reducible refine (fnv_Roll.calls a0 a1 t158 _ A12.out).mono ?_); rintro e w' ⟨rfl, ⟨nd, rfl⟩⟩; refine ⟨_, rfl, ?_⟩))
            go_ret
            exact ⟨by first | rfl | (simp [errW_none, errW_some] <;> rfl) | (simp [*, errW_none, errW_some] <;> rfl), by repeat (first | (with_reducible first | exact HB.out | apply below_alloc | apply pw_below_drewN | apply below_drew1) | exact HB.out)⟩

/-- THE ONE PURE STATEMENT of hopperlaw02_FnvBytes: yours. -/
def hopperlaw02_FnvBytes.Pure : Prop := ∀ (a0 : Int) (a1 : ByteArray), (Lit.int .u64 a0).wf = true → a1.size ≤ 140737488351232 → ∃ k, hopperlaw02_FnvBytes.f k a0 a1 = some true
theorem hopperlaw02_FnvBytes.walk (P : hopperlaw02_FnvBytes.Pure) (a0 : Int) (a1 : ByteArray) (w : World) (w0 : (Lit.int .u64 a0).wf = true) (w1 : a1.size ≤ 140737488351232) :
    Calls Try.prog 14 #[.int .u64 a0, .string a1] w fun e w' => e = .returned (.bool true) ∧ Below w.heap.size w w' := by
  obtain ⟨k, h⟩ := P a0 a1 w0 w1
  refine (hopperlaw02_FnvBytes.calls k a0 a1 true w h).mono ?_
  rintro e w' ⟨rfl, hd⟩
  exact ⟨rfl, hd⟩

end Go.Proofs.Ytfpomamhcjkoeaa.L
