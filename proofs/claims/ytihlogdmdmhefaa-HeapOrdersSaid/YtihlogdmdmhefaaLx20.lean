/- Written by this session's own program over the kit's print: functions of Go told as plain functions, or the row of one statement; proved for every input, with no condition of ours. -/
import Derived.Test.YtihlogdmdmhefaaLx0
import Derived.Test.YtihlogdmdmhefaaLx19
namespace Go.Proofs.Ytihlogdmdmhefaa.L
open Go.RowKit Go.Proofs.YtihlogdmdmhefaaW.PrintWords Go.Proofs.YtihlogdmdmhefaaW.PrintLast Go.Proofs.YtihlogdmdmhefaaW.PrintMore
attribute [local go_sem] max2_int min2_int max_two min_two max_three min_three max_four min_four   -- for this text's walks alone
set_option linter.unusedVariables false
set_option linter.unusedSimpArgs false

/-! ### hopperref03_Text: function 108 -/
def hopperref03_Text.f (a0 : ByteArray) : Option (ByteArray) := if (a0.size : Int) > 65535 then (some (⟨#[]⟩ : ByteArray)) else ((some (([((a0.size : Int) / 256) % 256, (a0.size : Int) % 256] : List Int) : List Int)).bind fun y359 => (if (strOfNums y359).size + a0.size ≤ 9223372036854775807 then (some ((strOfNums y359) ++ a0)) else (none)))
set_option maxHeartbeats 8000000 in
set_option maxRecDepth 100000 in
theorem hopperref03_Text.calls (a0 : ByteArray) (r : ByteArray) (w : World) (h : hopperref03_Text.f a0 = some r) :
    Calls Try.prog 108 #[.string a0] w fun e w' => e = .returned (.string r) ∧ Below w.heap.size w w' := by
  have HB := Aside0.mk (Below.refl w.heap.size w)
  have H : (if (a0.size : Int) > 65535 then (some (⟨#[]⟩ : ByteArray)) else ((some (([((a0.size : Int) / 256) % 256, (a0.size : Int) % 256] : List Int) : List Int)).bind fun y359 => (if (strOfNums y359).size + a0.size ≤ 9223372036854775807 then (some ((strOfNums y359) ++ a0)) else (none)))) = some r := h
  clear h
  by_cases c2 : (a0.size : Int) > 65535
  · rw [if_pos c2] at H
    have c2b0 : decide (65535 < (a0.size : Int)) = true := decide_eq_true c2
    have c2b1 : decide (65535 < a0.size) = true := decide_eq_true (by omega)
    clear c2
    obtain rfl := Option.some.inj H
    go_enter Try.func108, Try.ntmps108
    go_wp2
    go_ret
    exact ⟨by first | rfl | (simp [errW_none, errW_some] <;> rfl) | (simp [*, errW_none, errW_some] <;> rfl), by repeat (first | (with_reducible first | exact HB.out | apply below_alloc | apply pw_below_drewN | apply below_drew1) | exact HB.out)⟩
  · rw [if_neg c2] at H
    have c2b0 : decide (65535 < (a0.size : Int)) = false := decide_eq_false c2
    have c2b1 : decide (65535 < a0.size) = false := decide_eq_false (by omega)
    clear c2
    obtain ⟨y359, hy359⟩ : ∃ y_ : List Int, y_ = (([((a0.size : Int) / 256) % 256, (a0.size : Int) % 256] : List Int)) := ⟨_, rfl⟩
    replace H : (if (strOfNums y359).size + a0.size ≤ 9223372036854775807 then (some ((strOfNums y359) ++ a0)) else (none)) = some r := by first | (rw [hy359]; with_reducible exact H) | (have H2_ := (Option.bind_some _ _).symm.trans H; rw [hy359]; with_reducible exact H2_) | (have H2_ := (Option.bind_some _ _).symm.trans H; with_reducible exact H2_) | with_reducible exact H | (rw [hy359]; exact H) | exact H
    have Ny359 := Aside0.mk hy359
    clear hy359
    by_cases c3 : (strOfNums y359).size + a0.size ≤ 9223372036854775807
    · rw [if_pos c3] at H
      have c3b0 := eq_true c3
      have c3b1 : decide ((strOfNums y359).size + a0.size ≤ 9223372036854775807) = true := decide_eq_true c3
      try have c3b2 : (9223372036854775807 < (strOfNums y359).size + a0.size) = False := eq_false (Nat.not_lt.2 c3)
      obtain rfl := Option.some.inj H
      go_enter Try.func108, Try.ntmps108
      go_wp2_with (first | ((with_reducible refine gate_dst (N := 14) rfl ?_); refine Kd.R_lit (Kd.int .u8) _ 5 ?hg (N := 14) ?hd (xs := ([((a0.size : Int) / 256) % 256, (a0.size : Int) % 256] : List Int)) (inner := [.int .u8 (((a0.size : Int) / 256) % 256), .int .u8 ((a0.size : Int) % 256)]) (ok := fun _ => True) (okp := fun _ => True) ?hr ?hp (fun _ hk => hk) trivial (Below.refl _ _) (Nat.le_refl _) (by simp) ?_; (case hd => rfl); (case hg => rfl); (case hr => first | (go_simp; done) | (go_simp; rfl)); (case hp => exact (Reps.one (show Kd.M (Kd.int .u8) _ _ _ (((a0.size : Int) / 256) % 256) [.int .u8 (((a0.size : Int) / 256) % 256)] from rfl) (Reps.one (show Kd.M (Kd.int .u8) _ _ _ ((a0.size : Int) % 256) [.int .u8 ((a0.size : Int) % 256)] from rfl) (Reps.none _ _)))); intro v360 w4 ho5 hb hg_ hnew_; clear hg_ hnew_; (first | rw [← Ny359.out] at ho5 | (simp only [Int.reduceToNat] at ho5; rw [← Ny359.out] at ho5)); have n0_ := Aside0.mk (Kd.R_lower ho5 (below_size (by repeat (first | (with_reducible first | exact HB.out | apply below_alloc | apply pw_below_drewN | apply below_drew1) | exact HB.out)))); have n1_ := Aside0.mk (below_step (by repeat (first | (with_reducible first | exact HB.out | apply below_alloc | apply pw_below_drewN | apply below_drew1) | exact HB.out)) hb); clear HB; have HO361 := n0_; have HB := n1_; clear n0_ n1_; clear hb ho5; have hcv6 := own_string (P := Try.prog) Try.underlying95 Try.underlying5 Try.underlying9 (Kd.own_of_R HO361.out)))
      go_ret
      exact ⟨by first | rfl | (simp [errW_none, errW_some] <;> rfl) | (simp [*, errW_none, errW_some] <;> rfl), by repeat (first | (with_reducible first | exact HB.out | apply below_alloc | apply pw_below_drewN | apply below_drew1) | exact HB.out)⟩
    · rw [if_neg c3] at H
      exact absurd H (by simp)

/-! ### hopperref04_Encode: function 35 -/
def hopperref04_Encode.l0 : Nat → List Int → ByteArray → Int → Int → Int → Int → Int → Int → ByteArray → Option (ByteArray × Bool)
  | 0, _, _, _, _, _, _, _, _, _ => none
  | k + 1, x4, x5, x6, x363000, x363001, x363002, x363003, x363004, x363005 => if x6 < (x4.length : Int) then (if 0 ≤ x6 then ((hopperref03_Number.f k (rd x4 x6)).bind fun t368 => (if x5.size + t368.size ≤ 9223372036854775807 then (hopperref04_Encode.l0 k x4 (x5 ++ t368) (wrap64 (x6 + 1)) x363000 x363001 x363002 x363003 x363004 x363005) else (none))) else (none)) else ((hopperref03_Text.f x363005).bind fun t369 => (if x5.size + t369.size ≤ 9223372036854775807 then (some (x5 ++ t369, true)) else (none)))
def hopperref04_Encode.f (k : Nat) (a0_0 : Int) (a0_1 : Int) (a0_2 : Int) (a0_3 : Int) (a0_4 : Int) (a0_5 : ByteArray) : Option (ByteArray × Bool) := (hopperref04_Check.f a0_0 a0_1 a0_2 a0_3 a0_4 a0_5).bind fun t363 => (if t363 = true then (hopperref04_Encode.l0 k (([a0_0, a0_1, a0_2, a0_3, a0_4] : List Int)) (⟨#[1]⟩ : ByteArray) 0 a0_0 a0_1 a0_2 a0_3 a0_4 a0_5) else (some ((⟨#[]⟩ : ByteArray), false)))
theorem hopperref04_Encode.mono_l : ∀ k, (∀ y0 y1 y2 y3 y4 y5 y6 y7 y8, LeO (hopperref04_Encode.l0 k y0 y1 y2 y3 y4 y5 y6 y7 y8) (hopperref04_Encode.l0 (k + 1) y0 y1 y2 y3 y4 y5 y6 y7 y8))
  | 0 => fun _ _ _ _ _ _ _ _ _ r h => by simp [hopperref04_Encode.l0] at h
  | k + 1 => by
    have ih0 := hopperref04_Encode.mono_l k
    · intro y0 y1 y2 y3 y4 y5 y6 y7 y8
      unfold hopperref04_Encode.l0
      repeat' first
      | (with_reducible exact ih0 _ _ _ _ _ _ _ _ _)
      | (with_reducible exact hopperref03_Number.mono _ _)
      | (with_reducible exact LeO.refl _)
      | (with_reducible exact LeO.none _)
      | (with_reducible refine LeO.ite ?_ ?_)
      | (with_reducible refine LeO.bind ?_ (fun _ => ?_))
      | exact ih0 _ _ _ _ _ _ _ _ _
      | exact hopperref03_Number.mono _ _
      | exact LeO.none _
      | refine LeO.ite ?_ ?_
      | refine LeO.bind ?_ (fun _ => ?_)
theorem hopperref04_Encode.mono : ∀ a0 a1 a2 a3 a4 a5 k, LeO (hopperref04_Encode.f k a0 a1 a2 a3 a4 a5) (hopperref04_Encode.f (k + 1) a0 a1 a2 a3 a4 a5) := by
  intro a0 a1 a2 a3 a4 a5 k
  have ih0 := hopperref04_Encode.mono_l k
  unfold hopperref04_Encode.f
  repeat' first
      | (with_reducible exact ih0 _ _ _ _ _ _ _ _ _)
      | (with_reducible exact hopperref03_Number.mono _ _)
      | (with_reducible exact LeO.refl _)
      | (with_reducible exact LeO.none _)
      | (with_reducible refine LeO.ite ?_ ?_)
      | (with_reducible refine LeO.bind ?_ (fun _ => ?_))
      | exact ih0 _ _ _ _ _ _ _ _ _
      | exact hopperref03_Number.mono _ _
      | exact LeO.none _
      | refine LeO.ite ?_ ?_
      | refine LeO.bind ?_ (fun _ => ?_)
set_option maxHeartbeats 8000000 in
set_option maxRecDepth 100000 in
theorem hopperref04_Encode.calls (k : Nat) (a0_0 : Int) (a0_1 : Int) (a0_2 : Int) (a0_3 : Int) (a0_4 : Int) (a0_5 : ByteArray) (r1 : ByteArray) (r2 : Bool) (w : World) (h : hopperref04_Encode.f k a0_0 a0_1 a0_2 a0_3 a0_4 a0_5 = some (r1, r2)) :
    Calls Try.prog 35 #[.agg #[.int .i64 a0_0, .int .i64 a0_1, .int .i64 a0_2, .int .i64 a0_3, .int .i64 a0_4, .string a0_5]] w fun e w' => e = .returned (.tuple #[.string r1, .bool r2]) ∧ Below w.heap.size w w' := by
  have hu23 := Try.underlying23
  have HB := Aside0.mk (Below.refl w.heap.size w)
  have H : ((hopperref04_Check.f a0_0 a0_1 a0_2 a0_3 a0_4 a0_5).bind fun t363 => (if t363 = true then (hopperref04_Encode.l0 k (([a0_0, a0_1, a0_2, a0_3, a0_4] : List Int)) (⟨#[1]⟩ : ByteArray) 0 a0_0 a0_1 a0_2 a0_3 a0_4 a0_5) else (some ((⟨#[]⟩ : ByteArray), false)))) = some (r1, r2) := h
  clear h
  replace H := Option.bind_eq_some_iff.mp H
  obtain ⟨t363, A20, H⟩ := H
  replace H : (if t363 = true then (hopperref04_Encode.l0 k (([a0_0, a0_1, a0_2, a0_3, a0_4] : List Int)) (⟨#[1]⟩ : ByteArray) 0 a0_0 a0_1 a0_2 a0_3 a0_4 a0_5) else (some ((⟨#[]⟩ : ByteArray), false))) = some (r1, r2) := H
  have A2 := Aside0.mk A20
  clear A20
  by_cases c3 : t363 = true
  · subst c3
    have H1 : (hopperref04_Encode.l0 k (([a0_0, a0_1, a0_2, a0_3, a0_4] : List Int)) (⟨#[1]⟩ : ByteArray) 0 a0_0 a0_1 a0_2 a0_3 a0_4 a0_5) = some (r1, r2) := by rw [if_pos rfl] at H; exact H
    clear H
    have H := H1
    clear H1
    obtain ⟨y364, hy364⟩ : ∃ y_ : List Int, y_ = (([a0_0, a0_1, a0_2, a0_3, a0_4] : List Int)) := ⟨_, rfl⟩
    replace H : (hopperref04_Encode.l0 k y364 (⟨#[1]⟩ : ByteArray) 0 a0_0 a0_1 a0_2 a0_3 a0_4 a0_5) = some (r1, r2) := by first | (rw [hy364]; with_reducible exact H) | (have H2_ := (Option.bind_some _ _).symm.trans H; rw [hy364]; with_reducible exact H2_) | (have H2_ := (Option.bind_some _ _).symm.trans H; with_reducible exact H2_) | with_reducible exact H | (rw [hy364]; exact H) | exact H
    have Ny364 := Aside0.mk hy364
    clear hy364
    have H' := Aside0.mk H
    clear H
    go_enter Try.func35, Try.ntmps35
    go_wp2_with (first | ((with_reducible refine gate_dst (N := 1) rfl ?_); refine box_event ?hg (N := 1) ?hd (cs := #[.int .i64 a0_0, .int .i64 a0_1, .int .i64 a0_2, .int .i64 a0_3, .int .i64 a0_4, .string a0_5]) (t := 23) ?hr ?_; (case hd => rfl); (case hg => rfl); (case hr => first | (go_simp; done) | (go_simp; rfl)); intro gb362 hg w4 hbox hb; have n0_ := Aside0.mk (below_step (by repeat (first | (with_reducible first | exact HB.out | apply below_alloc | apply pw_below_drewN | apply below_drew1) | exact HB.out)) hb); have n1_ := Aside0.mk (hbox); have n2_ := Aside0.mk ((by rw [hg]; exact (below_size (by repeat (first | (with_reducible first | exact HB.out | apply below_alloc | apply pw_below_drewN | apply below_drew1) | exact HB.out))) : w.heap.size ≤ gb362)); have n3_ := Aside0.mk ((by rw [hg]; exact (below_size (by repeat (first | (with_reducible first | exact HB.out | apply below_alloc | apply pw_below_drewN | apply below_drew1) | exact HB.out))) : w.heap.size ≤ gb362)); clear HB; have HB := n0_; have BK362 := n1_; have GW362 := n2_; have GE362 := n3_; clear n0_ n1_ n2_ n3_; clear hb hbox hg; have hcz5_0 : w4.cell? ⟨gb362, 0, none⟩ = some (.int .i64 a0_0) := (blk_cell BK362.out 0).trans rfl; have hcz5_1 : w4.cell? ⟨gb362, 1, none⟩ = some (.int .i64 a0_1) := (blk_cell BK362.out 1).trans rfl; have hcz5_2 : w4.cell? ⟨gb362, 2, none⟩ = some (.int .i64 a0_2) := (blk_cell BK362.out 2).trans rfl; have hcz5_3 : w4.cell? ⟨gb362, 3, none⟩ = some (.int .i64 a0_3) := (blk_cell BK362.out 3).trans rfl; have hcz5_4 : w4.cell? ⟨gb362, 4, none⟩ = some (.int .i64 a0_4) := (blk_cell BK362.out 4).trans rfl; have hcz5_5 : w4.cell? ⟨gb362, 5, none⟩ = some (.string a0_5) := (blk_cell BK362.out 5).trans rfl; have hfz5_0 := blk_frozen BK362.out 0; have hfz5_1 := blk_frozen BK362.out 1; have hfz5_2 := blk_frozen BK362.out 2; have hfz5_3 := blk_frozen BK362.out 3; have hfz5_4 := blk_frozen BK362.out 4; have hfz5_5 := blk_frozen BK362.out 5) | ((with_reducible refine gate_callee (f := 39) rfl ?_); refine goesL_ (some 8) rfl rfl Try.func39 (by kernel_rfl) rfl #[.agg #[.int .i64 a0_0, .int .i64 a0_1, .int .i64 a0_2, .int .i64 a0_3, .int .i64 a0_4, .string a0_5]] rfl (by (try simp only [List.map_toArray, List.map_cons, List.map_nil]); first | done | rfl | (simp only [List.length_drop, List.length_take]; rfl)) ?_; (with_reducible refine (hopperref04_Check.calls a0_0 a0_1 a0_2 a0_3 a0_4 a0_5 true _ A2.out).mono ?_); rintro e w6 ⟨rfl, hb⟩; refine ⟨_, rfl, ?_⟩; have n0_ := Aside0.mk (blk_below (g := gb362) (o := .cells #[.int .i64 a0_0, .int .i64 a0_1, .int .i64 a0_2, .int .i64 a0_3, .int .i64 a0_4, .string a0_5] 23 (0, 0)) (by (with_reducible repeat (first | refine blk_drewN ?_ _ | refine blk_drew ?_ | refine blk_alloc ?_ _)); exact BK362.out) hb); have n1_ := Aside0.mk (below_step (by repeat (first | (with_reducible first | exact HB.out | apply below_alloc | apply pw_below_drewN | apply below_drew1 | refine below_set ?_ GE362.out) | exact HB.out)) hb); clear BK362; clear HB; have BK362 := n0_; have HB := n1_; clear n0_ n1_; (try clear hb); (try clear hb2); (try clear hk); (try clear hi); have hcz7_0 : w6.cell? ⟨gb362, 0, none⟩ = some (.int .i64 a0_0) := (blk_cell BK362.out 0).trans rfl; have hcz7_1 : w6.cell? ⟨gb362, 1, none⟩ = some (.int .i64 a0_1) := (blk_cell BK362.out 1).trans rfl; have hcz7_2 : w6.cell? ⟨gb362, 2, none⟩ = some (.int .i64 a0_2) := (blk_cell BK362.out 2).trans rfl; have hcz7_3 : w6.cell? ⟨gb362, 3, none⟩ = some (.int .i64 a0_3) := (blk_cell BK362.out 3).trans rfl; have hcz7_4 : w6.cell? ⟨gb362, 4, none⟩ = some (.int .i64 a0_4) := (blk_cell BK362.out 4).trans rfl; have hcz7_5 : w6.cell? ⟨gb362, 5, none⟩ = some (.string a0_5) := (blk_cell BK362.out 5).trans rfl; have hfz7_0 := blk_frozen BK362.out 0; have hfz7_1 := blk_frozen BK362.out 1; have hfz7_2 := blk_frozen BK362.out 2; have hfz7_3 := blk_frozen BK362.out 3; have hfz7_4 := blk_frozen BK362.out 4; have hfz7_5 := blk_frozen BK362.out 5) | ((with_reducible refine gate_dst (N := 20) rfl ?_); refine Kd.R_lit (Kd.int .i64) _ 3 ?hg (N := 20) ?hd (xs := ([a0_0, a0_1, a0_2, a0_3, a0_4] : List Int)) (inner := [.int .i64 a0_0, .int .i64 a0_1, .int .i64 a0_2, .int .i64 a0_3, .int .i64 a0_4]) (ok := fun _ => True) (okp := fun _ => True) ?hr ?hp (fun _ hk => hk) trivial (Below.refl _ _) (Nat.le_refl _) (by simp) ?_; (case hd => rfl); (case hg => rfl); (case hr => first | (go_simp; done) | (go_simp; rfl)); (case hp => exact (Reps.one (show Kd.M (Kd.int .i64) _ _ _ a0_0 [.int .i64 a0_0] from rfl) (Reps.one (show Kd.M (Kd.int .i64) _ _ _ a0_1 [.int .i64 a0_1] from rfl) (Reps.one (show Kd.M (Kd.int .i64) _ _ _ a0_2 [.int .i64 a0_2] from rfl) (Reps.one (show Kd.M (Kd.int .i64) _ _ _ a0_3 [.int .i64 a0_3] from rfl) (Reps.one (show Kd.M (Kd.int .i64) _ _ _ a0_4 [.int .i64 a0_4] from rfl) (Reps.none _ _))))))); intro v365 w8 ho9 hb hg_ hnew_; clear hg_ hnew_; (first | rw [← Ny364.out] at ho9 | (simp only [Int.reduceToNat] at ho9; rw [← Ny364.out] at ho9)); have n0_ := Aside0.mk (Kd.R_lower ho9 (below_size (by repeat (first | (with_reducible first | exact HB.out | apply below_alloc | apply pw_below_drewN | apply below_drew1 | refine below_set ?_ GE362.out) | exact HB.out)))); have n1_ := Aside0.mk (blk_below (g := gb362) (o := .cells #[.int .i64 a0_0, .int .i64 a0_1, .int .i64 a0_2, .int .i64 a0_3, .int .i64 a0_4, .string a0_5] 23 (0, 0)) (by (with_reducible repeat (first | refine blk_drewN ?_ _ | refine blk_drew ?_ | refine blk_alloc ?_ _)); exact BK362.out) hb); have n2_ := Aside0.mk (below_step (by repeat (first | (with_reducible first | exact HB.out | apply below_alloc | apply pw_below_drewN | apply below_drew1 | refine below_set ?_ GE362.out) | exact HB.out)) hb); clear BK362; clear HB; have HO366 := n0_; have BK362 := n1_; have HB := n2_; clear n0_ n1_ n2_; clear hb ho9))
    go_loopg [5, 6] k (fun kq v5 v6 w' => ∃ (x5_1 : ByteArray) (x6_1 : Int), v5 = .string x5_1 ∧ v6 = .int .i64 x6_1 ∧ Aside0 (hopperref04_Encode.l0 kq y364 x5_1 x6_1 a0_0 a0_1 a0_2 a0_3 a0_4 a0_5 = some (r1, r2)) ∧ Aside0 (kq ≤ k) ∧ Aside0 (Kd.R (Kd.int .i64) 3 w' w.heap.size (fun _ => True) v365 y364) ∧ Aside0 (w'.heap[gb362]? = some (.cells #[.int .i64 a0_0, .int .i64 a0_1, .int .i64 a0_2, .int .i64 a0_3, .int .i64 a0_4, .string a0_5] 23 (0, 0))) ∧ Aside0 (Below w.heap.size w w'))
    case atStart => exact ⟨((⟨#[1]⟩ : ByteArray)), (0), (by first | rfl | (simp; done) | (simp [*]; done)), (by first | rfl | (simp; done) | (simp [*]; done)), H', ⟨Nat.le_refl _⟩, ⟨by (with_reducible repeat (first | apply Kd.R_alloc | apply Kd.R_drewN | apply Kd.R_drew)); exact HO366.out⟩, ⟨by (with_reducible repeat (first | refine blk_drewN ?_ _ | refine blk_drew ?_ | refine blk_alloc ?_ _)); exact BK362.out⟩, ⟨by repeat (first | (with_reducible first | exact HB.out | apply below_alloc | apply pw_below_drewN | apply below_drew1 | refine below_set ?_ GE362.out) | exact HB.out)⟩⟩
    case round =>
      clear H'
      try clear p2
      try clear c3
      try clear hcz5_0
      try clear hcz5_1
      try clear hcz5_2
      try clear hcz5_3
      try clear hcz5_4
      try clear hcz5_5
      try clear hcz7_0
      try clear hcz7_1
      try clear hcz7_2
      try clear hcz7_3
      try clear hcz7_4
      try clear hcz7_5
      try clear hfz5_0
      try clear hfz5_1
      try clear hfz5_2
      try clear hfz5_3
      try clear hfz5_4
      try clear hfz5_5
      try clear hfz7_0
      try clear hfz7_1
      try clear hfz7_2
      try clear hfz7_3
      try clear hfz7_4
      try clear hfz7_5
      obtain ⟨x5_1, x6_1, rfl, rfl, HA, HK1, HO_4, BK362, HB⟩ := hrel
      cases gk with
      | zero => exact absurd HA.out (by simp [hopperref04_Encode.l0])
      | succ k1 =>
        have H := HA.out
        clear HA
        simp only [hopperref04_Encode.l0] at H
        by_cases c10 : x6_1 < (y364.length : Int)
        · rw [if_pos c10] at H
          have c10b0 : decide (x6_1 < (y364.length : Int)) = true := decide_eq_true c10
          clear c10
          by_cases c11 : 0 ≤ x6_1
          · rw [if_pos c11] at H
            have c11b0 : decide (0 ≤ x6_1) = true := decide_eq_true c11
            clear c11
            replace H := Option.bind_eq_some_iff.mp H
            obtain ⟨t368, A120, H⟩ := H
            replace H : (if x5_1.size + t368.size ≤ 9223372036854775807 then (hopperref04_Encode.l0 k1 y364 (x5_1 ++ t368) (wrap64 (x6_1 + 1)) a0_0 a0_1 a0_2 a0_3 a0_4 a0_5) else (none)) = some (r1, r2) := H
            have A12 := Aside0.mk A120
            clear A120
            by_cases c13 : x5_1.size + t368.size ≤ 9223372036854775807
            · rw [if_pos c13] at H
              have c13b0 := eq_true c13
              have c13b1 : decide (x5_1.size + t368.size ≤ 9223372036854775807) = true := decide_eq_true c13
              try have c13b2 : (9223372036854775807 < x5_1.size + t368.size) = False := eq_false (Nat.not_lt.2 c13)
              have H' := Aside0.mk H
              clear H
              obtain ⟨Ao14, co14, eo14⟩ := Kd.R_slice HO_4.out
              subst eo14
              have p367 : 0 ≤ (x6_1 : Int) := of_decide_eq_true (by first | (with_reducible assumption) | assumption)
              have q367 : x6_1 < (y364.length : Int) := of_decide_eq_true (by first | (with_reducible assumption) | assumption)
              obtain ⟨ad367, e367, hx367_0⟩ := Kd.at_int (Kd.R_reads' HO_4.out).2.2 x6_1 p367 q367
              cases e367
              replace p367 := eq_true p367
              replace q367 := eq_true q367
              go_wp2_with (first | ((with_reducible refine gate_callee (f := 107) rfl ?_); refine goesL_ (some 32) rfl rfl Try.func107 (by kernel_rfl) rfl #[.int .i64 (rd y364 x6_1)] rfl (by (try simp only [List.map_toArray, List.map_cons, List.map_nil]); first | done | rfl | (simp only [List.length_drop, List.length_take]; rfl)) ?_; (with_reducible refine (hopperref03_Number.calls k1 (rd y364 x6_1) t368 _ A12.out).mono ?_); rintro e w15 ⟨rfl, hb⟩; refine ⟨_, rfl, ?_⟩; have n0_ := Aside0.mk (Kd.R_below (by (with_reducible repeat (first | apply Kd.R_alloc | apply Kd.R_drewN | apply Kd.R_drew)); exact HO_4.out) hb); have n1_ := Aside0.mk (blk_below (g := gb362) (o := .cells #[.int .i64 a0_0, .int .i64 a0_1, .int .i64 a0_2, .int .i64 a0_3, .int .i64 a0_4, .string a0_5] 23 (0, 0)) (by (with_reducible repeat (first | refine blk_drewN ?_ _ | refine blk_drew ?_ | refine blk_alloc ?_ _)); exact BK362.out) hb); have n2_ := Aside0.mk (below_step (by repeat (first | (with_reducible first | exact HB.out | apply below_alloc | apply pw_below_drewN | apply below_drew1 | refine below_set ?_ GE362.out) | exact HB.out)) hb); clear HO_4; clear BK362; clear HB; have HO_4 := n0_; have BK362 := n1_; have HB := n2_; clear n0_ n1_ n2_; (try clear hb); (try clear hb2); (try clear hk); (try clear hi)))
              go_roundg k1
              case measure => have := HK1.out; omega
              case rel => exact ⟨(x5_1 ++ t368), (wrap64 (x6_1 + 1)), (by first | rfl | (simp; done) | (simp [*]; done)), (by first | rfl | (simp; done) | (simp [*]; done)), H', ⟨by have := HK1.out; omega⟩, ⟨by (with_reducible repeat (first | apply Kd.R_alloc | apply Kd.R_drewN | apply Kd.R_drew)); exact HO_4.out⟩, ⟨by (with_reducible repeat (first | refine blk_drewN ?_ _ | refine blk_drew ?_ | refine blk_alloc ?_ _)); exact BK362.out⟩, ⟨by repeat (first | (with_reducible first | exact HB.out | apply below_alloc | apply pw_below_drewN | apply below_drew1 | refine below_set ?_ GE362.out) | exact HB.out)⟩⟩
            · rw [if_neg c13] at H
              exact absurd H (by simp)
          · rw [if_neg c11] at H
            exact absurd H (by simp)
        · rw [if_neg c10] at H
          have c10b0 : decide (x6_1 < (y364.length : Int)) = false := decide_eq_false c10
          clear c10
          replace H := Option.bind_eq_some_iff.mp H
          obtain ⟨t369, A160, H⟩ := H
          replace H : (if x5_1.size + t369.size ≤ 9223372036854775807 then (some (x5_1 ++ t369, true)) else (none)) = some (r1, r2) := H
          have A16 := Aside0.mk A160
          clear A160
          by_cases c17 : x5_1.size + t369.size ≤ 9223372036854775807
          · rw [if_pos c17] at H
            have c17b0 := eq_true c17
            have c17b1 : decide (x5_1.size + t369.size ≤ 9223372036854775807) = true := decide_eq_true c17
            try have c17b2 : (9223372036854775807 < x5_1.size + t369.size) = False := eq_false (Nat.not_lt.2 c17)
            simp only [Option.some.injEq, Prod.mk.injEq] at H
            obtain ⟨rfl, rfl⟩ := H
            obtain ⟨Ao18, co18, eo18⟩ := Kd.R_slice HO_4.out
            subst eo18
            have hcz19_0 : wr.cell? ⟨gb362, 0, none⟩ = some (.int .i64 a0_0) := (blk_cell BK362.out 0).trans rfl
            have hcz19_1 : wr.cell? ⟨gb362, 1, none⟩ = some (.int .i64 a0_1) := (blk_cell BK362.out 1).trans rfl
            have hcz19_2 : wr.cell? ⟨gb362, 2, none⟩ = some (.int .i64 a0_2) := (blk_cell BK362.out 2).trans rfl
            have hcz19_3 : wr.cell? ⟨gb362, 3, none⟩ = some (.int .i64 a0_3) := (blk_cell BK362.out 3).trans rfl
            have hcz19_4 : wr.cell? ⟨gb362, 4, none⟩ = some (.int .i64 a0_4) := (blk_cell BK362.out 4).trans rfl
            have hcz19_5 : wr.cell? ⟨gb362, 5, none⟩ = some (.string a0_5) := (blk_cell BK362.out 5).trans rfl
            have hfz19_0 := blk_frozen BK362.out 0
            have hfz19_1 := blk_frozen BK362.out 1
            have hfz19_2 := blk_frozen BK362.out 2
            have hfz19_3 := blk_frozen BK362.out 3
            have hfz19_4 := blk_frozen BK362.out 4
            have hfz19_5 := blk_frozen BK362.out 5
            go_wp2_with (first | ((with_reducible refine gate_callee (f := 108) rfl ?_); refine goesL_ (some 37) rfl rfl Try.func108 (by kernel_rfl) rfl #[.string a0_5] rfl (by (try simp only [List.map_toArray, List.map_cons, List.map_nil]); first | done | rfl | (simp only [List.length_drop, List.length_take]; rfl)) ?_; (with_reducible refine (hopperref03_Text.calls a0_5 t369 _ A16.out).mono ?_); rintro e w20 ⟨rfl, hb⟩; refine ⟨_, rfl, ?_⟩; have n0_ := Aside0.mk (Kd.R_below (by (with_reducible repeat (first | apply Kd.R_alloc | apply Kd.R_drewN | apply Kd.R_drew)); exact HO_4.out) hb); have n1_ := Aside0.mk (blk_below (g := gb362) (o := .cells #[.int .i64 a0_0, .int .i64 a0_1, .int .i64 a0_2, .int .i64 a0_3, .int .i64 a0_4, .string a0_5] 23 (0, 0)) (by (with_reducible repeat (first | refine blk_drewN ?_ _ | refine blk_drew ?_ | refine blk_alloc ?_ _)); exact BK362.out) hb); have n2_ := Aside0.mk (below_step (by repeat (first | (with_reducible first | exact HB.out | apply below_alloc | apply pw_below_drewN | apply below_drew1 | refine below_set ?_ GE362.out) | exact HB.out)) hb); clear HO_4; clear BK362; clear HB; have HO_4 := n0_; have BK362 := n1_; have HB := n2_; clear n0_ n1_ n2_; (try clear hb); (try clear hb2); (try clear hk); (try clear hi)))
            go_ret2
            exact ⟨by first | rfl | (simp [errW_none, errW_some] <;> rfl) | (simp [*, errW_none, errW_some] <;> rfl), by repeat (first | (with_reducible first | exact HB.out | apply below_alloc | apply pw_below_drewN | apply below_drew1 | refine below_set ?_ GE362.out) | exact HB.out)⟩
          · rw [if_neg c17] at H
            exact absurd H (by simp)
  · replace c3 := Bool.eq_false_iff.mpr c3
    subst c3
    have H1 : (some ((⟨#[]⟩ : ByteArray), false)) = some (r1, r2) := by rw [if_neg (show ¬ (false = true) by decide)] at H; exact H
    clear H
    have H := H1
    clear H1
    simp only [Option.some.injEq, Prod.mk.injEq] at H
    obtain ⟨rfl, rfl⟩ := H
    go_enter Try.func35, Try.ntmps35
    go_wp2_with (first | ((with_reducible refine gate_dst (N := 1) rfl ?_); refine box_event ?hg (N := 1) ?hd (cs := #[.int .i64 a0_0, .int .i64 a0_1, .int .i64 a0_2, .int .i64 a0_3, .int .i64 a0_4, .string a0_5]) (t := 23) ?hr ?_; (case hd => rfl); (case hg => rfl); (case hr => first | (go_simp; done) | (go_simp; rfl)); intro gb362 hg w21 hbox hb; have n0_ := Aside0.mk (below_step (by repeat (first | (with_reducible first | exact HB.out | apply below_alloc | apply pw_below_drewN | apply below_drew1) | exact HB.out)) hb); have n1_ := Aside0.mk (hbox); have n2_ := Aside0.mk ((by rw [hg]; exact (below_size (by repeat (first | (with_reducible first | exact HB.out | apply below_alloc | apply pw_below_drewN | apply below_drew1) | exact HB.out))) : w.heap.size ≤ gb362)); have n3_ := Aside0.mk ((by rw [hg]; exact (below_size (by repeat (first | (with_reducible first | exact HB.out | apply below_alloc | apply pw_below_drewN | apply below_drew1) | exact HB.out))) : w.heap.size ≤ gb362)); clear HB; have HB := n0_; have BK362 := n1_; have GW362 := n2_; have GE362 := n3_; clear n0_ n1_ n2_ n3_; clear hb hbox hg; have hcz22_0 : w21.cell? ⟨gb362, 0, none⟩ = some (.int .i64 a0_0) := (blk_cell BK362.out 0).trans rfl; have hcz22_1 : w21.cell? ⟨gb362, 1, none⟩ = some (.int .i64 a0_1) := (blk_cell BK362.out 1).trans rfl; have hcz22_2 : w21.cell? ⟨gb362, 2, none⟩ = some (.int .i64 a0_2) := (blk_cell BK362.out 2).trans rfl; have hcz22_3 : w21.cell? ⟨gb362, 3, none⟩ = some (.int .i64 a0_3) := (blk_cell BK362.out 3).trans rfl; have hcz22_4 : w21.cell? ⟨gb362, 4, none⟩ = some (.int .i64 a0_4) := (blk_cell BK362.out 4).trans rfl; have hcz22_5 : w21.cell? ⟨gb362, 5, none⟩ = some (.string a0_5) := (blk_cell BK362.out 5).trans rfl; have hfz22_0 := blk_frozen BK362.out 0; have hfz22_1 := blk_frozen BK362.out 1; have hfz22_2 := blk_frozen BK362.out 2; have hfz22_3 := blk_frozen BK362.out 3; have hfz22_4 := blk_frozen BK362.out 4; have hfz22_5 := blk_frozen BK362.out 5) | ((with_reducible refine gate_callee (f := 39) rfl ?_); refine goesL_ (some 8) rfl rfl Try.func39 (by kernel_rfl) rfl #[.agg #[.int .i64 a0_0, .int .i64 a0_1, .int .i64 a0_2, .int .i64 a0_3, .int .i64 a0_4, .string a0_5]] rfl (by (try simp only [List.map_toArray, List.map_cons, List.map_nil]); first | done | rfl | (simp only [List.length_drop, List.length_take]; rfl)) ?_; (with_reducible refine (hopperref04_Check.calls a0_0 a0_1 a0_2 a0_3 a0_4 a0_5 false _ A2.out).mono ?_); rintro e w23 ⟨rfl, hb⟩; refine ⟨_, rfl, ?_⟩; have n0_ := Aside0.mk (blk_below (g := gb362) (o := .cells #[.int .i64 a0_0, .int .i64 a0_1, .int .i64 a0_2, .int .i64 a0_3, .int .i64 a0_4, .string a0_5] 23 (0, 0)) (by (with_reducible repeat (first | refine blk_drewN ?_ _ | refine blk_drew ?_ | refine blk_alloc ?_ _)); exact BK362.out) hb); have n1_ := Aside0.mk (below_step (by repeat (first | (with_reducible first | exact HB.out | apply below_alloc | apply pw_below_drewN | apply below_drew1 | refine below_set ?_ GE362.out) | exact HB.out)) hb); clear BK362; clear HB; have BK362 := n0_; have HB := n1_; clear n0_ n1_; (try clear hb); (try clear hb2); (try clear hk); (try clear hi)))
    go_ret2
    exact ⟨by first | rfl | (simp [errW_none, errW_some] <;> rfl) | (simp [*, errW_none, errW_some] <;> rfl), by repeat (first | (with_reducible first | exact HB.out | apply below_alloc | apply pw_below_drewN | apply below_drew1 | refine below_set ?_ GE362.out) | exact HB.out)⟩

end Go.Proofs.Ytihlogdmdmhefaa.L
