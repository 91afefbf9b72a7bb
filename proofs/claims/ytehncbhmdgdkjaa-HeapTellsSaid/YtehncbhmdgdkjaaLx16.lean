/- Written by this session's own program over the kit's print: functions of Go told as plain functions, or the row of one statement; proved for every input, with no condition of ours. -/
import Derived.Test.YtehncbhmdgdkjaaLx0
namespace Go.Proofs.Ytehncbhmdgdkjaa.L
open Go.RowKit Go.Proofs.YtehncbhmdgdkjaaW.PrintWords Go.Proofs.YtehncbhmdgdkjaaW.PrintLast Go.Proofs.YtehncbhmdgdkjaaW.PrintMore
attribute [local go_sem] max2_int min2_int max_two min_two max_three min_three max_four min_four   -- for this text's walks alone
set_option linter.unusedVariables false
set_option linter.unusedSimpArgs false

/-! ### hopperref04_Check: function 67 -/
def hopperref04_Check.f (a0_0 : Int) (a0_1 : Int) (a0_2 : Int) (a0_3 : Int) (a0_4 : Int) (a0_5 : ByteArray) : Option (Bool) := if a0_0 < 0 then (some false) else (if a0_0 > 255 then (some false) else (if a0_1 < 0 then (some false) else (if a0_1 ≥ 4294967296 then (some false) else (if a0_2 < 0 then (some false) else (if a0_2 > a0_3 then (some false) else (if a0_3 > 1099511627776 then (some false) else (if a0_4 ≥ 1 then (if a0_4 ≤ 1073741824 then (some (decide ((a0_5.size : Int) ≤ 256))) else (some false)) else (some false))))))))
set_option maxHeartbeats 8000000 in
set_option maxRecDepth 100000 in
theorem hopperref04_Check.calls (a0_0 : Int) (a0_1 : Int) (a0_2 : Int) (a0_3 : Int) (a0_4 : Int) (a0_5 : ByteArray) (r : Bool) (w : World) (h : hopperref04_Check.f a0_0 a0_1 a0_2 a0_3 a0_4 a0_5 = some r) :
 Calls Try.prog 67 #[.agg #[.int .i64 a0_0, .int .i64 a0_1, .int .i64 a0_2, .int .i64 a0_3, .int .i64 a0_4, .string a0_5]] w fun e w' => e = .returned (.bool r) ∧ Below w.heap.size w w' := by
 have hu24 := Try.underlying24
 have HB := A_ (Below.refl w.heap.size w)
 have H : (if a0_0 < 0 then (some false) else (if a0_0 > 255 then (some false) else (if a0_1 < 0 then (some false) else (if a0_1 ≥ 4294967296 then (some false) else (if a0_2 < 0 then (some false) else (if a0_2 > a0_3 then (some false) else (if a0_3 > 1099511627776 then (some false) else (if a0_4 ≥ 1 then (if a0_4 ≤ 1073741824 then (some (decide ((a0_5.size : Int) ≤ 256))) else (some false)) else (some false))))))))) = some r := h
 clear h
 by_cases c2 : a0_0 < 0
 · rw [if_pos c2] at H
   have c2b0 : decide (a0_0 < 0) = true := decide_eq_true c2
   clear c2
   obtain rfl := Option.some.inj H
   go_enter Try.func67, Try.ntmps67
   go_wp2_with (first | ((with_reducible refine gate_dst (N := 1) rfl ?_); (try (refine gate_guard (by rfl) ?_; dsimp only)); refine box_event ?hg (N := 1) ?hd (cs := #[.int .i64 a0_0, .int .i64 a0_1, .int .i64 a0_2, .int .i64 a0_3, .int .i64 a0_4, .string a0_5]) (t := 24) ?hr ?_; (case hd => rfl); (case hg => rfl); (case hr => first | (go_simp; done) | (go_simp; rfl)); intro gb348 hg w3 hbox hb; have n0_ := A_ (below_step bw_ hb); have n1_ := A_ (hbox); have n2_ := A_ (gz_ (w := w) hg); have n3_ := A_ (gz_ (w := w) hg); replace HB := n0_; have BK348 := n1_; have GW348 := n2_; have GE348 := n3_; clear n0_ n1_ n2_ n3_; clear hb hbox hg; have hcz4_0 : w3.cell? ⟨gb348, 0, none⟩ = some (.int .i64 a0_0) := e_ BK348 0; have hcz4_1 : w3.cell? ⟨gb348, 1, none⟩ = some (.int .i64 a0_1) := e_ BK348 1; have hcz4_2 : w3.cell? ⟨gb348, 2, none⟩ = some (.int .i64 a0_2) := e_ BK348 2; have hcz4_3 : w3.cell? ⟨gb348, 3, none⟩ = some (.int .i64 a0_3) := e_ BK348 3; have hcz4_4 : w3.cell? ⟨gb348, 4, none⟩ = some (.int .i64 a0_4) := e_ BK348 4; have hcz4_5 : w3.cell? ⟨gb348, 5, none⟩ = some (.string a0_5) := e_ BK348 5; obtain ⟨hfz4_0, hfz4_1, hfz4_2, hfz4_3, hfz4_4, hfz4_5⟩ := z6_ BK348))
   go_ret
   exact ⟨by first | rfl | (simp [errW_none, errW_some] <;> rfl) | (simp [*, errW_none, errW_some] <;> rfl), by repeat (first | (with_reducible first | exact HB.out | apply wa_ | apply wn_ | apply wd_ | refine ws_ ?_ GE348.out) | exact HB.out)⟩
 rw [if_neg c2] at H
 have c2b0 : decide (a0_0 < 0) = false := decide_eq_false c2
 clear c2
 by_cases c5 : a0_0 > 255
 · rw [if_pos c5] at H
   have c5b0 : decide (255 < a0_0) = true := decide_eq_true c5
   clear c5
   obtain rfl := Option.some.inj H
   go_enter Try.func67, Try.ntmps67
   go_wp2_with (first | ((with_reducible refine gate_dst (N := 1) rfl ?_); (try (refine gate_guard (by rfl) ?_; dsimp only)); refine box_event ?hg (N := 1) ?hd (cs := #[.int .i64 a0_0, .int .i64 a0_1, .int .i64 a0_2, .int .i64 a0_3, .int .i64 a0_4, .string a0_5]) (t := 24) ?hr ?_; (case hd => rfl); (case hg => rfl); (case hr => first | (go_simp; done) | (go_simp; rfl)); intro gb348 hg w6 hbox hb; have n0_ := A_ (below_step bw_ hb); have n1_ := A_ (hbox); have n2_ := A_ (gz_ (w := w) hg); have n3_ := A_ (gz_ (w := w) hg); replace HB := n0_; have BK348 := n1_; have GW348 := n2_; have GE348 := n3_; clear n0_ n1_ n2_ n3_; clear hb hbox hg; have hcz7_0 : w6.cell? ⟨gb348, 0, none⟩ = some (.int .i64 a0_0) := e_ BK348 0; have hcz7_1 : w6.cell? ⟨gb348, 1, none⟩ = some (.int .i64 a0_1) := e_ BK348 1; have hcz7_2 : w6.cell? ⟨gb348, 2, none⟩ = some (.int .i64 a0_2) := e_ BK348 2; have hcz7_3 : w6.cell? ⟨gb348, 3, none⟩ = some (.int .i64 a0_3) := e_ BK348 3; have hcz7_4 : w6.cell? ⟨gb348, 4, none⟩ = some (.int .i64 a0_4) := e_ BK348 4; have hcz7_5 : w6.cell? ⟨gb348, 5, none⟩ = some (.string a0_5) := e_ BK348 5; obtain ⟨hfz7_0, hfz7_1, hfz7_2, hfz7_3, hfz7_4, hfz7_5⟩ := z6_ BK348))
   go_ret
   exact ⟨by first | rfl | (simp [errW_none, errW_some] <;> rfl) | (simp [*, errW_none, errW_some] <;> rfl), by repeat (first | (with_reducible first | exact HB.out | apply wa_ | apply wn_ | apply wd_ | refine ws_ ?_ GE348.out) | exact HB.out)⟩
 rw [if_neg c5] at H
 have c5b0 : decide (255 < a0_0) = false := decide_eq_false c5
 clear c5
 by_cases c8 : a0_1 < 0
 · rw [if_pos c8] at H
   have c8b0 : decide (a0_1 < 0) = true := decide_eq_true c8
   clear c8
   obtain rfl := Option.some.inj H
   go_enter Try.func67, Try.ntmps67
   go_wp2_with (first | ((with_reducible refine gate_dst (N := 1) rfl ?_); (try (refine gate_guard (by rfl) ?_; dsimp only)); refine box_event ?hg (N := 1) ?hd (cs := #[.int .i64 a0_0, .int .i64 a0_1, .int .i64 a0_2, .int .i64 a0_3, .int .i64 a0_4, .string a0_5]) (t := 24) ?hr ?_; (case hd => rfl); (case hg => rfl); (case hr => first | (go_simp; done) | (go_simp; rfl)); intro gb348 hg w9 hbox hb; have n0_ := A_ (below_step bw_ hb); have n1_ := A_ (hbox); have n2_ := A_ (gz_ (w := w) hg); have n3_ := A_ (gz_ (w := w) hg); replace HB := n0_; have BK348 := n1_; have GW348 := n2_; have GE348 := n3_; clear n0_ n1_ n2_ n3_; clear hb hbox hg; have hcz10_0 : w9.cell? ⟨gb348, 0, none⟩ = some (.int .i64 a0_0) := e_ BK348 0; have hcz10_1 : w9.cell? ⟨gb348, 1, none⟩ = some (.int .i64 a0_1) := e_ BK348 1; have hcz10_2 : w9.cell? ⟨gb348, 2, none⟩ = some (.int .i64 a0_2) := e_ BK348 2; have hcz10_3 : w9.cell? ⟨gb348, 3, none⟩ = some (.int .i64 a0_3) := e_ BK348 3; have hcz10_4 : w9.cell? ⟨gb348, 4, none⟩ = some (.int .i64 a0_4) := e_ BK348 4; have hcz10_5 : w9.cell? ⟨gb348, 5, none⟩ = some (.string a0_5) := e_ BK348 5; obtain ⟨hfz10_0, hfz10_1, hfz10_2, hfz10_3, hfz10_4, hfz10_5⟩ := z6_ BK348))
   go_ret
   exact ⟨by first | rfl | (simp [errW_none, errW_some] <;> rfl) | (simp [*, errW_none, errW_some] <;> rfl), by repeat (first | (with_reducible first | exact HB.out | apply wa_ | apply wn_ | apply wd_ | refine ws_ ?_ GE348.out) | exact HB.out)⟩
 rw [if_neg c8] at H
 have c8b0 : decide (a0_1 < 0) = false := decide_eq_false c8
 clear c8
 by_cases c11 : a0_1 ≥ 4294967296
 · rw [if_pos c11] at H
   have c11b0 : decide (4294967296 ≤ a0_1) = true := decide_eq_true c11
   clear c11
   obtain rfl := Option.some.inj H
   go_enter Try.func67, Try.ntmps67
   go_wp2_with (first | ((with_reducible refine gate_dst (N := 1) rfl ?_); (try (refine gate_guard (by rfl) ?_; dsimp only)); refine box_event ?hg (N := 1) ?hd (cs := #[.int .i64 a0_0, .int .i64 a0_1, .int .i64 a0_2, .int .i64 a0_3, .int .i64 a0_4, .string a0_5]) (t := 24) ?hr ?_; (case hd => rfl); (case hg => rfl); (case hr => first | (go_simp; done) | (go_simp; rfl)); intro gb348 hg w12 hbox hb; have n0_ := A_ (below_step bw_ hb); have n1_ := A_ (hbox); have n2_ := A_ (gz_ (w := w) hg); have n3_ := A_ (gz_ (w := w) hg); replace HB := n0_; have BK348 := n1_; have GW348 := n2_; have GE348 := n3_; clear n0_ n1_ n2_ n3_; clear hb hbox hg; have hcz13_0 : w12.cell? ⟨gb348, 0, none⟩ = some (.int .i64 a0_0) := e_ BK348 0; have hcz13_1 : w12.cell? ⟨gb348, 1, none⟩ = some (.int .i64 a0_1) := e_ BK348 1; have hcz13_2 : w12.cell? ⟨gb348, 2, none⟩ = some (.int .i64 a0_2) := e_ BK348 2; have hcz13_3 : w12.cell? ⟨gb348, 3, none⟩ = some (.int .i64 a0_3) := e_ BK348 3; have hcz13_4 : w12.cell? ⟨gb348, 4, none⟩ = some (.int .i64 a0_4) := e_ BK348 4; have hcz13_5 : w12.cell? ⟨gb348, 5, none⟩ = some (.string a0_5) := e_ BK348 5; obtain ⟨hfz13_0, hfz13_1, hfz13_2, hfz13_3, hfz13_4, hfz13_5⟩ := z6_ BK348))
   go_ret
   exact ⟨by first | rfl | (simp [errW_none, errW_some] <;> rfl) | (simp [*, errW_none, errW_some] <;> rfl), by repeat (first | (with_reducible first | exact HB.out | apply wa_ | apply wn_ | apply wd_ | refine ws_ ?_ GE348.out) | exact HB.out)⟩
 rw [if_neg c11] at H
 have c11b0 : decide (4294967296 ≤ a0_1) = false := decide_eq_false c11
 clear c11
 by_cases c14 : a0_2 < 0
 · rw [if_pos c14] at H
   have c14b0 : decide (a0_2 < 0) = true := decide_eq_true c14
   clear c14
   obtain rfl := Option.some.inj H
   go_enter Try.func67, Try.ntmps67
   go_wp2_with (first | ((with_reducible refine gate_dst (N := 1) rfl ?_); (try (refine gate_guard (by rfl) ?_; dsimp only)); refine box_event ?hg (N := 1) ?hd (cs := #[.int .i64 a0_0, .int .i64 a0_1, .int .i64 a0_2, .int .i64 a0_3, .int .i64 a0_4, .string a0_5]) (t := 24) ?hr ?_; (case hd => rfl); (case hg => rfl); (case hr => first | (go_simp; done) | (go_simp; rfl)); intro gb348 hg w15 hbox hb; have n0_ := A_ (below_step bw_ hb); have n1_ := A_ (hbox); have n2_ := A_ (gz_ (w := w) hg); have n3_ := A_ (gz_ (w := w) hg); replace HB := n0_; have BK348 := n1_; have GW348 := n2_; have GE348 := n3_; clear n0_ n1_ n2_ n3_; clear hb hbox hg; have hcz16_0 : w15.cell? ⟨gb348, 0, none⟩ = some (.int .i64 a0_0) := e_ BK348 0; have hcz16_1 : w15.cell? ⟨gb348, 1, none⟩ = some (.int .i64 a0_1) := e_ BK348 1; have hcz16_2 : w15.cell? ⟨gb348, 2, none⟩ = some (.int .i64 a0_2) := e_ BK348 2; have hcz16_3 : w15.cell? ⟨gb348, 3, none⟩ = some (.int .i64 a0_3) := e_ BK348 3; have hcz16_4 : w15.cell? ⟨gb348, 4, none⟩ = some (.int .i64 a0_4) := e_ BK348 4; have hcz16_5 : w15.cell? ⟨gb348, 5, none⟩ = some (.string a0_5) := e_ BK348 5; obtain ⟨hfz16_0, hfz16_1, hfz16_2, hfz16_3, hfz16_4, hfz16_5⟩ := z6_ BK348))
   go_ret
   exact ⟨by first | rfl | (simp [errW_none, errW_some] <;> rfl) | (simp [*, errW_none, errW_some] <;> rfl), by repeat (first | (with_reducible first | exact HB.out | apply wa_ | apply wn_ | apply wd_ | refine ws_ ?_ GE348.out) | exact HB.out)⟩
 rw [if_neg c14] at H
 have c14b0 : decide (a0_2 < 0) = false := decide_eq_false c14
 clear c14
 by_cases c17 : a0_2 > a0_3
 · rw [if_pos c17] at H
   have c17b0 : decide (a0_3 < a0_2) = true := decide_eq_true c17
   clear c17
   obtain rfl := Option.some.inj H
   go_enter Try.func67, Try.ntmps67
   go_wp2_with (first | ((with_reducible refine gate_dst (N := 1) rfl ?_); (try (refine gate_guard (by rfl) ?_; dsimp only)); refine box_event ?hg (N := 1) ?hd (cs := #[.int .i64 a0_0, .int .i64 a0_1, .int .i64 a0_2, .int .i64 a0_3, .int .i64 a0_4, .string a0_5]) (t := 24) ?hr ?_; (case hd => rfl); (case hg => rfl); (case hr => first | (go_simp; done) | (go_simp; rfl)); intro gb348 hg w18 hbox hb; have n0_ := A_ (below_step bw_ hb); have n1_ := A_ (hbox); have n2_ := A_ (gz_ (w := w) hg); have n3_ := A_ (gz_ (w := w) hg); replace HB := n0_; have BK348 := n1_; have GW348 := n2_; have GE348 := n3_; clear n0_ n1_ n2_ n3_; clear hb hbox hg; have hcz19_0 : w18.cell? ⟨gb348, 0, none⟩ = some (.int .i64 a0_0) := e_ BK348 0; have hcz19_1 : w18.cell? ⟨gb348, 1, none⟩ = some (.int .i64 a0_1) := e_ BK348 1; have hcz19_2 : w18.cell? ⟨gb348, 2, none⟩ = some (.int .i64 a0_2) := e_ BK348 2; have hcz19_3 : w18.cell? ⟨gb348, 3, none⟩ = some (.int .i64 a0_3) := e_ BK348 3; have hcz19_4 : w18.cell? ⟨gb348, 4, none⟩ = some (.int .i64 a0_4) := e_ BK348 4; have hcz19_5 : w18.cell? ⟨gb348, 5, none⟩ = some (.string a0_5) := e_ BK348 5; obtain ⟨hfz19_0, hfz19_1, hfz19_2, hfz19_3, hfz19_4, hfz19_5⟩ := z6_ BK348))
   go_ret
   exact ⟨by first | rfl | (simp [errW_none, errW_some] <;> rfl) | (simp [*, errW_none, errW_some] <;> rfl), by repeat (first | (with_reducible first | exact HB.out | apply wa_ | apply wn_ | apply wd_ | refine ws_ ?_ GE348.out) | exact HB.out)⟩
 rw [if_neg c17] at H
 have c17b0 : decide (a0_3 < a0_2) = false := decide_eq_false c17
 clear c17
 by_cases c20 : a0_3 > 1099511627776
 · rw [if_pos c20] at H
   have c20b0 : decide (1099511627776 < a0_3) = true := decide_eq_true c20
   clear c20
   obtain rfl := Option.some.inj H
   go_enter Try.func67, Try.ntmps67
   go_wp2_with (first | ((with_reducible refine gate_dst (N := 1) rfl ?_); (try (refine gate_guard (by rfl) ?_; dsimp only)); refine box_event ?hg (N := 1) ?hd (cs := #[.int .i64 a0_0, .int .i64 a0_1, .int .i64 a0_2, .int .i64 a0_3, .int .i64 a0_4, .string a0_5]) (t := 24) ?hr ?_; (case hd => rfl); (case hg => rfl); (case hr => first | (go_simp; done) | (go_simp; rfl)); intro gb348 hg w21 hbox hb; have n0_ := A_ (below_step bw_ hb); have n1_ := A_ (hbox); have n2_ := A_ (gz_ (w := w) hg); have n3_ := A_ (gz_ (w := w) hg); replace HB := n0_; have BK348 := n1_; have GW348 := n2_; have GE348 := n3_; clear n0_ n1_ n2_ n3_; clear hb hbox hg; have hcz22_0 : w21.cell? ⟨gb348, 0, none⟩ = some (.int .i64 a0_0) := e_ BK348 0; have hcz22_1 : w21.cell? ⟨gb348, 1, none⟩ = some (.int .i64 a0_1) := e_ BK348 1; have hcz22_2 : w21.cell? ⟨gb348, 2, none⟩ = some (.int .i64 a0_2) := e_ BK348 2; have hcz22_3 : w21.cell? ⟨gb348, 3, none⟩ = some (.int .i64 a0_3) := e_ BK348 3; have hcz22_4 : w21.cell? ⟨gb348, 4, none⟩ = some (.int .i64 a0_4) := e_ BK348 4; have hcz22_5 : w21.cell? ⟨gb348, 5, none⟩ = some (.string a0_5) := e_ BK348 5; obtain ⟨hfz22_0, hfz22_1, hfz22_2, hfz22_3, hfz22_4, hfz22_5⟩ := z6_ BK348))
   go_ret
   exact ⟨by first | rfl | (simp [errW_none, errW_some] <;> rfl) | (simp [*, errW_none, errW_some] <;> rfl), by repeat (first | (with_reducible first | exact HB.out | apply wa_ | apply wn_ | apply wd_ | refine ws_ ?_ GE348.out) | exact HB.out)⟩
 rw [if_neg c20] at H
 have c20b0 : decide (1099511627776 < a0_3) = false := decide_eq_false c20
 clear c20
 by_cases c23 : a0_4 ≥ 1
 rotate_left
 · rw [if_neg c23] at H
   have c23b0 : decide (1 ≤ a0_4) = false := decide_eq_false c23
   clear c23
   obtain rfl := Option.some.inj H
   go_enter Try.func67, Try.ntmps67
   go_wp2_with (first | ((with_reducible refine gate_dst (N := 1) rfl ?_); (try (refine gate_guard (by rfl) ?_; dsimp only)); refine box_event ?hg (N := 1) ?hd (cs := #[.int .i64 a0_0, .int .i64 a0_1, .int .i64 a0_2, .int .i64 a0_3, .int .i64 a0_4, .string a0_5]) (t := 24) ?hr ?_; (case hd => rfl); (case hg => rfl); (case hr => first | (go_simp; done) | (go_simp; rfl)); intro gb348 hg w29 hbox hb; have n0_ := A_ (below_step bw_ hb); have n1_ := A_ (hbox); have n2_ := A_ (gz_ (w := w) hg); have n3_ := A_ (gz_ (w := w) hg); replace HB := n0_; have BK348 := n1_; have GW348 := n2_; have GE348 := n3_; clear n0_ n1_ n2_ n3_; clear hb hbox hg; have hcz30_0 : w29.cell? ⟨gb348, 0, none⟩ = some (.int .i64 a0_0) := e_ BK348 0; have hcz30_1 : w29.cell? ⟨gb348, 1, none⟩ = some (.int .i64 a0_1) := e_ BK348 1; have hcz30_2 : w29.cell? ⟨gb348, 2, none⟩ = some (.int .i64 a0_2) := e_ BK348 2; have hcz30_3 : w29.cell? ⟨gb348, 3, none⟩ = some (.int .i64 a0_3) := e_ BK348 3; have hcz30_4 : w29.cell? ⟨gb348, 4, none⟩ = some (.int .i64 a0_4) := e_ BK348 4; have hcz30_5 : w29.cell? ⟨gb348, 5, none⟩ = some (.string a0_5) := e_ BK348 5; obtain ⟨hfz30_0, hfz30_1, hfz30_2, hfz30_3, hfz30_4, hfz30_5⟩ := z6_ BK348))
   go_ret
   exact ⟨by first | rfl | (simp [errW_none, errW_some] <;> rfl) | (simp [*, errW_none, errW_some] <;> rfl), by repeat (first | (with_reducible first | exact HB.out | apply wa_ | apply wn_ | apply wd_ | refine ws_ ?_ GE348.out) | exact HB.out)⟩

 rw [if_pos c23] at H
 have c23b0 : decide (1 ≤ a0_4) = true := decide_eq_true c23
 clear c23
 by_cases c24 : a0_4 ≤ 1073741824
 · rw [if_pos c24] at H
   have c24b0 : decide (a0_4 ≤ 1073741824) = true := decide_eq_true c24
   clear c24
   obtain rfl := Option.some.inj H
   go_enter Try.func67, Try.ntmps67
   go_wp2_with (first | ((with_reducible refine gate_dst (N := 1) rfl ?_); (try (refine gate_guard (by rfl) ?_; dsimp only)); refine box_event ?hg (N := 1) ?hd (cs := #[.int .i64 a0_0, .int .i64 a0_1, .int .i64 a0_2, .int .i64 a0_3, .int .i64 a0_4, .string a0_5]) (t := 24) ?hr ?_; (case hd => rfl); (case hg => rfl); (case hr => first | (go_simp; done) | (go_simp; rfl)); intro gb348 hg w25 hbox hb; have n0_ := A_ (below_step bw_ hb); have n1_ := A_ (hbox); have n2_ := A_ (gz_ (w := w) hg); have n3_ := A_ (gz_ (w := w) hg); replace HB := n0_; have BK348 := n1_; have GW348 := n2_; have GE348 := n3_; clear n0_ n1_ n2_ n3_; clear hb hbox hg; have hcz26_0 : w25.cell? ⟨gb348, 0, none⟩ = some (.int .i64 a0_0) := e_ BK348 0; have hcz26_1 : w25.cell? ⟨gb348, 1, none⟩ = some (.int .i64 a0_1) := e_ BK348 1; have hcz26_2 : w25.cell? ⟨gb348, 2, none⟩ = some (.int .i64 a0_2) := e_ BK348 2; have hcz26_3 : w25.cell? ⟨gb348, 3, none⟩ = some (.int .i64 a0_3) := e_ BK348 3; have hcz26_4 : w25.cell? ⟨gb348, 4, none⟩ = some (.int .i64 a0_4) := e_ BK348 4; have hcz26_5 : w25.cell? ⟨gb348, 5, none⟩ = some (.string a0_5) := e_ BK348 5; obtain ⟨hfz26_0, hfz26_1, hfz26_2, hfz26_3, hfz26_4, hfz26_5⟩ := z6_ BK348))
   go_ret
   exact ⟨by first | rfl | (simp [errW_none, errW_some] <;> rfl) | (simp [*, errW_none, errW_some] <;> rfl), by repeat (first | (with_reducible first | exact HB.out | apply wa_ | apply wn_ | apply wd_ | refine ws_ ?_ GE348.out) | exact HB.out)⟩
 · rw [if_neg c24] at H
   have c24b0 : decide (a0_4 ≤ 1073741824) = false := decide_eq_false c24
   clear c24
   obtain rfl := Option.some.inj H
   go_enter Try.func67, Try.ntmps67
   go_wp2_with (first | ((with_reducible refine gate_dst (N := 1) rfl ?_); (try (refine gate_guard (by rfl) ?_; dsimp only)); refine box_event ?hg (N := 1) ?hd (cs := #[.int .i64 a0_0, .int .i64 a0_1, .int .i64 a0_2, .int .i64 a0_3, .int .i64 a0_4, .string a0_5]) (t := 24) ?hr ?_; (case hd => rfl); (case hg => rfl); (case hr => first | (go_simp; done) | (go_simp; rfl)); intro gb348 hg w27 hbox hb; have n0_ := A_ (below_step bw_ hb); have n1_ := A_ (hbox); have n2_ := A_ (gz_ (w := w) hg); have n3_ := A_ (gz_ (w := w) hg); replace HB := n0_; have BK348 := n1_; have GW348 := n2_; have GE348 := n3_; clear n0_ n1_ n2_ n3_; clear hb hbox hg; have hcz28_0 : w27.cell? ⟨gb348, 0, none⟩ = some (.int .i64 a0_0) := e_ BK348 0; have hcz28_1 : w27.cell? ⟨gb348, 1, none⟩ = some (.int .i64 a0_1) := e_ BK348 1; have hcz28_2 : w27.cell? ⟨gb348, 2, none⟩ = some (.int .i64 a0_2) := e_ BK348 2; have hcz28_3 : w27.cell? ⟨gb348, 3, none⟩ = some (.int .i64 a0_3) := e_ BK348 3; have hcz28_4 : w27.cell? ⟨gb348, 4, none⟩ = some (.int .i64 a0_4) := e_ BK348 4; have hcz28_5 : w27.cell? ⟨gb348, 5, none⟩ = some (.string a0_5) := e_ BK348 5; obtain ⟨hfz28_0, hfz28_1, hfz28_2, hfz28_3, hfz28_4, hfz28_5⟩ := z6_ BK348))
   go_ret
   exact ⟨by first | rfl | (simp [errW_none, errW_some] <;> rfl) | (simp [*, errW_none, errW_some] <;> rfl), by repeat (first | (with_reducible first | exact HB.out | apply wa_ | apply wn_ | apply wd_ | refine ws_ ?_ GE348.out) | exact HB.out)⟩
/-! ### hopperref03_bytes: function 161 -/
def hopperref03_bytes.f : Nat → Int → Option (ByteArray)
 | 0, _ => none
 | k + 1, a0 => (some (([(Int.tmod a0 256) % 256] : List Int) : List Int)).bind fun y349 => (if a0 ≥ 256 then ((hopperref03_bytes.f k (wrap64 (Int.tdiv a0 256))).bind fun t352 => (if t352.size + (strOfNums y349).size ≤ 9223372036854775807 then (some (t352 ++ (strOfNums y349))) else (none))) else (some (strOfNums y349)))
theorem hopperref03_bytes.mono_l : ∀ k, (∀ y0, LeO (hopperref03_bytes.f k y0) (hopperref03_bytes.f (k + 1) y0))
 | 0 => fun _ r h => by simp [hopperref03_bytes.f] at h
 | k + 1 => by
  have ih0 := hopperref03_bytes.mono_l k
  · intro y0
    unfold hopperref03_bytes.f
    repeat' first
    | (with_reducible exact ih0 _)
    | (with_reducible exact LeO.refl _)
    | (with_reducible exact LeO.none _)
    | (with_reducible refine LeO.ite ?_ ?_)
    | (with_reducible refine LeO.bind ?_ (fun _ => ?_))
    | exact ih0 _
    | exact LeO.none _
    | refine LeO.ite ?_ ?_
    | refine LeO.bind ?_ (fun _ => ?_)
theorem hopperref03_bytes.mono : ∀ a0 k, LeO (hopperref03_bytes.f k a0) (hopperref03_bytes.f (k + 1) a0) := by
 intro a0 k
 have ih0 := hopperref03_bytes.mono_l k
 exact ih0 a0
set_option maxHeartbeats 8000000 in
set_option maxRecDepth 100000 in
theorem hopperref03_bytes.calls (k : Nat) : ∀ (a0 : Int) (r : ByteArray) (w : World) (h : hopperref03_bytes.f k a0 = some r),
 Calls Try.prog 161 #[.int .i64 a0] w fun e w' => e = .returned (.string r) ∧ Below w.heap.size w w' := by
 induction k using Nat.strongRecOn with
 | _ k ih =>
 intro a0 r w h
 cases k with
 | zero => exact absurd h (by simp [hopperref03_bytes.f])
 | succ k =>
 simp only [hopperref03_bytes.f] at h
 have HB := A_ (Below.refl w.heap.size w)
 have H : ((some (([(Int.tmod a0 256) % 256] : List Int) : List Int)).bind fun y349 => (if a0 ≥ 256 then ((hopperref03_bytes.f k (wrap64 (Int.tdiv a0 256))).bind fun t352 => (if t352.size + (strOfNums y349).size ≤ 9223372036854775807 then (some (t352 ++ (strOfNums y349))) else (none))) else (some (strOfNums y349)))) = some r := h
 clear h
 obtain ⟨y349, hy349⟩ : ∃ y_ : List Int, y_ = (([(Int.tmod a0 256) % 256] : List Int)) := ⟨_, rfl⟩
 replace H : (if a0 ≥ 256 then ((hopperref03_bytes.f k (wrap64 (Int.tdiv a0 256))).bind fun t352 => (if t352.size + (strOfNums y349).size ≤ 9223372036854775807 then (some (t352 ++ (strOfNums y349))) else (none))) else (some (strOfNums y349))) = some r := by first | (rw [hy349]; with_reducible exact H) | (have H2_ := (Option.bind_some _ _).symm.trans H; rw [hy349]; with_reducible exact H2_) | (have H2_ := (Option.bind_some _ _).symm.trans H; with_reducible exact H2_) | with_reducible exact H | (rw [hy349]; exact H) | exact H
 have Ny349 := A_ hy349
 clear hy349
 by_cases c2 : a0 ≥ 256
 rotate_left
 · rw [if_neg c2] at H
   have c2b0 : decide (256 ≤ a0) = false := decide_eq_false c2
   clear c2
   obtain rfl := Option.some.inj H
   go_enter Try.func161, Try.ntmps161
   go_wp2_with (first | ((with_reducible refine gate_dst (N := 7) rfl ?_); refine Kd.R_lit (Kd.int .u8) _ 5 ?hg (N := 7) ?hd (xs := ([(Int.tmod a0 256) % 256] : List Int)) (inner := [.int .u8 ((Int.tmod a0 256) % 256)]) (ok := fun _ => True) (okp := fun _ => True) ?hr ?hp (fun _ hk => hk) trivial (Below.refl _ _) (Nat.le_refl _) (by simp) ?_; (case hd => rfl); (case hg => rfl); (case hr => first | (go_simp; done) | (go_simp; rfl)); (case hp => exact (Reps.one (show Kd.M (Kd.int .u8) _ _ _ ((Int.tmod a0 256) % 256) [.int .u8 ((Int.tmod a0 256) % 256)] from rfl) (Reps.none _ _))); intro v350 w9 ho10 hb hg_ hnew_; clear hg_ hnew_; (first | rw [← Ny349.out] at ho10 | (simp only [Int.reduceToNat] at ho10; rw [← Ny349.out] at ho10)); have HO351 := A_ (Kd.R_lower ho10 (below_size bw_)); replace HB := A_ (below_step bw_ hb); clear hb ho10; have hcv11 := own_string (P := Try.prog) Try.underlying162 Try.underlying5 Try.underlying9 (Kd.own_of_R HO351.out)))
   go_ret
   exact ⟨by first | rfl | (simp [errW_none, errW_some] <;> rfl) | (simp [*, errW_none, errW_some] <;> rfl), by repeat (first | (with_reducible first | exact HB.out | apply wa_ | apply wn_ | apply wd_) | exact HB.out)⟩

 rw [if_pos c2] at H
 have c2b0 : decide (256 ≤ a0) = true := decide_eq_true c2
 clear c2
 replace H := Option.bind_eq_some_iff.mp H
 obtain ⟨t352, A30, H⟩ := H
 try dsimp only at H
 have A3 := A_ A30
 clear A30
 by_cases c4 : t352.size + (strOfNums y349).size ≤ 9223372036854775807
 · rw [if_pos c4] at H
   have c4b0 := eq_true c4
   have c4b1 : decide (t352.size + (strOfNums y349).size ≤ 9223372036854775807) = true := decide_eq_true c4
   try have c4b2 : (9223372036854775807 < t352.size + (strOfNums y349).size) = False := eq_false (Nat.not_lt.2 c4)
   obtain rfl := Option.some.inj H
   go_enter Try.func161, Try.ntmps161
   go_wp2_with (first | ((with_reducible refine gate_dst (N := 7) rfl ?_); refine Kd.R_lit (Kd.int .u8) _ 5 ?hg (N := 7) ?hd (xs := ([(Int.tmod a0 256) % 256] : List Int)) (inner := [.int .u8 ((Int.tmod a0 256) % 256)]) (ok := fun _ => True) (okp := fun _ => True) ?hr ?hp (fun _ hk => hk) trivial (Below.refl _ _) (Nat.le_refl _) (by simp) ?_; (case hd => rfl); (case hg => rfl); (case hr => first | (go_simp; done) | (go_simp; rfl)); (case hp => exact (Reps.one (show Kd.M (Kd.int .u8) _ _ _ ((Int.tmod a0 256) % 256) [.int .u8 ((Int.tmod a0 256) % 256)] from rfl) (Reps.none _ _))); intro v350 w5 ho6 hb hg_ hnew_; clear hg_ hnew_; (first | rw [← Ny349.out] at ho6 | (simp only [Int.reduceToNat] at ho6; rw [← Ny349.out] at ho6)); have HO351 := A_ (Kd.R_lower ho6 (below_size bw_)); replace HB := A_ (below_step bw_ hb); clear hb ho6; have hcv7 := own_string (P := Try.prog) Try.underlying162 Try.underlying5 Try.underlying9 (Kd.own_of_R HO351.out)) | ((with_reducible refine gate_callee (f := 161) rfl ?_); refine goesL_ (some 13) rfl rfl Try.func161 (by kernel_rfl) rfl #[.int .i64 (wrap64 (Int.tdiv a0 256))] rfl (by (try simp only [m0_, m1_, m2_]); first | done | rfl) ?_; (with_reducible refine (ih k (by omega) (wrap64 (Int.tdiv a0 256)) t352 _ A3.out).mono ?_); rintro e w8 ⟨rfl, hb⟩; refine ⟨_, rfl, ?_⟩; replace HO351 := A_ (Kd.R_below (pr_ HO351.out) hb); replace HB := A_ (below_step bw_ hb); (try clear hb); (try clear hb2); (try clear hk); (try clear hi)))
   go_ret
   exact ⟨by first | rfl | (simp [errW_none, errW_some] <;> rfl) | (simp [*, errW_none, errW_some] <;> rfl), by repeat (first | (with_reducible first | exact HB.out | apply wa_ | apply wn_ | apply wd_) | exact HB.out)⟩
 · rw [if_neg c4] at H
   exact absurd H (by simp)
/-! ### hopperref03_Number: function 148 -/
def hopperref03_Number.f (k : Nat) (a0 : Int) : Option (ByteArray) := if a0 < 0 then (some (⟨#[]⟩ : ByteArray)) else ((hopperref03_bytes.f k a0).bind fun t353 => ((some (([((t353.size : Int)) % 256] : List Int) : List Int)).bind fun y354 => (if (strOfNums y354).size + t353.size ≤ 9223372036854775807 then (some ((strOfNums y354) ++ t353)) else (none))))
theorem hopperref03_Number.mono : ∀ a0 k, LeO (hopperref03_Number.f k a0) (hopperref03_Number.f (k + 1) a0) := by
  intro a0 k
  unfold hopperref03_Number.f
  repeat' first
      | (with_reducible exact hopperref03_bytes.mono _ _)
      | (with_reducible exact LeO.refl _)
      | (with_reducible exact LeO.none _)
      | (with_reducible refine LeO.ite ?_ ?_)
      | (with_reducible refine LeO.bind ?_ (fun _ => ?_))
      | exact hopperref03_bytes.mono _ _
      | exact LeO.none _
      | refine LeO.ite ?_ ?_
      | refine LeO.bind ?_ (fun _ => ?_)
set_option maxHeartbeats 8000000 in
set_option maxRecDepth 100000 in
theorem hopperref03_Number.calls (k : Nat) (a0 : Int) (r : ByteArray) (w : World) (h : hopperref03_Number.f k a0 = some r) :
    Calls Try.prog 148 #[.int .i64 a0] w fun e w' => e = .returned (.string r) ∧ Below w.heap.size w w' := by
  have HB := Aside0.mk (Below.refl w.heap.size w)
  have H : (if a0 < 0 then (some (⟨#[]⟩ : ByteArray)) else ((hopperref03_bytes.f k a0).bind fun t353 => ((some (([((t353.size : Int)) % 256] : List Int) : List Int)).bind fun y354 => (if (strOfNums y354).size + t353.size ≤ 9223372036854775807 then (some ((strOfNums y354) ++ t353)) else (none))))) = some r := h
  clear h
  by_cases c2 : a0 < 0
  · rw [if_pos c2] at H
    have c2b0 : decide (a0 < 0) = true := decide_eq_true c2
    clear c2
    obtain rfl := Option.some.inj H
    go_enter Try.func148, Try.ntmps148
    go_wp2
    go_ret
    exact ⟨by first | rfl | (simp [errW_none, errW_some] <;> rfl) | (simp [*, errW_none, errW_some] <;> rfl), by repeat (first | (with_reducible first | exact HB.out | apply below_alloc | apply pw_below_drewN | apply below_drew1) | exact HB.out)⟩
  · rw [if_neg c2] at H
    have c2b0 : decide (a0 < 0) = false := decide_eq_false c2
    clear c2
    replace H := Option.bind_eq_some_iff.mp H
    obtain ⟨t353, A30, H⟩ := H
    replace H : ((some (([((t353.size : Int)) % 256] : List Int) : List Int)).bind fun y354 => (if (strOfNums y354).size + t353.size ≤ 9223372036854775807 then (some ((strOfNums y354) ++ t353)) else (none))) = some r := H
    have A3 := Aside0.mk A30
    clear A30
    obtain ⟨y354, hy354⟩ : ∃ y_ : List Int, y_ = (([((t353.size : Int)) % 256] : List Int)) := ⟨_, rfl⟩
    replace H : (if (strOfNums y354).size + t353.size ≤ 9223372036854775807 then (some ((strOfNums y354) ++ t353)) else (none)) = some r := by first | (rw [hy354]; with_reducible exact H) | (have H2_ := (Option.bind_some _ _).symm.trans H; rw [hy354]; with_reducible exact H2_) | (have H2_ := (Option.bind_some _ _).symm.trans H; with_reducible exact H2_) | with_reducible exact H | (rw [hy354]; exact H) | exact H
    have Ny354 := Aside0.mk hy354
    clear hy354
    by_cases c4 : (strOfNums y354).size + t353.size ≤ 9223372036854775807
    · rw [if_pos c4] at H
      have c4b0 := eq_true c4
      have c4b1 : decide ((strOfNums y354).size + t353.size ≤ 9223372036854775807) = true := decide_eq_true c4
      try have c4b2 : (9223372036854775807 < (strOfNums y354).size + t353.size) = False := eq_false (Nat.not_lt.2 c4)
      obtain rfl := Option.some.inj H
      go_enter Try.func148, Try.ntmps148
      go_wp2_with (first | ((with_reducible refine gate_callee (f := 161) rfl ?_); refine goesL_ (some 7) rfl rfl Try.func161 (by kernel_rfl) rfl #[.int .i64 a0] rfl (by (try simp only [List.map_toArray, List.map_cons, List.map_nil]); first | done | rfl | (simp only [List.length_drop, List.length_take]; rfl)) ?_; (with_reducible refine (hopperref03_bytes.calls k a0 t353 _ A3.out).mono ?_); rintro e w5 ⟨rfl, hb⟩; refine ⟨_, rfl, ?_⟩; have n0_ := Aside0.mk (below_step (by repeat (first | (with_reducible first | exact HB.out | apply below_alloc | apply pw_below_drewN | apply below_drew1) | exact HB.out)) hb); clear HB; have HB := n0_; clear n0_; (try clear hb); (try clear hb2); (try clear hk); (try clear hi)) | ((with_reducible refine gate_dst (N := 11) rfl ?_); refine Kd.R_lit (Kd.int .u8) _ 5 ?hg (N := 11) ?hd (xs := ([((t353.size : Int)) % 256] : List Int)) (inner := [.int .u8 (((t353.size : Int)) % 256)]) (ok := fun _ => True) (okp := fun _ => True) ?hr ?hp (fun _ hk => hk) trivial (Below.refl _ _) (Nat.le_refl _) (by simp) ?_; (case hd => rfl); (case hg => rfl); (case hr => first | (go_simp; done) | (go_simp; rfl)); (case hp => exact (Reps.one (show Kd.M (Kd.int .u8) _ _ _ (((t353.size : Int)) % 256) [.int .u8 (((t353.size : Int)) % 256)] from rfl) (Reps.none _ _))); intro v355 w6 ho7 hb hg_ hnew_; clear hg_ hnew_; (first | rw [← Ny354.out] at ho7 | (simp only [Int.reduceToNat] at ho7; rw [← Ny354.out] at ho7)); have n0_ := Aside0.mk (Kd.R_lower ho7 (below_size (by repeat (first | (with_reducible first | exact HB.out | apply below_alloc | apply pw_below_drewN | apply below_drew1) | exact HB.out)))); have n1_ := Aside0.mk (below_step (by repeat (first | (with_reducible first | exact HB.out | apply below_alloc | apply pw_below_drewN | apply below_drew1) | exact HB.out)) hb); clear HB; have HO356 := n0_; have HB := n1_; clear n0_ n1_; clear hb ho7; have hcv8 := own_string (P := Try.prog) Try.underlying162 Try.underlying5 Try.underlying9 (Kd.own_of_R HO356.out)))
      go_ret
      exact ⟨by first | rfl | (simp [errW_none, errW_some] <;> rfl) | (simp [*, errW_none, errW_some] <;> rfl), by repeat (first | (with_reducible first | exact HB.out | apply below_alloc | apply pw_below_drewN | apply below_drew1) | exact HB.out)⟩
    · rw [if_neg c4] at H
      exact absurd H (by simp)

/-! ### hopperref03_Text: function 149 -/
def hopperref03_Text.f (a0 : ByteArray) : Option (ByteArray) := if (a0.size : Int) > 65535 then (some (⟨#[]⟩ : ByteArray)) else ((some (([((a0.size : Int) / 256) % 256, (a0.size : Int) % 256] : List Int) : List Int)).bind fun y357 => (if (strOfNums y357).size + a0.size ≤ 9223372036854775807 then (some ((strOfNums y357) ++ a0)) else (none)))
set_option maxHeartbeats 8000000 in
set_option maxRecDepth 100000 in
theorem hopperref03_Text.calls (a0 : ByteArray) (r : ByteArray) (w : World) (h : hopperref03_Text.f a0 = some r) :
    Calls Try.prog 149 #[.string a0] w fun e w' => e = .returned (.string r) ∧ Below w.heap.size w w' := by
  have HB := Aside0.mk (Below.refl w.heap.size w)
  have H : (if (a0.size : Int) > 65535 then (some (⟨#[]⟩ : ByteArray)) else ((some (([((a0.size : Int) / 256) % 256, (a0.size : Int) % 256] : List Int) : List Int)).bind fun y357 => (if (strOfNums y357).size + a0.size ≤ 9223372036854775807 then (some ((strOfNums y357) ++ a0)) else (none)))) = some r := h
  clear h
  by_cases c2 : (a0.size : Int) > 65535
  · rw [if_pos c2] at H
    have c2b0 : decide (65535 < (a0.size : Int)) = true := decide_eq_true c2
    have c2b1 : decide (65535 < a0.size) = true := decide_eq_true (by omega)
    clear c2
    obtain rfl := Option.some.inj H
    go_enter Try.func149, Try.ntmps149
    go_wp2
    go_ret
    exact ⟨by first | rfl | (simp [errW_none, errW_some] <;> rfl) | (simp [*, errW_none, errW_some] <;> rfl), by repeat (first | (with_reducible first | exact HB.out | apply below_alloc | apply pw_below_drewN | apply below_drew1) | exact HB.out)⟩
  · rw [if_neg c2] at H
    have c2b0 : decide (65535 < (a0.size : Int)) = false := decide_eq_false c2
    have c2b1 : decide (65535 < a0.size) = false := decide_eq_false (by omega)
    clear c2
    obtain ⟨y357, hy357⟩ : ∃ y_ : List Int, y_ = (([((a0.size : Int) / 256) % 256, (a0.size : Int) % 256] : List Int)) := ⟨_, rfl⟩
    replace H : (if (strOfNums y357).size + a0.size ≤ 9223372036854775807 then (some ((strOfNums y357) ++ a0)) else (none)) = some r := by first | (rw [hy357]; with_reducible exact H) | (have H2_ := (Option.bind_some _ _).symm.trans H; rw [hy357]; with_reducible exact H2_) | (have H2_ := (Option.bind_some _ _).symm.trans H; with_reducible exact H2_) | with_reducible exact H | (rw [hy357]; exact H) | exact H
    have Ny357 := Aside0.mk hy357
    clear hy357
    by_cases c3 : (strOfNums y357).size + a0.size ≤ 9223372036854775807
    · rw [if_pos c3] at H
      have c3b0 := eq_true c3
      have c3b1 : decide ((strOfNums y357).size + a0.size ≤ 9223372036854775807) = true := decide_eq_true c3
      try have c3b2 : (9223372036854775807 < (strOfNums y357).size + a0.size) = False := eq_false (Nat.not_lt.2 c3)
      obtain rfl := Option.some.inj H
      go_enter Try.func149, Try.ntmps149
      go_wp2_with (first | ((with_reducible refine gate_dst (N := 14) rfl ?_); refine Kd.R_lit (Kd.int .u8) _ 5 ?hg (N := 14) ?hd (xs := ([((a0.size : Int) / 256) % 256, (a0.size : Int) % 256] : List Int)) (inner := [.int .u8 (((a0.size : Int) / 256) % 256), .int .u8 ((a0.size : Int) % 256)]) (ok := fun _ => True) (okp := fun _ => True) ?hr ?hp (fun _ hk => hk) trivial (Below.refl _ _) (Nat.le_refl _) (by simp) ?_; (case hd => rfl); (case hg => rfl); (case hr => first | (go_simp; done) | (go_simp; rfl)); (case hp => exact (Reps.one (show Kd.M (Kd.int .u8) _ _ _ (((a0.size : Int) / 256) % 256) [.int .u8 (((a0.size : Int) / 256) % 256)] from rfl) (Reps.one (show Kd.M (Kd.int .u8) _ _ _ ((a0.size : Int) % 256) [.int .u8 ((a0.size : Int) % 256)] from rfl) (Reps.none _ _)))); intro v358 w4 ho5 hb hg_ hnew_; clear hg_ hnew_; (first | rw [← Ny357.out] at ho5 | (simp only [Int.reduceToNat] at ho5; rw [← Ny357.out] at ho5)); have n0_ := Aside0.mk (Kd.R_lower ho5 (below_size (by repeat (first | (with_reducible first | exact HB.out | apply below_alloc | apply pw_below_drewN | apply below_drew1) | exact HB.out)))); have n1_ := Aside0.mk (below_step (by repeat (first | (with_reducible first | exact HB.out | apply below_alloc | apply pw_below_drewN | apply below_drew1) | exact HB.out)) hb); clear HB; have HO359 := n0_; have HB := n1_; clear n0_ n1_; clear hb ho5; have hcv6 := own_string (P := Try.prog) Try.underlying162 Try.underlying5 Try.underlying9 (Kd.own_of_R HO359.out)))
      go_ret
      exact ⟨by first | rfl | (simp [errW_none, errW_some] <;> rfl) | (simp [*, errW_none, errW_some] <;> rfl), by repeat (first | (with_reducible first | exact HB.out | apply below_alloc | apply pw_below_drewN | apply below_drew1) | exact HB.out)⟩
    · rw [if_neg c3] at H
      exact absurd H (by simp)

end Go.Proofs.Ytehncbhmdgdkjaa.L
