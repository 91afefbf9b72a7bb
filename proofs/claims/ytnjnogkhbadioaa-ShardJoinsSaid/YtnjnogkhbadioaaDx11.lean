/- Written by this session's own program over the kit's print: functions of Go told as plain functions, or the row of one statement; proved for every input, with no condition of ours. -/
import Derived.Test.YtnjnogkhbadioaaDx0
import Derived.Test.YtnjnogkhbadioaaDx4
namespace Go.Proofs.Ytnjnogkhbadioaa.D
open Go.RowKit Go.Proofs.YtnjnogkhbadioaaW.PrintWords Go.Proofs.YtnjnogkhbadioaaW.PrintLast Go.Proofs.YtnjnogkhbadioaaW.PrintMore
attribute [local go_sem] max2_int min2_int max_two min_two max_three min_three max_four min_four   -- for this text's walks alone
set_option linter.unusedVariables false
set_option linter.unusedSimpArgs false

/-! ### hopperref04_Check: function 64 -/
def hopperref04_Check.f (a0_0 : Int) (a0_1 : Int) (a0_2 : Int) (a0_3 : Int) (a0_4 : Int) (a0_5 : ByteArray) : Option (Bool) := if a0_0 < 0 then (some false) else (if a0_0 > 255 then (some false) else (if a0_1 < 0 then (some false) else (if a0_1 ≥ 4294967296 then (some false) else (if a0_2 < 0 then (some false) else (if a0_2 > a0_3 then (some false) else (if a0_3 > 1099511627776 then (some false) else (if a0_4 ≥ 1 then (if a0_4 ≤ 1073741824 then (some (decide ((a0_5.size : Int) ≤ 256))) else (some false)) else (some false))))))))
set_option maxHeartbeats 8000000 in
set_option maxRecDepth 100000 in
theorem hopperref04_Check.calls (a0_0 : Int) (a0_1 : Int) (a0_2 : Int) (a0_3 : Int) (a0_4 : Int) (a0_5 : ByteArray) (r : Bool) (w : World) (h : hopperref04_Check.f a0_0 a0_1 a0_2 a0_3 a0_4 a0_5 = some r) :
 Calls Try.prog 64 #[.agg #[.int .i64 a0_0, .int .i64 a0_1, .int .i64 a0_2, .int .i64 a0_3, .int .i64 a0_4, .string a0_5]] w fun e w' => e = .returned (.bool r) ∧ Below w.heap.size w w' := by
 have hu32 := Try.underlying32
 have HB := A_ (Below.refl w.heap.size w)
 have H : (if a0_0 < 0 then (some false) else (if a0_0 > 255 then (some false) else (if a0_1 < 0 then (some false) else (if a0_1 ≥ 4294967296 then (some false) else (if a0_2 < 0 then (some false) else (if a0_2 > a0_3 then (some false) else (if a0_3 > 1099511627776 then (some false) else (if a0_4 ≥ 1 then (if a0_4 ≤ 1073741824 then (some (decide ((a0_5.size : Int) ≤ 256))) else (some false)) else (some false))))))))) = some r := h
 clear h
 by_cases c2 : a0_0 < 0
 · rw [if_pos c2] at H
   have c2b0 : decide (a0_0 < 0) = true := decide_eq_true c2
   clear c2
   obtain rfl := Option.some.inj H
   go_enter Try.func64, Try.ntmps64
   go_wp2_with (first | ((with_reducible refine gate_dst (N := 1) rfl ?_); (try (refine gate_guard (by rfl) ?_; dsimp only)); refine box_event ?hg (N := 1) ?hd (cs := #[.int .i64 a0_0, .int .i64 a0_1, .int .i64 a0_2, .int .i64 a0_3, .int .i64 a0_4, .string a0_5]) (t := 32) ?hr ?_; (case hd => rfl); (case hg => rfl); (case hr => first | (go_simp; done) | (go_simp; rfl)); intro gb189 hg w3 hbox hb; have n0_ := A_ (below_step bw_ hb); have n1_ := A_ (hbox); have n2_ := A_ (gz_ (w := w) hg); have n3_ := A_ (gz_ (w := w) hg); replace HB := n0_; have BK189 := n1_; have GW189 := n2_; have GE189 := n3_; clear n0_ n1_ n2_ n3_; clear hb hbox hg; have hcz4_0 : w3.cell? ⟨gb189, 0, none⟩ = some (.int .i64 a0_0) := e_ BK189 0; have hcz4_1 : w3.cell? ⟨gb189, 1, none⟩ = some (.int .i64 a0_1) := e_ BK189 1; have hcz4_2 : w3.cell? ⟨gb189, 2, none⟩ = some (.int .i64 a0_2) := e_ BK189 2; have hcz4_3 : w3.cell? ⟨gb189, 3, none⟩ = some (.int .i64 a0_3) := e_ BK189 3; have hcz4_4 : w3.cell? ⟨gb189, 4, none⟩ = some (.int .i64 a0_4) := e_ BK189 4; have hcz4_5 : w3.cell? ⟨gb189, 5, none⟩ = some (.string a0_5) := e_ BK189 5; obtain ⟨hfz4_0, hfz4_1, hfz4_2, hfz4_3, hfz4_4, hfz4_5⟩ := z6_ BK189))
   go_ret
   exact ⟨by first | rfl | (simp [errW_none, errW_some] <;> rfl) | (simp [*, errW_none, errW_some] <;> rfl), by repeat (first | (with_reducible first | exact HB.out | apply wa_ | apply wn_ | apply wd_ | refine ws_ ?_ GE189.out) | exact HB.out)⟩
 rw [if_neg c2] at H
 have c2b0 : decide (a0_0 < 0) = false := decide_eq_false c2
 clear c2
 by_cases c5 : a0_0 > 255
 · rw [if_pos c5] at H
   have c5b0 : decide (255 < a0_0) = true := decide_eq_true c5
   clear c5
   obtain rfl := Option.some.inj H
   go_enter Try.func64, Try.ntmps64
   go_wp2_with (first | ((with_reducible refine gate_dst (N := 1) rfl ?_); (try (refine gate_guard (by rfl) ?_; dsimp only)); refine box_event ?hg (N := 1) ?hd (cs := #[.int .i64 a0_0, .int .i64 a0_1, .int .i64 a0_2, .int .i64 a0_3, .int .i64 a0_4, .string a0_5]) (t := 32) ?hr ?_; (case hd => rfl); (case hg => rfl); (case hr => first | (go_simp; done) | (go_simp; rfl)); intro gb189 hg w6 hbox hb; have n0_ := A_ (below_step bw_ hb); have n1_ := A_ (hbox); have n2_ := A_ (gz_ (w := w) hg); have n3_ := A_ (gz_ (w := w) hg); replace HB := n0_; have BK189 := n1_; have GW189 := n2_; have GE189 := n3_; clear n0_ n1_ n2_ n3_; clear hb hbox hg; have hcz7_0 : w6.cell? ⟨gb189, 0, none⟩ = some (.int .i64 a0_0) := e_ BK189 0; have hcz7_1 : w6.cell? ⟨gb189, 1, none⟩ = some (.int .i64 a0_1) := e_ BK189 1; have hcz7_2 : w6.cell? ⟨gb189, 2, none⟩ = some (.int .i64 a0_2) := e_ BK189 2; have hcz7_3 : w6.cell? ⟨gb189, 3, none⟩ = some (.int .i64 a0_3) := e_ BK189 3; have hcz7_4 : w6.cell? ⟨gb189, 4, none⟩ = some (.int .i64 a0_4) := e_ BK189 4; have hcz7_5 : w6.cell? ⟨gb189, 5, none⟩ = some (.string a0_5) := e_ BK189 5; obtain ⟨hfz7_0, hfz7_1, hfz7_2, hfz7_3, hfz7_4, hfz7_5⟩ := z6_ BK189))
   go_ret
   exact ⟨by first | rfl | (simp [errW_none, errW_some] <;> rfl) | (simp [*, errW_none, errW_some] <;> rfl), by repeat (first | (with_reducible first | exact HB.out | apply wa_ | apply wn_ | apply wd_ | refine ws_ ?_ GE189.out) | exact HB.out)⟩
 rw [if_neg c5] at H
 have c5b0 : decide (255 < a0_0) = false := decide_eq_false c5
 clear c5
 by_cases c8 : a0_1 < 0
 · rw [if_pos c8] at H
   have c8b0 : decide (a0_1 < 0) = true := decide_eq_true c8
   clear c8
   obtain rfl := Option.some.inj H
   go_enter Try.func64, Try.ntmps64
   go_wp2_with (first | ((with_reducible refine gate_dst (N := 1) rfl ?_); (try (refine gate_guard (by rfl) ?_; dsimp only)); refine box_event ?hg (N := 1) ?hd (cs := #[.int .i64 a0_0, .int .i64 a0_1, .int .i64 a0_2, .int .i64 a0_3, .int .i64 a0_4, .string a0_5]) (t := 32) ?hr ?_; (case hd => rfl); (case hg => rfl); (case hr => first | (go_simp; done) | (go_simp; rfl)); intro gb189 hg w9 hbox hb; have n0_ := A_ (below_step bw_ hb); have n1_ := A_ (hbox); have n2_ := A_ (gz_ (w := w) hg); have n3_ := A_ (gz_ (w := w) hg); replace HB := n0_; have BK189 := n1_; have GW189 := n2_; have GE189 := n3_; clear n0_ n1_ n2_ n3_; clear hb hbox hg; have hcz10_0 : w9.cell? ⟨gb189, 0, none⟩ = some (.int .i64 a0_0) := e_ BK189 0; have hcz10_1 : w9.cell? ⟨gb189, 1, none⟩ = some (.int .i64 a0_1) := e_ BK189 1; have hcz10_2 : w9.cell? ⟨gb189, 2, none⟩ = some (.int .i64 a0_2) := e_ BK189 2; have hcz10_3 : w9.cell? ⟨gb189, 3, none⟩ = some (.int .i64 a0_3) := e_ BK189 3; have hcz10_4 : w9.cell? ⟨gb189, 4, none⟩ = some (.int .i64 a0_4) := e_ BK189 4; have hcz10_5 : w9.cell? ⟨gb189, 5, none⟩ = some (.string a0_5) := e_ BK189 5; obtain ⟨hfz10_0, hfz10_1, hfz10_2, hfz10_3, hfz10_4, hfz10_5⟩ := z6_ BK189))
   go_ret
   exact ⟨by first | rfl | (simp [errW_none, errW_some] <;> rfl) | (simp [*, errW_none, errW_some] <;> rfl), by repeat (first | (with_reducible first | exact HB.out | apply wa_ | apply wn_ | apply wd_ | refine ws_ ?_ GE189.out) | exact HB.out)⟩
 rw [if_neg c8] at H
 have c8b0 : decide (a0_1 < 0) = false := decide_eq_false c8
 clear c8
 by_cases c11 : a0_1 ≥ 4294967296
 · rw [if_pos c11] at H
   have c11b0 : decide (4294967296 ≤ a0_1) = true := decide_eq_true c11
   clear c11
   obtain rfl := Option.some.inj H
   go_enter Try.func64, Try.ntmps64
   go_wp2_with (first | ((with_reducible refine gate_dst (N := 1) rfl ?_); (try (refine gate_guard (by rfl) ?_; dsimp only)); refine box_event ?hg (N := 1) ?hd (cs := #[.int .i64 a0_0, .int .i64 a0_1, .int .i64 a0_2, .int .i64 a0_3, .int .i64 a0_4, .string a0_5]) (t := 32) ?hr ?_; (case hd => rfl); (case hg => rfl); (case hr => first | (go_simp; done) | (go_simp; rfl)); intro gb189 hg w12 hbox hb; have n0_ := A_ (below_step bw_ hb); have n1_ := A_ (hbox); have n2_ := A_ (gz_ (w := w) hg); have n3_ := A_ (gz_ (w := w) hg); replace HB := n0_; have BK189 := n1_; have GW189 := n2_; have GE189 := n3_; clear n0_ n1_ n2_ n3_; clear hb hbox hg; have hcz13_0 : w12.cell? ⟨gb189, 0, none⟩ = some (.int .i64 a0_0) := e_ BK189 0; have hcz13_1 : w12.cell? ⟨gb189, 1, none⟩ = some (.int .i64 a0_1) := e_ BK189 1; have hcz13_2 : w12.cell? ⟨gb189, 2, none⟩ = some (.int .i64 a0_2) := e_ BK189 2; have hcz13_3 : w12.cell? ⟨gb189, 3, none⟩ = some (.int .i64 a0_3) := e_ BK189 3; have hcz13_4 : w12.cell? ⟨gb189, 4, none⟩ = some (.int .i64 a0_4) := e_ BK189 4; have hcz13_5 : w12.cell? ⟨gb189, 5, none⟩ = some (.string a0_5) := e_ BK189 5; obtain ⟨hfz13_0, hfz13_1, hfz13_2, hfz13_3, hfz13_4, hfz13_5⟩ := z6_ BK189))
   go_ret
   exact ⟨by first | rfl | (simp [errW_none, errW_some] <;> rfl) | (simp [*, errW_none, errW_some] <;> rfl), by repeat (first | (with_reducible first | exact HB.out | apply wa_ | apply wn_ | apply wd_ | refine ws_ ?_ GE189.out) | exact HB.out)⟩
 rw [if_neg c11] at H
 have c11b0 : decide (4294967296 ≤ a0_1) = false := decide_eq_false c11
 clear c11
 by_cases c14 : a0_2 < 0
 · rw [if_pos c14] at H
   have c14b0 : decide (a0_2 < 0) = true := decide_eq_true c14
   clear c14
   obtain rfl := Option.some.inj H
   go_enter Try.func64, Try.ntmps64
   go_wp2_with (first | ((with_reducible refine gate_dst (N := 1) rfl ?_); (try (refine gate_guard (by rfl) ?_; dsimp only)); refine box_event ?hg (N := 1) ?hd (cs := #[.int .i64 a0_0, .int .i64 a0_1, .int .i64 a0_2, .int .i64 a0_3, .int .i64 a0_4, .string a0_5]) (t := 32) ?hr ?_; (case hd => rfl); (case hg => rfl); (case hr => first | (go_simp; done) | (go_simp; rfl)); intro gb189 hg w15 hbox hb; have n0_ := A_ (below_step bw_ hb); have n1_ := A_ (hbox); have n2_ := A_ (gz_ (w := w) hg); have n3_ := A_ (gz_ (w := w) hg); replace HB := n0_; have BK189 := n1_; have GW189 := n2_; have GE189 := n3_; clear n0_ n1_ n2_ n3_; clear hb hbox hg; have hcz16_0 : w15.cell? ⟨gb189, 0, none⟩ = some (.int .i64 a0_0) := e_ BK189 0; have hcz16_1 : w15.cell? ⟨gb189, 1, none⟩ = some (.int .i64 a0_1) := e_ BK189 1; have hcz16_2 : w15.cell? ⟨gb189, 2, none⟩ = some (.int .i64 a0_2) := e_ BK189 2; have hcz16_3 : w15.cell? ⟨gb189, 3, none⟩ = some (.int .i64 a0_3) := e_ BK189 3; have hcz16_4 : w15.cell? ⟨gb189, 4, none⟩ = some (.int .i64 a0_4) := e_ BK189 4; have hcz16_5 : w15.cell? ⟨gb189, 5, none⟩ = some (.string a0_5) := e_ BK189 5; obtain ⟨hfz16_0, hfz16_1, hfz16_2, hfz16_3, hfz16_4, hfz16_5⟩ := z6_ BK189))
   go_ret
   exact ⟨by first | rfl | (simp [errW_none, errW_some] <;> rfl) | (simp [*, errW_none, errW_some] <;> rfl), by repeat (first | (with_reducible first | exact HB.out | apply wa_ | apply wn_ | apply wd_ | refine ws_ ?_ GE189.out) | exact HB.out)⟩
 rw [if_neg c14] at H
 have c14b0 : decide (a0_2 < 0) = false := decide_eq_false c14
 clear c14
 by_cases c17 : a0_2 > a0_3
 · rw [if_pos c17] at H
   have c17b0 : decide (a0_3 < a0_2) = true := decide_eq_true c17
   clear c17
   obtain rfl := Option.some.inj H
   go_enter Try.func64, Try.ntmps64
   go_wp2_with (first | ((with_reducible refine gate_dst (N := 1) rfl ?_); (try (refine gate_guard (by rfl) ?_; dsimp only)); refine box_event ?hg (N := 1) ?hd (cs := #[.int .i64 a0_0, .int .i64 a0_1, .int .i64 a0_2, .int .i64 a0_3, .int .i64 a0_4, .string a0_5]) (t := 32) ?hr ?_; (case hd => rfl); (case hg => rfl); (case hr => first | (go_simp; done) | (go_simp; rfl)); intro gb189 hg w18 hbox hb; have n0_ := A_ (below_step bw_ hb); have n1_ := A_ (hbox); have n2_ := A_ (gz_ (w := w) hg); have n3_ := A_ (gz_ (w := w) hg); replace HB := n0_; have BK189 := n1_; have GW189 := n2_; have GE189 := n3_; clear n0_ n1_ n2_ n3_; clear hb hbox hg; have hcz19_0 : w18.cell? ⟨gb189, 0, none⟩ = some (.int .i64 a0_0) := e_ BK189 0; have hcz19_1 : w18.cell? ⟨gb189, 1, none⟩ = some (.int .i64 a0_1) := e_ BK189 1; have hcz19_2 : w18.cell? ⟨gb189, 2, none⟩ = some (.int .i64 a0_2) := e_ BK189 2; have hcz19_3 : w18.cell? ⟨gb189, 3, none⟩ = some (.int .i64 a0_3) := e_ BK189 3; have hcz19_4 : w18.cell? ⟨gb189, 4, none⟩ = some (.int .i64 a0_4) := e_ BK189 4; have hcz19_5 : w18.cell? ⟨gb189, 5, none⟩ = some (.string a0_5) := e_ BK189 5; obtain ⟨hfz19_0, hfz19_1, hfz19_2, hfz19_3, hfz19_4, hfz19_5⟩ := z6_ BK189))
   go_ret
   exact ⟨by first | rfl | (simp [errW_none, errW_some] <;> rfl) | (simp [*, errW_none, errW_some] <;> rfl), by repeat (first | (with_reducible first | exact HB.out | apply wa_ | apply wn_ | apply wd_ | refine ws_ ?_ GE189.out) | exact HB.out)⟩
 rw [if_neg c17] at H
 have c17b0 : decide (a0_3 < a0_2) = false := decide_eq_false c17
 clear c17
 by_cases c20 : a0_3 > 1099511627776
 · rw [if_pos c20] at H
   have c20b0 : decide (1099511627776 < a0_3) = true := decide_eq_true c20
   clear c20
   obtain rfl := Option.some.inj H
   go_enter Try.func64, Try.ntmps64
   go_wp2_with (first | ((with_reducible refine gate_dst (N := 1) rfl ?_); (try (refine gate_guard (by rfl) ?_; dsimp only)); refine box_event ?hg (N := 1) ?hd (cs := #[.int .i64 a0_0, .int .i64 a0_1, .int .i64 a0_2, .int .i64 a0_3, .int .i64 a0_4, .string a0_5]) (t := 32) ?hr ?_; (case hd => rfl); (case hg => rfl); (case hr => first | (go_simp; done) | (go_simp; rfl)); intro gb189 hg w21 hbox hb; have n0_ := A_ (below_step bw_ hb); have n1_ := A_ (hbox); have n2_ := A_ (gz_ (w := w) hg); have n3_ := A_ (gz_ (w := w) hg); replace HB := n0_; have BK189 := n1_; have GW189 := n2_; have GE189 := n3_; clear n0_ n1_ n2_ n3_; clear hb hbox hg; have hcz22_0 : w21.cell? ⟨gb189, 0, none⟩ = some (.int .i64 a0_0) := e_ BK189 0; have hcz22_1 : w21.cell? ⟨gb189, 1, none⟩ = some (.int .i64 a0_1) := e_ BK189 1; have hcz22_2 : w21.cell? ⟨gb189, 2, none⟩ = some (.int .i64 a0_2) := e_ BK189 2; have hcz22_3 : w21.cell? ⟨gb189, 3, none⟩ = some (.int .i64 a0_3) := e_ BK189 3; have hcz22_4 : w21.cell? ⟨gb189, 4, none⟩ = some (.int .i64 a0_4) := e_ BK189 4; have hcz22_5 : w21.cell? ⟨gb189, 5, none⟩ = some (.string a0_5) := e_ BK189 5; obtain ⟨hfz22_0, hfz22_1, hfz22_2, hfz22_3, hfz22_4, hfz22_5⟩ := z6_ BK189))
   go_ret
   exact ⟨by first | rfl | (simp [errW_none, errW_some] <;> rfl) | (simp [*, errW_none, errW_some] <;> rfl), by repeat (first | (with_reducible first | exact HB.out | apply wa_ | apply wn_ | apply wd_ | refine ws_ ?_ GE189.out) | exact HB.out)⟩
 rw [if_neg c20] at H
 have c20b0 : decide (1099511627776 < a0_3) = false := decide_eq_false c20
 clear c20
 by_cases c23 : a0_4 ≥ 1
 rotate_left
 · rw [if_neg c23] at H
   have c23b0 : decide (1 ≤ a0_4) = false := decide_eq_false c23
   clear c23
   obtain rfl := Option.some.inj H
   go_enter Try.func64, Try.ntmps64
   go_wp2_with (first | ((with_reducible refine gate_dst (N := 1) rfl ?_); (try (refine gate_guard (by rfl) ?_; dsimp only)); refine box_event ?hg (N := 1) ?hd (cs := #[.int .i64 a0_0, .int .i64 a0_1, .int .i64 a0_2, .int .i64 a0_3, .int .i64 a0_4, .string a0_5]) (t := 32) ?hr ?_; (case hd => rfl); (case hg => rfl); (case hr => first | (go_simp; done) | (go_simp; rfl)); intro gb189 hg w29 hbox hb; have n0_ := A_ (below_step bw_ hb); have n1_ := A_ (hbox); have n2_ := A_ (gz_ (w := w) hg); have n3_ := A_ (gz_ (w := w) hg); replace HB := n0_; have BK189 := n1_; have GW189 := n2_; have GE189 := n3_; clear n0_ n1_ n2_ n3_; clear hb hbox hg; have hcz30_0 : w29.cell? ⟨gb189, 0, none⟩ = some (.int .i64 a0_0) := e_ BK189 0; have hcz30_1 : w29.cell? ⟨gb189, 1, none⟩ = some (.int .i64 a0_1) := e_ BK189 1; have hcz30_2 : w29.cell? ⟨gb189, 2, none⟩ = some (.int .i64 a0_2) := e_ BK189 2; have hcz30_3 : w29.cell? ⟨gb189, 3, none⟩ = some (.int .i64 a0_3) := e_ BK189 3; have hcz30_4 : w29.cell? ⟨gb189, 4, none⟩ = some (.int .i64 a0_4) := e_ BK189 4; have hcz30_5 : w29.cell? ⟨gb189, 5, none⟩ = some (.string a0_5) := e_ BK189 5; obtain ⟨hfz30_0, hfz30_1, hfz30_2, hfz30_3, hfz30_4, hfz30_5⟩ := z6_ BK189))
   go_ret
   exact ⟨by first | rfl | (simp [errW_none, errW_some] <;> rfl) | (simp [*, errW_none, errW_some] <;> rfl), by repeat (first | (with_reducible first | exact HB.out | apply wa_ | apply wn_ | apply wd_ | refine ws_ ?_ GE189.out) | exact HB.out)⟩

 rw [if_pos c23] at H
 have c23b0 : decide (1 ≤ a0_4) = true := decide_eq_true c23
 clear c23
 by_cases c24 : a0_4 ≤ 1073741824
 · rw [if_pos c24] at H
   have c24b0 : decide (a0_4 ≤ 1073741824) = true := decide_eq_true c24
   clear c24
   obtain rfl := Option.some.inj H
   go_enter Try.func64, Try.ntmps64
   go_wp2_with (first | ((with_reducible refine gate_dst (N := 1) rfl ?_); (try (refine gate_guard (by rfl) ?_; dsimp only)); refine box_event ?hg (N := 1) ?hd (cs := #[.int .i64 a0_0, .int .i64 a0_1, .int .i64 a0_2, .int .i64 a0_3, .int .i64 a0_4, .string a0_5]) (t := 32) ?hr ?_; (case hd => rfl); (case hg => rfl); (case hr => first | (go_simp; done) | (go_simp; rfl)); intro gb189 hg w25 hbox hb; have n0_ := A_ (below_step bw_ hb); have n1_ := A_ (hbox); have n2_ := A_ (gz_ (w := w) hg); have n3_ := A_ (gz_ (w := w) hg); replace HB := n0_; have BK189 := n1_; have GW189 := n2_; have GE189 := n3_; clear n0_ n1_ n2_ n3_; clear hb hbox hg; have hcz26_0 : w25.cell? ⟨gb189, 0, none⟩ = some (.int .i64 a0_0) := e_ BK189 0; have hcz26_1 : w25.cell? ⟨gb189, 1, none⟩ = some (.int .i64 a0_1) := e_ BK189 1; have hcz26_2 : w25.cell? ⟨gb189, 2, none⟩ = some (.int .i64 a0_2) := e_ BK189 2; have hcz26_3 : w25.cell? ⟨gb189, 3, none⟩ = some (.int .i64 a0_3) := e_ BK189 3; have hcz26_4 : w25.cell? ⟨gb189, 4, none⟩ = some (.int .i64 a0_4) := e_ BK189 4; have hcz26_5 : w25.cell? ⟨gb189, 5, none⟩ = some (.string a0_5) := e_ BK189 5; obtain ⟨hfz26_0, hfz26_1, hfz26_2, hfz26_3, hfz26_4, hfz26_5⟩ := z6_ BK189))
   go_ret
   exact ⟨by first | rfl | (simp [errW_none, errW_some] <;> rfl) | (simp [*, errW_none, errW_some] <;> rfl), by repeat (first | (with_reducible first | exact HB.out | apply wa_ | apply wn_ | apply wd_ | refine ws_ ?_ GE189.out) | exact HB.out)⟩
 · rw [if_neg c24] at H
   have c24b0 : decide (a0_4 ≤ 1073741824) = false := decide_eq_false c24
   clear c24
   obtain rfl := Option.some.inj H
   go_enter Try.func64, Try.ntmps64
   go_wp2_with (first | ((with_reducible refine gate_dst (N := 1) rfl ?_); (try (refine gate_guard (by rfl) ?_; dsimp only)); refine box_event ?hg (N := 1) ?hd (cs := #[.int .i64 a0_0, .int .i64 a0_1, .int .i64 a0_2, .int .i64 a0_3, .int .i64 a0_4, .string a0_5]) (t := 32) ?hr ?_; (case hd => rfl); (case hg => rfl); (case hr => first | (go_simp; done) | (go_simp; rfl)); intro gb189 hg w27 hbox hb; have n0_ := A_ (below_step bw_ hb); have n1_ := A_ (hbox); have n2_ := A_ (gz_ (w := w) hg); have n3_ := A_ (gz_ (w := w) hg); replace HB := n0_; have BK189 := n1_; have GW189 := n2_; have GE189 := n3_; clear n0_ n1_ n2_ n3_; clear hb hbox hg; have hcz28_0 : w27.cell? ⟨gb189, 0, none⟩ = some (.int .i64 a0_0) := e_ BK189 0; have hcz28_1 : w27.cell? ⟨gb189, 1, none⟩ = some (.int .i64 a0_1) := e_ BK189 1; have hcz28_2 : w27.cell? ⟨gb189, 2, none⟩ = some (.int .i64 a0_2) := e_ BK189 2; have hcz28_3 : w27.cell? ⟨gb189, 3, none⟩ = some (.int .i64 a0_3) := e_ BK189 3; have hcz28_4 : w27.cell? ⟨gb189, 4, none⟩ = some (.int .i64 a0_4) := e_ BK189 4; have hcz28_5 : w27.cell? ⟨gb189, 5, none⟩ = some (.string a0_5) := e_ BK189 5; obtain ⟨hfz28_0, hfz28_1, hfz28_2, hfz28_3, hfz28_4, hfz28_5⟩ := z6_ BK189))
   go_ret
   exact ⟨by first | rfl | (simp [errW_none, errW_some] <;> rfl) | (simp [*, errW_none, errW_some] <;> rfl), by repeat (first | (with_reducible first | exact HB.out | apply wa_ | apply wn_ | apply wd_ | refine ws_ ?_ GE189.out) | exact HB.out)⟩
/-! ### hopperref03_bytes: function 77 -/
def hopperref03_bytes.f : Nat → Int → Option (ByteArray)
 | 0, _ => none
 | k + 1, a0 => (some (([(Int.tmod a0 256) % 256] : List Int) : List Int)).bind fun y190 => (if a0 ≥ 256 then ((hopperref03_bytes.f k (wrap64 (Int.tdiv a0 256))).bind fun t193 => (if t193.size + (strOfNums y190).size ≤ 9223372036854775807 then (some (t193 ++ (strOfNums y190))) else (none))) else (some (strOfNums y190)))
theorem hopperref03_bytes.mono_l : ∀ k, (∀ y0, LeO (hopperref03_bytes.f k y0) (hopperref03_bytes.f (k + 1) y0))
 | 0 => fun _ r h => by simp [hopperref03_bytes.f] at h
 | k + 1 => by
  have ih0 := hopperref03_bytes.mono_l k
  · intro y0
    unfold hopperref03_bytes.f
    repeat' first
    | (with_reducible exact ih0 _)
    | (with_reducible exact LeO.refl _)
    | (with_reducible exact LeO.none _)
    | (with_reducible refine LeO.ite ?_ ?_)
    | (with_reducible refine LeO.bind ?_ (fun _ => ?_))
    | exact ih0 _
    | exact LeO.none _
    | refine LeO.ite ?_ ?_
    | refine LeO.bind ?_ (fun _ => ?_)
theorem hopperref03_bytes.mono : ∀ a0 k, LeO (hopperref03_bytes.f k a0) (hopperref03_bytes.f (k + 1) a0) := by
 intro a0 k
 have ih0 := hopperref03_bytes.mono_l k
 exact ih0 a0
set_option maxHeartbeats 8000000 in
set_option maxRecDepth 100000 in
theorem hopperref03_bytes.calls (k : Nat) : ∀ (a0 : Int) (r : ByteArray) (w : World) (h : hopperref03_bytes.f k a0 = some r),
 Calls Try.prog 77 #[.int .i64 a0] w fun e w' => e = .returned (.string r) ∧ Below w.heap.size w w' := by
 induction k using Nat.strongRecOn with
 | _ k ih =>
 intro a0 r w h
 cases k with
 | zero => exact absurd h (by simp [hopperref03_bytes.f])
 | succ k =>
 simp only [hopperref03_bytes.f] at h
 have HB := A_ (Below.refl w.heap.size w)
 have H : ((some (([(Int.tmod a0 256) % 256] : List Int) : List Int)).bind fun y190 => (if a0 ≥ 256 then ((hopperref03_bytes.f k (wrap64 (Int.tdiv a0 256))).bind fun t193 => (if t193.size + (strOfNums y190).size ≤ 9223372036854775807 then (some (t193 ++ (strOfNums y190))) else (none))) else (some (strOfNums y190)))) = some r := h
 clear h
 obtain ⟨y190, hy190⟩ : ∃ y_ : List Int, y_ = (([(Int.tmod a0 256) % 256] : List Int)) := ⟨_, rfl⟩
 replace H : (if a0 ≥ 256 then ((hopperref03_bytes.f k (wrap64 (Int.tdiv a0 256))).bind fun t193 => (if t193.size + (strOfNums y190).size ≤ 9223372036854775807 then (some (t193 ++ (strOfNums y190))) else (none))) else (some (strOfNums y190))) = some r := by first | (rw [hy190]; with_reducible exact H) | (have H2_ := (Option.bind_some _ _).symm.trans H; rw [hy190]; with_reducible exact H2_) | (have H2_ := (Option.bind_some _ _).symm.trans H; with_reducible exact H2_) | with_reducible exact H | (rw [hy190]; exact H) | exact H
 have Ny190 := A_ hy190
 clear hy190
 by_cases c2 : a0 ≥ 256
 rotate_left
 · rw [if_neg c2] at H
   have c2b0 : decide (256 ≤ a0) = false := decide_eq_false c2
   clear c2
   obtain rfl := Option.some.inj H
   go_enter Try.func77, Try.ntmps77
   go_wp2_with (first | ((with_reducible refine gate_dst (N := 7) rfl ?_); refine Kd.R_lit (Kd.int .u8) _ 5 ?hg (N := 7) ?hd (xs := ([(Int.tmod a0 256) % 256] : List Int)) (inner := [.int .u8 ((Int.tmod a0 256) % 256)]) (ok := fun _ => True) (okp := fun _ => True) ?hr ?hp (fun _ hk => hk) trivial (Below.refl _ _) (Nat.le_refl _) (by simp) ?_; (case hd => rfl); (case hg => rfl); (case hr => first | (go_simp; done) | (go_simp; rfl)); (case hp => exact (Reps.one (show Kd.M (Kd.int .u8) _ _ _ ((Int.tmod a0 256) % 256) [.int .u8 ((Int.tmod a0 256) % 256)] from rfl) (Reps.none _ _))); intro v191 w9 ho10 hb hg_ hnew_; clear hg_ hnew_; (first | rw [← Ny190.out] at ho10 | (simp only [Int.reduceToNat] at ho10; rw [← Ny190.out] at ho10)); have HO192 := A_ (Kd.R_lower ho10 (below_size bw_)); replace HB := A_ (below_step bw_ hb); clear hb ho10; have hcv11 := own_string (P := Try.prog) Try.underlying87 Try.underlying5 Try.underlying9 (Kd.own_of_R HO192.out)))
   go_ret
   exact ⟨by first | rfl | (simp [errW_none, errW_some] <;> rfl) | (simp [*, errW_none, errW_some] <;> rfl), by repeat (first | (with_reducible first | exact HB.out | apply wa_ | apply wn_ | apply wd_) | exact HB.out)⟩

 rw [if_pos c2] at H
 have c2b0 : decide (256 ≤ a0) = true := decide_eq_true c2
 clear c2
 replace H := Option.bind_eq_some_iff.mp H
 obtain ⟨t193, A30, H⟩ := H
 try dsimp only at H
 have A3 := A_ A30
 clear A30
 by_cases c4 : t193.size + (strOfNums y190).size ≤ 9223372036854775807
 · rw [if_pos c4] at H
   have c4b0 := eq_true c4
   have c4b1 : decide (t193.size + (strOfNums y190).size ≤ 9223372036854775807) = true := decide_eq_true c4
   try have c4b2 : (9223372036854775807 < t193.size + (strOfNums y190).size) = False := eq_false (Nat.not_lt.2 c4)
   obtain rfl := Option.some.inj H
   go_enter Try.func77, Try.ntmps77
   go_wp2_with (first | ((with_reducible refine gate_dst (N := 7) rfl ?_); refine Kd.R_lit (Kd.int .u8) _ 5 ?hg (N := 7) ?hd (xs := ([(Int.tmod a0 256) % 256] : List Int)) (inner := [.int .u8 ((Int.tmod a0 256) % 256)]) (ok := fun _ => True) (okp := fun _ => True) ?hr ?hp (fun _ hk => hk) trivial (Below.refl _ _) (Nat.le_refl _) (by simp) ?_; (case hd => rfl); (case hg => rfl); (case hr => first | (go_simp; done) | (go_simp; rfl)); (case hp => exact (Reps.one (show Kd.M (Kd.int .u8) _ _ _ ((Int.tmod a0 256) % 256) [.int .u8 ((Int.tmod a0 256) % 256)] from rfl) (Reps.none _ _))); intro v191 w5 ho6 hb hg_ hnew_; clear hg_ hnew_; (first | rw [← Ny190.out] at ho6 | (simp only [Int.reduceToNat] at ho6; rw [← Ny190.out] at ho6)); have HO192 := A_ (Kd.R_lower ho6 (below_size bw_)); replace HB := A_ (below_step bw_ hb); clear hb ho6; have hcv7 := own_string (P := Try.prog) Try.underlying87 Try.underlying5 Try.underlying9 (Kd.own_of_R HO192.out)) | ((with_reducible refine gate_callee (f := 77) rfl ?_); refine goesL_ (some 13) rfl rfl Try.func77 (by kernel_rfl) rfl #[.int .i64 (wrap64 (Int.tdiv a0 256))] rfl (by (try simp only [m0_, m1_, m2_]); first | done | rfl) ?_; (with_reducible refine (ih k (by omega) (wrap64 (Int.tdiv a0 256)) t193 _ A3.out).mono ?_); rintro e w8 ⟨rfl, hb⟩; refine ⟨_, rfl, ?_⟩; replace HO192 := A_ (Kd.R_below (pr_ HO192.out) hb); replace HB := A_ (below_step bw_ hb); (try clear hb); (try clear hb2); (try clear hk); (try clear hi)))
   go_ret
   exact ⟨by first | rfl | (simp [errW_none, errW_some] <;> rfl) | (simp [*, errW_none, errW_some] <;> rfl), by repeat (first | (with_reducible first | exact HB.out | apply wa_ | apply wn_ | apply wd_) | exact HB.out)⟩
 · rw [if_neg c4] at H
   exact absurd H (by simp)
/-! ### hopperref03_Number: function 65 -/
def hopperref03_Number.f (k : Nat) (a0 : Int) : Option (ByteArray) := if a0 < 0 then (some (⟨#[]⟩ : ByteArray)) else ((hopperref03_bytes.f k a0).bind fun t194 => ((some (([((t194.size : Int)) % 256] : List Int) : List Int)).bind fun y195 => (if (strOfNums y195).size + t194.size ≤ 9223372036854775807 then (some ((strOfNums y195) ++ t194)) else (none))))
theorem hopperref03_Number.mono : ∀ a0 k, LeO (hopperref03_Number.f k a0) (hopperref03_Number.f (k + 1) a0) := by
  intro a0 k
  unfold hopperref03_Number.f
  repeat' first
      | (with_reducible exact hopperref03_bytes.mono _ _)
      | (with_reducible exact LeO.refl _)
      | (with_reducible exact LeO.none _)
      | (with_reducible refine LeO.ite ?_ ?_)
      | (with_reducible refine LeO.bind ?_ (fun _ => ?_))
      | exact hopperref03_bytes.mono _ _
      | exact LeO.none _
      | refine LeO.ite ?_ ?_
      | refine LeO.bind ?_ (fun _ => ?_)
set_option maxHeartbeats 8000000 in
set_option maxRecDepth 100000 in
theorem hopperref03_Number.calls (k : Nat) (a0 : Int) (r : ByteArray) (w : World) (h : hopperref03_Number.f k a0 = some r) :
    Calls Try.prog 65 #[.int .i64 a0] w fun e w' => e = .returned (.string r) ∧ Below w.heap.size w w' := by
  have HB := Aside0.mk (Below.refl w.heap.size w)
  have H : (if a0 < 0 then (some (⟨#[]⟩ : ByteArray)) else ((hopperref03_bytes.f k a0).bind fun t194 => ((some (([((t194.size : Int)) % 256] : List Int) : List Int)).bind fun y195 => (if (strOfNums y195).size + t194.size ≤ 9223372036854775807 then (some ((strOfNums y195) ++ t194)) else (none))))) = some r := h
  clear h
  by_cases c2 : a0 < 0
  · rw [if_pos c2] at H
    have c2b0 : decide (a0 < 0) = true := decide_eq_true c2
    clear c2
    obtain rfl := Option.some.inj H
    go_enter Try.func65, Try.ntmps65
    go_wp2
    go_ret
    exact ⟨by first | rfl | (simp [errW_none, errW_some] <;> rfl) | (simp [*, errW_none, errW_some] <;> rfl), by repeat (first | (with_reducible first | exact HB.out | apply below_alloc | apply pw_below_drewN | apply below_drew1) | exact HB.out)⟩
  · rw [if_neg c2] at H
    have c2b0 : decide (a0 < 0) = false := decide_eq_false c2
    clear c2
    replace H := Option.bind_eq_some_iff.mp H
    obtain ⟨t194, A30, H⟩ := H
    replace H : ((some (([((t194.size : Int)) % 256] : List Int) : List Int)).bind fun y195 => (if (strOfNums y195).size + t194.size ≤ 9223372036854775807 then (some ((strOfNums y195) ++ t194)) else (none))) = some r := H
    have A3 := Aside0.mk A30
    clear A30
    obtain ⟨y195, hy195⟩ : ∃ y_ : List Int, y_ = (([((t194.size : Int)) % 256] : List Int)) := ⟨_, rfl⟩
    replace H : (if (strOfNums y195).size + t194.size ≤ 9223372036854775807 then (some ((strOfNums y195) ++ t194)) else (none)) = some r := by first | (rw [hy195]; with_reducible exact H) | (have H2_ := (Option.bind_some _ _).symm.trans H; rw [hy195]; with_reducible exact H2_) | (have H2_ := (Option.bind_some _ _).symm.trans H; with_reducible exact H2_) | with_reducible exact H | (rw [hy195]; exact H) | exact H
    have Ny195 := Aside0.mk hy195
    clear hy195
    by_cases c4 : (strOfNums y195).size + t194.size ≤ 9223372036854775807
    · rw [if_pos c4] at H
      have c4b0 := eq_true c4
      have c4b1 : decide ((strOfNums y195).size + t194.size ≤ 9223372036854775807) = true := decide_eq_true c4
      try have c4b2 : (9223372036854775807 < (strOfNums y195).size + t194.size) = False := eq_false (Nat.not_lt.2 c4)
      obtain rfl := Option.some.inj H
      go_enter Try.func65, Try.ntmps65
      go_wp2_with (first | ((with_reducible refine gate_callee (f := 77) rfl ?_); refine goesL_ (some 7) rfl rfl Try.func77 (by kernel_rfl) rfl #[.int .i64 a0] rfl (by (try simp only [List.map_toArray, List.map_cons, List.map_nil]); first | done | rfl | (simp only [List.length_drop, List.length_take]; rfl)) ?_; (with_reducible refine (hopperref03_bytes.calls k a0 t194 _ A3.out).mono ?_); rintro e w5 ⟨rfl, hb⟩; refine ⟨_, rfl, ?_⟩; have n0_ := Aside0.mk (below_step (by repeat (first | (with_reducible first | exact HB.out | apply below_alloc | apply pw_below_drewN | apply below_drew1) | exact HB.out)) hb); clear HB; have HB := n0_; clear n0_; (try clear hb); (try clear hb2); (try clear hk); (try clear hi)) | ((with_reducible refine gate_dst (N := 11) rfl ?_); refine Kd.R_lit (Kd.int .u8) _ 5 ?hg (N := 11) ?hd (xs := ([((t194.size : Int)) % 256] : List Int)) (inner := [.int .u8 (((t194.size : Int)) % 256)]) (ok := fun _ => True) (okp := fun _ => True) ?hr ?hp (fun _ hk => hk) trivial (Below.refl _ _) (Nat.le_refl _) (by simp) ?_; (case hd => rfl); (case hg => rfl); (case hr => first | (go_simp; done) | (go_simp; rfl)); (case hp => exact (Reps.one (show Kd.M (Kd.int .u8) _ _ _ (((t194.size : Int)) % 256) [.int .u8 (((t194.size : Int)) % 256)] from rfl) (Reps.none _ _))); intro v196 w6 ho7 hb hg_ hnew_; clear hg_ hnew_; (first | rw [← Ny195.out] at ho7 | (simp only [Int.reduceToNat] at ho7; rw [← Ny195.out] at ho7)); have n0_ := Aside0.mk (Kd.R_lower ho7 (below_size (by repeat (first | (with_reducible first | exact HB.out | apply below_alloc | apply pw_below_drewN | apply below_drew1) | exact HB.out)))); have n1_ := Aside0.mk (below_step (by repeat (first | (with_reducible first | exact HB.out | apply below_alloc | apply pw_below_drewN | apply below_drew1) | exact HB.out)) hb); clear HB; have HO197 := n0_; have HB := n1_; clear n0_ n1_; clear hb ho7; have hcv8 := own_string (P := Try.prog) Try.underlying87 Try.underlying5 Try.underlying9 (Kd.own_of_R HO197.out)))
      go_ret
      exact ⟨by first | rfl | (simp [errW_none, errW_some] <;> rfl) | (simp [*, errW_none, errW_some] <;> rfl), by repeat (first | (with_reducible first | exact HB.out | apply below_alloc | apply pw_below_drewN | apply below_drew1) | exact HB.out)⟩
    · rw [if_neg c4] at H
      exact absurd H (by simp)

/-! ### hopperref03_Text: function 66 -/
def hopperref03_Text.f (a0 : ByteArray) : Option (ByteArray) := if (a0.size : Int) > 65535 then (some (⟨#[]⟩ : ByteArray)) else ((some (([((a0.size : Int) / 256) % 256, (a0.size : Int) % 256] : List Int) : List Int)).bind fun y198 => (if (strOfNums y198).size + a0.size ≤ 9223372036854775807 then (some ((strOfNums y198) ++ a0)) else (none)))
set_option maxHeartbeats 8000000 in
set_option maxRecDepth 100000 in
theorem hopperref03_Text.calls (a0 : ByteArray) (r : ByteArray) (w : World) (h : hopperref03_Text.f a0 = some r) :
    Calls Try.prog 66 #[.string a0] w fun e w' => e = .returned (.string r) ∧ Below w.heap.size w w' := by
  have HB := Aside0.mk (Below.refl w.heap.size w)
  have H : (if (a0.size : Int) > 65535 then (some (⟨#[]⟩ : ByteArray)) else ((some (([((a0.size : Int) / 256) % 256, (a0.size : Int) % 256] : List Int) : List Int)).bind fun y198 => (if (strOfNums y198).size + a0.size ≤ 9223372036854775807 then (some ((strOfNums y198) ++ a0)) else (none)))) = some r := h
  clear h
  by_cases c2 : (a0.size : Int) > 65535
  · rw [if_pos c2] at H
    have c2b0 : decide (65535 < (a0.size : Int)) = true := decide_eq_true c2
    have c2b1 : decide (65535 < a0.size) = true := decide_eq_true (by omega)
    clear c2
    obtain rfl := Option.some.inj H
    go_enter Try.func66, Try.ntmps66
    go_wp2
    go_ret
    exact ⟨by first | rfl | (simp [errW_none, errW_some] <;> rfl) | (simp [*, errW_none, errW_some] <;> rfl), by repeat (first | (with_reducible first | exact HB.out | apply below_alloc | apply pw_below_drewN | apply below_drew1) | exact HB.out)⟩
  · rw [if_neg c2] at H
    have c2b0 : decide (65535 < (a0.size : Int)) = false := decide_eq_false c2
    have c2b1 : decide (65535 < a0.size) = false := decide_eq_false (by omega)
    clear c2
    obtain ⟨y198, hy198⟩ : ∃ y_ : List Int, y_ = (([((a0.size : Int) / 256) % 256, (a0.size : Int) % 256] : List Int)) := ⟨_, rfl⟩
    replace H : (if (strOfNums y198).size + a0.size ≤ 9223372036854775807 then (some ((strOfNums y198) ++ a0)) else (none)) = some r := by first | (rw [hy198]; with_reducible exact H) | (have H2_ := (Option.bind_some _ _).symm.trans H; rw [hy198]; with_reducible exact H2_) | (have H2_ := (Option.bind_some _ _).symm.trans H; with_reducible exact H2_) | with_reducible exact H | (rw [hy198]; exact H) | exact H
    have Ny198 := Aside0.mk hy198
    clear hy198
    by_cases c3 : (strOfNums y198).size + a0.size ≤ 9223372036854775807
    · rw [if_pos c3] at H
      have c3b0 := eq_true c3
      have c3b1 : decide ((strOfNums y198).size + a0.size ≤ 9223372036854775807) = true := decide_eq_true c3
      try have c3b2 : (9223372036854775807 < (strOfNums y198).size + a0.size) = False := eq_false (Nat.not_lt.2 c3)
      obtain rfl := Option.some.inj H
      go_enter Try.func66, Try.ntmps66
      go_wp2_with (first | ((with_reducible refine gate_dst (N := 14) rfl ?_); refine Kd.R_lit (Kd.int .u8) _ 5 ?hg (N := 14) ?hd (xs := ([((a0.size : Int) / 256) % 256, (a0.size : Int) % 256] : List Int)) (inner := [.int .u8 (((a0.size : Int) / 256) % 256), .int .u8 ((a0.size : Int) % 256)]) (ok := fun _ => True) (okp := fun _ => True) ?hr ?hp (fun _ hk => hk) trivial (Below.refl _ _) (Nat.le_refl _) (by simp) ?_; (case hd => rfl); (case hg => rfl); (case hr => first | (go_simp; done) | (go_simp; rfl)); (case hp => exact (Reps.one (show Kd.M (Kd.int .u8) _ _ _ (((a0.size : Int) / 256) % 256) [.int .u8 (((a0.size : Int) / 256) % 256)] from rfl) (Reps.one (show Kd.M (Kd.int .u8) _ _ _ ((a0.size : Int) % 256) [.int .u8 ((a0.size : Int) % 256)] from rfl) (Reps.none _ _)))); intro v199 w4 ho5 hb hg_ hnew_; clear hg_ hnew_; (first | rw [← Ny198.out] at ho5 | (simp only [Int.reduceToNat] at ho5; rw [← Ny198.out] at ho5)); have n0_ := Aside0.mk (Kd.R_lower ho5 (below_size (by repeat (first | (with_reducible first | exact HB.out | apply below_alloc | apply pw_below_drewN | apply below_drew1) | exact HB.out)))); have n1_ := Aside0.mk (below_step (by repeat (first | (with_reducible first | exact HB.out | apply below_alloc | apply pw_below_drewN | apply below_drew1) | exact HB.out)) hb); clear HB; have HO200 := n0_; have HB := n1_; clear n0_ n1_; clear hb ho5; have hcv6 := own_string (P := Try.prog) Try.underlying87 Try.underlying5 Try.underlying9 (Kd.own_of_R HO200.out)))
      go_ret
      exact ⟨by first | rfl | (simp [errW_none, errW_some] <;> rfl) | (simp [*, errW_none, errW_some] <;> rfl), by repeat (first | (with_reducible first | exact HB.out | apply below_alloc | apply pw_below_drewN | apply below_drew1) | exact HB.out)⟩
    · rw [if_neg c3] at H
      exact absurd H (by simp)

/-! ### hopperref04_Encode: function 49 -/
def hopperref04_Encode.l0 : Nat → List Int → ByteArray → Int → Int → Int → Int → Int → Int → ByteArray → Option (ByteArray × Bool)
 | 0, _, _, _, _, _, _, _, _, _ => none
 | k + 1, x4, x5, x6, x202000, x202001, x202002, x202003, x202004, x202005 => if x6 < (x4.length : Int) then (if 0 ≤ x6 then ((hopperref03_Number.f k (rd x4 x6)).bind fun t207 => (if x5.size + t207.size ≤ 9223372036854775807 then (hopperref04_Encode.l0 k x4 (x5 ++ t207) (wrap64 (x6 + 1)) x202000 x202001 x202002 x202003 x202004 x202005) else (none))) else (none)) else ((hopperref03_Text.f x202005).bind fun t208 => (if x5.size + t208.size ≤ 9223372036854775807 then (some (x5 ++ t208, true)) else (none)))
def hopperref04_Encode.f (k : Nat) (a0_0 : Int) (a0_1 : Int) (a0_2 : Int) (a0_3 : Int) (a0_4 : Int) (a0_5 : ByteArray) : Option (ByteArray × Bool) := (hopperref04_Check.f a0_0 a0_1 a0_2 a0_3 a0_4 a0_5).bind fun t202 => (if t202 = true then (hopperref04_Encode.l0 k (([a0_0, a0_1, a0_2, a0_3, a0_4] : List Int)) (⟨#[1]⟩ : ByteArray) 0 a0_0 a0_1 a0_2 a0_3 a0_4 a0_5) else (some ((⟨#[]⟩ : ByteArray), false)))
theorem hopperref04_Encode.mono_l : ∀ k, (∀ y0 y1 y2 y3 y4 y5 y6 y7 y8, LeO (hopperref04_Encode.l0 k y0 y1 y2 y3 y4 y5 y6 y7 y8) (hopperref04_Encode.l0 (k + 1) y0 y1 y2 y3 y4 y5 y6 y7 y8))
 | 0 => fun _ _ _ _ _ _ _ _ _ r h => by simp [hopperref04_Encode.l0] at h
 | k + 1 => by
  have ih0 := hopperref04_Encode.mono_l k
  · intro y0 y1 y2 y3 y4 y5 y6 y7 y8
    unfold hopperref04_Encode.l0
    repeat' first
    | (with_reducible exact ih0 _ _ _ _ _ _ _ _ _)
    | (with_reducible exact hopperref03_Number.mono _ _)
    | (with_reducible exact LeO.refl _)
    | (with_reducible exact LeO.none _)
    | (with_reducible refine LeO.ite ?_ ?_)
    | (with_reducible refine LeO.bind ?_ (fun _ => ?_))
    | exact ih0 _ _ _ _ _ _ _ _ _
    | exact hopperref03_Number.mono _ _
    | exact LeO.none _
    | refine LeO.ite ?_ ?_
    | refine LeO.bind ?_ (fun _ => ?_)
theorem hopperref04_Encode.mono : ∀ a0 a1 a2 a3 a4 a5 k, LeO (hopperref04_Encode.f k a0 a1 a2 a3 a4 a5) (hopperref04_Encode.f (k + 1) a0 a1 a2 a3 a4 a5) := by
 intro a0 a1 a2 a3 a4 a5 k
 have ih0 := hopperref04_Encode.mono_l k
 unfold hopperref04_Encode.f
 repeat' first
  | (with_reducible exact ih0 _ _ _ _ _ _ _ _ _)
  | (with_reducible exact hopperref03_Number.mono _ _)
  | (with_reducible exact LeO.refl _)
  | (with_reducible exact LeO.none _)
  | (with_reducible refine LeO.ite ?_ ?_)
  | (with_reducible refine LeO.bind ?_ (fun _ => ?_))
  | exact ih0 _ _ _ _ _ _ _ _ _
  | exact hopperref03_Number.mono _ _
  | exact LeO.none _
  | refine LeO.ite ?_ ?_
  | refine LeO.bind ?_ (fun _ => ?_)
set_option maxHeartbeats 8000000 in
set_option maxRecDepth 100000 in
theorem hopperref04_Encode.calls (k : Nat) (a0_0 : Int) (a0_1 : Int) (a0_2 : Int) (a0_3 : Int) (a0_4 : Int) (a0_5 : ByteArray) (r1 : ByteArray) (r2 : Bool) (w : World) (h : hopperref04_Encode.f k a0_0 a0_1 a0_2 a0_3 a0_4 a0_5 = some (r1, r2)) :
 Calls Try.prog 49 #[.agg #[.int .i64 a0_0, .int .i64 a0_1, .int .i64 a0_2, .int .i64 a0_3, .int .i64 a0_4, .string a0_5]] w fun e w' => e = .returned (.tuple #[.string r1, .bool r2]) ∧ Below w.heap.size w w' := by
 have hu32 := Try.underlying32
 have HB := A_ (Below.refl w.heap.size w)
 have H : ((hopperref04_Check.f a0_0 a0_1 a0_2 a0_3 a0_4 a0_5).bind fun t202 => (if t202 = true then (hopperref04_Encode.l0 k (([a0_0, a0_1, a0_2, a0_3, a0_4] : List Int)) (⟨#[1]⟩ : ByteArray) 0 a0_0 a0_1 a0_2 a0_3 a0_4 a0_5) else (some ((⟨#[]⟩ : ByteArray), false)))) = some (r1, r2) := h
 clear h
 replace H := Option.bind_eq_some_iff.mp H
 obtain ⟨t202, A20, H⟩ := H
 replace H : (if t202 = true then (hopperref04_Encode.l0 k (([a0_0, a0_1, a0_2, a0_3, a0_4] : List Int)) (⟨#[1]⟩ : ByteArray) 0 a0_0 a0_1 a0_2 a0_3 a0_4 a0_5) else (some ((⟨#[]⟩ : ByteArray), false))) = some (r1, r2) := H
 have A2 := A_ A20
 clear A20
 by_cases c3 : t202 = true
 · subst c3
   have H1 : (hopperref04_Encode.l0 k (([a0_0, a0_1, a0_2, a0_3, a0_4] : List Int)) (⟨#[1]⟩ : ByteArray) 0 a0_0 a0_1 a0_2 a0_3 a0_4 a0_5) = some (r1, r2) := by rw [if_pos rfl] at H; exact H
   clear H
   have H := H1
   clear H1
   obtain ⟨y203, hy203⟩ : ∃ y_ : List Int, y_ = (([a0_0, a0_1, a0_2, a0_3, a0_4] : List Int)) := ⟨_, rfl⟩
   replace H : (hopperref04_Encode.l0 k y203 (⟨#[1]⟩ : ByteArray) 0 a0_0 a0_1 a0_2 a0_3 a0_4 a0_5) = some (r1, r2) := by first | (rw [hy203]; with_reducible exact H) | (have H2_ := (Option.bind_some _ _).symm.trans H; rw [hy203]; with_reducible exact H2_) | (have H2_ := (Option.bind_some _ _).symm.trans H; with_reducible exact H2_) | with_reducible exact H | (rw [hy203]; exact H) | exact H
   have Ny203 := A_ hy203
   clear hy203
   have H' := A_ H
   clear H
   go_enter Try.func49, Try.ntmps49
   go_wp2_with (first | ((with_reducible refine gate_dst (N := 1) rfl ?_); refine box_event ?hg (N := 1) ?hd (cs := #[.int .i64 a0_0, .int .i64 a0_1, .int .i64 a0_2, .int .i64 a0_3, .int .i64 a0_4, .string a0_5]) (t := 32) ?hr ?_; (case hd => rfl); (case hg => rfl); (case hr => first | (go_simp; done) | (go_simp; rfl)); intro gb201 hg w4 hbox hb; have n0_ := A_ (below_step bw_ hb); have n1_ := A_ (hbox); have n2_ := A_ (gz_ (w := w) hg); have n3_ := A_ (gz_ (w := w) hg); replace HB := n0_; have BK201 := n1_; have GW201 := n2_; have GE201 := n3_; clear n0_ n1_ n2_ n3_; clear hb hbox hg; have hcz5_0 : w4.cell? ⟨gb201, 0, none⟩ = some (.int .i64 a0_0) := e_ BK201 0; have hcz5_1 : w4.cell? ⟨gb201, 1, none⟩ = some (.int .i64 a0_1) := e_ BK201 1; have hcz5_2 : w4.cell? ⟨gb201, 2, none⟩ = some (.int .i64 a0_2) := e_ BK201 2; have hcz5_3 : w4.cell? ⟨gb201, 3, none⟩ = some (.int .i64 a0_3) := e_ BK201 3; have hcz5_4 : w4.cell? ⟨gb201, 4, none⟩ = some (.int .i64 a0_4) := e_ BK201 4; have hcz5_5 : w4.cell? ⟨gb201, 5, none⟩ = some (.string a0_5) := e_ BK201 5; obtain ⟨hfz5_0, hfz5_1, hfz5_2, hfz5_3, hfz5_4, hfz5_5⟩ := z6_ BK201) | ((with_reducible refine gate_callee (f := 64) rfl ?_); refine goesL_ (some 8) rfl rfl Try.func64 (by kernel_rfl) rfl #[.agg #[.int .i64 a0_0, .int .i64 a0_1, .int .i64 a0_2, .int .i64 a0_3, .int .i64 a0_4, .string a0_5]] rfl (by (try simp only [m0_, m1_, m2_]); first | done | rfl) ?_; (with_reducible refine (hopperref04_Check.calls a0_0 a0_1 a0_2 a0_3 a0_4 a0_5 true _ A2.out).mono ?_); rintro e w6 ⟨rfl, hb⟩; refine ⟨_, rfl, ?_⟩; replace BK201 := A_ (kb_ BK201 hb); replace HB := A_ (below_step bw_ hb); (try clear hb); (try clear hb2); (try clear hk); (try clear hi); have hcz7_0 : w6.cell? ⟨gb201, 0, none⟩ = some (.int .i64 a0_0) := e_ BK201 0; have hcz7_1 : w6.cell? ⟨gb201, 1, none⟩ = some (.int .i64 a0_1) := e_ BK201 1; have hcz7_2 : w6.cell? ⟨gb201, 2, none⟩ = some (.int .i64 a0_2) := e_ BK201 2; have hcz7_3 : w6.cell? ⟨gb201, 3, none⟩ = some (.int .i64 a0_3) := e_ BK201 3; have hcz7_4 : w6.cell? ⟨gb201, 4, none⟩ = some (.int .i64 a0_4) := e_ BK201 4; have hcz7_5 : w6.cell? ⟨gb201, 5, none⟩ = some (.string a0_5) := e_ BK201 5; obtain ⟨hfz7_0, hfz7_1, hfz7_2, hfz7_3, hfz7_4, hfz7_5⟩ := z6_ BK201) | ((with_reducible refine gate_dst (N := 20) rfl ?_); refine Kd.R_lit (Kd.int .i64) _ 3 ?hg (N := 20) ?hd (xs := ([a0_0, a0_1, a0_2, a0_3, a0_4] : List Int)) (inner := [.int .i64 a0_0, .int .i64 a0_1, .int .i64 a0_2, .int .i64 a0_3, .int .i64 a0_4]) (ok := fun _ => True) (okp := fun _ => True) ?hr ?hp (fun _ hk => hk) trivial (Below.refl _ _) (Nat.le_refl _) (by simp) ?_; (case hd => rfl); (case hg => rfl); (case hr => first | (go_simp; done) | (go_simp; rfl)); (case hp => exact (Reps.one (show Kd.M (Kd.int .i64) _ _ _ a0_0 [.int .i64 a0_0] from rfl) (Reps.one (show Kd.M (Kd.int .i64) _ _ _ a0_1 [.int .i64 a0_1] from rfl) (Reps.one (show Kd.M (Kd.int .i64) _ _ _ a0_2 [.int .i64 a0_2] from rfl) (Reps.one (show Kd.M (Kd.int .i64) _ _ _ a0_3 [.int .i64 a0_3] from rfl) (Reps.one (show Kd.M (Kd.int .i64) _ _ _ a0_4 [.int .i64 a0_4] from rfl) (Reps.none _ _))))))); intro v204 w8 ho9 hb hg_ hnew_; clear hg_ hnew_; (first | rw [← Ny203.out] at ho9 | (simp only [Int.reduceToNat] at ho9; rw [← Ny203.out] at ho9)); have HO205 := A_ (Kd.R_lower ho9 (below_size bw_)); replace BK201 := A_ (kb_ BK201 hb); replace HB := A_ (below_step bw_ hb); clear hb ho9))
   go_loopg [5, 6] k (fun kq v5 v6 w' => ∃ (x5_1 : ByteArray) (x6_1 : Int), v5 = .string x5_1 ∧ v6 = .int .i64 x6_1 ∧ Aside0 (hopperref04_Encode.l0 kq y203 x5_1 x6_1 a0_0 a0_1 a0_2 a0_3 a0_4 a0_5 = some (r1, r2)) ∧ Aside0 (kq ≤ k) ∧ Aside0 (Kd.R (Kd.int .i64) 3 w' w.heap.size (fun _ => True) v204 y203) ∧ Aside0 (w'.heap[gb201]? = some (.cells #[.int .i64 a0_0, .int .i64 a0_1, .int .i64 a0_2, .int .i64 a0_3, .int .i64 a0_4, .string a0_5] 32 (0, 0))) ∧ Aside0 (Below w.heap.size w w'))
   case atStart => exact ⟨((⟨#[1]⟩ : ByteArray)), (0), (by first | rfl | (simp; done) | (simp [*]; done)), (by first | rfl | (simp; done) | (simp [*]; done)), H', ⟨Nat.le_refl _⟩, ⟨by (with_reducible repeat (first | apply ra_ | apply rn_ | apply rd_)); exact HO205.out⟩, ⟨bk_⟩, ⟨by repeat (first | (with_reducible first | exact HB.out | apply wa_ | apply wn_ | apply wd_ | refine ws_ ?_ GE201.out) | exact HB.out)⟩⟩
   case round =>
    clear H'; (try clear p2); (try clear c3); (try clear c4); (try clear c6); (try clear hcz5_0 hcz5_1 hcz5_2 hcz5_3 hcz5_4 hcz5_5); (try clear hcz7_0 hcz7_1 hcz7_2 hcz7_3 hcz7_4 hcz7_5); (try clear hfz5_0 hfz5_1 hfz5_2 hfz5_3 hfz5_4 hfz5_5); (try clear hfz7_0 hfz7_1 hfz7_2 hfz7_3 hfz7_4 hfz7_5)
    obtain ⟨x5_1, x6_1, rfl, rfl, HA, HK1, HO_4, BK201, HB⟩ := hrel
    cases gk with
    | zero => exact absurd HA.out (by simp [hopperref04_Encode.l0])
    | succ k1 =>
     have H := HA.out
     clear HA
     simp only [hopperref04_Encode.l0] at H
     by_cases c10 : x6_1 < (y203.length : Int)
     · rw [if_pos c10] at H
       have c10b0 : decide (x6_1 < (y203.length : Int)) = true := decide_eq_true c10
       clear c10
       by_cases c11 : 0 ≤ x6_1
       rotate_left
       · rw [if_neg c11] at H
         exact absurd H (by simp)
       rw [if_pos c11] at H
       have c11b0 : decide (0 ≤ x6_1) = true := decide_eq_true c11
       clear c11
       replace H := Option.bind_eq_some_iff.mp H
       obtain ⟨t207, A120, H⟩ := H
       replace H : (if x5_1.size + t207.size ≤ 9223372036854775807 then (hopperref04_Encode.l0 k1 y203 (x5_1 ++ t207) (wrap64 (x6_1 + 1)) a0_0 a0_1 a0_2 a0_3 a0_4 a0_5) else (none)) = some (r1, r2) := H
       have A12 := A_ A120
       clear A120
       by_cases c13 : x5_1.size + t207.size ≤ 9223372036854775807
       rotate_left
       · rw [if_neg c13] at H
         exact absurd H (by simp)
       rw [if_pos c13] at H
       have c13b0 := eq_true c13
       have c13b1 : decide (x5_1.size + t207.size ≤ 9223372036854775807) = true := decide_eq_true c13
       try have c13b2 : (9223372036854775807 < x5_1.size + t207.size) = False := eq_false (Nat.not_lt.2 c13)
       have H' := A_ H
       clear H
       obtain ⟨Ao14, co14, eo14⟩ := Kd.R_slice HO_4.out
       subst eo14
       have p206 : 0 ≤ (x6_1 : Int) := of_decide_eq_true (by first | (with_reducible assumption) | assumption)
       have q206 : x6_1 < (y203.length : Int) := of_decide_eq_true (by first | (with_reducible assumption) | assumption)
       obtain ⟨ad206, e206, hx206_0⟩ := Kd.at_int (Kd.R_reads' HO_4.out).2.2 x6_1 p206 q206
       cases e206
       replace p206 := eq_true p206
       replace q206 := eq_true q206
       go_wp2_with (first | ((with_reducible refine gate_callee (f := 65) rfl ?_); refine goesL_ (some 32) rfl rfl Try.func65 (by kernel_rfl) rfl #[.int .i64 (rd y203 x6_1)] rfl (by (try simp only [m0_, m1_, m2_]); first | done | rfl) ?_; (with_reducible refine (hopperref03_Number.calls k1 (rd y203 x6_1) t207 _ A12.out).mono ?_); rintro e w15 ⟨rfl, hb⟩; refine ⟨_, rfl, ?_⟩; replace HO_4 := A_ (Kd.R_below (pr_ HO_4.out) hb); replace BK201 := A_ (kb_ BK201 hb); replace HB := A_ (below_step bw_ hb); (try clear hb); (try clear hb2); (try clear hk); (try clear hi)))
       go_roundg k1
       case measure => have := HK1.out; omega
       case rel => exact ⟨(x5_1 ++ t207), (wrap64 (x6_1 + 1)), (by first | rfl | (simp; done) | (simp [*]; done)), (by first | rfl | (simp; done) | (simp [*]; done)), H', ⟨by have := HK1.out; omega⟩, ⟨by (with_reducible repeat (first | apply ra_ | apply rn_ | apply rd_)); exact HO_4.out⟩, ⟨bk_⟩, ⟨by repeat (first | (with_reducible first | exact HB.out | apply wa_ | apply wn_ | apply wd_ | refine ws_ ?_ GE201.out) | exact HB.out)⟩⟩
     · rw [if_neg c10] at H
       have c10b0 : decide (x6_1 < (y203.length : Int)) = false := decide_eq_false c10
       clear c10
       replace H := Option.bind_eq_some_iff.mp H
       obtain ⟨t208, A160, H⟩ := H
       replace H : (if x5_1.size + t208.size ≤ 9223372036854775807 then (some (x5_1 ++ t208, true)) else (none)) = some (r1, r2) := H
       have A16 := A_ A160
       clear A160
       by_cases c17 : x5_1.size + t208.size ≤ 9223372036854775807
       rotate_left
       · rw [if_neg c17] at H
         exact absurd H (by simp)
       rw [if_pos c17] at H
       have c17b0 := eq_true c17
       have c17b1 : decide (x5_1.size + t208.size ≤ 9223372036854775807) = true := decide_eq_true c17
       try have c17b2 : (9223372036854775807 < x5_1.size + t208.size) = False := eq_false (Nat.not_lt.2 c17)
       simp only [Option.some.injEq, Prod.mk.injEq] at H
       obtain ⟨rfl, rfl⟩ := H
       obtain ⟨Ao18, co18, eo18⟩ := Kd.R_slice HO_4.out
       subst eo18
       have hcz19_0 : wr.cell? ⟨gb201, 0, none⟩ = some (.int .i64 a0_0) := e_ BK201 0; have hcz19_1 : wr.cell? ⟨gb201, 1, none⟩ = some (.int .i64 a0_1) := e_ BK201 1; have hcz19_2 : wr.cell? ⟨gb201, 2, none⟩ = some (.int .i64 a0_2) := e_ BK201 2; have hcz19_3 : wr.cell? ⟨gb201, 3, none⟩ = some (.int .i64 a0_3) := e_ BK201 3; have hcz19_4 : wr.cell? ⟨gb201, 4, none⟩ = some (.int .i64 a0_4) := e_ BK201 4; have hcz19_5 : wr.cell? ⟨gb201, 5, none⟩ = some (.string a0_5) := e_ BK201 5; obtain ⟨hfz19_0, hfz19_1, hfz19_2, hfz19_3, hfz19_4, hfz19_5⟩ := z6_ BK201
       go_wp2_with (first | ((with_reducible refine gate_callee (f := 66) rfl ?_); refine goesL_ (some 37) rfl rfl Try.func66 (by kernel_rfl) rfl #[.string a0_5] rfl (by (try simp only [m0_, m1_, m2_]); first | done | rfl) ?_; (with_reducible refine (hopperref03_Text.calls a0_5 t208 _ A16.out).mono ?_); rintro e w20 ⟨rfl, hb⟩; refine ⟨_, rfl, ?_⟩; replace HO_4 := A_ (Kd.R_below (pr_ HO_4.out) hb); replace BK201 := A_ (kb_ BK201 hb); replace HB := A_ (below_step bw_ hb); (try clear hb); (try clear hb2); (try clear hk); (try clear hi)))
       go_ret2
       exact ⟨by first | rfl | (simp [errW_none, errW_some] <;> rfl) | (simp [*, errW_none, errW_some] <;> rfl), by repeat (first | (with_reducible first | exact HB.out | apply wa_ | apply wn_ | apply wd_ | refine ws_ ?_ GE201.out) | exact HB.out)⟩
 · replace c3 := Bool.eq_false_iff.mpr c3
   subst c3
   have H1 : (some ((⟨#[]⟩ : ByteArray), false)) = some (r1, r2) := by rw [if_neg (show ¬ (false = true) by decide)] at H; exact H
   clear H
   have H := H1
   clear H1
   simp only [Option.some.injEq, Prod.mk.injEq] at H
   obtain ⟨rfl, rfl⟩ := H
   go_enter Try.func49, Try.ntmps49
   go_wp2_with (first | ((with_reducible refine gate_dst (N := 1) rfl ?_); refine box_event ?hg (N := 1) ?hd (cs := #[.int .i64 a0_0, .int .i64 a0_1, .int .i64 a0_2, .int .i64 a0_3, .int .i64 a0_4, .string a0_5]) (t := 32) ?hr ?_; (case hd => rfl); (case hg => rfl); (case hr => first | (go_simp; done) | (go_simp; rfl)); intro gb201 hg w21 hbox hb; have n0_ := A_ (below_step bw_ hb); have n1_ := A_ (hbox); have n2_ := A_ (gz_ (w := w) hg); have n3_ := A_ (gz_ (w := w) hg); replace HB := n0_; have BK201 := n1_; have GW201 := n2_; have GE201 := n3_; clear n0_ n1_ n2_ n3_; clear hb hbox hg; have hcz22_0 : w21.cell? ⟨gb201, 0, none⟩ = some (.int .i64 a0_0) := e_ BK201 0; have hcz22_1 : w21.cell? ⟨gb201, 1, none⟩ = some (.int .i64 a0_1) := e_ BK201 1; have hcz22_2 : w21.cell? ⟨gb201, 2, none⟩ = some (.int .i64 a0_2) := e_ BK201 2; have hcz22_3 : w21.cell? ⟨gb201, 3, none⟩ = some (.int .i64 a0_3) := e_ BK201 3; have hcz22_4 : w21.cell? ⟨gb201, 4, none⟩ = some (.int .i64 a0_4) := e_ BK201 4; have hcz22_5 : w21.cell? ⟨gb201, 5, none⟩ = some (.string a0_5) := e_ BK201 5; obtain ⟨hfz22_0, hfz22_1, hfz22_2, hfz22_3, hfz22_4, hfz22_5⟩ := z6_ BK201) | ((with_reducible refine gate_callee (f := 64) rfl ?_); refine goesL_ (some 8) rfl rfl Try.func64 (by kernel_rfl) rfl #[.agg #[.int .i64 a0_0, .int .i64 a0_1, .int .i64 a0_2, .int .i64 a0_3, .int .i64 a0_4, .string a0_5]] rfl (by (try simp only [m0_, m1_, m2_]); first | done | rfl) ?_; (with_reducible refine (hopperref04_Check.calls a0_0 a0_1 a0_2 a0_3 a0_4 a0_5 false _ A2.out).mono ?_); rintro e w23 ⟨rfl, hb⟩; refine ⟨_, rfl, ?_⟩; replace BK201 := A_ (kb_ BK201 hb); replace HB := A_ (below_step bw_ hb); (try clear hb); (try clear hb2); (try clear hk); (try clear hi)))
   go_ret2
   exact ⟨by first | rfl | (simp [errW_none, errW_some] <;> rfl) | (simp [*, errW_none, errW_some] <;> rfl), by repeat (first | (with_reducible first | exact HB.out | apply wa_ | apply wn_ | apply wd_ | refine ws_ ?_ GE201.out) | exact HB.out)⟩

/-! ### hopperref02_Text: function 50, by hand -/
-- HAND rounds=0 making=0
/-- The last k digits of h. -/
def hexTail (h k : Nat) : ByteArray := strOfNums ((hexL h).drop (16 - k))
def hexD : ByteArray := { data := #[48, 49, 50, 51, 52, 53, 54, 55, 56, 57, 97, 98, 99, 100, 101, 102] }
theorem hexTail_step (h k : Nat) (hk : k < 16) : hexTail h (k + 1) = hexD.extract (h / 16 ^ k % 16) (h / 16 ^ k % 16 + 1) ++ hexTail h k := by
  have e : (hexL h).drop (16 - (k + 1)) = hexC (h / 16 ^ k % 16) :: (hexL h).drop (16 - k) := by
    have hl : 16 - (k + 1) < (hexL h).length := by simp [hexL]; omega
    rw [List.drop_eq_getElem_cons hl, show 16 - (k + 1) + 1 = 16 - k by omega]
    congr 1
    simp only [hexL, List.getElem_map, List.getElem_range]
    rw [show 15 - (16 - (k + 1)) = k by omega]
  have hd : ∀ d, d < 16 → hexD.extract d (d + 1) = strOfNums [hexC d] := by decide
  unfold hexTail
  rw [e, hd _ (Nat.mod_lt _ (by omega))]
  rfl
theorem hexTail_size (h k : Nat) : (hexTail h k).size ≤ 16 := by
  have e : (hexTail h k).size = ((hexL h).drop (16 - k)).length := by simp [hexTail, strOfNums, ByteArray.size]
  rw [e, List.length_drop]; simp [hexL]
def hopperref02_Text.f (a0 : Int) : Option ByteArray := if 0 ≤ a0 then (if a0 < 18446744073709551616 then some (strOfNums (hexL a0.toNat)) else none) else none
set_option maxHeartbeats 1000000 in
set_option maxRecDepth 100000 in
theorem hopperref02_Text.calls (a0 : Int) (r : ByteArray) (w : World) (h : hopperref02_Text.f a0 = some r) :
    Calls Try.prog 50 #[.int .u64 a0] w fun e w' => e = .returned (.string r) ∧ Drawn0 w w' := by
  unfold hopperref02_Text.f at h
  by_cases h0 : 0 ≤ a0
  · rw [if_pos h0] at h
    by_cases h1 : a0 < 18446744073709551616
    · rw [if_pos h1] at h
      obtain ⟨x, rfl⟩ := Int.eq_ofNat_of_zero_le h0
      have HR := Aside0.mk (Option.some.inj h)
      have H1 := Aside0.mk h1
      clear h h0 h1
      rw [Int.toNat_natCast] at HR
      go_enter Try.func50, Try.ntmps50
      go_wp2
      go_loop [0, 4, 5] (fun v0 v4 v5 => ∃ k y : Nat, ∃ t : ByteArray, k ≤ 16 ∧ y = x / 16 ^ k ∧ t = hexTail x k ∧ t.size ≤ 100 ∧ v0 = .int .u64 (y : Int) ∧ v4 = .string t ∧ v5 = .int .i64 (k : Int)) (fun _ _ i => 16 - (intOf i).toNat)
      case atStart => exact ⟨0, x, ⟨#[]⟩, by omega, by simp, rfl, by decide, rfl, rfl, rfl⟩
      case round =>
        obtain ⟨k, y, t, hk, hy, ht, hts, rfl, rfl, rfl⟩ := hrel
        have HY := Aside0.mk hy
        have HT := Aside0.mk ht
        clear hy ht
        have hsl : ∀ W : World, (Instr.slice 9 (.string { data := #[48, 49, 50, 51, 52, 53, 54, 55, 56, 57, 97, 98, 99, 100, 101, 102] }) (some (.int .i64 ((y : Int) % 16))) (some (.int .i64 ((y : Int) % 16 + 1))) none).run Try.prog W = .ok (.string (hexD.extract (y % 16) (y % 16 + 1))) W := by
          intro W
          have e := run_slice_string (P := Try.prog) (w := W) 9 hexD .i64 .i64 ((y : Int) % 16) ((y : Int) % 16 + 1) Try.underlying9 (by omega) (by omega) (by have : hexD.size = 16 := rfl; omega)
          rw [show ((y : Int) % 16 + 1).toNat = y % 16 + 1 by omega, show ((y : Int) % 16).toNat = y % 16 by omega] at e
          exact e
        have hz : (hexD.extract (y % 16) (y % 16 + 1)).size ≤ 1 := by rw [ByteArray.size_extract]; omega
        by_cases hlt : k < 16
        · go_wp2
          have h64 : (y : Int) < 18446744073709551616 := by
            have h2 : y ≤ x := by rw [HY.out]; exact Nat.div_le_self _ _
            have := H1.out; omega
          refine ⟨⟨k + 1, y / 16, _, by omega, ?_, (hexTail_step x k hlt).symm, ?_, ?_, ?_, rfl⟩, by simp [intOf]; omega⟩
          · rw [HY.out, Nat.div_div_eq_div_mul, ← Nat.pow_succ]
          · rw [← hexTail_step x k hlt]; exact Nat.le_trans (hexTail_size _ _) (by omega)
          · have e : IntKind.u64.wrap ((y : Int) / 16) = ((y / 16 : Nat) : Int) := by
              rw [IntKind.wrap_u64]; omega
            rw [e]
          · rw [HY.out, HT.out]
        · go_wp2
          go_ret
          refine ⟨?_, Drawn0.refl _⟩
          show Ending.returned (.string t) = _
          have e : k = 16 := by omega
          rw [HT.out, ← HR.out, e]
          rfl
    · rw [if_neg h1] at h; cases h
  · rw [if_neg h0] at h; cases h


/-! ### hopperref02_Roll: function 67 -/
def hopperref02_Roll.l0 : Nat → Int → ByteArray → Int → Option (Int)
  | 0, _, _, _ => none
  | k + 1, x0, x1, x5 => if x5 < (x1.size : Int) then (if 0 ≤ x5 then (hopperref02_Roll.l0 k (IntKind.u64.wrap ((Go.bits .xor .u64 x0 (IntKind.u64.wrap (bt x1 x5))) * 1099511628211)) x1 (wrap64 (x5 + 1))) else (none)) else (some x0)
def hopperref02_Roll.f (k : Nat) (a0 : Int) (a1 : ByteArray) : Option (Int) := hopperref02_Roll.l0 k a0 a1 0
theorem hopperref02_Roll.mono_l : ∀ k, (∀ y0 y1 y2, LeO (hopperref02_Roll.l0 k y0 y1 y2) (hopperref02_Roll.l0 (k + 1) y0 y1 y2))
  | 0 => fun _ _ _ r h => by simp [hopperref02_Roll.l0] at h
  | k + 1 => by
    have ih0 := hopperref02_Roll.mono_l k
    · intro y0 y1 y2
      unfold hopperref02_Roll.l0
      repeat' first
      | (with_reducible exact ih0 _ _ _)
      | (with_reducible exact LeO.refl _)
      | (with_reducible exact LeO.none _)
      | (with_reducible refine LeO.ite ?_ ?_)
      | (with_reducible refine LeO.bind ?_ (fun _ => ?_))
      | exact ih0 _ _ _
      | exact LeO.none _
      | refine LeO.ite ?_ ?_
      | refine LeO.bind ?_ (fun _ => ?_)
theorem hopperref02_Roll.mono : ∀ a0 a1 k, LeO (hopperref02_Roll.f k a0 a1) (hopperref02_Roll.f (k + 1) a0 a1) := by
  intro a0 a1 k
  have ih0 := hopperref02_Roll.mono_l k
  unfold hopperref02_Roll.f
  repeat' first
      | (with_reducible exact ih0 _ _ _)
      | (with_reducible exact LeO.refl _)
      | (with_reducible exact LeO.none _)
      | (with_reducible refine LeO.ite ?_ ?_)
      | (with_reducible refine LeO.bind ?_ (fun _ => ?_))
      | exact ih0 _ _ _
      | exact LeO.none _
      | refine LeO.ite ?_ ?_
      | refine LeO.bind ?_ (fun _ => ?_)
set_option maxHeartbeats 8000000 in
set_option maxRecDepth 100000 in
theorem hopperref02_Roll.calls (k : Nat) (a0 : Int) (a1 : ByteArray) (r : Int) (w : World) (h : hopperref02_Roll.f k a0 a1 = some r) :
    Calls Try.prog 67 #[.int .u64 a0, .string a1] w fun e w' => e = .returned (.int .u64 r) ∧ Drawn0 w w' := by
  have H : (hopperref02_Roll.l0 k a0 a1 0) = some r := h
  clear h
  have H' := Aside0.mk H
  clear H
  go_enter Try.func67, Try.ntmps67
  go_wp2
  go_loopg [0, 5] k (fun kq v0 v5 w' => ∃ (x0_1 : Int) (x5_1 : Int), v0 = .int .u64 x0_1 ∧ v5 = .int .i64 x5_1 ∧ Aside0 (hopperref02_Roll.l0 kq x0_1 a1 x5_1 = some r) ∧ Aside0 (kq ≤ k) ∧ Drawn0 w w')
  case atStart => exact ⟨(a0), (0), (by first | rfl | (simp; done) | (simp [*]; done)), (by first | rfl | (simp; done) | (simp [*]; done)), H', ⟨Nat.le_refl _⟩, by repeat (first | exact Drawn0.refl _ | apply Drawn0.step)⟩
  case round =>
    clear H'
    try clear p2
    obtain ⟨x0_1, x5_1, rfl, rfl, HA, HK1, ⟨m1, rfl⟩⟩ := hrel
    cases gk with
    | zero => exact absurd HA.out (by simp [hopperref02_Roll.l0])
    | succ k1 =>
      have H := HA.out
      clear HA
      simp only [hopperref02_Roll.l0] at H
      by_cases c3 : x5_1 < (a1.size : Int)
      · rw [if_pos c3] at H
        have c3b0 : decide (x5_1 < (a1.size : Int)) = true := decide_eq_true c3
        clear c3
        by_cases c4 : 0 ≤ x5_1
        · rw [if_pos c4] at H
          have c4b0 : decide (0 ≤ x5_1) = true := decide_eq_true c4
          clear c4
          have H' := Aside0.mk H
          clear H
          have p5 : 0 ≤ (x5_1 : Int) := of_decide_eq_true (by first | (with_reducible assumption) | assumption)
          have q5 : x5_1 < (a1.size : Int) := of_decide_eq_true (by first | (with_reducible assumption) | assumption)
          have hx5 := bt_at a1 x5_1
          replace p5 := eq_true p5
          replace q5 := eq_true q5
          go_wp2
          go_roundg k1
          case measure => have := HK1.out; omega
          case rel => exact ⟨(IntKind.u64.wrap ((Go.bits .xor .u64 x0_1 (IntKind.u64.wrap (bt a1 x5_1))) * 1099511628211)), (wrap64 (x5_1 + 1)), (by first | rfl | (simp; done) | (simp [*]; done)), (by first | rfl | (simp; done) | (simp [*]; done)), H', ⟨by have := HK1.out; omega⟩, by repeat (first | exact Drawn0.refl _ | apply Drawn0.step)⟩
        · rw [if_neg c4] at H
          exact absurd H (by simp)
      · rw [if_neg c3] at H
        have c3b0 : decide (x5_1 < (a1.size : Int)) = false := decide_eq_false c3
        clear c3
        obtain rfl := Option.some.inj H
        go_wp2
        go_ret
        exact ⟨by first | rfl | (simp; done) | (simp [*]; done), by repeat (first | exact Drawn0.refl _ | apply Drawn0.step)⟩

/-! ### hopperref02_Of: function 51 -/
def hopperref02_Of.f (k : Nat) (a0 : ByteArray) : Option (Int) := (hopperref02_Roll.f k 14695981039346656037 a0).bind fun t209 => (some t209)
theorem hopperref02_Of.mono : ∀ a0 k, LeO (hopperref02_Of.f k a0) (hopperref02_Of.f (k + 1) a0) := by
  intro a0 k
  unfold hopperref02_Of.f
  repeat' first
      | (with_reducible exact hopperref02_Roll.mono _ _ _)
      | (with_reducible exact LeO.refl _)
      | (with_reducible exact LeO.none _)
      | (with_reducible refine LeO.ite ?_ ?_)
      | (with_reducible refine LeO.bind ?_ (fun _ => ?_))
      | exact hopperref02_Roll.mono _ _ _
      | exact LeO.none _
      | refine LeO.ite ?_ ?_
      | refine LeO.bind ?_ (fun _ => ?_)
set_option maxHeartbeats 8000000 in
set_option maxRecDepth 100000 in
theorem hopperref02_Of.calls (k : Nat) (a0 : ByteArray) (r : Int) (w : World) (h : hopperref02_Of.f k a0 = some r) :
    Calls Try.prog 51 #[.string a0] w fun e w' => e = .returned (.int .u64 r) ∧ Drawn0 w w' := by
  have H : ((hopperref02_Roll.f k 14695981039346656037 a0).bind fun t209 => (some t209)) = some r := h
  clear h
  replace H := Option.bind_eq_some_iff.mp H
  obtain ⟨t209, A20, H⟩ := H
  replace H : (some t209) = some r := H
  have A2 := Aside0.mk A20
  clear A20
  obtain rfl := Option.some.inj H
  go_enter Try.func51, Try.ntmps51
  go_wp2_with (first | ((with_reducible refine gate_callee (f := 67) rfl ?_); refine goesL_ (some 4) rfl rfl Try.func67 (by kernel_rfl) rfl #[.int .u64 14695981039346656037, .string a0] rfl (by (try simp only [List.map_toArray, List.map_cons, List.map_nil]); first | done | rfl | (simp only [List.length_drop, List.length_take]; rfl)) ?_; (with_reducible refine (hopperref02_Roll.calls k 14695981039346656037 a0 t209 _ A2.out).mono ?_); rintro e w' ⟨rfl, ⟨nd, rfl⟩⟩; refine ⟨_, rfl, ?_⟩))
  go_ret
  exact ⟨by first | rfl | (simp; done) | (simp [*]; done), by repeat (first | exact Drawn0.refl _ | apply Drawn0.step)⟩

/-! ### hopperref04_ID: function 33 -/
def hopperref04_ID.f (k : Nat) (a0_0 : Int) (a0_1 : Int) (a0_2 : Int) (a0_3 : Int) (a0_4 : Int) (a0_5 : ByteArray) : Option (ByteArray) := (hopperref04_Encode.f k a0_0 a0_1 a0_2 a0_3 a0_4 a0_5).bind fun bt211 => (if bt211.2 = true then ((hopperref02_Of.f k bt211.1).bind fun t213 => ((hopperref02_Text.f t213).bind fun t214 => (some t214))) else (some (⟨#[]⟩ : ByteArray)))
theorem hopperref04_ID.mono : ∀ a0 a1 a2 a3 a4 a5 k, LeO (hopperref04_ID.f k a0 a1 a2 a3 a4 a5) (hopperref04_ID.f (k + 1) a0 a1 a2 a3 a4 a5) := by
 intro a0 a1 a2 a3 a4 a5 k
 unfold hopperref04_ID.f
 repeat' first
  | (with_reducible exact hopperref02_Of.mono _ _)
  | (with_reducible exact hopperref04_Encode.mono _ _ _ _ _ _ _)
  | (with_reducible exact LeO.refl _)
  | (with_reducible exact LeO.none _)
  | (with_reducible refine LeO.ite ?_ ?_)
  | (with_reducible refine LeO.bind ?_ (fun _ => ?_))
  | exact hopperref02_Of.mono _ _
  | exact hopperref04_Encode.mono _ _ _ _ _ _ _
  | exact LeO.none _
  | refine LeO.ite ?_ ?_
  | refine LeO.bind ?_ (fun _ => ?_)
set_option maxHeartbeats 8000000 in
set_option maxRecDepth 100000 in
theorem hopperref04_ID.calls (k : Nat) (a0_0 : Int) (a0_1 : Int) (a0_2 : Int) (a0_3 : Int) (a0_4 : Int) (a0_5 : ByteArray) (r : ByteArray) (w : World) (h : hopperref04_ID.f k a0_0 a0_1 a0_2 a0_3 a0_4 a0_5 = some r) :
 Calls Try.prog 33 #[.agg #[.int .i64 a0_0, .int .i64 a0_1, .int .i64 a0_2, .int .i64 a0_3, .int .i64 a0_4, .string a0_5]] w fun e w' => e = .returned (.string r) ∧ Below w.heap.size w w' := by
 have hu32 := Try.underlying32
 have HB := A_ (Below.refl w.heap.size w)
 have H : ((hopperref04_Encode.f k a0_0 a0_1 a0_2 a0_3 a0_4 a0_5).bind fun bt211 => (if bt211.2 = true then ((hopperref02_Of.f k bt211.1).bind fun t213 => ((hopperref02_Text.f t213).bind fun t214 => (some t214))) else (some (⟨#[]⟩ : ByteArray)))) = some r := h
 clear h
 replace H := Option.bind_eq_some_iff.mp H
 obtain ⟨⟨t211, t212⟩, A20, H⟩ := H
 try dsimp only at H
 have A2 := A_ A20
 clear A20
 by_cases c3 : t212 = true
 rotate_left
 · replace c3 := Bool.eq_false_iff.mpr c3
   subst c3
   have H1 : (some (⟨#[]⟩ : ByteArray)) = some r := by rw [if_neg (show ¬ (false = true) by decide)] at H; exact H
   clear H
   have H := H1
   clear H1
   obtain rfl := Option.some.inj H
   go_enter Try.func33, Try.ntmps33
   go_wp2_with (first | ((with_reducible refine gate_dst (N := 1) rfl ?_); refine box_event ?hg (N := 1) ?hd (cs := #[.int .i64 a0_0, .int .i64 a0_1, .int .i64 a0_2, .int .i64 a0_3, .int .i64 a0_4, .string a0_5]) (t := 32) ?hr ?_; (case hd => rfl); (case hg => rfl); (case hr => first | (go_simp; done) | (go_simp; rfl)); intro gb210 hg w9 hbox hb; have n0_ := A_ (below_step bw_ hb); have n1_ := A_ (hbox); have n2_ := A_ (gz_ (w := w) hg); have n3_ := A_ (gz_ (w := w) hg); replace HB := n0_; have BK210 := n1_; have GW210 := n2_; have GE210 := n3_; clear n0_ n1_ n2_ n3_; clear hb hbox hg; have hcz10_0 : w9.cell? ⟨gb210, 0, none⟩ = some (.int .i64 a0_0) := e_ BK210 0; have hcz10_1 : w9.cell? ⟨gb210, 1, none⟩ = some (.int .i64 a0_1) := e_ BK210 1; have hcz10_2 : w9.cell? ⟨gb210, 2, none⟩ = some (.int .i64 a0_2) := e_ BK210 2; have hcz10_3 : w9.cell? ⟨gb210, 3, none⟩ = some (.int .i64 a0_3) := e_ BK210 3; have hcz10_4 : w9.cell? ⟨gb210, 4, none⟩ = some (.int .i64 a0_4) := e_ BK210 4; have hcz10_5 : w9.cell? ⟨gb210, 5, none⟩ = some (.string a0_5) := e_ BK210 5; obtain ⟨hfz10_0, hfz10_1, hfz10_2, hfz10_3, hfz10_4, hfz10_5⟩ := z6_ BK210) | ((with_reducible refine gate_callee (f := 49) rfl ?_); refine goesL_ (some 7) rfl rfl Try.func49 (by kernel_rfl) rfl #[.agg #[.int .i64 a0_0, .int .i64 a0_1, .int .i64 a0_2, .int .i64 a0_3, .int .i64 a0_4, .string a0_5]] rfl (by (try simp only [m0_, m1_, m2_]); first | done | rfl) ?_; (with_reducible refine (hopperref04_Encode.calls k a0_0 a0_1 a0_2 a0_3 a0_4 a0_5 t211 false _ A2.out).mono ?_); rintro e w11 ⟨rfl, hb⟩; refine ⟨_, rfl, ?_⟩; replace BK210 := A_ (kb_ BK210 hb); replace HB := A_ (below_step bw_ hb); (try clear hb); (try clear hb2); (try clear hk); (try clear hi)))
   go_ret
   exact ⟨by first | rfl | (simp [errW_none, errW_some] <;> rfl) | (simp [*, errW_none, errW_some] <;> rfl), by repeat (first | (with_reducible first | exact HB.out | apply wa_ | apply wn_ | apply wd_ | refine ws_ ?_ GE210.out) | exact HB.out)⟩

 subst c3
 have H1 : ((hopperref02_Of.f k t211).bind fun t213 => ((hopperref02_Text.f t213).bind fun t214 => (some t214))) = some r := by rw [if_pos rfl] at H; exact H
 clear H
 have H := H1
 clear H1
 replace H := Option.bind_eq_some_iff.mp H
 obtain ⟨t213, A40, H⟩ := H
 try dsimp only at H
 have A4 := A_ A40
 clear A40
 replace H := Option.bind_eq_some_iff.mp H
 obtain ⟨t214, A50, H⟩ := H
 replace H : (some t214) = some r := H
 have A5 := A_ A50
 clear A50
 obtain rfl := Option.some.inj H
 go_enter Try.func33, Try.ntmps33
 go_wp2_with (first | ((with_reducible refine gate_dst (N := 1) rfl ?_); refine box_event ?hg (N := 1) ?hd (cs := #[.int .i64 a0_0, .int .i64 a0_1, .int .i64 a0_2, .int .i64 a0_3, .int .i64 a0_4, .string a0_5]) (t := 32) ?hr ?_; (case hd => rfl); (case hg => rfl); (case hr => first | (go_simp; done) | (go_simp; rfl)); intro gb210 hg w6 hbox hb; have n0_ := A_ (below_step bw_ hb); have n1_ := A_ (hbox); have n2_ := A_ (gz_ (w := w) hg); have n3_ := A_ (gz_ (w := w) hg); replace HB := n0_; have BK210 := n1_; have GW210 := n2_; have GE210 := n3_; clear n0_ n1_ n2_ n3_; clear hb hbox hg; have hcz7_0 : w6.cell? ⟨gb210, 0, none⟩ = some (.int .i64 a0_0) := e_ BK210 0; have hcz7_1 : w6.cell? ⟨gb210, 1, none⟩ = some (.int .i64 a0_1) := e_ BK210 1; have hcz7_2 : w6.cell? ⟨gb210, 2, none⟩ = some (.int .i64 a0_2) := e_ BK210 2; have hcz7_3 : w6.cell? ⟨gb210, 3, none⟩ = some (.int .i64 a0_3) := e_ BK210 3; have hcz7_4 : w6.cell? ⟨gb210, 4, none⟩ = some (.int .i64 a0_4) := e_ BK210 4; have hcz7_5 : w6.cell? ⟨gb210, 5, none⟩ = some (.string a0_5) := e_ BK210 5; obtain ⟨hfz7_0, hfz7_1, hfz7_2, hfz7_3, hfz7_4, hfz7_5⟩ := z6_ BK210) | ((with_reducible refine gate_callee (f := 49) rfl ?_); refine goesL_ (some 7) rfl rfl Try.func49 (by kernel_rfl) rfl #[.agg #[.int .i64 a0_0, .int .i64 a0_1, .int .i64 a0_2, .int .i64 a0_3, .int .i64 a0_4, .string a0_5]] rfl (by (try simp only [m0_, m1_, m2_]); first | done | rfl) ?_; (with_reducible refine (hopperref04_Encode.calls k a0_0 a0_1 a0_2 a0_3 a0_4 a0_5 t211 true _ A2.out).mono ?_); rintro e w8 ⟨rfl, hb⟩; refine ⟨_, rfl, ?_⟩; replace BK210 := A_ (kb_ BK210 hb); replace HB := A_ (below_step bw_ hb); (try clear hb); (try clear hb2); (try clear hk); (try clear hi)) | ((with_reducible refine gate_callee (f := 51) rfl ?_); refine goesL_ (some 13) rfl rfl Try.func51 (by kernel_rfl) rfl #[.string t211] rfl (by (try simp only [m0_, m1_, m2_]); first | done | rfl) ?_; (with_reducible refine (hopperref02_Of.calls k t211 t213 _ A4.out).mono ?_); rintro e w' ⟨rfl, ⟨nd, rfl⟩⟩; refine ⟨_, rfl, ?_⟩) | ((with_reducible refine gate_callee (f := 50) rfl ?_); refine goesL_ (some 14) rfl rfl Try.func50 (by kernel_rfl) rfl #[.int .u64 t213] rfl (by (try simp only [m0_, m1_, m2_]); first | done | rfl) ?_; (with_reducible refine (hopperref02_Text.calls t213 t214 _ A5.out).mono ?_); rintro e w' ⟨rfl, ⟨nd, rfl⟩⟩; refine ⟨_, rfl, ?_⟩))
 go_ret
 exact ⟨by first | rfl | (simp [errW_none, errW_some] <;> rfl) | (simp [*, errW_none, errW_some] <;> rfl), by repeat (first | (with_reducible first | exact HB.out | apply wa_ | apply wn_ | apply wd_ | refine ws_ ?_ GE210.out) | exact HB.out)⟩
end Go.Proofs.Ytnjnogkhbadioaa.D
