/- Written by this session's own program over the kit's print: functions of Go told as plain functions, or the row of one statement; proved for every input, with no condition of ours. -/
import Derived.Test.YtehncbhmdgdkjaaQx0
import Derived.Test.YtehncbhmdgdkjaaQx4
namespace Go.Proofs.Ytehncbhmdgdkjaa.Q
open Go.RowKit Go.Proofs.YtehncbhmdgdkjaaW.PrintWords Go.Proofs.YtehncbhmdgdkjaaW.PrintLast Go.Proofs.YtehncbhmdgdkjaaW.PrintMore
attribute [local go_sem] max2_int min2_int max_two min_two max_three min_three max_four min_four   -- for this text's walks alone
set_option linter.unusedVariables false
set_option linter.unusedSimpArgs false

/-! ### txn_Check: function 102 -/
def txn_Check.f (a0_0 : Int) (a0_1 : Int) (a0_2 : Int) (a0_3 : Int) (a0_4 : Int) (a0_5 : ByteArray) : Option (Bool) := (txn_in.f a0_0 0 255).bind fun t127 => (if t127 = true then ((txn_in.f a0_1 0 4294967295).bind fun t128 => (if t128 = true then ((txn_in.f a0_2 0 1099511627776).bind fun t129 => (if t129 = true then ((txn_in.f a0_3 a0_2 1099511627776).bind fun t130 => (if t130 = true then ((txn_in.f a0_4 1 1073741824).bind fun t131 => (if t131 = true then (some (decide ((a0_5.size : Int) ≤ 256))) else (some false))) else (some false))) else (some false))) else (some false))) else (some false))
set_option maxHeartbeats 8000000 in
set_option maxRecDepth 100000 in
theorem txn_Check.calls (a0_0 : Int) (a0_1 : Int) (a0_2 : Int) (a0_3 : Int) (a0_4 : Int) (a0_5 : ByteArray) (r : Bool) (w : World) (h : txn_Check.f a0_0 a0_1 a0_2 a0_3 a0_4 a0_5 = some r) :
 Calls Try.prog 102 #[.agg #[.int .i64 a0_0, .int .i64 a0_1, .int .i64 a0_2, .int .i64 a0_3, .int .i64 a0_4, .string a0_5]] w fun e w' => e = .returned (.bool r) ∧ Below w.heap.size w w' := by
 have hu24 := Try.underlying24
 have HB := A_ (Below.refl w.heap.size w)
 have H : ((txn_in.f a0_0 0 255).bind fun t127 => (if t127 = true then ((txn_in.f a0_1 0 4294967295).bind fun t128 => (if t128 = true then ((txn_in.f a0_2 0 1099511627776).bind fun t129 => (if t129 = true then ((txn_in.f a0_3 a0_2 1099511627776).bind fun t130 => (if t130 = true then ((txn_in.f a0_4 1 1073741824).bind fun t131 => (if t131 = true then (some (decide ((a0_5.size : Int) ≤ 256))) else (some false))) else (some false))) else (some false))) else (some false))) else (some false))) = some r := h
 clear h
 replace H := Option.bind_eq_some_iff.mp H
 obtain ⟨t127, A20, H⟩ := H
 try dsimp only at H
 have A2 := A_ A20
 clear A20
 by_cases c3 : t127 = true
 rotate_left
 · replace c3 := Bool.eq_false_iff.mpr c3
   subst c3
   have H1 : (some false) = some r := by rw [if_neg (show ¬ (false = true) by decide)] at H; exact H
   clear H
   have H := H1
   clear H1
   obtain rfl := Option.some.inj H
   go_enter Try.func102, Try.ntmps102
   go_wp2_with (first | ((with_reducible refine gate_dst (N := 1) rfl ?_); (try (refine gate_guard (by rfl) ?_; dsimp only)); refine box_event ?hg (N := 1) ?hd (cs := #[.int .i64 a0_0, .int .i64 a0_1, .int .i64 a0_2, .int .i64 a0_3, .int .i64 a0_4, .string a0_5]) (t := 24) ?hr ?_; (case hd => rfl); (case hg => rfl); (case hr => first | (go_simp; done) | (go_simp; rfl)); intro gb126 hg w22 hbox hb; have n0_ := A_ (below_step bw_ hb); have n1_ := A_ (hbox); have n2_ := A_ (gz_ (w := w) hg); have n3_ := A_ (gz_ (w := w) hg); replace HB := n0_; have BK126 := n1_; have GW126 := n2_; have GE126 := n3_; clear n0_ n1_ n2_ n3_; clear hb hbox hg; have hcz23_0 : w22.cell? ⟨gb126, 0, none⟩ = some (.int .i64 a0_0) := e_ BK126 0; have hcz23_1 : w22.cell? ⟨gb126, 1, none⟩ = some (.int .i64 a0_1) := e_ BK126 1; have hcz23_2 : w22.cell? ⟨gb126, 2, none⟩ = some (.int .i64 a0_2) := e_ BK126 2; have hcz23_3 : w22.cell? ⟨gb126, 3, none⟩ = some (.int .i64 a0_3) := e_ BK126 3; have hcz23_4 : w22.cell? ⟨gb126, 4, none⟩ = some (.int .i64 a0_4) := e_ BK126 4; have hcz23_5 : w22.cell? ⟨gb126, 5, none⟩ = some (.string a0_5) := e_ BK126 5; obtain ⟨hfz23_0, hfz23_1, hfz23_2, hfz23_3, hfz23_4, hfz23_5⟩ := z6_ BK126) | ((with_reducible refine gate_callee (f := 133) rfl ?_); refine goesL_ (some 5) rfl rfl Try.func133 (by kernel_rfl) rfl #[.int .i64 a0_0, .int .i64 0, .int .i64 255] rfl (by (try simp only [m0_, m1_, m2_]); first | done | rfl) ?_; (with_reducible refine (txn_in.calls a0_0 0 255 false _ A2.out).mono ?_); rintro e w' ⟨rfl, ⟨nd, rfl⟩⟩; refine ⟨_, rfl, ?_⟩))
   go_ret
   exact ⟨by first | rfl | (simp [errW_none, errW_some] <;> rfl) | (simp [*, errW_none, errW_some] <;> rfl), by repeat (first | (with_reducible first | exact HB.out | apply wa_ | apply wn_ | apply wd_ | refine ws_ ?_ GE126.out) | exact HB.out)⟩

 subst c3
 have H1 : ((txn_in.f a0_1 0 4294967295).bind fun t128 => (if t128 = true then ((txn_in.f a0_2 0 1099511627776).bind fun t129 => (if t129 = true then ((txn_in.f a0_3 a0_2 1099511627776).bind fun t130 => (if t130 = true then ((txn_in.f a0_4 1 1073741824).bind fun t131 => (if t131 = true then (some (decide ((a0_5.size : Int) ≤ 256))) else (some false))) else (some false))) else (some false))) else (some false))) = some r := by rw [if_pos rfl] at H; exact H
 clear H
 have H := H1
 clear H1
 replace H := Option.bind_eq_some_iff.mp H
 obtain ⟨t128, A40, H⟩ := H
 try dsimp only at H
 have A4 := A_ A40
 clear A40
 by_cases c5 : t128 = true
 rotate_left
 · replace c5 := Bool.eq_false_iff.mpr c5
   subst c5
   have H1 : (some false) = some r := by rw [if_neg (show ¬ (false = true) by decide)] at H; exact H
   clear H
   have H := H1
   clear H1
   obtain rfl := Option.some.inj H
   go_enter Try.func102, Try.ntmps102
   go_wp2_with (first | ((with_reducible refine gate_dst (N := 1) rfl ?_); (try (refine gate_guard (by rfl) ?_; dsimp only)); refine box_event ?hg (N := 1) ?hd (cs := #[.int .i64 a0_0, .int .i64 a0_1, .int .i64 a0_2, .int .i64 a0_3, .int .i64 a0_4, .string a0_5]) (t := 24) ?hr ?_; (case hd => rfl); (case hg => rfl); (case hr => first | (go_simp; done) | (go_simp; rfl)); intro gb126 hg w20 hbox hb; have n0_ := A_ (below_step bw_ hb); have n1_ := A_ (hbox); have n2_ := A_ (gz_ (w := w) hg); have n3_ := A_ (gz_ (w := w) hg); replace HB := n0_; have BK126 := n1_; have GW126 := n2_; have GE126 := n3_; clear n0_ n1_ n2_ n3_; clear hb hbox hg; have hcz21_0 : w20.cell? ⟨gb126, 0, none⟩ = some (.int .i64 a0_0) := e_ BK126 0; have hcz21_1 : w20.cell? ⟨gb126, 1, none⟩ = some (.int .i64 a0_1) := e_ BK126 1; have hcz21_2 : w20.cell? ⟨gb126, 2, none⟩ = some (.int .i64 a0_2) := e_ BK126 2; have hcz21_3 : w20.cell? ⟨gb126, 3, none⟩ = some (.int .i64 a0_3) := e_ BK126 3; have hcz21_4 : w20.cell? ⟨gb126, 4, none⟩ = some (.int .i64 a0_4) := e_ BK126 4; have hcz21_5 : w20.cell? ⟨gb126, 5, none⟩ = some (.string a0_5) := e_ BK126 5; obtain ⟨hfz21_0, hfz21_1, hfz21_2, hfz21_3, hfz21_4, hfz21_5⟩ := z6_ BK126) | ((with_reducible refine gate_callee (f := 133) rfl ?_); refine goesL_ (some 5) rfl rfl Try.func133 (by kernel_rfl) rfl #[.int .i64 a0_0, .int .i64 0, .int .i64 255] rfl (by (try simp only [m0_, m1_, m2_]); first | done | rfl) ?_; (with_reducible refine (txn_in.calls a0_0 0 255 true _ A2.out).mono ?_); rintro e w' ⟨rfl, ⟨nd, rfl⟩⟩; refine ⟨_, rfl, ?_⟩) | (go_at_call 133; (with_reducible refine (txn_in.calls a0_1 0 4294967295 false _ A4.out).mono ?_); rintro e w' ⟨rfl, ⟨nd, rfl⟩⟩))
   go_ret
   exact ⟨by first | rfl | (simp [errW_none, errW_some] <;> rfl) | (simp [*, errW_none, errW_some] <;> rfl), by repeat (first | (with_reducible first | exact HB.out | apply wa_ | apply wn_ | apply wd_ | refine ws_ ?_ GE126.out) | exact HB.out)⟩
 subst c5
 have H1 : ((txn_in.f a0_2 0 1099511627776).bind fun t129 => (if t129 = true then ((txn_in.f a0_3 a0_2 1099511627776).bind fun t130 => (if t130 = true then ((txn_in.f a0_4 1 1073741824).bind fun t131 => (if t131 = true then (some (decide ((a0_5.size : Int) ≤ 256))) else (some false))) else (some false))) else (some false))) = some r := by rw [if_pos rfl] at H; exact H
 clear H
 have H := H1
 clear H1
 replace H := Option.bind_eq_some_iff.mp H
 obtain ⟨t129, A60, H⟩ := H
 try dsimp only at H
 have A6 := A_ A60
 clear A60
 by_cases c7 : t129 = true
 rotate_left
 · replace c7 := Bool.eq_false_iff.mpr c7
   subst c7
   have H1 : (some false) = some r := by rw [if_neg (show ¬ (false = true) by decide)] at H; exact H
   clear H
   have H := H1
   clear H1
   obtain rfl := Option.some.inj H
   go_enter Try.func102, Try.ntmps102
   go_wp2_with (first | ((with_reducible refine gate_dst (N := 1) rfl ?_); (try (refine gate_guard (by rfl) ?_; dsimp only)); refine box_event ?hg (N := 1) ?hd (cs := #[.int .i64 a0_0, .int .i64 a0_1, .int .i64 a0_2, .int .i64 a0_3, .int .i64 a0_4, .string a0_5]) (t := 24) ?hr ?_; (case hd => rfl); (case hg => rfl); (case hr => first | (go_simp; done) | (go_simp; rfl)); intro gb126 hg w18 hbox hb; have n0_ := A_ (below_step bw_ hb); have n1_ := A_ (hbox); have n2_ := A_ (gz_ (w := w) hg); have n3_ := A_ (gz_ (w := w) hg); replace HB := n0_; have BK126 := n1_; have GW126 := n2_; have GE126 := n3_; clear n0_ n1_ n2_ n3_; clear hb hbox hg; have hcz19_0 : w18.cell? ⟨gb126, 0, none⟩ = some (.int .i64 a0_0) := e_ BK126 0; have hcz19_1 : w18.cell? ⟨gb126, 1, none⟩ = some (.int .i64 a0_1) := e_ BK126 1; have hcz19_2 : w18.cell? ⟨gb126, 2, none⟩ = some (.int .i64 a0_2) := e_ BK126 2; have hcz19_3 : w18.cell? ⟨gb126, 3, none⟩ = some (.int .i64 a0_3) := e_ BK126 3; have hcz19_4 : w18.cell? ⟨gb126, 4, none⟩ = some (.int .i64 a0_4) := e_ BK126 4; have hcz19_5 : w18.cell? ⟨gb126, 5, none⟩ = some (.string a0_5) := e_ BK126 5; obtain ⟨hfz19_0, hfz19_1, hfz19_2, hfz19_3, hfz19_4, hfz19_5⟩ := z6_ BK126) | ((with_reducible refine gate_callee (f := 133) rfl ?_); refine goesL_ (some 5) rfl rfl Try.func133 (by kernel_rfl) rfl #[.int .i64 a0_0, .int .i64 0, .int .i64 255] rfl (by (try simp only [m0_, m1_, m2_]); first | done | rfl) ?_; (with_reducible refine (txn_in.calls a0_0 0 255 true _ A2.out).mono ?_); rintro e w' ⟨rfl, ⟨nd, rfl⟩⟩; refine ⟨_, rfl, ?_⟩) | (go_at_call 133; (with_reducible refine (txn_in.calls a0_1 0 4294967295 true _ A4.out).mono ?_); rintro e w' ⟨rfl, ⟨nd, rfl⟩⟩) | (go_at_call 133; (with_reducible refine (txn_in.calls a0_2 0 1099511627776 false _ A6.out).mono ?_); rintro e w' ⟨rfl, ⟨nd, rfl⟩⟩))
   go_ret
   exact ⟨by first | rfl | (simp [errW_none, errW_some] <;> rfl) | (simp [*, errW_none, errW_some] <;> rfl), by repeat (first | (with_reducible first | exact HB.out | apply wa_ | apply wn_ | apply wd_ | refine ws_ ?_ GE126.out) | exact HB.out)⟩
 subst c7
 have H1 : ((txn_in.f a0_3 a0_2 1099511627776).bind fun t130 => (if t130 = true then ((txn_in.f a0_4 1 1073741824).bind fun t131 => (if t131 = true then (some (decide ((a0_5.size : Int) ≤ 256))) else (some false))) else (some false))) = some r := by rw [if_pos rfl] at H; exact H
 clear H
 have H := H1
 clear H1
 replace H := Option.bind_eq_some_iff.mp H
 obtain ⟨t130, A80, H⟩ := H
 try dsimp only at H
 have A8 := A_ A80
 clear A80
 by_cases c9 : t130 = true
 rotate_left
 · replace c9 := Bool.eq_false_iff.mpr c9
   subst c9
   have H1 : (some false) = some r := by rw [if_neg (show ¬ (false = true) by decide)] at H; exact H
   clear H
   have H := H1
   clear H1
   obtain rfl := Option.some.inj H
   go_enter Try.func102, Try.ntmps102
   go_wp2_with (first | ((with_reducible refine gate_dst (N := 1) rfl ?_); (try (refine gate_guard (by rfl) ?_; dsimp only)); refine box_event ?hg (N := 1) ?hd (cs := #[.int .i64 a0_0, .int .i64 a0_1, .int .i64 a0_2, .int .i64 a0_3, .int .i64 a0_4, .string a0_5]) (t := 24) ?hr ?_; (case hd => rfl); (case hg => rfl); (case hr => first | (go_simp; done) | (go_simp; rfl)); intro gb126 hg w16 hbox hb; have n0_ := A_ (below_step bw_ hb); have n1_ := A_ (hbox); have n2_ := A_ (gz_ (w := w) hg); have n3_ := A_ (gz_ (w := w) hg); replace HB := n0_; have BK126 := n1_; have GW126 := n2_; have GE126 := n3_; clear n0_ n1_ n2_ n3_; clear hb hbox hg; have hcz17_0 : w16.cell? ⟨gb126, 0, none⟩ = some (.int .i64 a0_0) := e_ BK126 0; have hcz17_1 : w16.cell? ⟨gb126, 1, none⟩ = some (.int .i64 a0_1) := e_ BK126 1; have hcz17_2 : w16.cell? ⟨gb126, 2, none⟩ = some (.int .i64 a0_2) := e_ BK126 2; have hcz17_3 : w16.cell? ⟨gb126, 3, none⟩ = some (.int .i64 a0_3) := e_ BK126 3; have hcz17_4 : w16.cell? ⟨gb126, 4, none⟩ = some (.int .i64 a0_4) := e_ BK126 4; have hcz17_5 : w16.cell? ⟨gb126, 5, none⟩ = some (.string a0_5) := e_ BK126 5; obtain ⟨hfz17_0, hfz17_1, hfz17_2, hfz17_3, hfz17_4, hfz17_5⟩ := z6_ BK126) | ((with_reducible refine gate_callee (f := 133) rfl ?_); refine goesL_ (some 5) rfl rfl Try.func133 (by kernel_rfl) rfl #[.int .i64 a0_0, .int .i64 0, .int .i64 255] rfl (by (try simp only [m0_, m1_, m2_]); first | done | rfl) ?_; (with_reducible refine (txn_in.calls a0_0 0 255 true _ A2.out).mono ?_); rintro e w' ⟨rfl, ⟨nd, rfl⟩⟩; refine ⟨_, rfl, ?_⟩) | (go_at_call 133; (with_reducible refine (txn_in.calls a0_1 0 4294967295 true _ A4.out).mono ?_); rintro e w' ⟨rfl, ⟨nd, rfl⟩⟩) | (go_at_call 133; (with_reducible refine (txn_in.calls a0_2 0 1099511627776 true _ A6.out).mono ?_); rintro e w' ⟨rfl, ⟨nd, rfl⟩⟩) | (go_at_call 133; (with_reducible refine (txn_in.calls a0_3 a0_2 1099511627776 false _ A8.out).mono ?_); rintro e w' ⟨rfl, ⟨nd, rfl⟩⟩))
   go_ret
   exact ⟨by first | rfl | (simp [errW_none, errW_some] <;> rfl) | (simp [*, errW_none, errW_some] <;> rfl), by repeat (first | (with_reducible first | exact HB.out | apply wa_ | apply wn_ | apply wd_ | refine ws_ ?_ GE126.out) | exact HB.out)⟩
 subst c9
 have H1 : ((txn_in.f a0_4 1 1073741824).bind fun t131 => (if t131 = true then (some (decide ((a0_5.size : Int) ≤ 256))) else (some false))) = some r := by rw [if_pos rfl] at H; exact H
 clear H
 have H := H1
 clear H1
 replace H := Option.bind_eq_some_iff.mp H
 obtain ⟨t131, A100, H⟩ := H
 try dsimp only at H
 have A10 := A_ A100
 clear A100
 by_cases c11 : t131 = true
 · subst c11
   have H1 : (some (decide ((a0_5.size : Int) ≤ 256))) = some r := by rw [if_pos rfl] at H; exact H
   clear H
   have H := H1
   clear H1
   obtain rfl := Option.some.inj H
   go_enter Try.func102, Try.ntmps102
   go_wp2_with (first | ((with_reducible refine gate_dst (N := 1) rfl ?_); (try (refine gate_guard (by rfl) ?_; dsimp only)); refine box_event ?hg (N := 1) ?hd (cs := #[.int .i64 a0_0, .int .i64 a0_1, .int .i64 a0_2, .int .i64 a0_3, .int .i64 a0_4, .string a0_5]) (t := 24) ?hr ?_; (case hd => rfl); (case hg => rfl); (case hr => first | (go_simp; done) | (go_simp; rfl)); intro gb126 hg w12 hbox hb; have n0_ := A_ (below_step bw_ hb); have n1_ := A_ (hbox); have n2_ := A_ (gz_ (w := w) hg); have n3_ := A_ (gz_ (w := w) hg); replace HB := n0_; have BK126 := n1_; have GW126 := n2_; have GE126 := n3_; clear n0_ n1_ n2_ n3_; clear hb hbox hg; have hcz13_0 : w12.cell? ⟨gb126, 0, none⟩ = some (.int .i64 a0_0) := e_ BK126 0; have hcz13_1 : w12.cell? ⟨gb126, 1, none⟩ = some (.int .i64 a0_1) := e_ BK126 1; have hcz13_2 : w12.cell? ⟨gb126, 2, none⟩ = some (.int .i64 a0_2) := e_ BK126 2; have hcz13_3 : w12.cell? ⟨gb126, 3, none⟩ = some (.int .i64 a0_3) := e_ BK126 3; have hcz13_4 : w12.cell? ⟨gb126, 4, none⟩ = some (.int .i64 a0_4) := e_ BK126 4; have hcz13_5 : w12.cell? ⟨gb126, 5, none⟩ = some (.string a0_5) := e_ BK126 5; obtain ⟨hfz13_0, hfz13_1, hfz13_2, hfz13_3, hfz13_4, hfz13_5⟩ := z6_ BK126) | ((with_reducible refine gate_callee (f := 133) rfl ?_); refine goesL_ (some 5) rfl rfl Try.func133 (by kernel_rfl) rfl #[.int .i64 a0_0, .int .i64 0, .int .i64 255] rfl (by (try simp only [m0_, m1_, m2_]); first | done | rfl) ?_; (with_reducible refine (txn_in.calls a0_0 0 255 true _ A2.out).mono ?_); rintro e w' ⟨rfl, ⟨nd, rfl⟩⟩; refine ⟨_, rfl, ?_⟩) | (go_at_call 133; (with_reducible refine (txn_in.calls a0_1 0 4294967295 true _ A4.out).mono ?_); rintro e w' ⟨rfl, ⟨nd, rfl⟩⟩) | (go_at_call 133; (with_reducible refine (txn_in.calls a0_2 0 1099511627776 true _ A6.out).mono ?_); rintro e w' ⟨rfl, ⟨nd, rfl⟩⟩) | (go_at_call 133; (with_reducible refine (txn_in.calls a0_3 a0_2 1099511627776 true _ A8.out).mono ?_); rintro e w' ⟨rfl, ⟨nd, rfl⟩⟩) | (go_at_call 133; (with_reducible refine (txn_in.calls a0_4 1 1073741824 true _ A10.out).mono ?_); rintro e w' ⟨rfl, ⟨nd, rfl⟩⟩))
   go_ret
   exact ⟨by first | rfl | (simp [errW_none, errW_some] <;> rfl) | (simp [*, errW_none, errW_some] <;> rfl), by repeat (first | (with_reducible first | exact HB.out | apply wa_ | apply wn_ | apply wd_ | refine ws_ ?_ GE126.out) | exact HB.out)⟩
 · replace c11 := Bool.eq_false_iff.mpr c11
   subst c11
   have H1 : (some false) = some r := by rw [if_neg (show ¬ (false = true) by decide)] at H; exact H
   clear H
   have H := H1
   clear H1
   obtain rfl := Option.some.inj H
   go_enter Try.func102, Try.ntmps102
   go_wp2_with (first | ((with_reducible refine gate_dst (N := 1) rfl ?_); (try (refine gate_guard (by rfl) ?_; dsimp only)); refine box_event ?hg (N := 1) ?hd (cs := #[.int .i64 a0_0, .int .i64 a0_1, .int .i64 a0_2, .int .i64 a0_3, .int .i64 a0_4, .string a0_5]) (t := 24) ?hr ?_; (case hd => rfl); (case hg => rfl); (case hr => first | (go_simp; done) | (go_simp; rfl)); intro gb126 hg w14 hbox hb; have n0_ := A_ (below_step bw_ hb); have n1_ := A_ (hbox); have n2_ := A_ (gz_ (w := w) hg); have n3_ := A_ (gz_ (w := w) hg); replace HB := n0_; have BK126 := n1_; have GW126 := n2_; have GE126 := n3_; clear n0_ n1_ n2_ n3_; clear hb hbox hg; have hcz15_0 : w14.cell? ⟨gb126, 0, none⟩ = some (.int .i64 a0_0) := e_ BK126 0; have hcz15_1 : w14.cell? ⟨gb126, 1, none⟩ = some (.int .i64 a0_1) := e_ BK126 1; have hcz15_2 : w14.cell? ⟨gb126, 2, none⟩ = some (.int .i64 a0_2) := e_ BK126 2; have hcz15_3 : w14.cell? ⟨gb126, 3, none⟩ = some (.int .i64 a0_3) := e_ BK126 3; have hcz15_4 : w14.cell? ⟨gb126, 4, none⟩ = some (.int .i64 a0_4) := e_ BK126 4; have hcz15_5 : w14.cell? ⟨gb126, 5, none⟩ = some (.string a0_5) := e_ BK126 5; obtain ⟨hfz15_0, hfz15_1, hfz15_2, hfz15_3, hfz15_4, hfz15_5⟩ := z6_ BK126) | ((with_reducible refine gate_callee (f := 133) rfl ?_); refine goesL_ (some 5) rfl rfl Try.func133 (by kernel_rfl) rfl #[.int .i64 a0_0, .int .i64 0, .int .i64 255] rfl (by (try simp only [m0_, m1_, m2_]); first | done | rfl) ?_; (with_reducible refine (txn_in.calls a0_0 0 255 true _ A2.out).mono ?_); rintro e w' ⟨rfl, ⟨nd, rfl⟩⟩; refine ⟨_, rfl, ?_⟩) | (go_at_call 133; (with_reducible refine (txn_in.calls a0_1 0 4294967295 true _ A4.out).mono ?_); rintro e w' ⟨rfl, ⟨nd, rfl⟩⟩) | (go_at_call 133; (with_reducible refine (txn_in.calls a0_2 0 1099511627776 true _ A6.out).mono ?_); rintro e w' ⟨rfl, ⟨nd, rfl⟩⟩) | (go_at_call 133; (with_reducible refine (txn_in.calls a0_3 a0_2 1099511627776 true _ A8.out).mono ?_); rintro e w' ⟨rfl, ⟨nd, rfl⟩⟩) | (go_at_call 133; (with_reducible refine (txn_in.calls a0_4 1 1073741824 false _ A10.out).mono ?_); rintro e w' ⟨rfl, ⟨nd, rfl⟩⟩))
   go_ret
   exact ⟨by first | rfl | (simp [errW_none, errW_some] <;> rfl) | (simp [*, errW_none, errW_some] <;> rfl), by repeat (first | (with_reducible first | exact HB.out | apply wa_ | apply wn_ | apply wd_ | refine ws_ ?_ GE126.out) | exact HB.out)⟩
/-! ### queue_Check: function 54 -/
mutual
def queue_Check.j0 : Nat → Bool → Int → Int → List (S24) → Option (Bool)
 | 0, _, _, _, _ => none
 | k + 1, x29, x133000, x133001, x133002 => if x29 = true then (some false) else (queue_Check.l0 k x133001 x133002 (x133002.length : Int) 0 x133000 x133001 x133002)
def queue_Check.l0 : Nat → Int → List (S24) → Int → Int → Int → Int → List (S24) → Option (Bool)
 | 0, _, _, _, _, _, _, _ => none
 | k + 1, x5, x33, x34, x35, x133000, x133001, x133002 => if x35 < x34 then (if 0 ≤ x35 then (if x35 < (x33.length : Int) then ((txn_Check.f ((rd_T24 x33 x35).f0) ((rd_T24 x33 x35).f1) ((rd_T24 x33 x35).f2) ((rd_T24 x33 x35).f3) ((rd_T24 x33 x35).f4) ((rd_T24 x33 x35).f5)).bind fun t138 => (if t138 = true then (if ((rd_T24 x33 x35).f0) = x133000 then (if ((rd_T24 x33 x35).f1) < x5 then (some false) else (queue_Check.l0 k (wrap64 (((rd_T24 x33 x35).f1) + 1)) x33 x34 (wrap64 (x35 + 1)) x133000 x133001 x133002)) else (some false)) else (some false))) else (none)) else (none)) else (some true)
end
def queue_Check.f (k : Nat) (a0_0 : Int) (a0_1 : Int) (l0_2 : List (S24)) (a1 : Int) : Option (Bool) := (queue_in.f a0_0 0 255).bind fun t133 => (if t133 = true then ((queue_in.f a0_1 0 4294967295).bind fun t134 => (if t134 = true then ((queue_in.f a1 1 16).bind fun t135 => (if t135 = true then (queue_Check.j0 k (decide ((l0_2.length : Int) > a1)) a0_0 a0_1 l0_2) else (queue_Check.j0 k true a0_0 a0_1 l0_2))) else (queue_Check.j0 k true a0_0 a0_1 l0_2))) else (queue_Check.j0 k true a0_0 a0_1 l0_2))
theorem queue_Check.mono_l : ∀ k, (∀ y0 y1 y2 y3, LeO (queue_Check.j0 k y0 y1 y2 y3) (queue_Check.j0 (k + 1) y0 y1 y2 y3)) ∧ (∀ y0 y1 y2 y3 y4 y5 y6, LeO (queue_Check.l0 k y0 y1 y2 y3 y4 y5 y6) (queue_Check.l0 (k + 1) y0 y1 y2 y3 y4 y5 y6))
 | 0 => ⟨fun _ _ _ _ r h => by simp [queue_Check.j0] at h, fun _ _ _ _ _ _ _ r h => by simp [queue_Check.l0] at h⟩
 | k + 1 => by
  obtain ⟨ih0, ih1⟩ := queue_Check.mono_l k
  refine ⟨?_, ?_⟩
  · intro y0 y1 y2 y3
    unfold queue_Check.j0
    repeat' first
    | (with_reducible exact ih0 _ _ _ _)
    | (with_reducible exact ih1 _ _ _ _ _ _ _)
    | (with_reducible exact LeO.refl _)
    | (with_reducible exact LeO.none _)
    | (with_reducible refine LeO.ite ?_ ?_)
    | (with_reducible refine LeO.bind ?_ (fun _ => ?_))
    | exact ih0 _ _ _ _
    | exact ih1 _ _ _ _ _ _ _
    | exact LeO.none _
    | refine LeO.ite ?_ ?_
    | refine LeO.bind ?_ (fun _ => ?_)
  · intro y0 y1 y2 y3 y4 y5 y6
    unfold queue_Check.l0
    repeat' first
    | (with_reducible exact ih0 _ _ _ _)
    | (with_reducible exact ih1 _ _ _ _ _ _ _)
    | (with_reducible exact LeO.refl _)
    | (with_reducible exact LeO.none _)
    | (with_reducible refine LeO.ite ?_ ?_)
    | (with_reducible refine LeO.bind ?_ (fun _ => ?_))
    | exact ih0 _ _ _ _
    | exact ih1 _ _ _ _ _ _ _
    | exact LeO.none _
    | refine LeO.ite ?_ ?_
    | refine LeO.bind ?_ (fun _ => ?_)
theorem queue_Check.mono : ∀ a0 a1 a2 a3 k, LeO (queue_Check.f k a0 a1 a2 a3) (queue_Check.f (k + 1) a0 a1 a2 a3) := by
 intro a0 a1 a2 a3 k
 obtain ⟨ih0, ih1⟩ := queue_Check.mono_l k
 unfold queue_Check.f
 repeat' first
  | (with_reducible exact ih0 _ _ _ _)
  | (with_reducible exact ih1 _ _ _ _ _ _ _)
  | (with_reducible exact LeO.refl _)
  | (with_reducible exact LeO.none _)
  | (with_reducible refine LeO.ite ?_ ?_)
  | (with_reducible refine LeO.bind ?_ (fun _ => ?_))
  | exact ih0 _ _ _ _
  | exact ih1 _ _ _ _ _ _ _
  | exact LeO.none _
  | refine LeO.ite ?_ ?_
  | refine LeO.bind ?_ (fun _ => ?_)
set_option maxHeartbeats 8000000 in
set_option maxRecDepth 100000 in
theorem queue_Check.calls (k : Nat) (a0_0 : Int) (a0_1 : Int) (A0_2 : Option Addr) (c0_2 : Nat) (l0_2 : List (S24)) (a1 : Int) (r : Bool) (w : World) (hr0_2 : Kd.C k24 w A0_2 l0_2.length l0_2) (hc0_2 : l0_2.length ≤ c0_2) (h : queue_Check.f k a0_0 a0_1 l0_2 a1 = some r) :
 Calls Try.prog 54 #[.agg #[.int .i64 a0_0, .int .i64 a0_1, .slice A0_2 l0_2.length c0_2], .int .i64 a1] w fun e w' => e = .returned (.bool r) ∧ Below w.heap.size w w' := by
 have hu46 := Try.underlying46
 have hu24 := Try.underlying24
 have HR0_2 := A_ hr0_2
 have HC0_2 := A_ hc0_2
 clear hr0_2 hc0_2; have HB := A_ (Below.refl w.heap.size w)
 have H : ((queue_in.f a0_0 0 255).bind fun t133 => (if t133 = true then ((queue_in.f a0_1 0 4294967295).bind fun t134 => (if t134 = true then ((queue_in.f a1 1 16).bind fun t135 => (if t135 = true then (queue_Check.j0 k (decide ((l0_2.length : Int) > a1)) a0_0 a0_1 l0_2) else (queue_Check.j0 k true a0_0 a0_1 l0_2))) else (queue_Check.j0 k true a0_0 a0_1 l0_2))) else (queue_Check.j0 k true a0_0 a0_1 l0_2))) = some r := h
 clear h
 have HC3 := A_ H
 clear H
 go_enter Try.func54, Try.ntmps54
 go_upto_region 1 with (first | ((with_reducible refine gate_dst (N := 2) rfl ?_); (try (refine gate_guard (by rfl) ?_; dsimp only)); refine box_event ?hg (N := 2) ?hd (cs := #[.int .i64 a0_0, .int .i64 a0_1, .slice A0_2 l0_2.length c0_2]) (t := 46) ?hr ?_; (case hd => rfl); (case hg => rfl); (case hr => first | (go_simp; done) | (go_simp; rfl)); intro gb132 hg w4 hbox hb; have n0_ := A_ (below_step bw_ hb); have n1_ := A_ (hbox); have n2_ := A_ (gz_ (w := w) hg); have n3_ := A_ (gz_ (w := w) hg); replace HB := n0_; have BK132 := n1_; have GW132 := n2_; have GE132 := n3_; clear n0_ n1_ n2_ n3_; clear hb hbox hg))
 (try simp only [Act.put, s0_, s1_, s2_])
 go_cut [29] (fun v29 wc => ∃ (kq : Nat) (x29_2 : Bool), v29 = .bool x29_2 ∧ Aside0 (queue_Check.j0 kq x29_2 a0_0 a0_1 l0_2 = some r) ∧ Aside0 (kq ≤ k) ∧ Aside0 (wc.heap[gb132]? = some (.cells #[.int .i64 a0_0, .int .i64 a0_1, (.slice A0_2 l0_2.length c0_2)] 46 (0, 0))) ∧ Aside0 (Below w.heap.size w wc))
 case first =>
  have H := HC3.out
  clear HC3
  replace H := Option.bind_eq_some_iff.mp H
  obtain ⟨t133, A50, H⟩ := H
  try dsimp only at H
  have A5 := A_ A50
  clear A50
  by_cases c6 : t133 = true
  · subst c6
    have H1 : ((queue_in.f a0_1 0 4294967295).bind fun t134 => (if t134 = true then ((queue_in.f a1 1 16).bind fun t135 => (if t135 = true then (queue_Check.j0 k (decide ((l0_2.length : Int) > a1)) a0_0 a0_1 l0_2) else (queue_Check.j0 k true a0_0 a0_1 l0_2))) else (queue_Check.j0 k true a0_0 a0_1 l0_2))) = some r := by rw [if_pos rfl] at H; exact H
    clear H
    have H := H1
    clear H1
    replace H := Option.bind_eq_some_iff.mp H
    obtain ⟨t134, A70, H⟩ := H
    try dsimp only at H
    have A7 := A_ A70
    clear A70
    by_cases c8 : t134 = true
    · subst c8
      have H1 : ((queue_in.f a1 1 16).bind fun t135 => (if t135 = true then (queue_Check.j0 k (decide ((l0_2.length : Int) > a1)) a0_0 a0_1 l0_2) else (queue_Check.j0 k true a0_0 a0_1 l0_2))) = some r := by rw [if_pos rfl] at H; exact H
      clear H
      have H := H1
      clear H1
      replace H := Option.bind_eq_some_iff.mp H
      obtain ⟨t135, A90, H⟩ := H
      try dsimp only at H
      have A9 := A_ A90
      clear A90
      by_cases c10 : t135 = true
      · subst c10
        have H1 : (queue_Check.j0 k (decide ((l0_2.length : Int) > a1)) a0_0 a0_1 l0_2) = some r := by rw [if_pos rfl] at H; exact H
        clear H
        have H := H1
        clear H1
        have H' := A_ H
        clear H; have hcz11_0 : w4.cell? ⟨gb132, 0, none⟩ = some (.int .i64 a0_0) := e_ BK132 0; have hcz11_1 : w4.cell? ⟨gb132, 1, none⟩ = some (.int .i64 a0_1) := e_ BK132 1; have hcz11_2 : w4.cell? ⟨gb132, 2, none⟩ = some (.slice A0_2 l0_2.length c0_2) := e_ BK132 2; obtain ⟨hfz11_0, hfz11_1, hfz11_2⟩ := z3_ BK132
        go_wp2_with (first | ((with_reducible refine gate_callee (f := 101) rfl ?_); refine goesL_ (some 10) rfl rfl Try.func101 (by kernel_rfl) rfl #[.int .i64 a0_0, .int .i64 0, .int .i64 255] rfl (by (try simp only [m0_, m1_, m2_]); first | done | rfl) ?_; (with_reducible refine (queue_in.calls a0_0 0 255 true _ A5.out).mono ?_); rintro e w' ⟨rfl, ⟨nd, rfl⟩⟩; refine ⟨_, rfl, ?_⟩) | (go_at_call 101; (with_reducible refine (queue_in.calls a0_1 0 4294967295 true _ A7.out).mono ?_); rintro e w' ⟨rfl, ⟨nd, rfl⟩⟩) | (go_at_call 101; (with_reducible refine (queue_in.calls a1 1 16 true _ A9.out).mono ?_); rintro e w' ⟨rfl, ⟨nd, rfl⟩⟩))
        go_meet
        case rel => exact ⟨_, (decide ((l0_2.length : Int) > a1)), (by first | rfl | (simp; done) | (simp [*]; done)), H', ⟨by first | omega | exact Nat.le_refl _⟩, ⟨bk_⟩, ⟨by repeat (first | (with_reducible first | exact HB.out | apply wa_ | apply wn_ | apply wd_ | refine ws_ ?_ GE132.out) | exact HB.out)⟩⟩
      · replace c10 := Bool.eq_false_iff.mpr c10
        subst c10
        have H1 : (queue_Check.j0 k true a0_0 a0_1 l0_2) = some r := by rw [if_neg (show ¬ (false = true) by decide)] at H; exact H
        clear H
        have H := H1
        clear H1
        have H' := A_ H
        clear H; have hcz12_0 : w4.cell? ⟨gb132, 0, none⟩ = some (.int .i64 a0_0) := e_ BK132 0; have hcz12_1 : w4.cell? ⟨gb132, 1, none⟩ = some (.int .i64 a0_1) := e_ BK132 1; have hcz12_2 : w4.cell? ⟨gb132, 2, none⟩ = some (.slice A0_2 l0_2.length c0_2) := e_ BK132 2; obtain ⟨hfz12_0, hfz12_1, hfz12_2⟩ := z3_ BK132
        go_wp2_with (first | ((with_reducible refine gate_callee (f := 101) rfl ?_); refine goesL_ (some 10) rfl rfl Try.func101 (by kernel_rfl) rfl #[.int .i64 a0_0, .int .i64 0, .int .i64 255] rfl (by (try simp only [m0_, m1_, m2_]); first | done | rfl) ?_; (with_reducible refine (queue_in.calls a0_0 0 255 true _ A5.out).mono ?_); rintro e w' ⟨rfl, ⟨nd, rfl⟩⟩; refine ⟨_, rfl, ?_⟩) | (go_at_call 101; (with_reducible refine (queue_in.calls a0_1 0 4294967295 true _ A7.out).mono ?_); rintro e w' ⟨rfl, ⟨nd, rfl⟩⟩) | (go_at_call 101; (with_reducible refine (queue_in.calls a1 1 16 false _ A9.out).mono ?_); rintro e w' ⟨rfl, ⟨nd, rfl⟩⟩))
        go_meet
        case rel => exact ⟨_, (true), (by first | rfl | (simp; done) | (simp [*]; done)), H', ⟨by first | omega | exact Nat.le_refl _⟩, ⟨bk_⟩, ⟨by repeat (first | (with_reducible first | exact HB.out | apply wa_ | apply wn_ | apply wd_ | refine ws_ ?_ GE132.out) | exact HB.out)⟩⟩
    · replace c8 := Bool.eq_false_iff.mpr c8
      subst c8
      have H1 : (queue_Check.j0 k true a0_0 a0_1 l0_2) = some r := by rw [if_neg (show ¬ (false = true) by decide)] at H; exact H
      clear H
      have H := H1
      clear H1
      have H' := A_ H
      clear H; have hcz13_0 : w4.cell? ⟨gb132, 0, none⟩ = some (.int .i64 a0_0) := e_ BK132 0; have hcz13_1 : w4.cell? ⟨gb132, 1, none⟩ = some (.int .i64 a0_1) := e_ BK132 1; have hcz13_2 : w4.cell? ⟨gb132, 2, none⟩ = some (.slice A0_2 l0_2.length c0_2) := e_ BK132 2; obtain ⟨hfz13_0, hfz13_1, hfz13_2⟩ := z3_ BK132
      go_wp2_with (first | ((with_reducible refine gate_callee (f := 101) rfl ?_); refine goesL_ (some 10) rfl rfl Try.func101 (by kernel_rfl) rfl #[.int .i64 a0_0, .int .i64 0, .int .i64 255] rfl (by (try simp only [m0_, m1_, m2_]); first | done | rfl) ?_; (with_reducible refine (queue_in.calls a0_0 0 255 true _ A5.out).mono ?_); rintro e w' ⟨rfl, ⟨nd, rfl⟩⟩; refine ⟨_, rfl, ?_⟩) | (go_at_call 101; (with_reducible refine (queue_in.calls a0_1 0 4294967295 false _ A7.out).mono ?_); rintro e w' ⟨rfl, ⟨nd, rfl⟩⟩))
      go_meet
      case rel => exact ⟨_, (true), (by first | rfl | (simp; done) | (simp [*]; done)), H', ⟨by first | omega | exact Nat.le_refl _⟩, ⟨bk_⟩, ⟨by repeat (first | (with_reducible first | exact HB.out | apply wa_ | apply wn_ | apply wd_ | refine ws_ ?_ GE132.out) | exact HB.out)⟩⟩
  · replace c6 := Bool.eq_false_iff.mpr c6
    subst c6
    have H1 : (queue_Check.j0 k true a0_0 a0_1 l0_2) = some r := by rw [if_neg (show ¬ (false = true) by decide)] at H; exact H
    clear H
    have H := H1
    clear H1
    have H' := A_ H
    clear H; have hcz14_0 : w4.cell? ⟨gb132, 0, none⟩ = some (.int .i64 a0_0) := e_ BK132 0; have hcz14_1 : w4.cell? ⟨gb132, 1, none⟩ = some (.int .i64 a0_1) := e_ BK132 1; have hcz14_2 : w4.cell? ⟨gb132, 2, none⟩ = some (.slice A0_2 l0_2.length c0_2) := e_ BK132 2; obtain ⟨hfz14_0, hfz14_1, hfz14_2⟩ := z3_ BK132
    go_wp2_with (first | ((with_reducible refine gate_callee (f := 101) rfl ?_); refine goesL_ (some 10) rfl rfl Try.func101 (by kernel_rfl) rfl #[.int .i64 a0_0, .int .i64 0, .int .i64 255] rfl (by (try simp only [m0_, m1_, m2_]); first | done | rfl) ?_; (with_reducible refine (queue_in.calls a0_0 0 255 false _ A5.out).mono ?_); rintro e w' ⟨rfl, ⟨nd, rfl⟩⟩; refine ⟨_, rfl, ?_⟩))
    go_meet
    case rel => exact ⟨_, (true), (by first | rfl | (simp; done) | (simp [*]; done)), H', ⟨by first | omega | exact Nat.le_refl _⟩, ⟨bk_⟩, ⟨by repeat (first | (with_reducible first | exact HB.out | apply wa_ | apply wn_ | apply wd_ | refine ws_ ?_ GE132.out) | exact HB.out)⟩⟩
 case rest =>
  clear HC3; (try clear c1); (try clear p2); (try clear c5); (try clear c6); (try clear c8); (try clear c10); (try clear hcz11_0 hcz11_1 hcz11_2); (try clear hcz12_0 hcz12_1 hcz12_2); (try clear hcz13_0 hcz13_1 hcz13_2); (try clear hcz14_0 hcz14_1 hcz14_2); (try clear hfz11_0 hfz11_1 hfz11_2); (try clear hfz12_0 hfz12_1 hfz12_2); (try clear hfz13_0 hfz13_1 hfz13_2); (try clear hfz14_0 hfz14_1 hfz14_2)
  obtain ⟨kq, x29_2, rfl, HA, HJ2, BK132, HB⟩ := hcut
  cases kq with
  | zero => exact absurd HA.out (by simp [queue_Check.j0])
  | succ kj2 =>
   have H := HA.out
   clear HA
   simp only [queue_Check.j0] at H
   by_cases c15 : x29_2 = true
   · subst c15
     have H1 : (some false) = some r := by rw [if_pos rfl] at H; exact H
     clear H
     have H := H1
     clear H1
     obtain rfl := Option.some.inj H
     go_wp2
     go_ret
     exact ⟨by first | rfl | (simp [errW_none, errW_some] <;> rfl) | (simp [*, errW_none, errW_some] <;> rfl), by repeat (first | (with_reducible first | exact HB.out | apply wa_ | apply wn_ | apply wd_ | refine ws_ ?_ GE132.out) | exact HB.out)⟩
   replace c15 := Bool.eq_false_iff.mpr c15
   subst c15
   have H1 : (queue_Check.l0 kj2 a0_1 l0_2 (l0_2.length : Int) 0 a0_0 a0_1 l0_2) = some r := by rw [if_neg (show ¬ (false = true) by decide)] at H; exact H
   clear H
   have H := H1
   clear H1
   have H' := A_ H
   clear H; have hcz16_0 : wc.cell? ⟨gb132, 0, none⟩ = some (.int .i64 a0_0) := e_ BK132 0; have hcz16_1 : wc.cell? ⟨gb132, 1, none⟩ = some (.int .i64 a0_1) := e_ BK132 1; have hcz16_2 : wc.cell? ⟨gb132, 2, none⟩ = some (.slice A0_2 l0_2.length c0_2) := e_ BK132 2; obtain ⟨hfz16_0, hfz16_1, hfz16_2⟩ := z3_ BK132
   go_wp2
   go_loopg [5, 35] kj2 (fun kq v5 v35 w' => ∃ (x5_2 : Int) (x35_2 : Int), v5 = .int .i64 x5_2 ∧ v35 = .int .i64 x35_2 ∧ Aside0 (queue_Check.l0 kq x5_2 l0_2 (l0_2.length : Int) x35_2 a0_0 a0_1 l0_2 = some r) ∧ Aside0 (kq ≤ kj2) ∧ Aside0 (w'.heap[gb132]? = some (.cells #[.int .i64 a0_0, .int .i64 a0_1, (.slice A0_2 l0_2.length c0_2)] 46 (0, 0))) ∧ Aside0 (Below w.heap.size w w'))
   case atStart => exact ⟨(a0_1), (0), (by first | rfl | (simp; done) | (simp [*]; done)), (by first | rfl | (simp; done) | (simp [*]; done)), H', ⟨Nat.le_refl _⟩, ⟨bk_⟩, ⟨by repeat (first | (with_reducible first | exact HB.out | apply wa_ | apply wn_ | apply wd_ | refine ws_ ?_ GE132.out) | exact HB.out)⟩⟩
   case round =>
    clear H'; (try clear c1); (try clear p2); (try clear c5); (try clear c6); (try clear c8); (try clear c10); (try clear c15); (try clear hcz11_0 hcz11_1 hcz11_2); (try clear hcz12_0 hcz12_1 hcz12_2); (try clear hcz13_0 hcz13_1 hcz13_2); (try clear hcz14_0 hcz14_1 hcz14_2); (try clear hcz16_0 hcz16_1 hcz16_2); (try clear hfz11_0 hfz11_1 hfz11_2); (try clear hfz12_0 hfz12_1 hfz12_2); (try clear hfz13_0 hfz13_1 hfz13_2); (try clear hfz14_0 hfz14_1 hfz14_2); (try clear hfz16_0 hfz16_1 hfz16_2); (try clear p2)
    obtain ⟨x5_2, x35_2, rfl, rfl, HA, HK2, BK132, HB⟩ := hrel
    cases gk with
    | zero => exact absurd HA.out (by simp [queue_Check.l0])
    | succ k2 =>
     have H := HA.out
     clear HA
     simp only [queue_Check.l0] at H
     by_cases c17 : x35_2 < (l0_2.length : Int)
     rotate_left
     · rw [if_neg c17] at H
       have c17b0 : decide (x35_2 < (l0_2.length : Int)) = false := decide_eq_false c17
       clear c17
       obtain rfl := Option.some.inj H
       go_wp2
       go_ret
       exact ⟨by first | rfl | (simp [errW_none, errW_some] <;> rfl) | (simp [*, errW_none, errW_some] <;> rfl), by repeat (first | (with_reducible first | exact HB.out | apply wa_ | apply wn_ | apply wd_ | refine ws_ ?_ GE132.out) | exact HB.out)⟩

     rw [if_pos c17] at H
     have c17b0 : decide (x35_2 < (l0_2.length : Int)) = true := decide_eq_true c17
     clear c17
     by_cases c18 : 0 ≤ x35_2
     rotate_left
     · rw [if_neg c18] at H
       exact absurd H (by simp)
     rw [if_pos c18] at H
     have c18b0 : decide (0 ≤ x35_2) = true := decide_eq_true c18
     clear c18
     by_cases c19 : x35_2 < (l0_2.length : Int)
     rotate_left
     · rw [if_neg c19] at H
       exact absurd H (by simp)
     rw [if_pos c19] at H
     have c19b0 : decide (x35_2 < (l0_2.length : Int)) = true := decide_eq_true c19
     clear c19
     replace H := Option.bind_eq_some_iff.mp H
     obtain ⟨t138, A200, H⟩ := H
     try dsimp only at H
     have A20 := A_ A200
     clear A200
     by_cases c21 : t138 = true
     · subst c21
       have H1 : (if ((rd_T24 l0_2 x35_2).f0) = a0_0 then (if ((rd_T24 l0_2 x35_2).f1) < x5_2 then (some false) else (queue_Check.l0 k2 (wrap64 (((rd_T24 l0_2 x35_2).f1) + 1)) l0_2 (l0_2.length : Int) (wrap64 (x35_2 + 1)) a0_0 a0_1 l0_2)) else (some false)) = some r := by rw [if_pos rfl] at H; exact H
       clear H
       have H := H1
       clear H1
       by_cases c22 : ((rd_T24 l0_2 x35_2).f0) = a0_0
       · rw [if_pos c22] at H
         have c22b0 : (((rd_T24 l0_2 x35_2).f0) == a0_0) = true := beq_iff_eq.mpr c22
         have c22b1 : (((rd_T24 l0_2 x35_2).f0) != a0_0) = false := bne_eq_false_iff_eq.mpr c22
         clear c22
         by_cases c23 : ((rd_T24 l0_2 x35_2).f1) < x5_2
         · rw [if_pos c23] at H
           have c23b0 : decide (((rd_T24 l0_2 x35_2).f1) < x5_2) = true := decide_eq_true c23
           clear c23
           obtain rfl := Option.some.inj H
           have p136 : 0 ≤ (x35_2 : Int) := of_decide_eq_true (by first | (with_reducible assumption) | assumption)
           have q136 : x35_2 < (l0_2.length : Int) := of_decide_eq_true (by first | (with_reducible assumption) | assumption)
           obtain ⟨ad136, e136, hx136_0, hx136_1, hx136_2, hx136_3, hx136_4, hx136_5⟩ := at_T24 HR0_2.out x35_2 p136 q136
           cases e136
           replace hx136_0 := on_ HB.out hx136_0
           replace hx136_1 := on_ HB.out hx136_1
           replace hx136_2 := on_ HB.out hx136_2
           replace hx136_3 := on_ HB.out hx136_3
           replace hx136_4 := on_ HB.out hx136_4
           replace hx136_5 := on_ HB.out hx136_5
           replace p136 := eq_true p136
           replace q136 := eq_true q136
           go_wp2_with (first | ((with_reducible refine gate_dst (N := 7) rfl ?_); (try (refine gate_guard (by rfl) ?_; dsimp only)); refine box_event ?hg (N := 7) ?hd (cs := #[.int .i64 0, .int .i64 0, .int .i64 0, .int .i64 0, .int .i64 0, .string (⟨#[]⟩ : ByteArray)]) (t := 24) ?hr ?_; (case hd => rfl); (case hg => rfl); (case hr => first | (go_simp; done) | (go_simp; rfl)); intro gb137 hg w24 hbox hb; have n0_ := A_ (kb_ BK132 hb); have n1_ := A_ (below_step bw_ hb); have n2_ := A_ (hbox); have n3_ := A_ (gz_ (w := w) hg); have n4_ := A_ (gz_ (w := w) hg); have n5_ := A_ (nl_ BK132 hg); have n6_ := A_ (ng_ BK132 hg); replace BK132 := n0_; replace HB := n1_; have BK137 := n2_; have GW137 := n3_; have GE137 := n4_; have NB132_137 := n5_; have NB137_132 := n6_; clear n0_ n1_ n2_ n3_ n4_ n5_ n6_; clear hb hbox hg; have hnb25 := NB137_132.out; have hnc25 := NB132_137.out; have hcz26_0 : w24.cell? ⟨gb137, 0, none⟩ = some (.int .i64 0) := e_ BK137 0; have hcz26_1 : w24.cell? ⟨gb137, 1, none⟩ = some (.int .i64 0) := e_ BK137 1; have hcz26_2 : w24.cell? ⟨gb137, 2, none⟩ = some (.int .i64 0) := e_ BK137 2; have hcz26_3 : w24.cell? ⟨gb137, 3, none⟩ = some (.int .i64 0) := e_ BK137 3; have hcz26_4 : w24.cell? ⟨gb137, 4, none⟩ = some (.int .i64 0) := e_ BK137 4; have hcz26_5 : w24.cell? ⟨gb137, 5, none⟩ = some (.string (⟨#[]⟩ : ByteArray)) := e_ BK137 5; obtain ⟨hfz26_0, hfz26_1, hfz26_2, hfz26_3, hfz26_4, hfz26_5⟩ := z6_ BK137) | ((with_reducible refine gate_callee (f := 102) rfl ?_); refine goesL_ (some 40) rfl rfl Try.func102 (by kernel_rfl) rfl #[.agg #[.int .i64 ((rd_T24 l0_2 x35_2).f0), .int .i64 ((rd_T24 l0_2 x35_2).f1), .int .i64 ((rd_T24 l0_2 x35_2).f2), .int .i64 ((rd_T24 l0_2 x35_2).f3), .int .i64 ((rd_T24 l0_2 x35_2).f4), .string ((rd_T24 l0_2 x35_2).f5)]] rfl (by (try simp only [m0_, m1_, m2_]); first | done | rfl) ?_; (with_reducible refine (txn_Check.calls ((rd_T24 l0_2 x35_2).f0) ((rd_T24 l0_2 x35_2).f1) ((rd_T24 l0_2 x35_2).f2) ((rd_T24 l0_2 x35_2).f3) ((rd_T24 l0_2 x35_2).f4) ((rd_T24 l0_2 x35_2).f5) true _ A20.out).mono ?_); rintro e w27 ⟨rfl, hb⟩; refine ⟨_, rfl, ?_⟩; replace BK132 := A_ (kb_ BK132 hb); replace BK137 := A_ (blk_below (g := gb137) (o := .cells #[.int .i64 ((rd_T24 l0_2 x35_2).f0), .int .i64 ((rd_T24 l0_2 x35_2).f1), .int .i64 ((rd_T24 l0_2 x35_2).f2), .int .i64 ((rd_T24 l0_2 x35_2).f3), .int .i64 ((rd_T24 l0_2 x35_2).f4), .string ((rd_T24 l0_2 x35_2).f5)] 24 (0, 0)) (by exact pk_ (b6_ BK137.out)) hb); replace HB := A_ (below_step bw_ hb); (try clear hb); (try clear hb2); (try clear hk); (try clear hi); have hcz28_0 : w27.cell? ⟨gb137, 0, none⟩ = some (.int .i64 ((rd_T24 l0_2 x35_2).f0)) := e_ BK137 0; have hcz28_1 : w27.cell? ⟨gb137, 1, none⟩ = some (.int .i64 ((rd_T24 l0_2 x35_2).f1)) := e_ BK137 1; have hcz28_2 : w27.cell? ⟨gb137, 2, none⟩ = some (.int .i64 ((rd_T24 l0_2 x35_2).f2)) := e_ BK137 2; have hcz28_3 : w27.cell? ⟨gb137, 3, none⟩ = some (.int .i64 ((rd_T24 l0_2 x35_2).f3)) := e_ BK137 3; have hcz28_4 : w27.cell? ⟨gb137, 4, none⟩ = some (.int .i64 ((rd_T24 l0_2 x35_2).f4)) := e_ BK137 4; have hcz28_5 : w27.cell? ⟨gb137, 5, none⟩ = some (.string ((rd_T24 l0_2 x35_2).f5)) := e_ BK137 5; obtain ⟨hfz28_0, hfz28_1, hfz28_2, hfz28_3, hfz28_4, hfz28_5⟩ := z6_ BK137; have hcz29_0 : w27.cell? ⟨gb132, 0, none⟩ = some (.int .i64 a0_0) := e_ BK132 0; have hcz29_1 : w27.cell? ⟨gb132, 1, none⟩ = some (.int .i64 a0_1) := e_ BK132 1; have hcz29_2 : w27.cell? ⟨gb132, 2, none⟩ = some (.slice (some ad136) l0_2.length c0_2) := e_ BK132 2; obtain ⟨hfz29_0, hfz29_1, hfz29_2⟩ := z3_ BK132))
           go_ret
           exact ⟨by first | rfl | (simp [errW_none, errW_some] <;> rfl) | (simp [*, errW_none, errW_some] <;> rfl), by repeat (first | (with_reducible first | exact HB.out | apply wa_ | apply wn_ | apply wd_ | refine ws_ ?_ GE132.out | refine ws_ ?_ GE137.out) | exact HB.out)⟩
         · rw [if_neg c23] at H
           have c23b0 : decide (((rd_T24 l0_2 x35_2).f1) < x5_2) = false := decide_eq_false c23
           clear c23
           have H' := A_ H
           clear H
           have p136 : 0 ≤ (x35_2 : Int) := of_decide_eq_true (by first | (with_reducible assumption) | assumption)
           have q136 : x35_2 < (l0_2.length : Int) := of_decide_eq_true (by first | (with_reducible assumption) | assumption)
           obtain ⟨ad136, e136, hx136_0, hx136_1, hx136_2, hx136_3, hx136_4, hx136_5⟩ := at_T24 HR0_2.out x35_2 p136 q136
           cases e136
           replace hx136_0 := on_ HB.out hx136_0
           replace hx136_1 := on_ HB.out hx136_1
           replace hx136_2 := on_ HB.out hx136_2
           replace hx136_3 := on_ HB.out hx136_3
           replace hx136_4 := on_ HB.out hx136_4
           replace hx136_5 := on_ HB.out hx136_5
           replace p136 := eq_true p136
           replace q136 := eq_true q136
           go_wp2_with (first | ((with_reducible refine gate_dst (N := 7) rfl ?_); (try (refine gate_guard (by rfl) ?_; dsimp only)); refine box_event ?hg (N := 7) ?hd (cs := #[.int .i64 0, .int .i64 0, .int .i64 0, .int .i64 0, .int .i64 0, .string (⟨#[]⟩ : ByteArray)]) (t := 24) ?hr ?_; (case hd => rfl); (case hg => rfl); (case hr => first | (go_simp; done) | (go_simp; rfl)); intro gb137 hg w30 hbox hb; have n0_ := A_ (kb_ BK132 hb); have n1_ := A_ (below_step bw_ hb); have n2_ := A_ (hbox); have n3_ := A_ (gz_ (w := w) hg); have n4_ := A_ (gz_ (w := w) hg); have n5_ := A_ (nl_ BK132 hg); have n6_ := A_ (ng_ BK132 hg); replace BK132 := n0_; replace HB := n1_; have BK137 := n2_; have GW137 := n3_; have GE137 := n4_; have NB132_137 := n5_; have NB137_132 := n6_; clear n0_ n1_ n2_ n3_ n4_ n5_ n6_; clear hb hbox hg; have hnb31 := NB137_132.out; have hnc31 := NB132_137.out; have hcz32_0 : w30.cell? ⟨gb137, 0, none⟩ = some (.int .i64 0) := e_ BK137 0; have hcz32_1 : w30.cell? ⟨gb137, 1, none⟩ = some (.int .i64 0) := e_ BK137 1; have hcz32_2 : w30.cell? ⟨gb137, 2, none⟩ = some (.int .i64 0) := e_ BK137 2; have hcz32_3 : w30.cell? ⟨gb137, 3, none⟩ = some (.int .i64 0) := e_ BK137 3; have hcz32_4 : w30.cell? ⟨gb137, 4, none⟩ = some (.int .i64 0) := e_ BK137 4; have hcz32_5 : w30.cell? ⟨gb137, 5, none⟩ = some (.string (⟨#[]⟩ : ByteArray)) := e_ BK137 5; obtain ⟨hfz32_0, hfz32_1, hfz32_2, hfz32_3, hfz32_4, hfz32_5⟩ := z6_ BK137) | ((with_reducible refine gate_callee (f := 102) rfl ?_); refine goesL_ (some 40) rfl rfl Try.func102 (by kernel_rfl) rfl #[.agg #[.int .i64 ((rd_T24 l0_2 x35_2).f0), .int .i64 ((rd_T24 l0_2 x35_2).f1), .int .i64 ((rd_T24 l0_2 x35_2).f2), .int .i64 ((rd_T24 l0_2 x35_2).f3), .int .i64 ((rd_T24 l0_2 x35_2).f4), .string ((rd_T24 l0_2 x35_2).f5)]] rfl (by (try simp only [m0_, m1_, m2_]); first | done | rfl) ?_; (with_reducible refine (txn_Check.calls ((rd_T24 l0_2 x35_2).f0) ((rd_T24 l0_2 x35_2).f1) ((rd_T24 l0_2 x35_2).f2) ((rd_T24 l0_2 x35_2).f3) ((rd_T24 l0_2 x35_2).f4) ((rd_T24 l0_2 x35_2).f5) true _ A20.out).mono ?_); rintro e w33 ⟨rfl, hb⟩; refine ⟨_, rfl, ?_⟩; replace BK132 := A_ (kb_ BK132 hb); replace BK137 := A_ (blk_below (g := gb137) (o := .cells #[.int .i64 ((rd_T24 l0_2 x35_2).f0), .int .i64 ((rd_T24 l0_2 x35_2).f1), .int .i64 ((rd_T24 l0_2 x35_2).f2), .int .i64 ((rd_T24 l0_2 x35_2).f3), .int .i64 ((rd_T24 l0_2 x35_2).f4), .string ((rd_T24 l0_2 x35_2).f5)] 24 (0, 0)) (by exact pk_ (b6_ BK137.out)) hb); replace HB := A_ (below_step bw_ hb); (try clear hb); (try clear hb2); (try clear hk); (try clear hi); have hcz34_0 : w33.cell? ⟨gb137, 0, none⟩ = some (.int .i64 ((rd_T24 l0_2 x35_2).f0)) := e_ BK137 0; have hcz34_1 : w33.cell? ⟨gb137, 1, none⟩ = some (.int .i64 ((rd_T24 l0_2 x35_2).f1)) := e_ BK137 1; have hcz34_2 : w33.cell? ⟨gb137, 2, none⟩ = some (.int .i64 ((rd_T24 l0_2 x35_2).f2)) := e_ BK137 2; have hcz34_3 : w33.cell? ⟨gb137, 3, none⟩ = some (.int .i64 ((rd_T24 l0_2 x35_2).f3)) := e_ BK137 3; have hcz34_4 : w33.cell? ⟨gb137, 4, none⟩ = some (.int .i64 ((rd_T24 l0_2 x35_2).f4)) := e_ BK137 4; have hcz34_5 : w33.cell? ⟨gb137, 5, none⟩ = some (.string ((rd_T24 l0_2 x35_2).f5)) := e_ BK137 5; obtain ⟨hfz34_0, hfz34_1, hfz34_2, hfz34_3, hfz34_4, hfz34_5⟩ := z6_ BK137; have hcz35_0 : w33.cell? ⟨gb132, 0, none⟩ = some (.int .i64 a0_0) := e_ BK132 0; have hcz35_1 : w33.cell? ⟨gb132, 1, none⟩ = some (.int .i64 a0_1) := e_ BK132 1; have hcz35_2 : w33.cell? ⟨gb132, 2, none⟩ = some (.slice (some ad136) l0_2.length c0_2) := e_ BK132 2; obtain ⟨hfz35_0, hfz35_1, hfz35_2⟩ := z3_ BK132))
           go_roundg k2
           case measure => have := HJ2.out; have := HK2.out; omega
           case rel => exact ⟨(wrap64 (((rd_T24 l0_2 x35_2).f1) + 1)), (wrap64 (x35_2 + 1)), (by first | rfl | (simp; done) | (simp [*]; done)), (by first | rfl | (simp; done) | (simp [*]; done)), H', ⟨by have := HJ2.out; have := HK2.out; omega⟩, ⟨bk_⟩, ⟨by repeat (first | (with_reducible first | exact HB.out | apply wa_ | apply wn_ | apply wd_ | refine ws_ ?_ GE132.out | refine ws_ ?_ GE137.out) | exact HB.out)⟩⟩
       · rw [if_neg c22] at H
         have c22b0 : (((rd_T24 l0_2 x35_2).f0) == a0_0) = false := beq_eq_false_iff_ne.mpr c22
         have c22b1 : (((rd_T24 l0_2 x35_2).f0) != a0_0) = true := bne_iff_ne.mpr c22
         obtain rfl := Option.some.inj H
         have p136 : 0 ≤ (x35_2 : Int) := of_decide_eq_true (by first | (with_reducible assumption) | assumption)
         have q136 : x35_2 < (l0_2.length : Int) := of_decide_eq_true (by first | (with_reducible assumption) | assumption)
         obtain ⟨ad136, e136, hx136_0, hx136_1, hx136_2, hx136_3, hx136_4, hx136_5⟩ := at_T24 HR0_2.out x35_2 p136 q136
         cases e136
         replace hx136_0 := on_ HB.out hx136_0
         replace hx136_1 := on_ HB.out hx136_1
         replace hx136_2 := on_ HB.out hx136_2
         replace hx136_3 := on_ HB.out hx136_3
         replace hx136_4 := on_ HB.out hx136_4
         replace hx136_5 := on_ HB.out hx136_5
         replace p136 := eq_true p136
         replace q136 := eq_true q136
         go_wp2_with (first | ((with_reducible refine gate_dst (N := 7) rfl ?_); (try (refine gate_guard (by rfl) ?_; dsimp only)); refine box_event ?hg (N := 7) ?hd (cs := #[.int .i64 0, .int .i64 0, .int .i64 0, .int .i64 0, .int .i64 0, .string (⟨#[]⟩ : ByteArray)]) (t := 24) ?hr ?_; (case hd => rfl); (case hg => rfl); (case hr => first | (go_simp; done) | (go_simp; rfl)); intro gb137 hg w36 hbox hb; have n0_ := A_ (kb_ BK132 hb); have n1_ := A_ (below_step bw_ hb); have n2_ := A_ (hbox); have n3_ := A_ (gz_ (w := w) hg); have n4_ := A_ (gz_ (w := w) hg); have n5_ := A_ (nl_ BK132 hg); have n6_ := A_ (ng_ BK132 hg); replace BK132 := n0_; replace HB := n1_; have BK137 := n2_; have GW137 := n3_; have GE137 := n4_; have NB132_137 := n5_; have NB137_132 := n6_; clear n0_ n1_ n2_ n3_ n4_ n5_ n6_; clear hb hbox hg; have hnb37 := NB137_132.out; have hnc37 := NB132_137.out; have hcz38_0 : w36.cell? ⟨gb137, 0, none⟩ = some (.int .i64 0) := e_ BK137 0; have hcz38_1 : w36.cell? ⟨gb137, 1, none⟩ = some (.int .i64 0) := e_ BK137 1; have hcz38_2 : w36.cell? ⟨gb137, 2, none⟩ = some (.int .i64 0) := e_ BK137 2; have hcz38_3 : w36.cell? ⟨gb137, 3, none⟩ = some (.int .i64 0) := e_ BK137 3; have hcz38_4 : w36.cell? ⟨gb137, 4, none⟩ = some (.int .i64 0) := e_ BK137 4; have hcz38_5 : w36.cell? ⟨gb137, 5, none⟩ = some (.string (⟨#[]⟩ : ByteArray)) := e_ BK137 5; obtain ⟨hfz38_0, hfz38_1, hfz38_2, hfz38_3, hfz38_4, hfz38_5⟩ := z6_ BK137) | ((with_reducible refine gate_callee (f := 102) rfl ?_); refine goesL_ (some 40) rfl rfl Try.func102 (by kernel_rfl) rfl #[.agg #[.int .i64 ((rd_T24 l0_2 x35_2).f0), .int .i64 ((rd_T24 l0_2 x35_2).f1), .int .i64 ((rd_T24 l0_2 x35_2).f2), .int .i64 ((rd_T24 l0_2 x35_2).f3), .int .i64 ((rd_T24 l0_2 x35_2).f4), .string ((rd_T24 l0_2 x35_2).f5)]] rfl (by (try simp only [m0_, m1_, m2_]); first | done | rfl) ?_; (with_reducible refine (txn_Check.calls ((rd_T24 l0_2 x35_2).f0) ((rd_T24 l0_2 x35_2).f1) ((rd_T24 l0_2 x35_2).f2) ((rd_T24 l0_2 x35_2).f3) ((rd_T24 l0_2 x35_2).f4) ((rd_T24 l0_2 x35_2).f5) true _ A20.out).mono ?_); rintro e w39 ⟨rfl, hb⟩; refine ⟨_, rfl, ?_⟩; replace BK132 := A_ (kb_ BK132 hb); replace BK137 := A_ (blk_below (g := gb137) (o := .cells #[.int .i64 ((rd_T24 l0_2 x35_2).f0), .int .i64 ((rd_T24 l0_2 x35_2).f1), .int .i64 ((rd_T24 l0_2 x35_2).f2), .int .i64 ((rd_T24 l0_2 x35_2).f3), .int .i64 ((rd_T24 l0_2 x35_2).f4), .string ((rd_T24 l0_2 x35_2).f5)] 24 (0, 0)) (by exact pk_ (b6_ BK137.out)) hb); replace HB := A_ (below_step bw_ hb); (try clear hb); (try clear hb2); (try clear hk); (try clear hi); have hcz40_0 : w39.cell? ⟨gb137, 0, none⟩ = some (.int .i64 ((rd_T24 l0_2 x35_2).f0)) := e_ BK137 0; have hcz40_1 : w39.cell? ⟨gb137, 1, none⟩ = some (.int .i64 ((rd_T24 l0_2 x35_2).f1)) := e_ BK137 1; have hcz40_2 : w39.cell? ⟨gb137, 2, none⟩ = some (.int .i64 ((rd_T24 l0_2 x35_2).f2)) := e_ BK137 2; have hcz40_3 : w39.cell? ⟨gb137, 3, none⟩ = some (.int .i64 ((rd_T24 l0_2 x35_2).f3)) := e_ BK137 3; have hcz40_4 : w39.cell? ⟨gb137, 4, none⟩ = some (.int .i64 ((rd_T24 l0_2 x35_2).f4)) := e_ BK137 4; have hcz40_5 : w39.cell? ⟨gb137, 5, none⟩ = some (.string ((rd_T24 l0_2 x35_2).f5)) := e_ BK137 5; obtain ⟨hfz40_0, hfz40_1, hfz40_2, hfz40_3, hfz40_4, hfz40_5⟩ := z6_ BK137; have hcz41_0 : w39.cell? ⟨gb132, 0, none⟩ = some (.int .i64 a0_0) := e_ BK132 0; have hcz41_1 : w39.cell? ⟨gb132, 1, none⟩ = some (.int .i64 a0_1) := e_ BK132 1; have hcz41_2 : w39.cell? ⟨gb132, 2, none⟩ = some (.slice (some ad136) l0_2.length c0_2) := e_ BK132 2; obtain ⟨hfz41_0, hfz41_1, hfz41_2⟩ := z3_ BK132))
         go_ret
         exact ⟨by first | rfl | (simp [errW_none, errW_some] <;> rfl) | (simp [*, errW_none, errW_some] <;> rfl), by repeat (first | (with_reducible first | exact HB.out | apply wa_ | apply wn_ | apply wd_ | refine ws_ ?_ GE132.out | refine ws_ ?_ GE137.out) | exact HB.out)⟩
     · replace c21 := Bool.eq_false_iff.mpr c21
       subst c21
       have H1 : (some false) = some r := by rw [if_neg (show ¬ (false = true) by decide)] at H; exact H
       clear H
       have H := H1
       clear H1
       obtain rfl := Option.some.inj H
       have p136 : 0 ≤ (x35_2 : Int) := of_decide_eq_true (by first | (with_reducible assumption) | assumption)
       have q136 : x35_2 < (l0_2.length : Int) := of_decide_eq_true (by first | (with_reducible assumption) | assumption)
       obtain ⟨ad136, e136, hx136_0, hx136_1, hx136_2, hx136_3, hx136_4, hx136_5⟩ := at_T24 HR0_2.out x35_2 p136 q136
       cases e136
       replace hx136_0 := on_ HB.out hx136_0
       replace hx136_1 := on_ HB.out hx136_1
       replace hx136_2 := on_ HB.out hx136_2
       replace hx136_3 := on_ HB.out hx136_3
       replace hx136_4 := on_ HB.out hx136_4
       replace hx136_5 := on_ HB.out hx136_5
       replace p136 := eq_true p136
       replace q136 := eq_true q136
       go_wp2_with (first | ((with_reducible refine gate_dst (N := 7) rfl ?_); (try (refine gate_guard (by rfl) ?_; dsimp only)); refine box_event ?hg (N := 7) ?hd (cs := #[.int .i64 0, .int .i64 0, .int .i64 0, .int .i64 0, .int .i64 0, .string (⟨#[]⟩ : ByteArray)]) (t := 24) ?hr ?_; (case hd => rfl); (case hg => rfl); (case hr => first | (go_simp; done) | (go_simp; rfl)); intro gb137 hg w42 hbox hb; have n0_ := A_ (kb_ BK132 hb); have n1_ := A_ (below_step bw_ hb); have n2_ := A_ (hbox); have n3_ := A_ (gz_ (w := w) hg); have n4_ := A_ (gz_ (w := w) hg); have n5_ := A_ (nl_ BK132 hg); have n6_ := A_ (ng_ BK132 hg); replace BK132 := n0_; replace HB := n1_; have BK137 := n2_; have GW137 := n3_; have GE137 := n4_; have NB132_137 := n5_; have NB137_132 := n6_; clear n0_ n1_ n2_ n3_ n4_ n5_ n6_; clear hb hbox hg; have hnb43 := NB137_132.out; have hnc43 := NB132_137.out; have hcz44_0 : w42.cell? ⟨gb137, 0, none⟩ = some (.int .i64 0) := e_ BK137 0; have hcz44_1 : w42.cell? ⟨gb137, 1, none⟩ = some (.int .i64 0) := e_ BK137 1; have hcz44_2 : w42.cell? ⟨gb137, 2, none⟩ = some (.int .i64 0) := e_ BK137 2; have hcz44_3 : w42.cell? ⟨gb137, 3, none⟩ = some (.int .i64 0) := e_ BK137 3; have hcz44_4 : w42.cell? ⟨gb137, 4, none⟩ = some (.int .i64 0) := e_ BK137 4; have hcz44_5 : w42.cell? ⟨gb137, 5, none⟩ = some (.string (⟨#[]⟩ : ByteArray)) := e_ BK137 5; obtain ⟨hfz44_0, hfz44_1, hfz44_2, hfz44_3, hfz44_4, hfz44_5⟩ := z6_ BK137) | ((with_reducible refine gate_callee (f := 102) rfl ?_); refine goesL_ (some 40) rfl rfl Try.func102 (by kernel_rfl) rfl #[.agg #[.int .i64 ((rd_T24 l0_2 x35_2).f0), .int .i64 ((rd_T24 l0_2 x35_2).f1), .int .i64 ((rd_T24 l0_2 x35_2).f2), .int .i64 ((rd_T24 l0_2 x35_2).f3), .int .i64 ((rd_T24 l0_2 x35_2).f4), .string ((rd_T24 l0_2 x35_2).f5)]] rfl (by (try simp only [m0_, m1_, m2_]); first | done | rfl) ?_; (with_reducible refine (txn_Check.calls ((rd_T24 l0_2 x35_2).f0) ((rd_T24 l0_2 x35_2).f1) ((rd_T24 l0_2 x35_2).f2) ((rd_T24 l0_2 x35_2).f3) ((rd_T24 l0_2 x35_2).f4) ((rd_T24 l0_2 x35_2).f5) false _ A20.out).mono ?_); rintro e w45 ⟨rfl, hb⟩; refine ⟨_, rfl, ?_⟩; replace BK132 := A_ (kb_ BK132 hb); replace BK137 := A_ (blk_below (g := gb137) (o := .cells #[.int .i64 ((rd_T24 l0_2 x35_2).f0), .int .i64 ((rd_T24 l0_2 x35_2).f1), .int .i64 ((rd_T24 l0_2 x35_2).f2), .int .i64 ((rd_T24 l0_2 x35_2).f3), .int .i64 ((rd_T24 l0_2 x35_2).f4), .string ((rd_T24 l0_2 x35_2).f5)] 24 (0, 0)) (by exact pk_ (b6_ BK137.out)) hb); replace HB := A_ (below_step bw_ hb); (try clear hb); (try clear hb2); (try clear hk); (try clear hi)))
       go_ret
       exact ⟨by first | rfl | (simp [errW_none, errW_some] <;> rfl) | (simp [*, errW_none, errW_some] <;> rfl), by repeat (first | (with_reducible first | exact HB.out | apply wa_ | apply wn_ | apply wd_ | refine ws_ ?_ GE132.out | refine ws_ ?_ GE137.out) | exact HB.out)⟩
/-! ### queue_Ready: function 55 -/
def queue_Ready.l0 : Nat → List (S24) → List (S24) → Int → Int → Int → Int → List (S24) → Option ((List (S24)))
 | 0, _, _, _, _, _, _, _ => none
 | k + 1, x3, x7, x8, x9, x140000, x140001, x140002 => if x9 < x8 then (if 0 ≤ x9 then (if x9 < (x7.length : Int) then (if ((rd_T24 x7 x9).f1) < x140001 then (some x3) else (if (wrap64 (((rd_T24 x7 x9).f1) - x140001)) = x9 then (if x3.length < 2513169434916 then (queue_Ready.l0 k (x3 ++ [(⟨(rd_T24 x7 x9).f0, (rd_T24 x7 x9).f1, (rd_T24 x7 x9).f2, (rd_T24 x7 x9).f3, (rd_T24 x7 x9).f4, (rd_T24 x7 x9).f5⟩ : S24)]) x7 x8 (wrap64 (x9 + 1)) x140000 x140001 x140002) else (none)) else (some x3))) else (none)) else (none)) else (some x3)
def queue_Ready.f (k : Nat) (a0_0 : Int) (a0_1 : Int) (l0_2 : List (S24)) : Option ((List (S24))) := queue_Ready.l0 k ([] : List (S24)) l0_2 (l0_2.length : Int) 0 a0_0 a0_1 l0_2
theorem queue_Ready.mono_l : ∀ k, (∀ y0 y1 y2 y3 y4 y5 y6, LeO (queue_Ready.l0 k y0 y1 y2 y3 y4 y5 y6) (queue_Ready.l0 (k + 1) y0 y1 y2 y3 y4 y5 y6))
 | 0 => fun _ _ _ _ _ _ _ r h => by simp [queue_Ready.l0] at h
 | k + 1 => by
  have ih0 := queue_Ready.mono_l k
  · intro y0 y1 y2 y3 y4 y5 y6
    unfold queue_Ready.l0
    repeat' first
    | (with_reducible exact ih0 _ _ _ _ _ _ _)
    | (with_reducible exact LeO.refl _)
    | (with_reducible exact LeO.none _)
    | (with_reducible refine LeO.ite ?_ ?_)
    | (with_reducible refine LeO.bind ?_ (fun _ => ?_))
    | exact ih0 _ _ _ _ _ _ _
    | exact LeO.none _
    | refine LeO.ite ?_ ?_
    | refine LeO.bind ?_ (fun _ => ?_)
theorem queue_Ready.mono : ∀ a0 a1 a2 k, LeO (queue_Ready.f k a0 a1 a2) (queue_Ready.f (k + 1) a0 a1 a2) := by
 intro a0 a1 a2 k
 have ih0 := queue_Ready.mono_l k
 unfold queue_Ready.f
 repeat' first
  | (with_reducible exact ih0 _ _ _ _ _ _ _)
  | (with_reducible exact LeO.refl _)
  | (with_reducible exact LeO.none _)
  | (with_reducible refine LeO.ite ?_ ?_)
  | (with_reducible refine LeO.bind ?_ (fun _ => ?_))
  | exact ih0 _ _ _ _ _ _ _
  | exact LeO.none _
  | refine LeO.ite ?_ ?_
  | refine LeO.bind ?_ (fun _ => ?_)
set_option maxHeartbeats 8000000 in
set_option maxRecDepth 100000 in
theorem queue_Ready.calls (k : Nat) (a0_0 : Int) (a0_1 : Int) (A0_2 : Option Addr) (c0_2 : Nat) (l0_2 : List (S24)) (r : List (S24)) (w : World) (hr0_2 : Kd.C k24 w A0_2 l0_2.length l0_2) (hc0_2 : l0_2.length ≤ c0_2) (h : queue_Ready.f k a0_0 a0_1 l0_2 = some r) :
 Calls Try.prog 55 #[.agg #[.int .i64 a0_0, .int .i64 a0_1, .slice A0_2 l0_2.length c0_2]] w fun e w' => ∃ v0_ : Value, e = .returned (v0_) ∧ Kd.R k24 24 w' w.heap.size (fun _ => True) v0_ r ∧ Below w.heap.size w w' := by
 have hu46 := Try.underlying46
 have hu24 := Try.underlying24
 have HR0_2 := A_ hr0_2
 have HC0_2 := A_ hc0_2
 clear hr0_2 hc0_2; have HB := A_ (Below.refl w.heap.size w)
 have H : (queue_Ready.l0 k ([] : List (S24)) l0_2 (l0_2.length : Int) 0 a0_0 a0_1 l0_2) = some r := h
 clear h
 have H' := A_ H
 clear H
 go_enter Try.func55, Try.ntmps55
 go_wp2_with (first | ((with_reducible refine gate_dst (N := 1) rfl ?_); refine box_event ?hg (N := 1) ?hd (cs := #[.int .i64 a0_0, .int .i64 a0_1, .slice A0_2 l0_2.length c0_2]) (t := 46) ?hr ?_; (case hd => rfl); (case hg => rfl); (case hr => first | (go_simp; done) | (go_simp; rfl)); intro gb139 hg w2 hbox hb; have n0_ := A_ (below_step bw_ hb); have n1_ := A_ (hbox); have n2_ := A_ (gz_ (w := w) hg); have n3_ := A_ (gz_ (w := w) hg); replace HB := n0_; have BK139 := n1_; have GW139 := n2_; have GE139 := n3_; clear n0_ n1_ n2_ n3_; clear hb hbox hg; have hcz3_0 : w2.cell? ⟨gb139, 0, none⟩ = some (.int .i64 a0_0) := e_ BK139 0; have hcz3_1 : w2.cell? ⟨gb139, 1, none⟩ = some (.int .i64 a0_1) := e_ BK139 1; have hcz3_2 : w2.cell? ⟨gb139, 2, none⟩ = some (.slice A0_2 l0_2.length c0_2) := e_ BK139 2; obtain ⟨hfz3_0, hfz3_1, hfz3_2⟩ := z3_ BK139))
 go_loopg [3, 9] k (fun kq v3 v9 w' => ∃ (x3_1 : List (S24)) (x9_1 : Int), v9 = .int .i64 x9_1 ∧ Aside0 (queue_Ready.l0 kq x3_1 l0_2 (l0_2.length : Int) x9_1 a0_0 a0_1 l0_2 = some r) ∧ Aside0 (kq ≤ k) ∧ Aside0 (Kd.R k24 24 w' w.heap.size (fun _ => True) v3 x3_1) ∧ Aside0 (w'.heap[gb139]? = some (.cells #[.int .i64 a0_0, .int .i64 a0_1, (.slice A0_2 l0_2.length c0_2)] 46 (0, 0))) ∧ Aside0 (Below w.heap.size w w'))
 case atStart => exact ⟨(([] : List (S24))), (0), (by first | rfl | (simp; done) | (simp [*]; done)), H', ⟨Nat.le_refl _⟩, ⟨by first | exact Kd.R_nil _ _ _ _ _ | exact Kd.N_nil _ _ _ _ _ | exact Kd.V_nil _ _ _ _ _ | exact Kd.Q_nil _ _ _ _ _ | exact Kd.S_nil _ _ _ _ _⟩, ⟨bk_⟩, ⟨by repeat (first | (with_reducible first | exact HB.out | apply wa_ | apply wn_ | apply wd_ | refine ws_ ?_ GE139.out) | exact HB.out)⟩⟩
 case round =>
  clear H'; (try clear p2); (try clear hcz3_0 hcz3_1 hcz3_2); (try clear hfz3_0 hfz3_1 hfz3_2)
  obtain ⟨x3_1, x9_1, rfl, HA, HK1, HO_3, BK139, HB⟩ := hrel
  cases gk with
  | zero => exact absurd HA.out (by simp [queue_Ready.l0])
  | succ k1 =>
   have H := HA.out
   clear HA
   simp only [queue_Ready.l0] at H
   by_cases c4 : x9_1 < (l0_2.length : Int)
   rotate_left
   · rw [if_neg c4] at H
     have c4b0 : decide (x9_1 < (l0_2.length : Int)) = false := decide_eq_false c4
     clear c4
     obtain rfl := Option.some.inj H
     go_wp2
     go_ret
     exact ⟨_, by first | rfl | (simp [errW_none, errW_some] <;> rfl) | (simp [*, errW_none, errW_some] <;> rfl), by (with_reducible repeat (first | apply ra_ | apply rn_ | apply rd_)); exact HO_3.out, by repeat (first | (with_reducible first | exact HB.out | apply wa_ | apply wn_ | apply wd_ | refine ws_ ?_ GE139.out) | exact HB.out)⟩

   rw [if_pos c4] at H
   have c4b0 : decide (x9_1 < (l0_2.length : Int)) = true := decide_eq_true c4
   clear c4
   by_cases c5 : 0 ≤ x9_1
   rotate_left
   · rw [if_neg c5] at H
     exact absurd H (by simp)
   rw [if_pos c5] at H
   have c5b0 : decide (0 ≤ x9_1) = true := decide_eq_true c5
   clear c5
   by_cases c6 : x9_1 < (l0_2.length : Int)
   rotate_left
   · rw [if_neg c6] at H
     exact absurd H (by simp)
   rw [if_pos c6] at H
   have c6b0 : decide (x9_1 < (l0_2.length : Int)) = true := decide_eq_true c6
   clear c6
   by_cases c7 : ((rd_T24 l0_2 x9_1).f1) < a0_1
   · rw [if_pos c7] at H
     have c7b0 : decide (((rd_T24 l0_2 x9_1).f1) < a0_1) = true := decide_eq_true c7
     clear c7
     obtain rfl := Option.some.inj H
     have p140 : 0 ≤ (x9_1 : Int) := of_decide_eq_true (by first | (with_reducible assumption) | assumption)
     have q140 : x9_1 < (l0_2.length : Int) := of_decide_eq_true (by first | (with_reducible assumption) | assumption)
     obtain ⟨ad140, e140, hx140_0, hx140_1, hx140_2, hx140_3, hx140_4, hx140_5⟩ := at_T24 HR0_2.out x9_1 p140 q140
     cases e140
     replace hx140_0 := on_ HB.out hx140_0
     replace hx140_1 := on_ HB.out hx140_1
     replace hx140_2 := on_ HB.out hx140_2
     replace hx140_3 := on_ HB.out hx140_3
     replace hx140_4 := on_ HB.out hx140_4
     replace hx140_5 := on_ HB.out hx140_5
     replace p140 := eq_true p140
     replace q140 := eq_true q140
     go_wp2_with (first | ((with_reducible refine gate_dst (N := 5) rfl ?_); refine box_event ?hg (N := 5) ?hd (cs := #[.int .i64 0, .int .i64 0, .int .i64 0, .int .i64 0, .int .i64 0, .string (⟨#[]⟩ : ByteArray)]) (t := 24) ?hr ?_; (case hd => rfl); (case hg => rfl); (case hr => first | (go_simp; done) | (go_simp; rfl)); intro gb141 hg w8 hbox hb; have n0_ := A_ (Kd.R_below (Kd.R_elderB (pr_ HO_3.out) gb141 (Nat.le_of_eq hg.symm)) hb); have n1_ := A_ (kb_ BK139 hb); have n2_ := A_ (below_step bw_ hb); have n3_ := A_ (hbox); have n4_ := A_ (gz_ (w := w) hg); have n5_ := A_ (gz_ (w := w) hg); have n6_ := A_ (nl_ BK139 hg); have n7_ := A_ (ng_ BK139 hg); replace HO_3 := n0_; replace BK139 := n1_; replace HB := n2_; have BK141 := n3_; have GW141 := n4_; have GE141 := n5_; have NB139_141 := n6_; have NB141_139 := n7_; clear n0_ n1_ n2_ n3_ n4_ n5_ n6_ n7_; clear hb hbox hg; have hnb9 := NB141_139.out; have hnc9 := NB139_141.out; have hcz10_0 : w8.cell? ⟨gb141, 0, none⟩ = some (.int .i64 0) := e_ BK141 0; have hcz10_1 : w8.cell? ⟨gb141, 1, none⟩ = some (.int .i64 0) := e_ BK141 1; have hcz10_2 : w8.cell? ⟨gb141, 2, none⟩ = some (.int .i64 0) := e_ BK141 2; have hcz10_3 : w8.cell? ⟨gb141, 3, none⟩ = some (.int .i64 0) := e_ BK141 3; have hcz10_4 : w8.cell? ⟨gb141, 4, none⟩ = some (.int .i64 0) := e_ BK141 4; have hcz10_5 : w8.cell? ⟨gb141, 5, none⟩ = some (.string (⟨#[]⟩ : ByteArray)) := e_ BK141 5; obtain ⟨hfz10_0, hfz10_1, hfz10_2, hfz10_3, hfz10_4, hfz10_5⟩ := z6_ BK141; have hcz11_0 : w8.cell? ⟨gb139, 0, none⟩ = some (.int .i64 a0_0) := e_ BK139 0; have hcz11_1 : w8.cell? ⟨gb139, 1, none⟩ = some (.int .i64 a0_1) := e_ BK139 1; have hcz11_2 : w8.cell? ⟨gb139, 2, none⟩ = some (.slice (some ad140) l0_2.length c0_2) := e_ BK139 2; obtain ⟨hfz11_0, hfz11_1, hfz11_2⟩ := z3_ BK139))
     go_ret
     exact ⟨_, by first | rfl | (simp [errW_none, errW_some] <;> rfl) | (simp [*, errW_none, errW_some] <;> rfl), by (with_reducible repeat (first | apply ra_ | apply rn_ | apply rd_)); exact Kd.R_mono (f6_ (g := gb141) (Kd.R_mono HO_3.out (fun k_ hk => (⟨hk, hk.2⟩ : _ ∧ k_ ≠ gb141))) (fun _ hk => hk.2) (.int .i64 ((rd_T24 l0_2 x9_1).f0)) (.int .i64 ((rd_T24 l0_2 x9_1).f1)) (.int .i64 ((rd_T24 l0_2 x9_1).f2)) (.int .i64 ((rd_T24 l0_2 x9_1).f3)) (.int .i64 ((rd_T24 l0_2 x9_1).f4)) (.string ((rd_T24 l0_2 x9_1).f5))) (fun _ hk => trivial), by repeat (first | (with_reducible first | exact HB.out | apply wa_ | apply wn_ | apply wd_ | refine ws_ ?_ GE139.out | refine ws_ ?_ GE141.out) | exact HB.out)⟩
   · rw [if_neg c7] at H
     have c7b0 : decide (((rd_T24 l0_2 x9_1).f1) < a0_1) = false := decide_eq_false c7
     clear c7
     by_cases c12 : (wrap64 (((rd_T24 l0_2 x9_1).f1) - a0_1)) = x9_1
     · rw [if_pos c12] at H
       have c12b0 : ((wrap64 (((rd_T24 l0_2 x9_1).f1) - a0_1)) == x9_1) = true := beq_iff_eq.mpr c12
       have c12b1 : ((wrap64 (((rd_T24 l0_2 x9_1).f1) - a0_1)) != x9_1) = false := bne_eq_false_iff_eq.mpr c12
       clear c12
       by_cases c13 : x3_1.length < 2513169434916
       rotate_left
       · rw [if_neg c13] at H
         exact absurd H (by simp)
       rw [if_pos c13] at H
       have LMc13 := A_ c13
       clear c13
       obtain ⟨y142, hy142⟩ : ∃ y_ : List (S24), y_ = (x3_1 ++ [(⟨(rd_T24 l0_2 x9_1).f0, (rd_T24 l0_2 x9_1).f1, (rd_T24 l0_2 x9_1).f2, (rd_T24 l0_2 x9_1).f3, (rd_T24 l0_2 x9_1).f4, (rd_T24 l0_2 x9_1).f5⟩ : S24)]) := ⟨_, rfl⟩
       replace H : (queue_Ready.l0 k1 y142 l0_2 (l0_2.length : Int) (wrap64 (x9_1 + 1)) a0_0 a0_1 l0_2) = some r := by first | (rw [hy142]; with_reducible exact H) | (have H2_ := (Option.bind_some _ _).symm.trans H; rw [hy142]; with_reducible exact H2_) | (have H2_ := (Option.bind_some _ _).symm.trans H; with_reducible exact H2_) | with_reducible exact H | (rw [hy142]; exact H) | exact H
       have Ny142 := A_ hy142
       clear hy142
       have H' := A_ H
       clear H
       have p140 : 0 ≤ (x9_1 : Int) := of_decide_eq_true (by first | (with_reducible assumption) | assumption)
       have q140 : x9_1 < (l0_2.length : Int) := of_decide_eq_true (by first | (with_reducible assumption) | assumption)
       obtain ⟨ad140, e140, hx140_0, hx140_1, hx140_2, hx140_3, hx140_4, hx140_5⟩ := at_T24 HR0_2.out x9_1 p140 q140
       cases e140
       replace hx140_0 := on_ HB.out hx140_0
       replace hx140_1 := on_ HB.out hx140_1
       replace hx140_2 := on_ HB.out hx140_2
       replace hx140_3 := on_ HB.out hx140_3
       replace hx140_4 := on_ HB.out hx140_4
       replace hx140_5 := on_ HB.out hx140_5
       replace p140 := eq_true p140
       replace q140 := eq_true q140
       go_wp2_with (first | ((with_reducible refine gate_dst (N := 5) rfl ?_); refine box_event ?hg (N := 5) ?hd (cs := #[.int .i64 0, .int .i64 0, .int .i64 0, .int .i64 0, .int .i64 0, .string (⟨#[]⟩ : ByteArray)]) (t := 24) ?hr ?_; (case hd => rfl); (case hg => rfl); (case hr => first | (go_simp; done) | (go_simp; rfl)); intro gb141 hg w14 hbox hb; have n0_ := A_ (Kd.R_below (Kd.R_elderB (pr_ HO_3.out) gb141 (Nat.le_of_eq hg.symm)) hb); have n1_ := A_ (kb_ BK139 hb); have n2_ := A_ (below_step bw_ hb); have n3_ := A_ (hbox); have n4_ := A_ (gz_ (w := w) hg); have n5_ := A_ (gz_ (w := w) hg); have n6_ := A_ (nl_ BK139 hg); have n7_ := A_ (ng_ BK139 hg); replace HO_3 := n0_; replace BK139 := n1_; replace HB := n2_; have BK141 := n3_; have GW141 := n4_; have GE141 := n5_; have NB139_141 := n6_; have NB141_139 := n7_; clear n0_ n1_ n2_ n3_ n4_ n5_ n6_ n7_; clear hb hbox hg; have hnb15 := NB141_139.out; have hnc15 := NB139_141.out; have hcz16_0 : w14.cell? ⟨gb141, 0, none⟩ = some (.int .i64 0) := e_ BK141 0; have hcz16_1 : w14.cell? ⟨gb141, 1, none⟩ = some (.int .i64 0) := e_ BK141 1; have hcz16_2 : w14.cell? ⟨gb141, 2, none⟩ = some (.int .i64 0) := e_ BK141 2; have hcz16_3 : w14.cell? ⟨gb141, 3, none⟩ = some (.int .i64 0) := e_ BK141 3; have hcz16_4 : w14.cell? ⟨gb141, 4, none⟩ = some (.int .i64 0) := e_ BK141 4; have hcz16_5 : w14.cell? ⟨gb141, 5, none⟩ = some (.string (⟨#[]⟩ : ByteArray)) := e_ BK141 5; obtain ⟨hfz16_0, hfz16_1, hfz16_2, hfz16_3, hfz16_4, hfz16_5⟩ := z6_ BK141; have hcz17_0 : w14.cell? ⟨gb139, 0, none⟩ = some (.int .i64 a0_0) := e_ BK139 0; have hcz17_1 : w14.cell? ⟨gb139, 1, none⟩ = some (.int .i64 a0_1) := e_ BK139 1; have hcz17_2 : w14.cell? ⟨gb139, 2, none⟩ = some (.slice (some ad140) l0_2.length c0_2) := e_ BK139 2; obtain ⟨hfz17_0, hfz17_1, hfz17_2⟩ := z3_ BK139) | ((with_reducible refine gate_builtin (b := .append) (xs := #[.tmp 28, .tmp 30]) rfl ?_); at_builtin; refine Kd.R_append k24 (w0 := w) w.heap.size rfl (.tmp 28) (.tmp 30) 22 24 (.agg #[(.int .i64 0), (.int .i64 0), (.int .i64 0), (.int .i64 0), (.int .i64 0), (.string ⟨#[]⟩)]) 56 rfl Try.underlying22 info24 rfl (by decide) (by omega) u3 x3_1 (⟨(rd_T24 l0_2 x9_1).f0, (rd_T24 l0_2 x9_1).f1, (rd_T24 l0_2 x9_1).f2, (rd_T24 l0_2 x9_1).f3, (rd_T24 l0_2 x9_1).f4, (rd_T24 l0_2 x9_1).f5⟩ : S24) [.int .i64 ((rd_T24 l0_2 x9_1).f0), .int .i64 ((rd_T24 l0_2 x9_1).f1), .int .i64 ((rd_T24 l0_2 x9_1).f2), .int .i64 ((rd_T24 l0_2 x9_1).f3), .int .i64 ((rd_T24 l0_2 x9_1).f4), .string ((rd_T24 l0_2 x9_1).f5)] (fun k_ => k_ ≠ gb141) (fun _ => False) rfl (by first | (go_simp; done) | (go_simp; rfl)) ?aP (fun _ hk => hk.elim) ?aF ?aO ?aB ?aS ?aL ?_; (case aP => exact k24_mkM _ _ _ (⟨(rd_T24 l0_2 x9_1).f0, (rd_T24 l0_2 x9_1).f1, (rd_T24 l0_2 x9_1).f2, (rd_T24 l0_2 x9_1).f3, (rd_T24 l0_2 x9_1).f4, (rd_T24 l0_2 x9_1).f5⟩ : S24)); (case aB => exact bw_); (case aF => exact (fun k_ hk => Kd.freshB (g := gb141) (o := .cells #[.int .i64 ((rd_T24 l0_2 x9_1).f0), .int .i64 ((rd_T24 l0_2 x9_1).f1), .int .i64 ((rd_T24 l0_2 x9_1).f2), .int .i64 ((rd_T24 l0_2 x9_1).f3), .int .i64 ((rd_T24 l0_2 x9_1).f4), .string ((rd_T24 l0_2 x9_1).f5)] 24 (0, 0)) (by exact pk_ (b6_ BK141.out)) k_ hk)); (case aO => exact (by (with_reducible repeat (first | apply ra_ | apply rn_ | apply rd_)); exact Kd.R_mono (f6_ (g := gb141) (Kd.R_mono HO_3.out (fun k_ hk => (⟨hk, hk.2⟩ : _ ∧ k_ ≠ gb141))) (fun _ hk => hk.2) (.int .i64 ((rd_T24 l0_2 x9_1).f0)) (.int .i64 ((rd_T24 l0_2 x9_1).f1)) (.int .i64 ((rd_T24 l0_2 x9_1).f2)) (.int .i64 ((rd_T24 l0_2 x9_1).f3)) (.int .i64 ((rd_T24 l0_2 x9_1).f4)) (.string ((rd_T24 l0_2 x9_1).f5))) (fun _ hk => hk.1.2))); (case aS => exact (below_size bw_)); (case aL => have := LMc13.out; omega); intro v143 w18 ho hb hg hat; rw [← Ny142.out] at ho; replace BK139 := A_ (blk_grown (g := gb139) (o := .cells #[.int .i64 a0_0, .int .i64 a0_1, .slice (some ad140) l0_2.length c0_2] 46 (0, 0)) bk_ hg (Kd.R_ne HO_3.out BK139.out (by decide))); replace BK141 := A_ (blk_grown (g := gb141) (o := .cells #[.int .i64 ((rd_T24 l0_2 x9_1).f0), .int .i64 ((rd_T24 l0_2 x9_1).f1), .int .i64 ((rd_T24 l0_2 x9_1).f2), .int .i64 ((rd_T24 l0_2 x9_1).f3), .int .i64 ((rd_T24 l0_2 x9_1).f4), .string ((rd_T24 l0_2 x9_1).f5)] 24 (0, 0)) (by exact pk_ (b6_ BK141.out)) hg (Kd.R_away HO_3.out (fun _ hk => hk.2))); replace HB := A_ (hb); have HO144 := A_ (ho); clear HO_3; clear ho hb hg hat))
       go_roundg k1
       case measure => have := HK1.out; omega
       case rel => exact ⟨(y142), (wrap64 (x9_1 + 1)), (by first | rfl | (simp; done) | (simp [*]; done)), H', ⟨by have := HK1.out; omega⟩, ⟨by (with_reducible repeat (first | apply ra_ | apply rn_ | apply rd_)); exact Kd.R_mono HO144.out (fun _ hk => trivial)⟩, ⟨bk_⟩, ⟨by repeat (first | (with_reducible first | exact HB.out | apply wa_ | apply wn_ | apply wd_ | refine ws_ ?_ GE139.out | refine ws_ ?_ GE141.out) | exact HB.out)⟩⟩
     · rw [if_neg c12] at H
       have c12b0 : ((wrap64 (((rd_T24 l0_2 x9_1).f1) - a0_1)) == x9_1) = false := beq_eq_false_iff_ne.mpr c12
       have c12b1 : ((wrap64 (((rd_T24 l0_2 x9_1).f1) - a0_1)) != x9_1) = true := bne_iff_ne.mpr c12
       obtain rfl := Option.some.inj H
       have p140 : 0 ≤ (x9_1 : Int) := of_decide_eq_true (by first | (with_reducible assumption) | assumption)
       have q140 : x9_1 < (l0_2.length : Int) := of_decide_eq_true (by first | (with_reducible assumption) | assumption)
       obtain ⟨ad140, e140, hx140_0, hx140_1, hx140_2, hx140_3, hx140_4, hx140_5⟩ := at_T24 HR0_2.out x9_1 p140 q140
       cases e140
       replace hx140_0 := on_ HB.out hx140_0
       replace hx140_1 := on_ HB.out hx140_1
       replace hx140_2 := on_ HB.out hx140_2
       replace hx140_3 := on_ HB.out hx140_3
       replace hx140_4 := on_ HB.out hx140_4
       replace hx140_5 := on_ HB.out hx140_5
       replace p140 := eq_true p140
       replace q140 := eq_true q140
       go_wp2_with (first | ((with_reducible refine gate_dst (N := 5) rfl ?_); refine box_event ?hg (N := 5) ?hd (cs := #[.int .i64 0, .int .i64 0, .int .i64 0, .int .i64 0, .int .i64 0, .string (⟨#[]⟩ : ByteArray)]) (t := 24) ?hr ?_; (case hd => rfl); (case hg => rfl); (case hr => first | (go_simp; done) | (go_simp; rfl)); intro gb141 hg w19 hbox hb; have n0_ := A_ (Kd.R_below (Kd.R_elderB (pr_ HO_3.out) gb141 (Nat.le_of_eq hg.symm)) hb); have n1_ := A_ (kb_ BK139 hb); have n2_ := A_ (below_step bw_ hb); have n3_ := A_ (hbox); have n4_ := A_ (gz_ (w := w) hg); have n5_ := A_ (gz_ (w := w) hg); have n6_ := A_ (nl_ BK139 hg); have n7_ := A_ (ng_ BK139 hg); replace HO_3 := n0_; replace BK139 := n1_; replace HB := n2_; have BK141 := n3_; have GW141 := n4_; have GE141 := n5_; have NB139_141 := n6_; have NB141_139 := n7_; clear n0_ n1_ n2_ n3_ n4_ n5_ n6_ n7_; clear hb hbox hg; have hnb20 := NB141_139.out; have hnc20 := NB139_141.out; have hcz21_0 : w19.cell? ⟨gb141, 0, none⟩ = some (.int .i64 0) := e_ BK141 0; have hcz21_1 : w19.cell? ⟨gb141, 1, none⟩ = some (.int .i64 0) := e_ BK141 1; have hcz21_2 : w19.cell? ⟨gb141, 2, none⟩ = some (.int .i64 0) := e_ BK141 2; have hcz21_3 : w19.cell? ⟨gb141, 3, none⟩ = some (.int .i64 0) := e_ BK141 3; have hcz21_4 : w19.cell? ⟨gb141, 4, none⟩ = some (.int .i64 0) := e_ BK141 4; have hcz21_5 : w19.cell? ⟨gb141, 5, none⟩ = some (.string (⟨#[]⟩ : ByteArray)) := e_ BK141 5; obtain ⟨hfz21_0, hfz21_1, hfz21_2, hfz21_3, hfz21_4, hfz21_5⟩ := z6_ BK141; have hcz22_0 : w19.cell? ⟨gb139, 0, none⟩ = some (.int .i64 a0_0) := e_ BK139 0; have hcz22_1 : w19.cell? ⟨gb139, 1, none⟩ = some (.int .i64 a0_1) := e_ BK139 1; have hcz22_2 : w19.cell? ⟨gb139, 2, none⟩ = some (.slice (some ad140) l0_2.length c0_2) := e_ BK139 2; obtain ⟨hfz22_0, hfz22_1, hfz22_2⟩ := z3_ BK139))
       go_ret
       exact ⟨_, by first | rfl | (simp [errW_none, errW_some] <;> rfl) | (simp [*, errW_none, errW_some] <;> rfl), by (with_reducible repeat (first | apply ra_ | apply rn_ | apply rd_)); exact Kd.R_mono (f6_ (g := gb141) (Kd.R_mono HO_3.out (fun k_ hk => (⟨hk, hk.2⟩ : _ ∧ k_ ≠ gb141))) (fun _ hk => hk.2) (.int .i64 ((rd_T24 l0_2 x9_1).f0)) (.int .i64 ((rd_T24 l0_2 x9_1).f1)) (.int .i64 ((rd_T24 l0_2 x9_1).f2)) (.int .i64 ((rd_T24 l0_2 x9_1).f3)) (.int .i64 ((rd_T24 l0_2 x9_1).f4)) (.string ((rd_T24 l0_2 x9_1).f5))) (fun _ hk => trivial), by repeat (first | (with_reducible first | exact HB.out | apply wa_ | apply wn_ | apply wd_ | refine ws_ ?_ GE139.out | refine ws_ ?_ GE141.out) | exact HB.out)⟩
-- NOT PRINTED: function 166 (abi_NoEscape)

/-! ### strings_Builder_copyCheck: function 162, by hand -/
-- HAND rounds=0 making=1 opaque
-- IMPORT Derived.Lib.Builder
-- IMPORT Derived.Lib.AppendStr
-- IMPORT Derived.Lib.UnsafeStr
theorem sizeB : (Try.prog.info? 164).map (·.size) = some 2 := by kernel_rfl
theorem liesB : liesAt Try.prog Try.prog.depth 164 (2 / Try.prog.cellsOf 164) 0 164 1 = true := by kernel_rfl
set_option maxHeartbeats 1000000 in
set_option maxRecDepth 100000 in
theorem builder_used (b : Nat) (w : World) (h0 : w.cell? ⟨b, 0, none⟩ = some (.pointer (some ⟨b, 0, none⟩))) :
    Calls Try.prog 162 #[.pointer (some ⟨b, 0, none⟩)] w fun e w' => e = .returned (.tuple #[]) ∧ w' = w := by
  obtain ⟨j, hj, _⟩ := Option.map_eq_some_iff.1 sizeB
  go_enter Try.func162, Try.ntmps162
  go_wp2
  rw [Lib.run_neq_ptr_same w _ Try.underlying161 hj]
  go_wp2
  go_end0
  exact ⟨rfl, rfl⟩
set_option maxHeartbeats 1000000 in
set_option maxRecDepth 100000 in
theorem builder_fresh (b : Nat) (w : World) (h0 : w.cell? ⟨b, 0, none⟩ = some (.pointer none)) (hsh : w.shape? b = some (164, 2)) (hfz : w.frozen? ⟨b, 0, none⟩ = false) :
    Calls Try.prog 162 #[.pointer (some ⟨b, 0, none⟩)] w fun e w' => e = .returned (.tuple #[]) ∧ w' = w.setCell ⟨b, 0, none⟩ (.pointer (some ⟨b, 0, none⟩)) := by
  obtain ⟨j, hj, hjs⟩ := Option.map_eq_some_iff.1 sizeB
  go_enter Try.func162, Try.ntmps162
  go_wp2
  rw [Lib.run_to_unsafe w ⟨b, 0, none⟩ Try.underlying161 Try.underlying179 hj (by rw [hjs]; decide) hsh (Nat.zero_lt_succ 1)]
  simp only [Result.andThen]
  rw [Oper.upon_value]
  go_wp2
  rw [run_callFunc_extern Try.func166 (by kernel_rfl) (by kernel_rfl) (by kernel_rfl) (e := Extern.AbiNoEscape.same) (by kernel_rfl), Lib.run_noEscape]
  simp only [Result.andThen]
  rw [Oper.upon_value]
  go_wp2
  rw [Lib.run_from_unsafe w ⟨b, 0, none⟩ Try.underlying179 Try.underlying161 hj hsh liesB]
  simp only [Result.andThen]
  rw [Oper.upon_value]
  go_wp2
  go_end0
  exact ⟨rfl, rfl⟩
theorem strings_Builder_copyCheck.calls (B b : Nat) (bs : List Value) (w : World) (h : Lib.IsBuilder 164 5 B b bs w) :
    Calls Try.prog 162 #[.pointer (some ⟨b, 0, none⟩)] w fun e w' => e = .returned (.tuple #[]) ∧ (Lib.BuilderAt 164 5 B b (.pointer (some ⟨b, 0, none⟩)) bs w' ∧ Below B w w') := by
  rcases h with h | h
  · refine (builder_fresh b w h.cell0 h.shape h.frozen0).mono ?_
    rintro e w' ⟨rfl, rfl⟩
    exact ⟨rfl, h.used _, (Below.refl B w).setCell (p := ⟨b, 0, none⟩) h.1 _⟩
  · refine (builder_used b w h.cell0).mono ?_
    rintro e w' ⟨rfl, rfl⟩
    exact ⟨rfl, h, Below.refl B _⟩


/-! ### strings_Builder_WriteString: function 151, by hand -/
-- HAND rounds=0 making=1 opaque
-- IMPORT Derived.OwnWalk
theorem infoB : (Try.prog.info? 5).map (fun i => (i.zero, i.size, i.bytes)) = some (some (.int .u8 0), 1, 1) := by kernel_rfl
set_option maxHeartbeats 1000000 in
set_option maxRecDepth 100000 in
theorem strings_Builder_WriteString.calls (B b : Nat) (bs : List Value) (s : ByteArray) (w : World) (h : Lib.IsBuilder 164 5 B b bs w) (hlen : bs.length + s.size ≤ 140737488355328) (hBw : B ≤ w.heap.size) :
    Calls Try.prog 151 #[.pointer (some ⟨b, 0, none⟩), .string s] w fun e w' => e = .returned (.tuple #[.int .i64 s.size, .nilIface]) ∧ (Lib.BuilderAt 164 5 B b (.pointer (some ⟨b, 0, none⟩)) (bs ++ Lib.strCells s) w' ∧ Below B w w') := by
  obtain ⟨i0, hi, hz⟩ := Option.map_eq_some_iff.1 infoB
  simp only [Prod.mk.injEq] at hz
  obtain ⟨hz0, hz1, hz2⟩ := hz
  have HC := Aside0.mk (strings_Builder_copyCheck.calls B b bs w h)
  go_enter Try.func151, Try.ntmps151
  go_wp2_with (first | (go_at_call 162; (with_reducible refine HC.out.mono ?_)))
  rintro e w1 ⟨rfl, h1, hb1⟩
  obtain ⟨hB, v, hbk, hown, hne⟩ := h1
  have c0 : w1.cell? ⟨b, 0, none⟩ = some (.pointer (some ⟨b, 0, none⟩)) := by rw [Lib.cell_of_heap hbk]; rfl
  have c1 : w1.cell? ⟨b, 1, none⟩ = some v := by rw [Lib.cell_of_heap hbk]; rfl
  go_wp2_with (at_builtin; refine Lib.wpList_append_own_string _ rfl _ _ 162 9 rfl B 5 i0 Try.underlying162 Try.underlying9 hi hz0 hz1 hz2 _ _ _ rfl hown s rfl ?c3 ?c4 ?c5 ?_)
  case c3 => unfold maxLen; omega
  case c4 => omega
  case c5 => have := hb1.size; omega
  intro v' w2 hown' hgrow _
  have hlt : b < w1.heap.size := by
    rcases Nat.lt_or_ge b w1.heap.size with h' | h'
    · exact h'
    · simp [Array.getElem?_eq_none h'] at hbk
  have hb2 : w2.heap[b]? = some (.cells #[.pointer (some ⟨b, 0, none⟩), v] 164 (0, 0)) := by
    rw [hgrow.block b hlt (fun e => hne e.symm)]
    exact hbk
  have d0 : w2.cell? ⟨b, 0, none⟩ = some (.pointer (some ⟨b, 0, none⟩)) := by rw [Lib.cell_of_heap hb2]; rfl
  have d1 : w2.cell? ⟨b, 1, none⟩ = some v := by rw [Lib.cell_of_heap hb2]; rfl
  have f1 : w2.frozen? ⟨b, 1, none⟩ = false := Lib.frozen_of_heap hb2 1
  obtain ⟨ao, n', cap, rfl⟩ : ∃ ao n' cap, v' = .slice ao n' cap := by
    rcases hown'.2 with ⟨hv, _⟩ | ⟨g, cap, cur, hv, _⟩
    · exact ⟨_, _, _, hv⟩
    · exact ⟨_, _, _, hv⟩
  go_wp2
  go_ret2
  refine ⟨rfl, ?_, ?_⟩
  · exact Lib.BuilderAt.put (T := 164) (e := 5) hB hb2 (bs' := bs ++ Lib.strCells s) (by simpa [Lib.strCells_length] using hown') (by decide)
  · exact (hb1.grown hgrow (by have := hb1.size; omega) (fun k hk => (hown.lt k hk).1)).setCell (p := ⟨b, 1, none⟩) hB _


end Go.Proofs.Ytehncbhmdgdkjaa.Q
