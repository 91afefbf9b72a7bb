/- Written by this session's own program over the kit's print: functions of Go told as plain functions, or the row of one statement; proved for every input, with no condition of ours. -/
import Derived.Test.YtnjnogkhbadioaaDx0
import Derived.Test.YtnjnogkhbadioaaDx11
namespace Go.Proofs.Ytnjnogkhbadioaa.D
open Go.RowKit Go.Proofs.YtnjnogkhbadioaaW.PrintWords Go.Proofs.YtnjnogkhbadioaaW.PrintLast Go.Proofs.YtnjnogkhbadioaaW.PrintMore
attribute [local go_sem] max2_int min2_int max_two min_two max_three min_three max_four min_four   -- for this text's walks alone
set_option linter.unusedVariables false
set_option linter.unusedSimpArgs false

/-! ### hopperref04_Better: function 19 -/
def hopperref04_Better.f (k : Nat) (a0_0 : Int) (a0_1 : Int) (a0_2 : Int) (a0_3 : Int) (a0_4 : Int) (a0_5 : ByteArray) (a1_0 : Int) (a1_1 : Int) (a1_2 : Int) (a1_3 : Int) (a1_4 : Int) (a1_5 : ByteArray) : Option (Bool) := (hopperref04_ID.f k a0_0 a0_1 a0_2 a0_3 a0_4 a0_5).bind fun t217 => ((hopperref04_ID.f k a1_0 a1_1 a1_2 a1_3 a1_4 a1_5).bind fun t218 => (if a0_2 = a1_2 then (if t217.toList = t218.toList then (if a0_0 = a1_0 then (some (decide (a0_1 < a1_1))) else (some (decide (a0_0 < a1_0)))) else (some (Op.bytesLess t217.toList t218.toList))) else (some (decide (a0_2 > a1_2)))))
theorem hopperref04_Better.mono : ∀ a0 a1 a2 a3 a4 a5 a6 a7 a8 a9 a10 a11 k, LeO (hopperref04_Better.f k a0 a1 a2 a3 a4 a5 a6 a7 a8 a9 a10 a11) (hopperref04_Better.f (k + 1) a0 a1 a2 a3 a4 a5 a6 a7 a8 a9 a10 a11) := by
 intro a0 a1 a2 a3 a4 a5 a6 a7 a8 a9 a10 a11 k
 unfold hopperref04_Better.f
 repeat' first
  | (with_reducible exact hopperref04_ID.mono _ _ _ _ _ _ _)
  | (with_reducible exact LeO.refl _)
  | (with_reducible exact LeO.none _)
  | (with_reducible refine LeO.ite ?_ ?_)
  | (with_reducible refine LeO.bind ?_ (fun _ => ?_))
  | exact hopperref04_ID.mono _ _ _ _ _ _ _
  | exact LeO.none _
  | refine LeO.ite ?_ ?_
  | refine LeO.bind ?_ (fun _ => ?_)
set_option maxHeartbeats 8000000 in
set_option maxRecDepth 100000 in
theorem hopperref04_Better.calls (k : Nat) (a0_0 : Int) (a0_1 : Int) (a0_2 : Int) (a0_3 : Int) (a0_4 : Int) (a0_5 : ByteArray) (a1_0 : Int) (a1_1 : Int) (a1_2 : Int) (a1_3 : Int) (a1_4 : Int) (a1_5 : ByteArray) (r : Bool) (w : World) (h : hopperref04_Better.f k a0_0 a0_1 a0_2 a0_3 a0_4 a0_5 a1_0 a1_1 a1_2 a1_3 a1_4 a1_5 = some r) :
 Calls Try.prog 19 #[.agg #[.int .i64 a0_0, .int .i64 a0_1, .int .i64 a0_2, .int .i64 a0_3, .int .i64 a0_4, .string a0_5], .agg #[.int .i64 a1_0, .int .i64 a1_1, .int .i64 a1_2, .int .i64 a1_3, .int .i64 a1_4, .string a1_5]] w fun e w' => e = .returned (.bool r) ∧ Below w.heap.size w w' := by
 have hu32 := Try.underlying32
 have HB := A_ (Below.refl w.heap.size w)
 have H : ((hopperref04_ID.f k a0_0 a0_1 a0_2 a0_3 a0_4 a0_5).bind fun t217 => ((hopperref04_ID.f k a1_0 a1_1 a1_2 a1_3 a1_4 a1_5).bind fun t218 => (if a0_2 = a1_2 then (if t217.toList = t218.toList then (if a0_0 = a1_0 then (some (decide (a0_1 < a1_1))) else (some (decide (a0_0 < a1_0)))) else (some (Op.bytesLess t217.toList t218.toList))) else (some (decide (a0_2 > a1_2)))))) = some r := h
 clear h
 replace H := Option.bind_eq_some_iff.mp H
 obtain ⟨t217, A30, H⟩ := H
 try dsimp only at H
 have A3 := A_ A30
 clear A30
 replace H := Option.bind_eq_some_iff.mp H
 obtain ⟨t218, A40, H⟩ := H
 try dsimp only at H
 have A4 := A_ A40
 clear A40
 by_cases c5 : a0_2 = a1_2
 rotate_left
 · rw [if_neg c5] at H
   have c5b0 : (a0_2 == a1_2) = false := beq_eq_false_iff_ne.mpr c5
   have c5b1 : (a0_2 != a1_2) = true := bne_iff_ne.mpr c5
   obtain rfl := Option.some.inj H
   go_enter Try.func19, Try.ntmps19
   go_wp2_with (first | ((with_reducible refine gate_dst (N := 2) rfl ?_); refine box_event ?hg (N := 2) ?hd (cs := #[.int .i64 a0_0, .int .i64 a0_1, .int .i64 a0_2, .int .i64 a0_3, .int .i64 a0_4, .string a0_5]) (t := 32) ?hr ?_; (case hd => rfl); (case hg => rfl); (case hr => first | (go_simp; done) | (go_simp; rfl)); intro gb215 hg w35 hbox hb; have n0_ := A_ (below_step bw_ hb); have n1_ := A_ (hbox); have n2_ := A_ (gz_ (w := w) hg); have n3_ := A_ (gz_ (w := w) hg); replace HB := n0_; have BK215 := n1_; have GW215 := n2_; have GE215 := n3_; clear n0_ n1_ n2_ n3_; clear hb hbox hg) | ((with_reducible refine gate_dst (N := 3) rfl ?_); refine box_event ?hg (N := 3) ?hd (cs := #[.int .i64 a1_0, .int .i64 a1_1, .int .i64 a1_2, .int .i64 a1_3, .int .i64 a1_4, .string a1_5]) (t := 32) ?hr ?_; (case hd => rfl); (case hg => rfl); (case hr => first | (go_simp; done) | (go_simp; rfl)); intro gb216 hg w36 hbox hb; have n0_ := A_ (kb_ BK215 hb); have n1_ := A_ (below_step bw_ hb); have n2_ := A_ (hbox); have n3_ := A_ (gz_ (w := w) hg); have n4_ := A_ (gz_ (w := w) hg); have n5_ := A_ (nl_ BK215 hg); have n6_ := A_ (ng_ BK215 hg); replace BK215 := n0_; replace HB := n1_; have BK216 := n2_; have GW216 := n3_; have GE216 := n4_; have NB215_216 := n5_; have NB216_215 := n6_; clear n0_ n1_ n2_ n3_ n4_ n5_ n6_; clear hb hbox hg; have hnb37 := NB215_216.out; have hnc37 := NB216_215.out; have hcz38_0 : w36.cell? ⟨gb215, 0, none⟩ = some (.int .i64 a0_0) := e_ BK215 0; have hcz38_1 : w36.cell? ⟨gb215, 1, none⟩ = some (.int .i64 a0_1) := e_ BK215 1; have hcz38_2 : w36.cell? ⟨gb215, 2, none⟩ = some (.int .i64 a0_2) := e_ BK215 2; have hcz38_3 : w36.cell? ⟨gb215, 3, none⟩ = some (.int .i64 a0_3) := e_ BK215 3; have hcz38_4 : w36.cell? ⟨gb215, 4, none⟩ = some (.int .i64 a0_4) := e_ BK215 4; have hcz38_5 : w36.cell? ⟨gb215, 5, none⟩ = some (.string a0_5) := e_ BK215 5; obtain ⟨hfz38_0, hfz38_1, hfz38_2, hfz38_3, hfz38_4, hfz38_5⟩ := z6_ BK215) | ((with_reducible refine gate_callee (f := 33) rfl ?_); refine goesL_ (some 8) rfl rfl Try.func33 (by kernel_rfl) rfl #[.agg #[.int .i64 a0_0, .int .i64 a0_1, .int .i64 a0_2, .int .i64 a0_3, .int .i64 a0_4, .string a0_5]] rfl (by (try simp only [m0_, m1_, m2_]); first | done | rfl) ?_; (with_reducible refine (hopperref04_ID.calls k a0_0 a0_1 a0_2 a0_3 a0_4 a0_5 t217 _ A3.out).mono ?_); rintro e w39 ⟨rfl, hb⟩; refine ⟨_, rfl, ?_⟩; replace BK215 := A_ (kb_ BK215 hb); replace BK216 := A_ (kb_ BK216 hb); replace HB := A_ (below_step bw_ hb); (try clear hb); (try clear hb2); (try clear hk); (try clear hi); have hcz40_0 : w39.cell? ⟨gb216, 0, none⟩ = some (.int .i64 a1_0) := e_ BK216 0; have hcz40_1 : w39.cell? ⟨gb216, 1, none⟩ = some (.int .i64 a1_1) := e_ BK216 1; have hcz40_2 : w39.cell? ⟨gb216, 2, none⟩ = some (.int .i64 a1_2) := e_ BK216 2; have hcz40_3 : w39.cell? ⟨gb216, 3, none⟩ = some (.int .i64 a1_3) := e_ BK216 3; have hcz40_4 : w39.cell? ⟨gb216, 4, none⟩ = some (.int .i64 a1_4) := e_ BK216 4; have hcz40_5 : w39.cell? ⟨gb216, 5, none⟩ = some (.string a1_5) := e_ BK216 5; obtain ⟨hfz40_0, hfz40_1, hfz40_2, hfz40_3, hfz40_4, hfz40_5⟩ := z6_ BK216) | ((with_reducible refine gate_callee (f := 33) rfl ?_); refine goesL_ (some 10) rfl rfl Try.func33 (by kernel_rfl) rfl #[.agg #[.int .i64 a1_0, .int .i64 a1_1, .int .i64 a1_2, .int .i64 a1_3, .int .i64 a1_4, .string a1_5]] rfl (by (try simp only [m0_, m1_, m2_]); first | done | rfl) ?_; (with_reducible refine (hopperref04_ID.calls k a1_0 a1_1 a1_2 a1_3 a1_4 a1_5 t218 _ A4.out).mono ?_); rintro e w41 ⟨rfl, hb⟩; refine ⟨_, rfl, ?_⟩; replace BK215 := A_ (kb_ BK215 hb); replace BK216 := A_ (kb_ BK216 hb); replace HB := A_ (below_step bw_ hb); (try clear hb); (try clear hb2); (try clear hk); (try clear hi); have hcz42_0 : w41.cell? ⟨gb215, 0, none⟩ = some (.int .i64 a0_0) := e_ BK215 0; have hcz42_1 : w41.cell? ⟨gb215, 1, none⟩ = some (.int .i64 a0_1) := e_ BK215 1; have hcz42_2 : w41.cell? ⟨gb215, 2, none⟩ = some (.int .i64 a0_2) := e_ BK215 2; have hcz42_3 : w41.cell? ⟨gb215, 3, none⟩ = some (.int .i64 a0_3) := e_ BK215 3; have hcz42_4 : w41.cell? ⟨gb215, 4, none⟩ = some (.int .i64 a0_4) := e_ BK215 4; have hcz42_5 : w41.cell? ⟨gb215, 5, none⟩ = some (.string a0_5) := e_ BK215 5; obtain ⟨hfz42_0, hfz42_1, hfz42_2, hfz42_3, hfz42_4, hfz42_5⟩ := z6_ BK215; have hcz43_0 : w41.cell? ⟨gb216, 0, none⟩ = some (.int .i64 a1_0) := e_ BK216 0; have hcz43_1 : w41.cell? ⟨gb216, 1, none⟩ = some (.int .i64 a1_1) := e_ BK216 1; have hcz43_2 : w41.cell? ⟨gb216, 2, none⟩ = some (.int .i64 a1_2) := e_ BK216 2; have hcz43_3 : w41.cell? ⟨gb216, 3, none⟩ = some (.int .i64 a1_3) := e_ BK216 3; have hcz43_4 : w41.cell? ⟨gb216, 4, none⟩ = some (.int .i64 a1_4) := e_ BK216 4; have hcz43_5 : w41.cell? ⟨gb216, 5, none⟩ = some (.string a1_5) := e_ BK216 5; obtain ⟨hfz43_0, hfz43_1, hfz43_2, hfz43_3, hfz43_4, hfz43_5⟩ := z6_ BK216))
   go_ret
   exact ⟨by first | rfl | (simp [errW_none, errW_some] <;> rfl) | (simp [*, errW_none, errW_some] <;> rfl), by repeat (first | (with_reducible first | exact HB.out | apply wa_ | apply wn_ | apply wd_ | refine ws_ ?_ GE215.out | refine ws_ ?_ GE216.out) | exact HB.out)⟩

 rw [if_pos c5] at H
 have c5b0 : (a0_2 == a1_2) = true := beq_iff_eq.mpr c5
 have c5b1 : (a0_2 != a1_2) = false := bne_eq_false_iff_eq.mpr c5
 clear c5
 by_cases c6 : t217.toList = t218.toList
 rotate_left
 · rw [if_neg c6] at H
   have c6b0 : (t217.toList == t218.toList) = false := beq_eq_false_iff_ne.mpr c6
   have c6b1 : (t217.toList != t218.toList) = true := bne_iff_ne.mpr c6
   obtain rfl := Option.some.inj H
   go_enter Try.func19, Try.ntmps19
   go_wp2_with (first | ((with_reducible refine gate_dst (N := 2) rfl ?_); refine box_event ?hg (N := 2) ?hd (cs := #[.int .i64 a0_0, .int .i64 a0_1, .int .i64 a0_2, .int .i64 a0_3, .int .i64 a0_4, .string a0_5]) (t := 32) ?hr ?_; (case hd => rfl); (case hg => rfl); (case hr => first | (go_simp; done) | (go_simp; rfl)); intro gb215 hg w26 hbox hb; have n0_ := A_ (below_step bw_ hb); have n1_ := A_ (hbox); have n2_ := A_ (gz_ (w := w) hg); have n3_ := A_ (gz_ (w := w) hg); replace HB := n0_; have BK215 := n1_; have GW215 := n2_; have GE215 := n3_; clear n0_ n1_ n2_ n3_; clear hb hbox hg) | ((with_reducible refine gate_dst (N := 3) rfl ?_); refine box_event ?hg (N := 3) ?hd (cs := #[.int .i64 a1_0, .int .i64 a1_1, .int .i64 a1_2, .int .i64 a1_3, .int .i64 a1_4, .string a1_5]) (t := 32) ?hr ?_; (case hd => rfl); (case hg => rfl); (case hr => first | (go_simp; done) | (go_simp; rfl)); intro gb216 hg w27 hbox hb; have n0_ := A_ (kb_ BK215 hb); have n1_ := A_ (below_step bw_ hb); have n2_ := A_ (hbox); have n3_ := A_ (gz_ (w := w) hg); have n4_ := A_ (gz_ (w := w) hg); have n5_ := A_ (nl_ BK215 hg); have n6_ := A_ (ng_ BK215 hg); replace BK215 := n0_; replace HB := n1_; have BK216 := n2_; have GW216 := n3_; have GE216 := n4_; have NB215_216 := n5_; have NB216_215 := n6_; clear n0_ n1_ n2_ n3_ n4_ n5_ n6_; clear hb hbox hg; have hnb28 := NB215_216.out; have hnc28 := NB216_215.out; have hcz29_0 : w27.cell? ⟨gb215, 0, none⟩ = some (.int .i64 a0_0) := e_ BK215 0; have hcz29_1 : w27.cell? ⟨gb215, 1, none⟩ = some (.int .i64 a0_1) := e_ BK215 1; have hcz29_2 : w27.cell? ⟨gb215, 2, none⟩ = some (.int .i64 a0_2) := e_ BK215 2; have hcz29_3 : w27.cell? ⟨gb215, 3, none⟩ = some (.int .i64 a0_3) := e_ BK215 3; have hcz29_4 : w27.cell? ⟨gb215, 4, none⟩ = some (.int .i64 a0_4) := e_ BK215 4; have hcz29_5 : w27.cell? ⟨gb215, 5, none⟩ = some (.string a0_5) := e_ BK215 5; obtain ⟨hfz29_0, hfz29_1, hfz29_2, hfz29_3, hfz29_4, hfz29_5⟩ := z6_ BK215) | ((with_reducible refine gate_callee (f := 33) rfl ?_); refine goesL_ (some 8) rfl rfl Try.func33 (by kernel_rfl) rfl #[.agg #[.int .i64 a0_0, .int .i64 a0_1, .int .i64 a0_2, .int .i64 a0_3, .int .i64 a0_4, .string a0_5]] rfl (by (try simp only [m0_, m1_, m2_]); first | done | rfl) ?_; (with_reducible refine (hopperref04_ID.calls k a0_0 a0_1 a0_2 a0_3 a0_4 a0_5 t217 _ A3.out).mono ?_); rintro e w30 ⟨rfl, hb⟩; refine ⟨_, rfl, ?_⟩; replace BK215 := A_ (kb_ BK215 hb); replace BK216 := A_ (kb_ BK216 hb); replace HB := A_ (below_step bw_ hb); (try clear hb); (try clear hb2); (try clear hk); (try clear hi); have hcz31_0 : w30.cell? ⟨gb216, 0, none⟩ = some (.int .i64 a1_0) := e_ BK216 0; have hcz31_1 : w30.cell? ⟨gb216, 1, none⟩ = some (.int .i64 a1_1) := e_ BK216 1; have hcz31_2 : w30.cell? ⟨gb216, 2, none⟩ = some (.int .i64 a1_2) := e_ BK216 2; have hcz31_3 : w30.cell? ⟨gb216, 3, none⟩ = some (.int .i64 a1_3) := e_ BK216 3; have hcz31_4 : w30.cell? ⟨gb216, 4, none⟩ = some (.int .i64 a1_4) := e_ BK216 4; have hcz31_5 : w30.cell? ⟨gb216, 5, none⟩ = some (.string a1_5) := e_ BK216 5; obtain ⟨hfz31_0, hfz31_1, hfz31_2, hfz31_3, hfz31_4, hfz31_5⟩ := z6_ BK216) | ((with_reducible refine gate_callee (f := 33) rfl ?_); refine goesL_ (some 10) rfl rfl Try.func33 (by kernel_rfl) rfl #[.agg #[.int .i64 a1_0, .int .i64 a1_1, .int .i64 a1_2, .int .i64 a1_3, .int .i64 a1_4, .string a1_5]] rfl (by (try simp only [m0_, m1_, m2_]); first | done | rfl) ?_; (with_reducible refine (hopperref04_ID.calls k a1_0 a1_1 a1_2 a1_3 a1_4 a1_5 t218 _ A4.out).mono ?_); rintro e w32 ⟨rfl, hb⟩; refine ⟨_, rfl, ?_⟩; replace BK215 := A_ (kb_ BK215 hb); replace BK216 := A_ (kb_ BK216 hb); replace HB := A_ (below_step bw_ hb); (try clear hb); (try clear hb2); (try clear hk); (try clear hi); have hcz33_0 : w32.cell? ⟨gb215, 0, none⟩ = some (.int .i64 a0_0) := e_ BK215 0; have hcz33_1 : w32.cell? ⟨gb215, 1, none⟩ = some (.int .i64 a0_1) := e_ BK215 1; have hcz33_2 : w32.cell? ⟨gb215, 2, none⟩ = some (.int .i64 a0_2) := e_ BK215 2; have hcz33_3 : w32.cell? ⟨gb215, 3, none⟩ = some (.int .i64 a0_3) := e_ BK215 3; have hcz33_4 : w32.cell? ⟨gb215, 4, none⟩ = some (.int .i64 a0_4) := e_ BK215 4; have hcz33_5 : w32.cell? ⟨gb215, 5, none⟩ = some (.string a0_5) := e_ BK215 5; obtain ⟨hfz33_0, hfz33_1, hfz33_2, hfz33_3, hfz33_4, hfz33_5⟩ := z6_ BK215; have hcz34_0 : w32.cell? ⟨gb216, 0, none⟩ = some (.int .i64 a1_0) := e_ BK216 0; have hcz34_1 : w32.cell? ⟨gb216, 1, none⟩ = some (.int .i64 a1_1) := e_ BK216 1; have hcz34_2 : w32.cell? ⟨gb216, 2, none⟩ = some (.int .i64 a1_2) := e_ BK216 2; have hcz34_3 : w32.cell? ⟨gb216, 3, none⟩ = some (.int .i64 a1_3) := e_ BK216 3; have hcz34_4 : w32.cell? ⟨gb216, 4, none⟩ = some (.int .i64 a1_4) := e_ BK216 4; have hcz34_5 : w32.cell? ⟨gb216, 5, none⟩ = some (.string a1_5) := e_ BK216 5; obtain ⟨hfz34_0, hfz34_1, hfz34_2, hfz34_3, hfz34_4, hfz34_5⟩ := z6_ BK216))
   go_ret
   exact ⟨by first | rfl | (simp [errW_none, errW_some] <;> rfl) | (simp [*, errW_none, errW_some] <;> rfl), by repeat (first | (with_reducible first | exact HB.out | apply wa_ | apply wn_ | apply wd_ | refine ws_ ?_ GE215.out | refine ws_ ?_ GE216.out) | exact HB.out)⟩
 rw [if_pos c6] at H
 have c6b0 : (t217.toList == t218.toList) = true := beq_iff_eq.mpr c6
 have c6b1 : (t217.toList != t218.toList) = false := bne_eq_false_iff_eq.mpr c6
 clear c6
 by_cases c7 : a0_0 = a1_0
 · rw [if_pos c7] at H
   have c7b0 : (a0_0 == a1_0) = true := beq_iff_eq.mpr c7
   have c7b1 : (a0_0 != a1_0) = false := bne_eq_false_iff_eq.mpr c7
   clear c7
   obtain rfl := Option.some.inj H
   go_enter Try.func19, Try.ntmps19
   go_wp2_with (first | ((with_reducible refine gate_dst (N := 2) rfl ?_); refine box_event ?hg (N := 2) ?hd (cs := #[.int .i64 a0_0, .int .i64 a0_1, .int .i64 a0_2, .int .i64 a0_3, .int .i64 a0_4, .string a0_5]) (t := 32) ?hr ?_; (case hd => rfl); (case hg => rfl); (case hr => first | (go_simp; done) | (go_simp; rfl)); intro gb215 hg w8 hbox hb; have n0_ := A_ (below_step bw_ hb); have n1_ := A_ (hbox); have n2_ := A_ (gz_ (w := w) hg); have n3_ := A_ (gz_ (w := w) hg); replace HB := n0_; have BK215 := n1_; have GW215 := n2_; have GE215 := n3_; clear n0_ n1_ n2_ n3_; clear hb hbox hg) | ((with_reducible refine gate_dst (N := 3) rfl ?_); refine box_event ?hg (N := 3) ?hd (cs := #[.int .i64 a1_0, .int .i64 a1_1, .int .i64 a1_2, .int .i64 a1_3, .int .i64 a1_4, .string a1_5]) (t := 32) ?hr ?_; (case hd => rfl); (case hg => rfl); (case hr => first | (go_simp; done) | (go_simp; rfl)); intro gb216 hg w9 hbox hb; have n0_ := A_ (kb_ BK215 hb); have n1_ := A_ (below_step bw_ hb); have n2_ := A_ (hbox); have n3_ := A_ (gz_ (w := w) hg); have n4_ := A_ (gz_ (w := w) hg); have n5_ := A_ (nl_ BK215 hg); have n6_ := A_ (ng_ BK215 hg); replace BK215 := n0_; replace HB := n1_; have BK216 := n2_; have GW216 := n3_; have GE216 := n4_; have NB215_216 := n5_; have NB216_215 := n6_; clear n0_ n1_ n2_ n3_ n4_ n5_ n6_; clear hb hbox hg; have hnb10 := NB215_216.out; have hnc10 := NB216_215.out; have hcz11_0 : w9.cell? ⟨gb215, 0, none⟩ = some (.int .i64 a0_0) := e_ BK215 0; have hcz11_1 : w9.cell? ⟨gb215, 1, none⟩ = some (.int .i64 a0_1) := e_ BK215 1; have hcz11_2 : w9.cell? ⟨gb215, 2, none⟩ = some (.int .i64 a0_2) := e_ BK215 2; have hcz11_3 : w9.cell? ⟨gb215, 3, none⟩ = some (.int .i64 a0_3) := e_ BK215 3; have hcz11_4 : w9.cell? ⟨gb215, 4, none⟩ = some (.int .i64 a0_4) := e_ BK215 4; have hcz11_5 : w9.cell? ⟨gb215, 5, none⟩ = some (.string a0_5) := e_ BK215 5; obtain ⟨hfz11_0, hfz11_1, hfz11_2, hfz11_3, hfz11_4, hfz11_5⟩ := z6_ BK215) | ((with_reducible refine gate_callee (f := 33) rfl ?_); refine goesL_ (some 8) rfl rfl Try.func33 (by kernel_rfl) rfl #[.agg #[.int .i64 a0_0, .int .i64 a0_1, .int .i64 a0_2, .int .i64 a0_3, .int .i64 a0_4, .string a0_5]] rfl (by (try simp only [m0_, m1_, m2_]); first | done | rfl) ?_; (with_reducible refine (hopperref04_ID.calls k a0_0 a0_1 a0_2 a0_3 a0_4 a0_5 t217 _ A3.out).mono ?_); rintro e w12 ⟨rfl, hb⟩; refine ⟨_, rfl, ?_⟩; replace BK215 := A_ (kb_ BK215 hb); replace BK216 := A_ (kb_ BK216 hb); replace HB := A_ (below_step bw_ hb); (try clear hb); (try clear hb2); (try clear hk); (try clear hi); have hcz13_0 : w12.cell? ⟨gb216, 0, none⟩ = some (.int .i64 a1_0) := e_ BK216 0; have hcz13_1 : w12.cell? ⟨gb216, 1, none⟩ = some (.int .i64 a1_1) := e_ BK216 1; have hcz13_2 : w12.cell? ⟨gb216, 2, none⟩ = some (.int .i64 a1_2) := e_ BK216 2; have hcz13_3 : w12.cell? ⟨gb216, 3, none⟩ = some (.int .i64 a1_3) := e_ BK216 3; have hcz13_4 : w12.cell? ⟨gb216, 4, none⟩ = some (.int .i64 a1_4) := e_ BK216 4; have hcz13_5 : w12.cell? ⟨gb216, 5, none⟩ = some (.string a1_5) := e_ BK216 5; obtain ⟨hfz13_0, hfz13_1, hfz13_2, hfz13_3, hfz13_4, hfz13_5⟩ := z6_ BK216) | ((with_reducible refine gate_callee (f := 33) rfl ?_); refine goesL_ (some 10) rfl rfl Try.func33 (by kernel_rfl) rfl #[.agg #[.int .i64 a1_0, .int .i64 a1_1, .int .i64 a1_2, .int .i64 a1_3, .int .i64 a1_4, .string a1_5]] rfl (by (try simp only [m0_, m1_, m2_]); first | done | rfl) ?_; (with_reducible refine (hopperref04_ID.calls k a1_0 a1_1 a1_2 a1_3 a1_4 a1_5 t218 _ A4.out).mono ?_); rintro e w14 ⟨rfl, hb⟩; refine ⟨_, rfl, ?_⟩; replace BK215 := A_ (kb_ BK215 hb); replace BK216 := A_ (kb_ BK216 hb); replace HB := A_ (below_step bw_ hb); (try clear hb); (try clear hb2); (try clear hk); (try clear hi); have hcz15_0 : w14.cell? ⟨gb215, 0, none⟩ = some (.int .i64 a0_0) := e_ BK215 0; have hcz15_1 : w14.cell? ⟨gb215, 1, none⟩ = some (.int .i64 a0_1) := e_ BK215 1; have hcz15_2 : w14.cell? ⟨gb215, 2, none⟩ = some (.int .i64 a0_2) := e_ BK215 2; have hcz15_3 : w14.cell? ⟨gb215, 3, none⟩ = some (.int .i64 a0_3) := e_ BK215 3; have hcz15_4 : w14.cell? ⟨gb215, 4, none⟩ = some (.int .i64 a0_4) := e_ BK215 4; have hcz15_5 : w14.cell? ⟨gb215, 5, none⟩ = some (.string a0_5) := e_ BK215 5; obtain ⟨hfz15_0, hfz15_1, hfz15_2, hfz15_3, hfz15_4, hfz15_5⟩ := z6_ BK215; have hcz16_0 : w14.cell? ⟨gb216, 0, none⟩ = some (.int .i64 a1_0) := e_ BK216 0; have hcz16_1 : w14.cell? ⟨gb216, 1, none⟩ = some (.int .i64 a1_1) := e_ BK216 1; have hcz16_2 : w14.cell? ⟨gb216, 2, none⟩ = some (.int .i64 a1_2) := e_ BK216 2; have hcz16_3 : w14.cell? ⟨gb216, 3, none⟩ = some (.int .i64 a1_3) := e_ BK216 3; have hcz16_4 : w14.cell? ⟨gb216, 4, none⟩ = some (.int .i64 a1_4) := e_ BK216 4; have hcz16_5 : w14.cell? ⟨gb216, 5, none⟩ = some (.string a1_5) := e_ BK216 5; obtain ⟨hfz16_0, hfz16_1, hfz16_2, hfz16_3, hfz16_4, hfz16_5⟩ := z6_ BK216))
   go_ret
   exact ⟨by first | rfl | (simp [errW_none, errW_some] <;> rfl) | (simp [*, errW_none, errW_some] <;> rfl), by repeat (first | (with_reducible first | exact HB.out | apply wa_ | apply wn_ | apply wd_ | refine ws_ ?_ GE215.out | refine ws_ ?_ GE216.out) | exact HB.out)⟩
 · rw [if_neg c7] at H
   have c7b0 : (a0_0 == a1_0) = false := beq_eq_false_iff_ne.mpr c7
   have c7b1 : (a0_0 != a1_0) = true := bne_iff_ne.mpr c7
   obtain rfl := Option.some.inj H
   go_enter Try.func19, Try.ntmps19
   go_wp2_with (first | ((with_reducible refine gate_dst (N := 2) rfl ?_); refine box_event ?hg (N := 2) ?hd (cs := #[.int .i64 a0_0, .int .i64 a0_1, .int .i64 a0_2, .int .i64 a0_3, .int .i64 a0_4, .string a0_5]) (t := 32) ?hr ?_; (case hd => rfl); (case hg => rfl); (case hr => first | (go_simp; done) | (go_simp; rfl)); intro gb215 hg w17 hbox hb; have n0_ := A_ (below_step bw_ hb); have n1_ := A_ (hbox); have n2_ := A_ (gz_ (w := w) hg); have n3_ := A_ (gz_ (w := w) hg); replace HB := n0_; have BK215 := n1_; have GW215 := n2_; have GE215 := n3_; clear n0_ n1_ n2_ n3_; clear hb hbox hg) | ((with_reducible refine gate_dst (N := 3) rfl ?_); refine box_event ?hg (N := 3) ?hd (cs := #[.int .i64 a1_0, .int .i64 a1_1, .int .i64 a1_2, .int .i64 a1_3, .int .i64 a1_4, .string a1_5]) (t := 32) ?hr ?_; (case hd => rfl); (case hg => rfl); (case hr => first | (go_simp; done) | (go_simp; rfl)); intro gb216 hg w18 hbox hb; have n0_ := A_ (kb_ BK215 hb); have n1_ := A_ (below_step bw_ hb); have n2_ := A_ (hbox); have n3_ := A_ (gz_ (w := w) hg); have n4_ := A_ (gz_ (w := w) hg); have n5_ := A_ (nl_ BK215 hg); have n6_ := A_ (ng_ BK215 hg); replace BK215 := n0_; replace HB := n1_; have BK216 := n2_; have GW216 := n3_; have GE216 := n4_; have NB215_216 := n5_; have NB216_215 := n6_; clear n0_ n1_ n2_ n3_ n4_ n5_ n6_; clear hb hbox hg; have hnb19 := NB215_216.out; have hnc19 := NB216_215.out; have hcz20_0 : w18.cell? ⟨gb215, 0, none⟩ = some (.int .i64 a0_0) := e_ BK215 0; have hcz20_1 : w18.cell? ⟨gb215, 1, none⟩ = some (.int .i64 a0_1) := e_ BK215 1; have hcz20_2 : w18.cell? ⟨gb215, 2, none⟩ = some (.int .i64 a0_2) := e_ BK215 2; have hcz20_3 : w18.cell? ⟨gb215, 3, none⟩ = some (.int .i64 a0_3) := e_ BK215 3; have hcz20_4 : w18.cell? ⟨gb215, 4, none⟩ = some (.int .i64 a0_4) := e_ BK215 4; have hcz20_5 : w18.cell? ⟨gb215, 5, none⟩ = some (.string a0_5) := e_ BK215 5; obtain ⟨hfz20_0, hfz20_1, hfz20_2, hfz20_3, hfz20_4, hfz20_5⟩ := z6_ BK215) | ((with_reducible refine gate_callee (f := 33) rfl ?_); refine goesL_ (some 8) rfl rfl Try.func33 (by kernel_rfl) rfl #[.agg #[.int .i64 a0_0, .int .i64 a0_1, .int .i64 a0_2, .int .i64 a0_3, .int .i64 a0_4, .string a0_5]] rfl (by (try simp only [m0_, m1_, m2_]); first | done | rfl) ?_; (with_reducible refine (hopperref04_ID.calls k a0_0 a0_1 a0_2 a0_3 a0_4 a0_5 t217 _ A3.out).mono ?_); rintro e w21 ⟨rfl, hb⟩; refine ⟨_, rfl, ?_⟩; replace BK215 := A_ (kb_ BK215 hb); replace BK216 := A_ (kb_ BK216 hb); replace HB := A_ (below_step bw_ hb); (try clear hb); (try clear hb2); (try clear hk); (try clear hi); have hcz22_0 : w21.cell? ⟨gb216, 0, none⟩ = some (.int .i64 a1_0) := e_ BK216 0; have hcz22_1 : w21.cell? ⟨gb216, 1, none⟩ = some (.int .i64 a1_1) := e_ BK216 1; have hcz22_2 : w21.cell? ⟨gb216, 2, none⟩ = some (.int .i64 a1_2) := e_ BK216 2; have hcz22_3 : w21.cell? ⟨gb216, 3, none⟩ = some (.int .i64 a1_3) := e_ BK216 3; have hcz22_4 : w21.cell? ⟨gb216, 4, none⟩ = some (.int .i64 a1_4) := e_ BK216 4; have hcz22_5 : w21.cell? ⟨gb216, 5, none⟩ = some (.string a1_5) := e_ BK216 5; obtain ⟨hfz22_0, hfz22_1, hfz22_2, hfz22_3, hfz22_4, hfz22_5⟩ := z6_ BK216) | ((with_reducible refine gate_callee (f := 33) rfl ?_); refine goesL_ (some 10) rfl rfl Try.func33 (by kernel_rfl) rfl #[.agg #[.int .i64 a1_0, .int .i64 a1_1, .int .i64 a1_2, .int .i64 a1_3, .int .i64 a1_4, .string a1_5]] rfl (by (try simp only [m0_, m1_, m2_]); first | done | rfl) ?_; (with_reducible refine (hopperref04_ID.calls k a1_0 a1_1 a1_2 a1_3 a1_4 a1_5 t218 _ A4.out).mono ?_); rintro e w23 ⟨rfl, hb⟩; refine ⟨_, rfl, ?_⟩; replace BK215 := A_ (kb_ BK215 hb); replace BK216 := A_ (kb_ BK216 hb); replace HB := A_ (below_step bw_ hb); (try clear hb); (try clear hb2); (try clear hk); (try clear hi); have hcz24_0 : w23.cell? ⟨gb215, 0, none⟩ = some (.int .i64 a0_0) := e_ BK215 0; have hcz24_1 : w23.cell? ⟨gb215, 1, none⟩ = some (.int .i64 a0_1) := e_ BK215 1; have hcz24_2 : w23.cell? ⟨gb215, 2, none⟩ = some (.int .i64 a0_2) := e_ BK215 2; have hcz24_3 : w23.cell? ⟨gb215, 3, none⟩ = some (.int .i64 a0_3) := e_ BK215 3; have hcz24_4 : w23.cell? ⟨gb215, 4, none⟩ = some (.int .i64 a0_4) := e_ BK215 4; have hcz24_5 : w23.cell? ⟨gb215, 5, none⟩ = some (.string a0_5) := e_ BK215 5; obtain ⟨hfz24_0, hfz24_1, hfz24_2, hfz24_3, hfz24_4, hfz24_5⟩ := z6_ BK215; have hcz25_0 : w23.cell? ⟨gb216, 0, none⟩ = some (.int .i64 a1_0) := e_ BK216 0; have hcz25_1 : w23.cell? ⟨gb216, 1, none⟩ = some (.int .i64 a1_1) := e_ BK216 1; have hcz25_2 : w23.cell? ⟨gb216, 2, none⟩ = some (.int .i64 a1_2) := e_ BK216 2; have hcz25_3 : w23.cell? ⟨gb216, 3, none⟩ = some (.int .i64 a1_3) := e_ BK216 3; have hcz25_4 : w23.cell? ⟨gb216, 4, none⟩ = some (.int .i64 a1_4) := e_ BK216 4; have hcz25_5 : w23.cell? ⟨gb216, 5, none⟩ = some (.string a1_5) := e_ BK216 5; obtain ⟨hfz25_0, hfz25_1, hfz25_2, hfz25_3, hfz25_4, hfz25_5⟩ := z6_ BK216))
   go_ret
   exact ⟨by first | rfl | (simp [errW_none, errW_some] <;> rfl) | (simp [*, errW_none, errW_some] <;> rfl), by repeat (first | (with_reducible first | exact HB.out | apply wa_ | apply wn_ | apply wd_ | refine ws_ ?_ GE215.out | refine ws_ ?_ GE216.out) | exact HB.out)⟩
/-! ### hopperref06_Worst: function 18 -/
mutual
def hopperref06_Worst.l0 : Nat → List (S32) → Int → Option (Int × Bool)
 | 0, _, _ => none
 | k + 1, x0, x4 => if x4 < (x0.length : Int) then (hopperref06_Worst.l1 k x0 x4 true 0) else (some (0, false))
def hopperref06_Worst.l1 : Nat → List (S32) → Int → Bool → Int → Option (Int × Bool)
 | 0, _, _, _, _ => none
 | k + 1, x0, x4, x5, x6 => if x6 < (x0.length : Int) then (if x5 = true then (if 0 ≤ x4 then (if x4 < (x0.length : Int) then (if 0 ≤ x6 then ((hopperref04_Better.f k ((rd_T32 x0 x4).f0) ((rd_T32 x0 x4).f1) ((rd_T32 x0 x4).f2) ((rd_T32 x0 x4).f3) ((rd_T32 x0 x4).f4) ((rd_T32 x0 x4).f5) ((rd_T32 x0 x6).f0) ((rd_T32 x0 x6).f1) ((rd_T32 x0 x6).f2) ((rd_T32 x0 x6).f3) ((rd_T32 x0 x6).f4) ((rd_T32 x0 x6).f5)).bind fun t221 => (hopperref06_Worst.l1 k x0 x4 (!t221) (wrap64 (x6 + 1)))) else (none)) else (none)) else (none)) else (hopperref06_Worst.l1 k x0 x4 false (wrap64 (x6 + 1)))) else (if x5 = true then (some (x4, true)) else (hopperref06_Worst.l0 k x0 (wrap64 (x4 + 1))))
end
def hopperref06_Worst.f (k : Nat) (l0 : List (S32)) : Option (Int × Bool) := hopperref06_Worst.l0 k l0 0
theorem hopperref06_Worst.mono_l : ∀ k, (∀ y0 y1, LeO (hopperref06_Worst.l0 k y0 y1) (hopperref06_Worst.l0 (k + 1) y0 y1)) ∧ (∀ y0 y1 y2 y3, LeO (hopperref06_Worst.l1 k y0 y1 y2 y3) (hopperref06_Worst.l1 (k + 1) y0 y1 y2 y3))
 | 0 => ⟨fun _ _ r h => by simp [hopperref06_Worst.l0] at h, fun _ _ _ _ r h => by simp [hopperref06_Worst.l1] at h⟩
 | k + 1 => by
  obtain ⟨ih0, ih1⟩ := hopperref06_Worst.mono_l k
  refine ⟨?_, ?_⟩
  · intro y0 y1
    unfold hopperref06_Worst.l0
    repeat' first
    | (with_reducible exact ih0 _ _)
    | (with_reducible exact ih1 _ _ _ _)
    | (with_reducible exact hopperref04_Better.mono _ _ _ _ _ _ _ _ _ _ _ _ _)
    | (with_reducible exact LeO.refl _)
    | (with_reducible exact LeO.none _)
    | (with_reducible refine LeO.ite ?_ ?_)
    | (with_reducible refine LeO.bind ?_ (fun _ => ?_))
    | exact ih0 _ _
    | exact ih1 _ _ _ _
    | exact hopperref04_Better.mono _ _ _ _ _ _ _ _ _ _ _ _ _
    | exact LeO.none _
    | refine LeO.ite ?_ ?_
    | refine LeO.bind ?_ (fun _ => ?_)
  · intro y0 y1 y2 y3
    unfold hopperref06_Worst.l1
    repeat' first
    | (with_reducible exact ih0 _ _)
    | (with_reducible exact ih1 _ _ _ _)
    | (with_reducible exact hopperref04_Better.mono _ _ _ _ _ _ _ _ _ _ _ _ _)
    | (with_reducible exact LeO.refl _)
    | (with_reducible exact LeO.none _)
    | (with_reducible refine LeO.ite ?_ ?_)
    | (with_reducible refine LeO.bind ?_ (fun _ => ?_))
    | exact ih0 _ _
    | exact ih1 _ _ _ _
    | exact hopperref04_Better.mono _ _ _ _ _ _ _ _ _ _ _ _ _
    | exact LeO.none _
    | refine LeO.ite ?_ ?_
    | refine LeO.bind ?_ (fun _ => ?_)
theorem hopperref06_Worst.mono : ∀ a0 k, LeO (hopperref06_Worst.f k a0) (hopperref06_Worst.f (k + 1) a0) := by
 intro a0 k
 obtain ⟨ih0, ih1⟩ := hopperref06_Worst.mono_l k
 unfold hopperref06_Worst.f
 repeat' first
  | (with_reducible exact ih0 _ _)
  | (with_reducible exact ih1 _ _ _ _)
  | (with_reducible exact hopperref04_Better.mono _ _ _ _ _ _ _ _ _ _ _ _ _)
  | (with_reducible exact LeO.refl _)
  | (with_reducible exact LeO.none _)
  | (with_reducible refine LeO.ite ?_ ?_)
  | (with_reducible refine LeO.bind ?_ (fun _ => ?_))
  | exact ih0 _ _
  | exact ih1 _ _ _ _
  | exact hopperref04_Better.mono _ _ _ _ _ _ _ _ _ _ _ _ _
  | exact LeO.none _
  | refine LeO.ite ?_ ?_
  | refine LeO.bind ?_ (fun _ => ?_)
def hopperref06_Worst.T8 : Bool × List (List Nat × List Nat) := (true, [([], []), ([0], [0]), ([1], [1]), ([1], [1]), ([2, 3, 1], [1, 2, 3]), ([4, 1], [1, 4]), ([1], [1]), ([1], [1]), ([6, 7, 1], [1, 6, 7]), ([8, 1], [1, 8]), ([5, 9, 1, 1], [1, 5, 9]), ([10, 1], [1, 10]), ([1, 11], [1, 11]), ([12, 10, 0, 1, 2, 3, 4, 5, 6, 7, 8, 9, 10, 11, 12], [0, 12])])
def hopperref06_Worst.B8 : List Nat := [0, 1, 3, 3, 15, 31, 3, 3, 195, 451, 1023, 2047, 4095, 8191]
theorem hopperref06_Worst.tab8 : rtab .any (opsOf Try.f18 8) = hopperref06_Worst.T8 := by kernel_rfl
theorem hopperref06_Worst.bits8 : waitsOk hopperref06_Worst.T8.2 hopperref06_Worst.B8 = true := by kernel_rfl
set_option maxHeartbeats 8000000 in
set_option maxRecDepth 100000 in
theorem hopperref06_Worst.calls (k : Nat) (A0 : Option Addr) (c0 : Nat) (l0 : List (S32)) (r1 : Int) (r2 : Bool) (w : World) (hr0 : Kd.C k32 w A0 l0.length l0) (hc0 : l0.length ≤ c0) (h : hopperref06_Worst.f k l0 = some (r1, r2)) :
 Calls Try.prog 18 #[.slice A0 l0.length c0] w fun e w' => e = .returned (.tuple #[.int .i64 r1, .bool r2]) ∧ Below w.heap.size w w' := by
 have hu32 := Try.underlying32
 have HR0 := A_ hr0
 have HC0 := A_ hc0
 clear hr0 hc0; have HB := A_ (Below.refl w.heap.size w)
 have H : (hopperref06_Worst.l0 k l0 0) = some (r1, r2) := h
 clear h
 have H' := A_ H
 clear H
 go_enter Try.func18, Try.ntmps18
 go_wp2
 go_loopg [4] k (fun kq v4 w' => ∃ (x4_1 : Int), v4 = .int .i64 x4_1 ∧ Aside0 (hopperref06_Worst.l0 kq l0 x4_1 = some (r1, r2)) ∧ Aside0 (kq ≤ k) ∧ Aside0 (Below w.heap.size w w'))
 case atStart => exact ⟨(0), (by first | rfl | (simp; done) | (simp [*]; done)), H', ⟨Nat.le_refl _⟩, ⟨by repeat (first | (with_reducible first | exact HB.out | apply wa_ | apply wn_ | apply wd_) | exact HB.out)⟩⟩
 case round =>
  clear H'; (try clear c1)
  obtain ⟨x4_1, rfl, HA, HK1, HB⟩ := hrel
  cases gk with
  | zero => exact absurd HA.out (by simp [hopperref06_Worst.l0])
  | succ k1 =>
   have H := HA.out
   clear HA
   simp only [hopperref06_Worst.l0] at H
   by_cases c2 : x4_1 < (l0.length : Int)
   rotate_left
   · rw [if_neg c2] at H
     have c2b0 : decide (x4_1 < (l0.length : Int)) = false := decide_eq_false c2
     clear c2
     simp only [Option.some.injEq, Prod.mk.injEq] at H
     obtain ⟨rfl, rfl⟩ := H
     go_wp2
     go_ret2
     exact ⟨by first | rfl | (simp [errW_none, errW_some] <;> rfl) | (simp [*, errW_none, errW_some] <;> rfl), by repeat (first | (with_reducible first | exact HB.out | apply wa_ | apply wn_ | apply wd_) | exact HB.out)⟩

   rw [if_pos c2] at H
   have c2b0 : decide (x4_1 < (l0.length : Int)) = true := decide_eq_true c2
   clear c2
   have H' := A_ H
   clear H
   go_wp2
   go_loopg [5, 6] k1 (fun kq v5 v6 w' => ∃ (x5_2 : Bool) (x6_2 : Int), v5 = .bool x5_2 ∧ v6 = .int .i64 x6_2 ∧ Aside0 (hopperref06_Worst.l1 kq l0 x4_1 x5_2 x6_2 = some (r1, r2)) ∧ Aside0 (kq ≤ k1) ∧ Aside0 (Below w.heap.size w w'))
   case atStart => exact ⟨(true), (0), (by first | rfl | (simp; done) | (simp [*]; done)), (by first | rfl | (simp; done) | (simp [*]; done)), H', ⟨Nat.le_refl _⟩, ⟨by repeat (first | (with_reducible first | exact HB.out | apply wa_ | apply wn_ | apply wd_) | exact HB.out)⟩⟩
   case round =>
    clear H'; (try clear c1); (try clear c2); (try clear c2b0); (try clear p2)
    obtain ⟨x5_2, x6_2, rfl, rfl, HA, HK2, HB⟩ := hrel
    cases gk with
    | zero => exact absurd HA.out (by simp [hopperref06_Worst.l1])
    | succ k2 =>
     have H := HA.out
     clear HA
     simp only [hopperref06_Worst.l1] at H
     by_cases c3 : x6_2 < (l0.length : Int)
     · rw [if_pos c3] at H
       have c3b0 : decide (x6_2 < (l0.length : Int)) = true := decide_eq_true c3
       clear c3
       by_cases c4 : x5_2 = true
       · subst c4
         have H1 : (if 0 ≤ x4_1 then (if x4_1 < (l0.length : Int) then (if 0 ≤ x6_2 then ((hopperref04_Better.f k2 ((rd_T32 l0 x4_1).f0) ((rd_T32 l0 x4_1).f1) ((rd_T32 l0 x4_1).f2) ((rd_T32 l0 x4_1).f3) ((rd_T32 l0 x4_1).f4) ((rd_T32 l0 x4_1).f5) ((rd_T32 l0 x6_2).f0) ((rd_T32 l0 x6_2).f1) ((rd_T32 l0 x6_2).f2) ((rd_T32 l0 x6_2).f3) ((rd_T32 l0 x6_2).f4) ((rd_T32 l0 x6_2).f5)).bind fun t221 => (hopperref06_Worst.l1 k2 l0 x4_1 (!t221) (wrap64 (x6_2 + 1)))) else (none)) else (none)) else (none)) = some (r1, r2) := by rw [if_pos rfl] at H; exact H
         clear H
         have H := H1
         clear H1
         by_cases c5 : 0 ≤ x4_1
         rotate_left
         · rw [if_neg c5] at H
           exact absurd H (by simp)
         rw [if_pos c5] at H
         have c5b0 : decide (0 ≤ x4_1) = true := decide_eq_true c5
         clear c5
         by_cases c6 : x4_1 < (l0.length : Int)
         rotate_left
         · rw [if_neg c6] at H
           exact absurd H (by simp)
         rw [if_pos c6] at H
         have c6b0 : decide (x4_1 < (l0.length : Int)) = true := decide_eq_true c6
         clear c6
         by_cases c7 : 0 ≤ x6_2
         rotate_left
         · rw [if_neg c7] at H
           exact absurd H (by simp)
         rw [if_pos c7] at H
         have c7b0 : decide (0 ≤ x6_2) = true := decide_eq_true c7
         clear c7
         replace H := Option.bind_eq_some_iff.mp H
         obtain ⟨t221, A80, H⟩ := H
         replace H : (hopperref06_Worst.l1 k2 l0 x4_1 (!t221) (wrap64 (x6_2 + 1))) = some (r1, r2) := H
         have A8 := A_ A80
         clear A80
         have H' := A_ H
         clear H
         try go_wp2
         have n0_ := A_ (wd_ HB.out); replace HB := n0_; clear n0_
         have p219 : 0 ≤ (x4_1 : Int) := of_decide_eq_true (by first | (with_reducible assumption) | assumption)
         have q219 : x4_1 < (l0.length : Int) := of_decide_eq_true (by first | (with_reducible assumption) | assumption)
         obtain ⟨ad219, e219, hx219_0, hx219_1, hx219_2, hx219_3, hx219_4, hx219_5⟩ := at_T32 HR0.out x4_1 p219 q219
         have hw219_5 := hx219_5
         have hw219_4 := hx219_4
         have hw219_3 := hx219_3
         have hw219_2 := hx219_2
         have hw219_1 := hx219_1
         have hw219_0 := hx219_0
         cases e219
         replace hx219_0 := on_ HB.out hx219_0
         replace hx219_1 := on_ HB.out hx219_1
         replace hx219_2 := on_ HB.out hx219_2
         replace hx219_3 := on_ HB.out hx219_3
         replace hx219_4 := on_ HB.out hx219_4
         replace hx219_5 := on_ HB.out hx219_5
         replace p219 := eq_true p219
         replace q219 := eq_true q219
         have p220 : 0 ≤ (x6_2 : Int) := of_decide_eq_true (by first | (with_reducible assumption) | assumption)
         have q220 : x6_2 < (l0.length : Int) := of_decide_eq_true (by first | (with_reducible assumption) | assumption)
         obtain ⟨ad220, e220, hx220_0, hx220_1, hx220_2, hx220_3, hx220_4, hx220_5⟩ := at_T32 HR0.out x6_2 p220 q220
         have hw220_5 := hx220_5
         have hw220_4 := hx220_4
         have hw220_3 := hx220_3
         have hw220_2 := hx220_2
         have hw220_1 := hx220_1
         have hw220_0 := hx220_0
         obtain rfl : ad219 = ad220 := (by injection e220)
         replace hx220_0 := on_ HB.out hx220_0
         replace hx220_1 := on_ HB.out hx220_1
         replace hx220_2 := on_ HB.out hx220_2
         replace hx220_3 := on_ HB.out hx220_3
         replace hx220_4 := on_ HB.out hx220_4
         replace hx220_5 := on_ HB.out hx220_5
         replace p220 := eq_true p220
         replace q220 := eq_true q220
         refine start_ (n := 14) (S := fun w' => w'.cell? (ad219.add ((x4_1).toNat * 6)) = some (.int .i64 ((rd_T32 l0 x4_1).f0)) ∧ w'.cell? ⟨(ad219.add ((x4_1).toNat * 6)).block, (ad219.add ((x4_1).toNat * 6)).off + 1, none⟩ = some (.int .i64 ((rd_T32 l0 x4_1).f1)) ∧ w'.cell? ⟨(ad219.add ((x4_1).toNat * 6)).block, (ad219.add ((x4_1).toNat * 6)).off + 2, none⟩ = some (.int .i64 ((rd_T32 l0 x4_1).f2)) ∧ w'.cell? ⟨(ad219.add ((x4_1).toNat * 6)).block, (ad219.add ((x4_1).toNat * 6)).off + 3, none⟩ = some (.int .i64 ((rd_T32 l0 x4_1).f3)) ∧ w'.cell? ⟨(ad219.add ((x4_1).toNat * 6)).block, (ad219.add ((x4_1).toNat * 6)).off + 4, none⟩ = some (.int .i64 ((rd_T32 l0 x4_1).f4)) ∧ w'.cell? ⟨(ad219.add ((x4_1).toNat * 6)).block, (ad219.add ((x4_1).toNat * 6)).off + 5, none⟩ = some (.string ((rd_T32 l0 x4_1).f5)) ∧ w'.cell? (ad219.add ((x6_2).toNat * 6)) = some (.int .i64 ((rd_T32 l0 x6_2).f0)) ∧ w'.cell? ⟨(ad219.add ((x6_2).toNat * 6)).block, (ad219.add ((x6_2).toNat * 6)).off + 1, none⟩ = some (.int .i64 ((rd_T32 l0 x6_2).f1)) ∧ w'.cell? ⟨(ad219.add ((x6_2).toNat * 6)).block, (ad219.add ((x6_2).toNat * 6)).off + 2, none⟩ = some (.int .i64 ((rd_T32 l0 x6_2).f2)) ∧ w'.cell? ⟨(ad219.add ((x6_2).toNat * 6)).block, (ad219.add ((x6_2).toNat * 6)).off + 3, none⟩ = some (.int .i64 ((rd_T32 l0 x6_2).f3)) ∧ w'.cell? ⟨(ad219.add ((x6_2).toNat * 6)).block, (ad219.add ((x6_2).toNat * 6)).off + 4, none⟩ = some (.int .i64 ((rd_T32 l0 x6_2).f4)) ∧ w'.cell? ⟨(ad219.add ((x6_2).toNat * 6)).block, (ad219.add ((x6_2).toNat * 6)).off + 5, none⟩ = some (.string ((rd_T32 l0 x6_2).f5))) (ds := []) #[F,F,F,F,F,F,F,F,F,F,F,F,F,F] (by kernel_rfl) rfl rfl ⟨((HB.out.cell (World.block_lt_of_cell? w _ hw219_0)).trans hw219_0), ((HB.out.cell (World.block_lt_of_cell? w _ hw219_1)).trans hw219_1), ((HB.out.cell (World.block_lt_of_cell? w _ hw219_2)).trans hw219_2), ((HB.out.cell (World.block_lt_of_cell? w _ hw219_3)).trans hw219_3), ((HB.out.cell (World.block_lt_of_cell? w _ hw219_4)).trans hw219_4), ((HB.out.cell (World.block_lt_of_cell? w _ hw219_5)).trans hw219_5), ((HB.out.cell (World.block_lt_of_cell? w _ hw220_0)).trans hw220_0), ((HB.out.cell (World.block_lt_of_cell? w _ hw220_1)).trans hw220_1), ((HB.out.cell (World.block_lt_of_cell? w _ hw220_2)).trans hw220_2), ((HB.out.cell (World.block_lt_of_cell? w _ hw220_3)).trans hw220_3), ((HB.out.cell (World.block_lt_of_cell? w _ hw220_4)).trans hw220_4), ((HB.out.cell (World.block_lt_of_cell? w _ hw220_5)).trans hw220_5)⟩ (fun hHeld => ?_); refine with_tabW hopperref06_Worst.tab8 hopperref06_Worst.bits8 (fun HT_ HW_ => ?_)
         generalize wr.drew = w9 at HB hx219_0 hx219_1 hx219_2 hx219_3 hx219_4 hx219_5 hx220_0 hx220_1 hx220_2 hx220_3 hx220_4 hx220_5 hHeld ⊢
         refine pq_ 0 19 HT_ ?_
         refine pq_ 1 20 HT_ ?_
         refine pq_ 2 21 HT_ ?_
         refine pq_ 3 22 HT_ ?_
         refine pq_ 4 23 HT_ ?_
         refine pq_ 6 25 HT_ ?_
         refine pq_ 7 26 HT_ ?_
         refine pq_ 8 27 HT_ ?_
         refine tk_ 5 24 HT_ HW_ hHeld ?_
         refine tk_ 9 28 HT_ HW_ hHeld ?_
         refine one_ (i := 10) (N := some 29) #[T,T,T,T,T,T,T,T,T,T,T,F,F,F] rfl rfl (one_of HT_.out (by kernel_rfl)) (by decide) (fun K hK => ?_)
         refine goes_ Try.func19 (by kernel_rfl) rfl #[.agg #[.int .i64 ((rd_T32 l0 x4_1).f0), .int .i64 ((rd_T32 l0 x4_1).f1), .int .i64 ((rd_T32 l0 x4_1).f2), .int .i64 ((rd_T32 l0 x4_1).f3), .int .i64 ((rd_T32 l0 x4_1).f4), .string ((rd_T32 l0 x4_1).f5)], .agg #[.int .i64 ((rd_T32 l0 x6_2).f0), .int .i64 ((rd_T32 l0 x6_2).f1), .int .i64 ((rd_T32 l0 x6_2).f2), .int .i64 ((rd_T32 l0 x6_2).f3), .int .i64 ((rd_T32 l0 x6_2).f4), .string ((rd_T32 l0 x6_2).f5)]] (by rfl) rfl rfl (by (try simp only [m0_, m1_, m2_]); first | done | rfl) ?_
         with_reducible refine (hopperref04_Better.calls k2 ((rd_T32 l0 x4_1).f0) ((rd_T32 l0 x4_1).f1) ((rd_T32 l0 x4_1).f2) ((rd_T32 l0 x4_1).f3) ((rd_T32 l0 x4_1).f4) ((rd_T32 l0 x4_1).f5) ((rd_T32 l0 x6_2).f0) ((rd_T32 l0 x6_2).f1) ((rd_T32 l0 x6_2).f2) ((rd_T32 l0 x6_2).f3) ((rd_T32 l0 x6_2).f4) ((rd_T32 l0 x6_2).f5) t221 _ A8.out).mono ?_
         rintro e w10 ⟨rfl, hb⟩
         refine ⟨_, rfl, ?_⟩
         have n0_ := A_ (below_step bw_ hb); replace HB := n0_; clear n0_
         (try clear hb)
         (try clear hb2)
         (try clear hk)
         (try clear hi)
         refine hK.out _ _ ⟨((HB.out.cell (World.block_lt_of_cell? w _ hw219_0)).trans hw219_0), ((HB.out.cell (World.block_lt_of_cell? w _ hw219_1)).trans hw219_1), ((HB.out.cell (World.block_lt_of_cell? w _ hw219_2)).trans hw219_2), ((HB.out.cell (World.block_lt_of_cell? w _ hw219_3)).trans hw219_3), ((HB.out.cell (World.block_lt_of_cell? w _ hw219_4)).trans hw219_4), ((HB.out.cell (World.block_lt_of_cell? w _ hw219_5)).trans hw219_5), ((HB.out.cell (World.block_lt_of_cell? w _ hw220_0)).trans hw220_0), ((HB.out.cell (World.block_lt_of_cell? w _ hw220_1)).trans hw220_1), ((HB.out.cell (World.block_lt_of_cell? w _ hw220_2)).trans hw220_2), ((HB.out.cell (World.block_lt_of_cell? w _ hw220_3)).trans hw220_3), ((HB.out.cell (World.block_lt_of_cell? w _ hw220_4)).trans hw220_4), ((HB.out.cell (World.block_lt_of_cell? w _ hw220_5)).trans hw220_5)⟩ (fun hHeld => ?_)
         clear hK K
         refine norm_ (a' := ?_) ?_ ?_
         rotate_left
         · show Act.put _ (some 29) _ = _
           simp only [Act.put, s0_, s1_, s2_, i64_w, i32_w]
           rfl
         refine pq_ 11 30 HT_ ?_
         refine pq_ 12 31 HT_ ?_
         refine pq_ 13 5 HT_ ?_
         refine done_ (done_of HT_.out (by kernel_rfl)) ?_
         try go_wp2
         go_roundg k2
         case measure => have := HK1.out; have := HK2.out; omega
         case rel => exact ⟨(!t221), (wrap64 (x6_2 + 1)), (by first | rfl | (simp; done) | (simp [*]; done)), (by first | rfl | (simp; done) | (simp [*]; done)), H', ⟨by have := HK1.out; have := HK2.out; omega⟩, ⟨by repeat (first | (with_reducible first | exact HB.out | apply wa_ | apply wn_ | apply wd_) | exact HB.out)⟩⟩
       · replace c4 := Bool.eq_false_iff.mpr c4
         subst c4
         have H1 : (hopperref06_Worst.l1 k2 l0 x4_1 false (wrap64 (x6_2 + 1))) = some (r1, r2) := by rw [if_neg (show ¬ (false = true) by decide)] at H; exact H
         clear H
         have H := H1
         clear H1
         have H' := A_ H
         clear H
         try go_wp2
         have n0_ := A_ (wd_ HB.out); replace HB := n0_; clear n0_
         refine start_ (n := 14) (S := fun w' => True) (ds := []) #[F,F,F,F,F,F,F,F,F,F,F,F,F,F] (by kernel_rfl) rfl rfl trivial (fun hHeld => ?_); refine with_tabW hopperref06_Worst.tab8 hopperref06_Worst.bits8 (fun HT_ HW_ => ?_)
         generalize wr.drew = w11 at HB hHeld ⊢
         refine pq_ 0 19 HT_ ?_
         refine pq_ 1 20 HT_ ?_
         refine pu_ 2 21 HT_ ?_
         refine pu_ 3 22 HT_ ?_
         refine pu_ 4 23 HT_ ?_
         refine pu_ 5 24 HT_ ?_
         refine pu_ 6 25 HT_ ?_
         refine pu_ 7 26 HT_ ?_
         refine pu_ 8 27 HT_ ?_
         refine pu_ 9 28 HT_ ?_
         refine pu_ 10 29 HT_ ?_
         refine pu_ 11 30 HT_ ?_
         refine pq_ 12 31 HT_ ?_
         refine pq_ 13 5 HT_ ?_
         refine done_ (done_of HT_.out (by kernel_rfl)) ?_
         try go_wp2
         go_roundg k2
         case measure => have := HK1.out; have := HK2.out; omega
         case rel => exact ⟨(false), (wrap64 (x6_2 + 1)), (by first | rfl | (simp; done) | (simp [*]; done)), (by first | rfl | (simp; done) | (simp [*]; done)), H', ⟨by have := HK1.out; have := HK2.out; omega⟩, ⟨by repeat (first | (with_reducible first | exact HB.out | apply wa_ | apply wn_ | apply wd_) | exact HB.out)⟩⟩
     · rw [if_neg c3] at H
       have c3b0 : decide (x6_2 < (l0.length : Int)) = false := decide_eq_false c3
       clear c3
       by_cases c12 : x5_2 = true
       · subst c12
         have H1 : (some (x4_1, true)) = some (r1, r2) := by rw [if_pos rfl] at H; exact H
         clear H
         have H := H1
         clear H1
         simp only [Option.some.injEq, Prod.mk.injEq] at H
         obtain ⟨rfl, rfl⟩ := H
         go_wp2
         go_ret2
         exact ⟨by first | rfl | (simp [errW_none, errW_some] <;> rfl) | (simp [*, errW_none, errW_some] <;> rfl), by repeat (first | (with_reducible first | exact HB.out | apply wa_ | apply wn_ | apply wd_) | exact HB.out)⟩
       · replace c12 := Bool.eq_false_iff.mpr c12
         subst c12
         have H1 : (hopperref06_Worst.l0 k2 l0 (wrap64 (x4_1 + 1))) = some (r1, r2) := by rw [if_neg (show ¬ (false = true) by decide)] at H; exact H
         clear H
         have H := H1
         clear H1
         have H' := A_ H
         clear H
         go_wp2
         go_roundg k2
         case measure => have := HK1.out; have := HK2.out; omega
         case rel => exact ⟨(wrap64 (x4_1 + 1)), (by first | rfl | (simp; done) | (simp [*]; done)), H', ⟨by have := HK1.out; have := HK2.out; omega⟩, ⟨by repeat (first | (with_reducible first | exact HB.out | apply wa_ | apply wn_ | apply wd_) | exact HB.out)⟩⟩
end Go.Proofs.Ytnjnogkhbadioaa.D
