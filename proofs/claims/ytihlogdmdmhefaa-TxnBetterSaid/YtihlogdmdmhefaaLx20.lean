/- Written by this session's own program over the kit's print: functions of Go told as plain functions, or the row of one statement; proved for every input, with no condition of ours. -/
import Derived.Test.YtihlogdmdmhefaaLx0
import Derived.Test.YtihlogdmdmhefaaLx15
import Derived.Test.YtihlogdmdmhefaaLx19
namespace Go.Proofs.Ytihlogdmdmhefaa.L
open Go.RowKit Go.Proofs.YtihlogdmdmhefaaW.PrintWords Go.Proofs.YtihlogdmdmhefaaW.PrintLast Go.Proofs.YtihlogdmdmhefaaW.PrintMore
attribute [local go_sem] max2_int min2_int max_two min_two max_three min_three max_four min_four   -- for this text's walks alone
set_option linter.unusedVariables false
set_option linter.unusedSimpArgs false

/-! ### hopperref02_Of: function 120 -/
def hopperref02_Of.f (k : Nat) (a0 : ByteArray) : Option (Int) := (hopperref02_Roll.f k 14695981039346656037 a0).bind fun t195 => (some t195)
theorem hopperref02_Of.mono : ∀ a0 k, LeO (hopperref02_Of.f k a0) (hopperref02_Of.f (k + 1) a0) := by
  intro a0 k
  unfold hopperref02_Of.f
  repeat' first
      | (with_reducible exact hopperref02_Roll.mono _ _ _)
      | (with_reducible exact LeO.refl _)
      | (with_reducible exact LeO.none _)
      | (with_reducible refine LeO.ite ?_ ?_)
      | (with_reducible refine LeO.bind ?_ (fun _ => ?_))
      | exact hopperref02_Roll.mono _ _ _
      | exact LeO.none _
      | refine LeO.ite ?_ ?_
      | refine LeO.bind ?_ (fun _ => ?_)
set_option maxHeartbeats 8000000 in
set_option maxRecDepth 100000 in
theorem hopperref02_Of.calls (k : Nat) (a0 : ByteArray) (r : Int) (w : World) (h : hopperref02_Of.f k a0 = some r) :
    Calls Try.prog 120 #[.string a0] w fun e w' => e = .returned (.int .u64 r) ∧ Drawn0 w w' := by
  have H : ((hopperref02_Roll.f k 14695981039346656037 a0).bind fun t195 => (some t195)) = some r := h
  clear h
  replace H := Option.bind_eq_some_iff.mp H
  obtain ⟨t195, A20, H⟩ := H
  replace H : (some t195) = some r := H
  have A2 := Aside0.mk A20
  clear A20
  obtain rfl := Option.some.inj H
  go_enter Try.func120, Try.ntmps120
  go_wp2_with (first | ((with_reducible refine gate_callee (f := 167) rfl ?_); refine goesL_ (some 4) rfl rfl Try.func167 (by kernel_rfl) rfl #[.int .u64 14695981039346656037, .string a0] rfl (by (try simp only [List.map_toArray, List.map_cons, List.map_nil]); first | done | rfl | (simp only [List.length_drop, List.length_take]; rfl)) ?_; (with_reducible refine (hopperref02_Roll.calls k 14695981039346656037 a0 t195 _ A2.out).mono ?_); rintro e w' ⟨rfl, ⟨nd, rfl⟩⟩; refine ⟨_, rfl, ?_⟩))
  go_ret
  exact ⟨by first | rfl | (simp; done) | (simp [*]; done), by repeat (first | exact Drawn0.refl _ | apply Drawn0.step)⟩

/-! ### hopperref04_ID: function 43 -/
def hopperref04_ID.f (k : Nat) (a0_0 : Int) (a0_1 : Int) (a0_2 : Int) (a0_3 : Int) (a0_4 : Int) (a0_5 : ByteArray) : Option (ByteArray) := (hopperref04_Encode.f k a0_0 a0_1 a0_2 a0_3 a0_4 a0_5).bind fun bt197 => (if bt197.2 = true then ((hopperref02_Of.f k bt197.1).bind fun t199 => ((hopperref02_Text.f t199).bind fun t200 => (some t200))) else (some (⟨#[]⟩ : ByteArray)))
theorem hopperref04_ID.mono : ∀ a0 a1 a2 a3 a4 a5 k, LeO (hopperref04_ID.f k a0 a1 a2 a3 a4 a5) (hopperref04_ID.f (k + 1) a0 a1 a2 a3 a4 a5) := by
  intro a0 a1 a2 a3 a4 a5 k
  unfold hopperref04_ID.f
  repeat' first
      | (with_reducible exact hopperref02_Of.mono _ _)
      | (with_reducible exact hopperref04_Encode.mono _ _ _ _ _ _ _)
      | (with_reducible exact LeO.refl _)
      | (with_reducible exact LeO.none _)
      | (with_reducible refine LeO.ite ?_ ?_)
      | (with_reducible refine LeO.bind ?_ (fun _ => ?_))
      | exact hopperref02_Of.mono _ _
      | exact hopperref04_Encode.mono _ _ _ _ _ _ _
      | exact LeO.none _
      | refine LeO.ite ?_ ?_
      | refine LeO.bind ?_ (fun _ => ?_)
set_option maxHeartbeats 8000000 in
set_option maxRecDepth 100000 in
theorem hopperref04_ID.calls (k : Nat) (a0_0 : Int) (a0_1 : Int) (a0_2 : Int) (a0_3 : Int) (a0_4 : Int) (a0_5 : ByteArray) (r : ByteArray) (w : World) (h : hopperref04_ID.f k a0_0 a0_1 a0_2 a0_3 a0_4 a0_5 = some r) :
    Calls Try.prog 43 #[.agg #[.int .i64 a0_0, .int .i64 a0_1, .int .i64 a0_2, .int .i64 a0_3, .int .i64 a0_4, .string a0_5]] w fun e w' => e = .returned (.string r) ∧ Below w.heap.size w w' := by
  have hu23 := Try.underlying23
  have HB := Aside0.mk (Below.refl w.heap.size w)
  have H : ((hopperref04_Encode.f k a0_0 a0_1 a0_2 a0_3 a0_4 a0_5).bind fun bt197 => (if bt197.2 = true then ((hopperref02_Of.f k bt197.1).bind fun t199 => ((hopperref02_Text.f t199).bind fun t200 => (some t200))) else (some (⟨#[]⟩ : ByteArray)))) = some r := h
  clear h
  replace H := Option.bind_eq_some_iff.mp H
  obtain ⟨⟨t197, t198⟩, A20, H⟩ := H
  replace H : (if t198 = true then ((hopperref02_Of.f k t197).bind fun t199 => ((hopperref02_Text.f t199).bind fun t200 => (some t200))) else (some (⟨#[]⟩ : ByteArray))) = some r := H
  have A2 := Aside0.mk A20
  clear A20
  by_cases c3 : t198 = true
  · subst c3
    have H1 : ((hopperref02_Of.f k t197).bind fun t199 => ((hopperref02_Text.f t199).bind fun t200 => (some t200))) = some r := by rw [if_pos rfl] at H; exact H
    clear H
    have H := H1
    clear H1
    replace H := Option.bind_eq_some_iff.mp H
    obtain ⟨t199, A40, H⟩ := H
    replace H : ((hopperref02_Text.f t199).bind fun t200 => (some t200)) = some r := H
    have A4 := Aside0.mk A40
    clear A40
    replace H := Option.bind_eq_some_iff.mp H
    obtain ⟨t200, A50, H⟩ := H
    replace H : (some t200) = some r := H
    have A5 := Aside0.mk A50
    clear A50
    obtain rfl := Option.some.inj H
    go_enter Try.func43, Try.ntmps43
    go_wp2_with (first | ((with_reducible refine gate_dst (N := 1) rfl ?_); refine box_event ?hg (N := 1) ?hd (cs := #[.int .i64 a0_0, .int .i64 a0_1, .int .i64 a0_2, .int .i64 a0_3, .int .i64 a0_4, .string a0_5]) (t := 23) ?hr ?_; (case hd => rfl); (case hg => rfl); (case hr => first | (go_simp; done) | (go_simp; rfl)); intro gb196 hg w6 hbox hb; have n0_ := Aside0.mk (below_step (by repeat (first | (with_reducible first | exact HB.out | apply below_alloc | apply pw_below_drewN | apply below_drew1) | exact HB.out)) hb); have n1_ := Aside0.mk (hbox); have n2_ := Aside0.mk ((by rw [hg]; exact (below_size (by repeat (first | (with_reducible first | exact HB.out | apply below_alloc | apply pw_below_drewN | apply below_drew1) | exact HB.out))) : w.heap.size ≤ gb196)); have n3_ := Aside0.mk ((by rw [hg]; exact (below_size (by repeat (first | (with_reducible first | exact HB.out | apply below_alloc | apply pw_below_drewN | apply below_drew1) | exact HB.out))) : w.heap.size ≤ gb196)); clear HB; have HB := n0_; have BK196 := n1_; have GW196 := n2_; have GE196 := n3_; clear n0_ n1_ n2_ n3_; clear hb hbox hg; have hcz7_0 : w6.cell? ⟨gb196, 0, none⟩ = some (.int .i64 a0_0) := (blk_cell BK196.out 0).trans rfl; have hcz7_1 : w6.cell? ⟨gb196, 1, none⟩ = some (.int .i64 a0_1) := (blk_cell BK196.out 1).trans rfl; have hcz7_2 : w6.cell? ⟨gb196, 2, none⟩ = some (.int .i64 a0_2) := (blk_cell BK196.out 2).trans rfl; have hcz7_3 : w6.cell? ⟨gb196, 3, none⟩ = some (.int .i64 a0_3) := (blk_cell BK196.out 3).trans rfl; have hcz7_4 : w6.cell? ⟨gb196, 4, none⟩ = some (.int .i64 a0_4) := (blk_cell BK196.out 4).trans rfl; have hcz7_5 : w6.cell? ⟨gb196, 5, none⟩ = some (.string a0_5) := (blk_cell BK196.out 5).trans rfl; have hfz7_0 := blk_frozen BK196.out 0; have hfz7_1 := blk_frozen BK196.out 1; have hfz7_2 := blk_frozen BK196.out 2; have hfz7_3 := blk_frozen BK196.out 3; have hfz7_4 := blk_frozen BK196.out 4; have hfz7_5 := blk_frozen BK196.out 5) | ((with_reducible refine gate_callee (f := 35) rfl ?_); refine goesL_ (some 7) rfl rfl Try.func35 (by kernel_rfl) rfl #[.agg #[.int .i64 a0_0, .int .i64 a0_1, .int .i64 a0_2, .int .i64 a0_3, .int .i64 a0_4, .string a0_5]] rfl (by (try simp only [List.map_toArray, List.map_cons, List.map_nil]); first | done | rfl | (simp only [List.length_drop, List.length_take]; rfl)) ?_; (with_reducible refine (hopperref04_Encode.calls k a0_0 a0_1 a0_2 a0_3 a0_4 a0_5 t197 true _ A2.out).mono ?_); rintro e w8 ⟨rfl, hb⟩; refine ⟨_, rfl, ?_⟩; have n0_ := Aside0.mk (blk_below (g := gb196) (o := .cells #[.int .i64 a0_0, .int .i64 a0_1, .int .i64 a0_2, .int .i64 a0_3, .int .i64 a0_4, .string a0_5] 23 (0, 0)) (by (with_reducible repeat (first | refine blk_drewN ?_ _ | refine blk_drew ?_ | refine blk_alloc ?_ _)); exact BK196.out) hb); have n1_ := Aside0.mk (below_step (by repeat (first | (with_reducible first | exact HB.out | apply below_alloc | apply pw_below_drewN | apply below_drew1 | refine below_set ?_ GE196.out) | exact HB.out)) hb); clear BK196; clear HB; have BK196 := n0_; have HB := n1_; clear n0_ n1_; (try clear hb); (try clear hb2); (try clear hk); (try clear hi)) | ((with_reducible refine gate_callee (f := 120) rfl ?_); refine goesL_ (some 13) rfl rfl Try.func120 (by kernel_rfl) rfl #[.string t197] rfl (by (try simp only [List.map_toArray, List.map_cons, List.map_nil]); first | done | rfl | (simp only [List.length_drop, List.length_take]; rfl)) ?_; (with_reducible refine (hopperref02_Of.calls k t197 t199 _ A4.out).mono ?_); rintro e w' ⟨rfl, ⟨nd, rfl⟩⟩; refine ⟨_, rfl, ?_⟩) | ((with_reducible refine gate_callee (f := 119) rfl ?_); refine goesL_ (some 14) rfl rfl Try.func119 (by kernel_rfl) rfl #[.int .u64 t199] rfl (by (try simp only [List.map_toArray, List.map_cons, List.map_nil]); first | done | rfl | (simp only [List.length_drop, List.length_take]; rfl)) ?_; (with_reducible refine (hopperref02_Text.calls t199 t200 _ A5.out).mono ?_); rintro e w' ⟨rfl, ⟨nd, rfl⟩⟩; refine ⟨_, rfl, ?_⟩))
    go_ret
    exact ⟨by first | rfl | (simp [errW_none, errW_some] <;> rfl) | (simp [*, errW_none, errW_some] <;> rfl), by repeat (first | (with_reducible first | exact HB.out | apply below_alloc | apply pw_below_drewN | apply below_drew1 | refine below_set ?_ GE196.out) | exact HB.out)⟩
  · replace c3 := Bool.eq_false_iff.mpr c3
    subst c3
    have H1 : (some (⟨#[]⟩ : ByteArray)) = some r := by rw [if_neg (show ¬ (false = true) by decide)] at H; exact H
    clear H
    have H := H1
    clear H1
    obtain rfl := Option.some.inj H
    go_enter Try.func43, Try.ntmps43
    go_wp2_with (first | ((with_reducible refine gate_dst (N := 1) rfl ?_); refine box_event ?hg (N := 1) ?hd (cs := #[.int .i64 a0_0, .int .i64 a0_1, .int .i64 a0_2, .int .i64 a0_3, .int .i64 a0_4, .string a0_5]) (t := 23) ?hr ?_; (case hd => rfl); (case hg => rfl); (case hr => first | (go_simp; done) | (go_simp; rfl)); intro gb196 hg w9 hbox hb; have n0_ := Aside0.mk (below_step (by repeat (first | (with_reducible first | exact HB.out | apply below_alloc | apply pw_below_drewN | apply below_drew1) | exact HB.out)) hb); have n1_ := Aside0.mk (hbox); have n2_ := Aside0.mk ((by rw [hg]; exact (below_size (by repeat (first | (with_reducible first | exact HB.out | apply below_alloc | apply pw_below_drewN | apply below_drew1) | exact HB.out))) : w.heap.size ≤ gb196)); have n3_ := Aside0.mk ((by rw [hg]; exact (below_size (by repeat (first | (with_reducible first | exact HB.out | apply below_alloc | apply pw_below_drewN | apply below_drew1) | exact HB.out))) : w.heap.size ≤ gb196)); clear HB; have HB := n0_; have BK196 := n1_; have GW196 := n2_; have GE196 := n3_; clear n0_ n1_ n2_ n3_; clear hb hbox hg; have hcz10_0 : w9.cell? ⟨gb196, 0, none⟩ = some (.int .i64 a0_0) := (blk_cell BK196.out 0).trans rfl; have hcz10_1 : w9.cell? ⟨gb196, 1, none⟩ = some (.int .i64 a0_1) := (blk_cell BK196.out 1).trans rfl; have hcz10_2 : w9.cell? ⟨gb196, 2, none⟩ = some (.int .i64 a0_2) := (blk_cell BK196.out 2).trans rfl; have hcz10_3 : w9.cell? ⟨gb196, 3, none⟩ = some (.int .i64 a0_3) := (blk_cell BK196.out 3).trans rfl; have hcz10_4 : w9.cell? ⟨gb196, 4, none⟩ = some (.int .i64 a0_4) := (blk_cell BK196.out 4).trans rfl; have hcz10_5 : w9.cell? ⟨gb196, 5, none⟩ = some (.string a0_5) := (blk_cell BK196.out 5).trans rfl; have hfz10_0 := blk_frozen BK196.out 0; have hfz10_1 := blk_frozen BK196.out 1; have hfz10_2 := blk_frozen BK196.out 2; have hfz10_3 := blk_frozen BK196.out 3; have hfz10_4 := blk_frozen BK196.out 4; have hfz10_5 := blk_frozen BK196.out 5) | ((with_reducible refine gate_callee (f := 35) rfl ?_); refine goesL_ (some 7) rfl rfl Try.func35 (by kernel_rfl) rfl #[.agg #[.int .i64 a0_0, .int .i64 a0_1, .int .i64 a0_2, .int .i64 a0_3, .int .i64 a0_4, .string a0_5]] rfl (by (try simp only [List.map_toArray, List.map_cons, List.map_nil]); first | done | rfl | (simp only [List.length_drop, List.length_take]; rfl)) ?_; (with_reducible refine (hopperref04_Encode.calls k a0_0 a0_1 a0_2 a0_3 a0_4 a0_5 t197 false _ A2.out).mono ?_); rintro e w11 ⟨rfl, hb⟩; refine ⟨_, rfl, ?_⟩; have n0_ := Aside0.mk (blk_below (g := gb196) (o := .cells #[.int .i64 a0_0, .int .i64 a0_1, .int .i64 a0_2, .int .i64 a0_3, .int .i64 a0_4, .string a0_5] 23 (0, 0)) (by (with_reducible repeat (first | refine blk_drewN ?_ _ | refine blk_drew ?_ | refine blk_alloc ?_ _)); exact BK196.out) hb); have n1_ := Aside0.mk (below_step (by repeat (first | (with_reducible first | exact HB.out | apply below_alloc | apply pw_below_drewN | apply below_drew1 | refine below_set ?_ GE196.out) | exact HB.out)) hb); clear BK196; clear HB; have BK196 := n0_; have HB := n1_; clear n0_ n1_; (try clear hb); (try clear hb2); (try clear hk); (try clear hi)))
    go_ret
    exact ⟨by first | rfl | (simp [errW_none, errW_some] <;> rfl) | (simp [*, errW_none, errW_some] <;> rfl), by repeat (first | (with_reducible first | exact HB.out | apply below_alloc | apply pw_below_drewN | apply below_drew1 | refine below_set ?_ GE196.out) | exact HB.out)⟩

end Go.Proofs.Ytihlogdmdmhefaa.L
