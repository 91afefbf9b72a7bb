/- Written by this session's own program over the kit's print: functions of Go told as plain functions, or the row of one statement; proved for every input, with no condition of ours. -/
import Derived.Test.YtihlogdmdmhefaaLx0
import Derived.Test.YtihlogdmdmhefaaLx2
import Derived.Test.YtihlogdmdmhefaaLx12
import Derived.Test.YtihlogdmdmhefaaLx13
namespace Go.Proofs.Ytihlogdmdmhefaa.L
open Go.RowKit Go.Proofs.YtihlogdmdmhefaaW.PrintWords Go.Proofs.YtihlogdmdmhefaaW.PrintLast Go.Proofs.YtihlogdmdmhefaaW.PrintMore
attribute [local go_sem] max2_int min2_int max_two min_two max_three min_three max_four min_four   -- for this text's walks alone
set_option linter.unusedVariables false
set_option linter.unusedSimpArgs false

/-! ### hopperlaw04_TxnLine: function 6 -/
mutual
def hopperlaw04_TxnLine.j0 : Nat → Bool → Int → Int → Int → Int → Int → ByteArray → Int → Int → Int → Int → Int → ByteArray → Int → Int → Int → Int → Int → ByteArray → Option (Bool)
  | 0, _, _, _, _, _, _, _, _, _, _, _, _, _, _, _, _, _, _, _ => none
  | k + 1, x21, x278000, x278001, x278002, x278003, x278004, x278005, x279000, x279001, x279002, x279003, x279004, x279005, x280000, x280001, x280002, x280003, x280004, x280005 => if x21 = true then ((hopperlaw04_live.f k).bind fun t283 => (some t283)) else ((txn_Better.f k x278000 x278001 x278002 x278003 x278004 x278005 x279000 x279001 x279002 x279003 x279004 x279005).bind fun t284 => ((txn_Better.f k x279000 x279001 x279002 x279003 x279004 x279005 x278000 x278001 x278002 x278003 x278004 x278005).bind fun t285 => ((txn_Better.f k x278000 x278001 x278002 x278003 x278004 x278005 x278000 x278001 x278002 x278003 x278004 x278005).bind fun t286 => (if t286 = true then (hopperlaw04_TxnLine.j1 k t284 true x278000 x278001 x278002 x278003 x278004 x278005 x279000 x279001 x279002 x279003 x279004 x279005 x280000 x280001 x280002 x280003 x280004 x280005) else (if t284 = true then (if t285 = true then (hopperlaw04_TxnLine.j1 k t284 true x278000 x278001 x278002 x278003 x278004 x278005 x279000 x279001 x279002 x279003 x279004 x279005 x280000 x280001 x280002 x280003 x280004 x280005) else (if x278000 = x279000 then (if x278001 = x279001 then (hopperlaw04_TxnLine.j1 k t284 false x278000 x278001 x278002 x278003 x278004 x278005 x279000 x279001 x279002 x279003 x279004 x279005 x280000 x280001 x280002 x280003 x280004 x280005) else (hopperlaw04_TxnLine.j1 k t284 false x278000 x278001 x278002 x278003 x278004 x278005 x279000 x279001 x279002 x279003 x279004 x279005 x280000 x280001 x280002 x280003 x280004 x280005)) else (hopperlaw04_TxnLine.j1 k t284 false x278000 x278001 x278002 x278003 x278004 x278005 x279000 x279001 x279002 x279003 x279004 x279005 x280000 x280001 x280002 x280003 x280004 x280005))) else (if x278000 = x279000 then (if x278001 = x279001 then (hopperlaw04_TxnLine.j1 k t284 false x278000 x278001 x278002 x278003 x278004 x278005 x279000 x279001 x279002 x279003 x279004 x279005 x280000 x280001 x280002 x280003 x280004 x280005) else (hopperlaw04_TxnLine.j1 k t284 (!t285) x278000 x278001 x278002 x278003 x278004 x278005 x279000 x279001 x279002 x279003 x279004 x279005 x280000 x280001 x280002 x280003 x280004 x280005)) else (hopperlaw04_TxnLine.j1 k t284 (!t285) x278000 x278001 x278002 x278003 x278004 x278005 x279000 x279001 x279002 x279003 x279004 x279005 x280000 x280001 x280002 x280003 x280004 x280005)))))))
def hopperlaw04_TxnLine.j1 : Nat → Bool → Bool → Int → Int → Int → Int → Int → ByteArray → Int → Int → Int → Int → Int → ByteArray → Int → Int → Int → Int → Int → ByteArray → Option (Bool)
  | 0, _, _, _, _, _, _, _, _, _, _, _, _, _, _, _, _, _, _, _, _ => none
  | k + 1, x7, x59, x278000, x278001, x278002, x278003, x278004, x278005, x279000, x279001, x279002, x279003, x279004, x279005, x280000, x280001, x280002, x280003, x280004, x280005 => if x59 = true then (none) else (if x7 = true then ((txn_Better.f k x279000 x279001 x279002 x279003 x279004 x279005 x280000 x280001 x280002 x280003 x280004 x280005).bind fun t287 => (if t287 = true then ((txn_Better.f k x278000 x278001 x278002 x278003 x278004 x278005 x280000 x280001 x280002 x280003 x280004 x280005).bind fun t288 => (if t288 = true then (if x278002 ≤ x279002 then ((hopperlaw04_live.f k).bind fun t289 => (some t289)) else ((hopperlaw04_live.f k).bind fun t290 => (some t290))) else (none))) else (if x278002 ≤ x279002 then ((hopperlaw04_live.f k).bind fun t291 => (some t291)) else ((hopperlaw04_live.f k).bind fun t292 => (some t292))))) else (if x278002 ≤ x279002 then ((hopperlaw04_live.f k).bind fun t293 => (some t293)) else (none)))
end
def hopperlaw04_TxnLine.f (k : Nat) (a0_0 : Int) (a0_1 : Int) (a0_2 : Int) (a0_3 : Int) (a0_4 : Int) (a0_5 : ByteArray) (a1_0 : Int) (a1_1 : Int) (a1_2 : Int) (a1_3 : Int) (a1_4 : Int) (a1_5 : ByteArray) (a2_0 : Int) (a2_1 : Int) (a2_2 : Int) (a2_3 : Int) (a2_4 : Int) (a2_5 : ByteArray) : Option (Bool) := (hopperref04_Small.f a0_0 a0_1 a0_2 a0_3 a0_4 a0_5).bind fun t280 => (if t280 = true then ((hopperref04_Small.f a1_0 a1_1 a1_2 a1_3 a1_4 a1_5).bind fun t281 => (if t281 = true then ((hopperref04_Small.f a2_0 a2_1 a2_2 a2_3 a2_4 a2_5).bind fun t282 => (hopperlaw04_TxnLine.j0 k (!t282) a0_0 a0_1 a0_2 a0_3 a0_4 a0_5 a1_0 a1_1 a1_2 a1_3 a1_4 a1_5 a2_0 a2_1 a2_2 a2_3 a2_4 a2_5)) else (hopperlaw04_TxnLine.j0 k true a0_0 a0_1 a0_2 a0_3 a0_4 a0_5 a1_0 a1_1 a1_2 a1_3 a1_4 a1_5 a2_0 a2_1 a2_2 a2_3 a2_4 a2_5))) else (hopperlaw04_TxnLine.j0 k true a0_0 a0_1 a0_2 a0_3 a0_4 a0_5 a1_0 a1_1 a1_2 a1_3 a1_4 a1_5 a2_0 a2_1 a2_2 a2_3 a2_4 a2_5))
theorem hopperlaw04_TxnLine.mono_l : ∀ k, (∀ y0 y1 y2 y3 y4 y5 y6 y7 y8 y9 y10 y11 y12 y13 y14 y15 y16 y17 y18, LeO (hopperlaw04_TxnLine.j0 k y0 y1 y2 y3 y4 y5 y6 y7 y8 y9 y10 y11 y12 y13 y14 y15 y16 y17 y18) (hopperlaw04_TxnLine.j0 (k + 1) y0 y1 y2 y3 y4 y5 y6 y7 y8 y9 y10 y11 y12 y13 y14 y15 y16 y17 y18)) ∧ (∀ y0 y1 y2 y3 y4 y5 y6 y7 y8 y9 y10 y11 y12 y13 y14 y15 y16 y17 y18 y19, LeO (hopperlaw04_TxnLine.j1 k y0 y1 y2 y3 y4 y5 y6 y7 y8 y9 y10 y11 y12 y13 y14 y15 y16 y17 y18 y19) (hopperlaw04_TxnLine.j1 (k + 1) y0 y1 y2 y3 y4 y5 y6 y7 y8 y9 y10 y11 y12 y13 y14 y15 y16 y17 y18 y19))
  | 0 => ⟨fun _ _ _ _ _ _ _ _ _ _ _ _ _ _ _ _ _ _ _ r h => by simp [hopperlaw04_TxnLine.j0] at h, fun _ _ _ _ _ _ _ _ _ _ _ _ _ _ _ _ _ _ _ _ r h => by simp [hopperlaw04_TxnLine.j1] at h⟩
  | k + 1 => by
    obtain ⟨ih0, ih1⟩ := hopperlaw04_TxnLine.mono_l k
    refine ⟨?_, ?_⟩
    · intro y0 y1 y2 y3 y4 y5 y6 y7 y8 y9 y10 y11 y12 y13 y14 y15 y16 y17 y18
      unfold hopperlaw04_TxnLine.j0
      repeat' first
      | (with_reducible exact ih0 _ _ _ _ _ _ _ _ _ _ _ _ _ _ _ _ _ _ _)
      | (with_reducible exact ih1 _ _ _ _ _ _ _ _ _ _ _ _ _ _ _ _ _ _ _ _)
      | (with_reducible exact hopperlaw04_live.mono _)
      | (with_reducible exact txn_Better.mono _ _ _ _ _ _ _ _ _ _ _ _ _)
      | (with_reducible exact LeO.refl _)
      | (with_reducible exact LeO.none _)
      | (with_reducible refine LeO.ite ?_ ?_)
      | (with_reducible refine LeO.bind ?_ (fun _ => ?_))
      | exact ih0 _ _ _ _ _ _ _ _ _ _ _ _ _ _ _ _ _ _ _
      | exact ih1 _ _ _ _ _ _ _ _ _ _ _ _ _ _ _ _ _ _ _ _
      | exact hopperlaw04_live.mono _
      | exact txn_Better.mono _ _ _ _ _ _ _ _ _ _ _ _ _
      | exact LeO.none _
      | refine LeO.ite ?_ ?_
      | refine LeO.bind ?_ (fun _ => ?_)
    · intro y0 y1 y2 y3 y4 y5 y6 y7 y8 y9 y10 y11 y12 y13 y14 y15 y16 y17 y18 y19
      unfold hopperlaw04_TxnLine.j1
      repeat' first
      | (with_reducible exact ih0 _ _ _ _ _ _ _ _ _ _ _ _ _ _ _ _ _ _ _)
      | (with_reducible exact ih1 _ _ _ _ _ _ _ _ _ _ _ _ _ _ _ _ _ _ _ _)
      | (with_reducible exact hopperlaw04_live.mono _)
      | (with_reducible exact txn_Better.mono _ _ _ _ _ _ _ _ _ _ _ _ _)
      | (with_reducible exact LeO.refl _)
      | (with_reducible exact LeO.none _)
      | (with_reducible refine LeO.ite ?_ ?_)
      | (with_reducible refine LeO.bind ?_ (fun _ => ?_))
      | exact ih0 _ _ _ _ _ _ _ _ _ _ _ _ _ _ _ _ _ _ _
      | exact ih1 _ _ _ _ _ _ _ _ _ _ _ _ _ _ _ _ _ _ _ _
      | exact hopperlaw04_live.mono _
      | exact txn_Better.mono _ _ _ _ _ _ _ _ _ _ _ _ _
      | exact LeO.none _
      | refine LeO.ite ?_ ?_
      | refine LeO.bind ?_ (fun _ => ?_)
theorem hopperlaw04_TxnLine.mono : ∀ a0 a1 a2 a3 a4 a5 a6 a7 a8 a9 a10 a11 a12 a13 a14 a15 a16 a17 k, LeO (hopperlaw04_TxnLine.f k a0 a1 a2 a3 a4 a5 a6 a7 a8 a9 a10 a11 a12 a13 a14 a15 a16 a17) (hopperlaw04_TxnLine.f (k + 1) a0 a1 a2 a3 a4 a5 a6 a7 a8 a9 a10 a11 a12 a13 a14 a15 a16 a17) := by
  intro a0 a1 a2 a3 a4 a5 a6 a7 a8 a9 a10 a11 a12 a13 a14 a15 a16 a17 k
  obtain ⟨ih0, ih1⟩ := hopperlaw04_TxnLine.mono_l k
  unfold hopperlaw04_TxnLine.f
  repeat' first
      | (with_reducible exact ih0 _ _ _ _ _ _ _ _ _ _ _ _ _ _ _ _ _ _ _)
      | (with_reducible exact ih1 _ _ _ _ _ _ _ _ _ _ _ _ _ _ _ _ _ _ _ _)
      | (with_reducible exact hopperlaw04_live.mono _)
      | (with_reducible exact txn_Better.mono _ _ _ _ _ _ _ _ _ _ _ _ _)
      | (with_reducible exact LeO.refl _)
      | (with_reducible exact LeO.none _)
      | (with_reducible refine LeO.ite ?_ ?_)
      | (with_reducible refine LeO.bind ?_ (fun _ => ?_))
      | exact ih0 _ _ _ _ _ _ _ _ _ _ _ _ _ _ _ _ _ _ _
      | exact ih1 _ _ _ _ _ _ _ _ _ _ _ _ _ _ _ _ _ _ _ _
      | exact hopperlaw04_live.mono _
      | exact txn_Better.mono _ _ _ _ _ _ _ _ _ _ _ _ _
      | exact LeO.none _
      | refine LeO.ite ?_ ?_
      | refine LeO.bind ?_ (fun _ => ?_)
set_option maxHeartbeats 8000000 in
set_option maxRecDepth 100000 in
theorem hopperlaw04_TxnLine.calls (k : Nat) (a0_0 : Int) (a0_1 : Int) (a0_2 : Int) (a0_3 : Int) (a0_4 : Int) (a0_5 : ByteArray) (a1_0 : Int) (a1_1 : Int) (a1_2 : Int) (a1_3 : Int) (a1_4 : Int) (a1_5 : ByteArray) (a2_0 : Int) (a2_1 : Int) (a2_2 : Int) (a2_3 : Int) (a2_4 : Int) (a2_5 : ByteArray) (r : Bool) (w : World) (h : hopperlaw04_TxnLine.f k a0_0 a0_1 a0_2 a0_3 a0_4 a0_5 a1_0 a1_1 a1_2 a1_3 a1_4 a1_5 a2_0 a2_1 a2_2 a2_3 a2_4 a2_5 = some r) :
    Calls Try.prog 6 #[.agg #[.int .i64 a0_0, .int .i64 a0_1, .int .i64 a0_2, .int .i64 a0_3, .int .i64 a0_4, .string a0_5], .agg #[.int .i64 a1_0, .int .i64 a1_1, .int .i64 a1_2, .int .i64 a1_3, .int .i64 a1_4, .string a1_5], .agg #[.int .i64 a2_0, .int .i64 a2_1, .int .i64 a2_2, .int .i64 a2_3, .int .i64 a2_4, .string a2_5]] w fun e w' => e = .returned (.bool r) ∧ Below w.heap.size w w' := by
  have hu23 := Try.underlying23
  have HB := Aside0.mk (Below.refl w.heap.size w)
  have H : ((hopperref04_Small.f a0_0 a0_1 a0_2 a0_3 a0_4 a0_5).bind fun t280 => (if t280 = true then ((hopperref04_Small.f a1_0 a1_1 a1_2 a1_3 a1_4 a1_5).bind fun t281 => (if t281 = true then ((hopperref04_Small.f a2_0 a2_1 a2_2 a2_3 a2_4 a2_5).bind fun t282 => (hopperlaw04_TxnLine.j0 k (!t282) a0_0 a0_1 a0_2 a0_3 a0_4 a0_5 a1_0 a1_1 a1_2 a1_3 a1_4 a1_5 a2_0 a2_1 a2_2 a2_3 a2_4 a2_5)) else (hopperlaw04_TxnLine.j0 k true a0_0 a0_1 a0_2 a0_3 a0_4 a0_5 a1_0 a1_1 a1_2 a1_3 a1_4 a1_5 a2_0 a2_1 a2_2 a2_3 a2_4 a2_5))) else (hopperlaw04_TxnLine.j0 k true a0_0 a0_1 a0_2 a0_3 a0_4 a0_5 a1_0 a1_1 a1_2 a1_3 a1_4 a1_5 a2_0 a2_1 a2_2 a2_3 a2_4 a2_5))) = some r := h
  clear h
  have HC4 := Aside0.mk H
  clear H
  go_enter Try.func6, Try.ntmps6
  go_upto_region 1 with (first | ((with_reducible refine gate_dst (N := 3) rfl ?_); refine box_event ?hg (N := 3) ?hd (cs := #[.int .i64 a0_0, .int .i64 a0_1, .int .i64 a0_2, .int .i64 a0_3, .int .i64 a0_4, .string a0_5]) (t := 23) ?hr ?_; (case hd => rfl); (case hg => rfl); (case hr => first | (go_simp; done) | (go_simp; rfl)); intro gb277 hg w5 hbox hb; have n0_ := Aside0.mk (below_step (by repeat (first | (with_reducible first | exact HB.out | apply below_alloc | apply pw_below_drewN | apply below_drew1) | exact HB.out)) hb); have n1_ := Aside0.mk (hbox); have n2_ := Aside0.mk ((by rw [hg]; exact (below_size (by repeat (first | (with_reducible first | exact HB.out | apply below_alloc | apply pw_below_drewN | apply below_drew1) | exact HB.out))) : w.heap.size ≤ gb277)); have n3_ := Aside0.mk ((by rw [hg]; exact (below_size (by repeat (first | (with_reducible first | exact HB.out | apply below_alloc | apply pw_below_drewN | apply below_drew1) | exact HB.out))) : w.heap.size ≤ gb277)); clear HB; have HB := n0_; have BK277 := n1_; have GW277 := n2_; have GE277 := n3_; clear n0_ n1_ n2_ n3_; clear hb hbox hg) | ((with_reducible refine gate_dst (N := 4) rfl ?_); refine box_event ?hg (N := 4) ?hd (cs := #[.int .i64 a1_0, .int .i64 a1_1, .int .i64 a1_2, .int .i64 a1_3, .int .i64 a1_4, .string a1_5]) (t := 23) ?hr ?_; (case hd => rfl); (case hg => rfl); (case hr => first | (go_simp; done) | (go_simp; rfl)); intro gb278 hg w6 hbox hb; have n0_ := Aside0.mk (blk_below (g := gb277) (o := .cells #[.int .i64 a0_0, .int .i64 a0_1, .int .i64 a0_2, .int .i64 a0_3, .int .i64 a0_4, .string a0_5] 23 (0, 0)) (by (with_reducible repeat (first | refine blk_drewN ?_ _ | refine blk_drew ?_ | refine blk_alloc ?_ _)); exact BK277.out) hb); have n1_ := Aside0.mk (below_step (by repeat (first | (with_reducible first | exact HB.out | apply below_alloc | apply pw_below_drewN | apply below_drew1 | refine below_set ?_ GE277.out) | exact HB.out)) hb); have n2_ := Aside0.mk (hbox); have n3_ := Aside0.mk ((by rw [hg]; exact (below_size (by repeat (first | (with_reducible first | exact HB.out | apply below_alloc | apply pw_below_drewN | apply below_drew1 | refine below_set ?_ GE277.out) | exact HB.out))) : w.heap.size ≤ gb278)); have n4_ := Aside0.mk ((by rw [hg]; exact (below_size (by repeat (first | (with_reducible first | exact HB.out | apply below_alloc | apply pw_below_drewN | apply below_drew1 | refine below_set ?_ GE277.out) | exact HB.out))) : w.heap.size ≤ gb278)); have n5_ := Aside0.mk ((by rw [hg]; exact Nat.ne_of_lt (blk_lt (g := gb277) (o := .cells #[.int .i64 a0_0, .int .i64 a0_1, .int .i64 a0_2, .int .i64 a0_3, .int .i64 a0_4, .string a0_5] 23 (0, 0)) (by (with_reducible repeat (first | refine blk_drewN ?_ _ | refine blk_drew ?_ | refine blk_alloc ?_ _)); exact BK277.out)) : gb277 ≠ gb278)); have n6_ := Aside0.mk ((by rw [hg]; exact Nat.ne_of_gt (blk_lt (g := gb277) (o := .cells #[.int .i64 a0_0, .int .i64 a0_1, .int .i64 a0_2, .int .i64 a0_3, .int .i64 a0_4, .string a0_5] 23 (0, 0)) (by (with_reducible repeat (first | refine blk_drewN ?_ _ | refine blk_drew ?_ | refine blk_alloc ?_ _)); exact BK277.out)) : gb278 ≠ gb277)); clear BK277; clear HB; have BK277 := n0_; have HB := n1_; have BK278 := n2_; have GW278 := n3_; have GE278 := n4_; have NB277_278 := n5_; have NB278_277 := n6_; clear n0_ n1_ n2_ n3_ n4_ n5_ n6_; clear hb hbox hg) | ((with_reducible refine gate_dst (N := 5) rfl ?_); refine box_event ?hg (N := 5) ?hd (cs := #[.int .i64 a2_0, .int .i64 a2_1, .int .i64 a2_2, .int .i64 a2_3, .int .i64 a2_4, .string a2_5]) (t := 23) ?hr ?_; (case hd => rfl); (case hg => rfl); (case hr => first | (go_simp; done) | (go_simp; rfl)); intro gb279 hg w7 hbox hb; have n0_ := Aside0.mk (blk_below (g := gb277) (o := .cells #[.int .i64 a0_0, .int .i64 a0_1, .int .i64 a0_2, .int .i64 a0_3, .int .i64 a0_4, .string a0_5] 23 (0, 0)) (by (with_reducible repeat (first | refine blk_drewN ?_ _ | refine blk_drew ?_ | refine blk_alloc ?_ _)); exact BK277.out) hb); have n1_ := Aside0.mk (blk_below (g := gb278) (o := .cells #[.int .i64 a1_0, .int .i64 a1_1, .int .i64 a1_2, .int .i64 a1_3, .int .i64 a1_4, .string a1_5] 23 (0, 0)) (by (with_reducible repeat (first | refine blk_drewN ?_ _ | refine blk_drew ?_ | refine blk_alloc ?_ _)); exact BK278.out) hb); have n2_ := Aside0.mk (below_step (by repeat (first | (with_reducible first | exact HB.out | apply below_alloc | apply pw_below_drewN | apply below_drew1 | refine below_set ?_ GE277.out | refine below_set ?_ GE278.out) | exact HB.out)) hb); have n3_ := Aside0.mk (hbox); have n4_ := Aside0.mk ((by rw [hg]; exact (below_size (by repeat (first | (with_reducible first | exact HB.out | apply below_alloc | apply pw_below_drewN | apply below_drew1 | refine below_set ?_ GE277.out | refine below_set ?_ GE278.out) | exact HB.out))) : w.heap.size ≤ gb279)); have n5_ := Aside0.mk ((by rw [hg]; exact (below_size (by repeat (first | (with_reducible first | exact HB.out | apply below_alloc | apply pw_below_drewN | apply below_drew1 | refine below_set ?_ GE277.out | refine below_set ?_ GE278.out) | exact HB.out))) : w.heap.size ≤ gb279)); have n6_ := Aside0.mk ((by rw [hg]; exact Nat.ne_of_lt (blk_lt (g := gb277) (o := .cells #[.int .i64 a0_0, .int .i64 a0_1, .int .i64 a0_2, .int .i64 a0_3, .int .i64 a0_4, .string a0_5] 23 (0, 0)) (by (with_reducible repeat (first | refine blk_drewN ?_ _ | refine blk_drew ?_ | refine blk_alloc ?_ _)); exact BK277.out)) : gb277 ≠ gb279)); have n7_ := Aside0.mk ((by rw [hg]; exact Nat.ne_of_gt (blk_lt (g := gb277) (o := .cells #[.int .i64 a0_0, .int .i64 a0_1, .int .i64 a0_2, .int .i64 a0_3, .int .i64 a0_4, .string a0_5] 23 (0, 0)) (by (with_reducible repeat (first | refine blk_drewN ?_ _ | refine blk_drew ?_ | refine blk_alloc ?_ _)); exact BK277.out)) : gb279 ≠ gb277)); have n8_ := Aside0.mk ((by rw [hg]; exact Nat.ne_of_lt (blk_lt (g := gb278) (o := .cells #[.int .i64 a1_0, .int .i64 a1_1, .int .i64 a1_2, .int .i64 a1_3, .int .i64 a1_4, .string a1_5] 23 (0, 0)) (by (with_reducible repeat (first | refine blk_drewN ?_ _ | refine blk_drew ?_ | refine blk_alloc ?_ _)); exact BK278.out)) : gb278 ≠ gb279)); have n9_ := Aside0.mk ((by rw [hg]; exact Nat.ne_of_gt (blk_lt (g := gb278) (o := .cells #[.int .i64 a1_0, .int .i64 a1_1, .int .i64 a1_2, .int .i64 a1_3, .int .i64 a1_4, .string a1_5] 23 (0, 0)) (by (with_reducible repeat (first | refine blk_drewN ?_ _ | refine blk_drew ?_ | refine blk_alloc ?_ _)); exact BK278.out)) : gb279 ≠ gb278)); clear BK277; clear BK278; clear HB; have BK277 := n0_; have BK278 := n1_; have HB := n2_; have BK279 := n3_; have GW279 := n4_; have GE279 := n5_; have NB277_279 := n6_; have NB279_277 := n7_; have NB278_279 := n8_; have NB279_278 := n9_; clear n0_ n1_ n2_ n3_ n4_ n5_ n6_ n7_ n8_ n9_; clear hb hbox hg))
  (try simp only [Act.put, List.setIfInBounds_toArray, List.set_cons_zero, List.set_cons_succ])
  go_cut [21] (fun v21 wc => ∃ (kq : Nat) (x21_3 : Bool), v21 = .bool x21_3 ∧ Aside0 (hopperlaw04_TxnLine.j0 kq x21_3 a0_0 a0_1 a0_2 a0_3 a0_4 a0_5 a1_0 a1_1 a1_2 a1_3 a1_4 a1_5 a2_0 a2_1 a2_2 a2_3 a2_4 a2_5 = some r) ∧ Aside0 (kq ≤ k) ∧ Aside0 (wc.heap[gb277]? = some (.cells #[.int .i64 a0_0, .int .i64 a0_1, .int .i64 a0_2, .int .i64 a0_3, .int .i64 a0_4, .string a0_5] 23 (0, 0))) ∧ Aside0 (wc.heap[gb278]? = some (.cells #[.int .i64 a1_0, .int .i64 a1_1, .int .i64 a1_2, .int .i64 a1_3, .int .i64 a1_4, .string a1_5] 23 (0, 0))) ∧ Aside0 (wc.heap[gb279]? = some (.cells #[.int .i64 a2_0, .int .i64 a2_1, .int .i64 a2_2, .int .i64 a2_3, .int .i64 a2_4, .string a2_5] 23 (0, 0))) ∧ Aside0 (Below w.heap.size w wc))
  case first =>
    have H := HC4.out
    clear HC4
    replace H := Option.bind_eq_some_iff.mp H
    obtain ⟨t280, A80, H⟩ := H
    replace H : (if t280 = true then ((hopperref04_Small.f a1_0 a1_1 a1_2 a1_3 a1_4 a1_5).bind fun t281 => (if t281 = true then ((hopperref04_Small.f a2_0 a2_1 a2_2 a2_3 a2_4 a2_5).bind fun t282 => (hopperlaw04_TxnLine.j0 k (!t282) a0_0 a0_1 a0_2 a0_3 a0_4 a0_5 a1_0 a1_1 a1_2 a1_3 a1_4 a1_5 a2_0 a2_1 a2_2 a2_3 a2_4 a2_5)) else (hopperlaw04_TxnLine.j0 k true a0_0 a0_1 a0_2 a0_3 a0_4 a0_5 a1_0 a1_1 a1_2 a1_3 a1_4 a1_5 a2_0 a2_1 a2_2 a2_3 a2_4 a2_5))) else (hopperlaw04_TxnLine.j0 k true a0_0 a0_1 a0_2 a0_3 a0_4 a0_5 a1_0 a1_1 a1_2 a1_3 a1_4 a1_5 a2_0 a2_1 a2_2 a2_3 a2_4 a2_5)) = some r := H
    have A8 := Aside0.mk A80
    clear A80
    by_cases c9 : t280 = true
    · subst c9
      have H1 : ((hopperref04_Small.f a1_0 a1_1 a1_2 a1_3 a1_4 a1_5).bind fun t281 => (if t281 = true then ((hopperref04_Small.f a2_0 a2_1 a2_2 a2_3 a2_4 a2_5).bind fun t282 => (hopperlaw04_TxnLine.j0 k (!t282) a0_0 a0_1 a0_2 a0_3 a0_4 a0_5 a1_0 a1_1 a1_2 a1_3 a1_4 a1_5 a2_0 a2_1 a2_2 a2_3 a2_4 a2_5)) else (hopperlaw04_TxnLine.j0 k true a0_0 a0_1 a0_2 a0_3 a0_4 a0_5 a1_0 a1_1 a1_2 a1_3 a1_4 a1_5 a2_0 a2_1 a2_2 a2_3 a2_4 a2_5))) = some r := by rw [if_pos rfl] at H; exact H
      clear H
      have H := H1
      clear H1
      replace H := Option.bind_eq_some_iff.mp H
      obtain ⟨t281, A100, H⟩ := H
      replace H : (if t281 = true then ((hopperref04_Small.f a2_0 a2_1 a2_2 a2_3 a2_4 a2_5).bind fun t282 => (hopperlaw04_TxnLine.j0 k (!t282) a0_0 a0_1 a0_2 a0_3 a0_4 a0_5 a1_0 a1_1 a1_2 a1_3 a1_4 a1_5 a2_0 a2_1 a2_2 a2_3 a2_4 a2_5)) else (hopperlaw04_TxnLine.j0 k true a0_0 a0_1 a0_2 a0_3 a0_4 a0_5 a1_0 a1_1 a1_2 a1_3 a1_4 a1_5 a2_0 a2_1 a2_2 a2_3 a2_4 a2_5)) = some r := H
      have A10 := Aside0.mk A100
      clear A100
      by_cases c11 : t281 = true
      · subst c11
        have H1 : ((hopperref04_Small.f a2_0 a2_1 a2_2 a2_3 a2_4 a2_5).bind fun t282 => (hopperlaw04_TxnLine.j0 k (!t282) a0_0 a0_1 a0_2 a0_3 a0_4 a0_5 a1_0 a1_1 a1_2 a1_3 a1_4 a1_5 a2_0 a2_1 a2_2 a2_3 a2_4 a2_5)) = some r := by rw [if_pos rfl] at H; exact H
        clear H
        have H := H1
        clear H1
        replace H := Option.bind_eq_some_iff.mp H
        obtain ⟨t282, A120, H⟩ := H
        replace H : (hopperlaw04_TxnLine.j0 k (!t282) a0_0 a0_1 a0_2 a0_3 a0_4 a0_5 a1_0 a1_1 a1_2 a1_3 a1_4 a1_5 a2_0 a2_1 a2_2 a2_3 a2_4 a2_5) = some r := H
        have A12 := Aside0.mk A120
        clear A120
        have H' := Aside0.mk H
        clear H
        have hnb13 := NB277_278.out
        have hnc13 := NB278_277.out
        have hnb14 := NB277_279.out
        have hnc14 := NB279_277.out
        have hcz15_0 : w7.cell? ⟨gb277, 0, none⟩ = some (.int .i64 a0_0) := (blk_cell BK277.out 0).trans rfl
        have hcz15_1 : w7.cell? ⟨gb277, 1, none⟩ = some (.int .i64 a0_1) := (blk_cell BK277.out 1).trans rfl
        have hcz15_2 : w7.cell? ⟨gb277, 2, none⟩ = some (.int .i64 a0_2) := (blk_cell BK277.out 2).trans rfl
        have hcz15_3 : w7.cell? ⟨gb277, 3, none⟩ = some (.int .i64 a0_3) := (blk_cell BK277.out 3).trans rfl
        have hcz15_4 : w7.cell? ⟨gb277, 4, none⟩ = some (.int .i64 a0_4) := (blk_cell BK277.out 4).trans rfl
        have hcz15_5 : w7.cell? ⟨gb277, 5, none⟩ = some (.string a0_5) := (blk_cell BK277.out 5).trans rfl
        have hfz15_0 := blk_frozen BK277.out 0
        have hfz15_1 := blk_frozen BK277.out 1
        have hfz15_2 := blk_frozen BK277.out 2
        have hfz15_3 := blk_frozen BK277.out 3
        have hfz15_4 := blk_frozen BK277.out 4
        have hfz15_5 := blk_frozen BK277.out 5
        go_wp2_with (first | ((with_reducible refine gate_callee (f := 32) rfl ?_); refine goesL_ (some 10) rfl rfl Try.func32 (by kernel_rfl) rfl #[.agg #[.int .i64 a0_0, .int .i64 a0_1, .int .i64 a0_2, .int .i64 a0_3, .int .i64 a0_4, .string a0_5]] rfl (by (try simp only [List.map_toArray, List.map_cons, List.map_nil]); first | done | rfl | (simp only [List.length_drop, List.length_take]; rfl)) ?_; (with_reducible refine (hopperref04_Small.calls a0_0 a0_1 a0_2 a0_3 a0_4 a0_5 true _ A8.out).mono ?_); rintro e w16 ⟨rfl, hb⟩; refine ⟨_, rfl, ?_⟩; have n0_ := Aside0.mk (blk_below (g := gb277) (o := .cells #[.int .i64 a0_0, .int .i64 a0_1, .int .i64 a0_2, .int .i64 a0_3, .int .i64 a0_4, .string a0_5] 23 (0, 0)) (by (with_reducible repeat (first | refine blk_drewN ?_ _ | refine blk_drew ?_ | refine blk_alloc ?_ _)); exact BK277.out) hb); have n1_ := Aside0.mk (blk_below (g := gb278) (o := .cells #[.int .i64 a1_0, .int .i64 a1_1, .int .i64 a1_2, .int .i64 a1_3, .int .i64 a1_4, .string a1_5] 23 (0, 0)) (by (with_reducible repeat (first | refine blk_drewN ?_ _ | refine blk_drew ?_ | refine blk_alloc ?_ _)); exact BK278.out) hb); have n2_ := Aside0.mk (blk_below (g := gb279) (o := .cells #[.int .i64 a2_0, .int .i64 a2_1, .int .i64 a2_2, .int .i64 a2_3, .int .i64 a2_4, .string a2_5] 23 (0, 0)) (by (with_reducible repeat (first | refine blk_drewN ?_ _ | refine blk_drew ?_ | refine blk_alloc ?_ _)); exact BK279.out) hb); have n3_ := Aside0.mk (below_step (by repeat (first | (with_reducible first | exact HB.out | apply below_alloc | apply pw_below_drewN | apply below_drew1 | refine below_set ?_ GE277.out | refine below_set ?_ GE278.out | refine below_set ?_ GE279.out) | exact HB.out)) hb); clear BK277; clear BK278; clear BK279; clear HB; have BK277 := n0_; have BK278 := n1_; have BK279 := n2_; have HB := n3_; clear n0_ n1_ n2_ n3_; (try clear hb); (try clear hb2); (try clear hk); (try clear hi); have hnb17 := NB278_279.out; have hnc17 := NB279_278.out; have hcz18_0 : w16.cell? ⟨gb278, 0, none⟩ = some (.int .i64 a1_0) := (blk_cell BK278.out 0).trans rfl; have hcz18_1 : w16.cell? ⟨gb278, 1, none⟩ = some (.int .i64 a1_1) := (blk_cell BK278.out 1).trans rfl; have hcz18_2 : w16.cell? ⟨gb278, 2, none⟩ = some (.int .i64 a1_2) := (blk_cell BK278.out 2).trans rfl; have hcz18_3 : w16.cell? ⟨gb278, 3, none⟩ = some (.int .i64 a1_3) := (blk_cell BK278.out 3).trans rfl; have hcz18_4 : w16.cell? ⟨gb278, 4, none⟩ = some (.int .i64 a1_4) := (blk_cell BK278.out 4).trans rfl; have hcz18_5 : w16.cell? ⟨gb278, 5, none⟩ = some (.string a1_5) := (blk_cell BK278.out 5).trans rfl; have hfz18_0 := blk_frozen BK278.out 0; have hfz18_1 := blk_frozen BK278.out 1; have hfz18_2 := blk_frozen BK278.out 2; have hfz18_3 := blk_frozen BK278.out 3; have hfz18_4 := blk_frozen BK278.out 4; have hfz18_5 := blk_frozen BK278.out 5) | (go_at_call 32; (with_reducible refine (hopperref04_Small.calls a1_0 a1_1 a1_2 a1_3 a1_4 a1_5 true _ A10.out).mono ?_); rintro e w19 ⟨rfl, hb⟩; have n0_ := Aside0.mk (blk_below (g := gb277) (o := .cells #[.int .i64 a0_0, .int .i64 a0_1, .int .i64 a0_2, .int .i64 a0_3, .int .i64 a0_4, .string a0_5] 23 (0, 0)) (by (with_reducible repeat (first | refine blk_drewN ?_ _ | refine blk_drew ?_ | refine blk_alloc ?_ _)); exact BK277.out) hb); have n1_ := Aside0.mk (blk_below (g := gb278) (o := .cells #[.int .i64 a1_0, .int .i64 a1_1, .int .i64 a1_2, .int .i64 a1_3, .int .i64 a1_4, .string a1_5] 23 (0, 0)) (by (with_reducible repeat (first | refine blk_drewN ?_ _ | refine blk_drew ?_ | refine blk_alloc ?_ _)); exact BK278.out) hb); have n2_ := Aside0.mk (blk_below (g := gb279) (o := .cells #[.int .i64 a2_0, .int .i64 a2_1, .int .i64 a2_2, .int .i64 a2_3, .int .i64 a2_4, .string a2_5] 23 (0, 0)) (by (with_reducible repeat (first | refine blk_drewN ?_ _ | refine blk_drew ?_ | refine blk_alloc ?_ _)); exact BK279.out) hb); have n3_ := Aside0.mk (below_step (by repeat (first | (with_reducible first | exact HB.out | apply below_alloc | apply pw_below_drewN | apply below_drew1 | refine below_set ?_ GE277.out | refine below_set ?_ GE278.out | refine below_set ?_ GE279.out) | exact HB.out)) hb); clear BK277; clear BK278; clear BK279; clear HB; have BK277 := n0_; have BK278 := n1_; have BK279 := n2_; have HB := n3_; clear n0_ n1_ n2_ n3_; (try clear hb); (try clear hb2); (try clear hk); (try clear hi); have hcz20_0 : w19.cell? ⟨gb279, 0, none⟩ = some (.int .i64 a2_0) := (blk_cell BK279.out 0).trans rfl; have hcz20_1 : w19.cell? ⟨gb279, 1, none⟩ = some (.int .i64 a2_1) := (blk_cell BK279.out 1).trans rfl; have hcz20_2 : w19.cell? ⟨gb279, 2, none⟩ = some (.int .i64 a2_2) := (blk_cell BK279.out 2).trans rfl; have hcz20_3 : w19.cell? ⟨gb279, 3, none⟩ = some (.int .i64 a2_3) := (blk_cell BK279.out 3).trans rfl; have hcz20_4 : w19.cell? ⟨gb279, 4, none⟩ = some (.int .i64 a2_4) := (blk_cell BK279.out 4).trans rfl; have hcz20_5 : w19.cell? ⟨gb279, 5, none⟩ = some (.string a2_5) := (blk_cell BK279.out 5).trans rfl; have hfz20_0 := blk_frozen BK279.out 0; have hfz20_1 := blk_frozen BK279.out 1; have hfz20_2 := blk_frozen BK279.out 2; have hfz20_3 := blk_frozen BK279.out 3; have hfz20_4 := blk_frozen BK279.out 4; have hfz20_5 := blk_frozen BK279.out 5) | (go_at_call 32; (with_reducible refine (hopperref04_Small.calls a2_0 a2_1 a2_2 a2_3 a2_4 a2_5 t282 _ A12.out).mono ?_); rintro e w21 ⟨rfl, hb⟩; have n0_ := Aside0.mk (blk_below (g := gb277) (o := .cells #[.int .i64 a0_0, .int .i64 a0_1, .int .i64 a0_2, .int .i64 a0_3, .int .i64 a0_4, .string a0_5] 23 (0, 0)) (by (with_reducible repeat (first | refine blk_drewN ?_ _ | refine blk_drew ?_ | refine blk_alloc ?_ _)); exact BK277.out) hb); have n1_ := Aside0.mk (blk_below (g := gb278) (o := .cells #[.int .i64 a1_0, .int .i64 a1_1, .int .i64 a1_2, .int .i64 a1_3, .int .i64 a1_4, .string a1_5] 23 (0, 0)) (by (with_reducible repeat (first | refine blk_drewN ?_ _ | refine blk_drew ?_ | refine blk_alloc ?_ _)); exact BK278.out) hb); have n2_ := Aside0.mk (blk_below (g := gb279) (o := .cells #[.int .i64 a2_0, .int .i64 a2_1, .int .i64 a2_2, .int .i64 a2_3, .int .i64 a2_4, .string a2_5] 23 (0, 0)) (by (with_reducible repeat (first | refine blk_drewN ?_ _ | refine blk_drew ?_ | refine blk_alloc ?_ _)); exact BK279.out) hb); have n3_ := Aside0.mk (below_step (by repeat (first | (with_reducible first | exact HB.out | apply below_alloc | apply pw_below_drewN | apply below_drew1 | refine below_set ?_ GE277.out | refine below_set ?_ GE278.out | refine below_set ?_ GE279.out) | exact HB.out)) hb); clear BK277; clear BK278; clear BK279; clear HB; have BK277 := n0_; have BK278 := n1_; have BK279 := n2_; have HB := n3_; clear n0_ n1_ n2_ n3_; (try clear hb); (try clear hb2); (try clear hk); (try clear hi)))
        go_meet
        case rel => exact ⟨_, (!t282), (by first | rfl | (simp; done) | (simp [*]; done)), H', ⟨by first | omega | exact Nat.le_refl _⟩, ⟨by (with_reducible repeat (first | refine blk_drewN ?_ _ | refine blk_drew ?_ | refine blk_alloc ?_ _)); exact BK277.out⟩, ⟨by (with_reducible repeat (first | refine blk_drewN ?_ _ | refine blk_drew ?_ | refine blk_alloc ?_ _)); exact BK278.out⟩, ⟨by (with_reducible repeat (first | refine blk_drewN ?_ _ | refine blk_drew ?_ | refine blk_alloc ?_ _)); exact BK279.out⟩, ⟨by repeat (first | (with_reducible first | exact HB.out | apply below_alloc | apply pw_below_drewN | apply below_drew1 | refine below_set ?_ GE277.out | refine below_set ?_ GE278.out | refine below_set ?_ GE279.out) | exact HB.out)⟩⟩
      · replace c11 := Bool.eq_false_iff.mpr c11
        subst c11
        have H1 : (hopperlaw04_TxnLine.j0 k true a0_0 a0_1 a0_2 a0_3 a0_4 a0_5 a1_0 a1_1 a1_2 a1_3 a1_4 a1_5 a2_0 a2_1 a2_2 a2_3 a2_4 a2_5) = some r := by rw [if_neg (show ¬ (false = true) by decide)] at H; exact H
        clear H
        have H := H1
        clear H1
        have H' := Aside0.mk H
        clear H
        have hnb22 := NB277_278.out
        have hnc22 := NB278_277.out
        have hnb23 := NB277_279.out
        have hnc23 := NB279_277.out
        have hcz24_0 : w7.cell? ⟨gb277, 0, none⟩ = some (.int .i64 a0_0) := (blk_cell BK277.out 0).trans rfl
        have hcz24_1 : w7.cell? ⟨gb277, 1, none⟩ = some (.int .i64 a0_1) := (blk_cell BK277.out 1).trans rfl
        have hcz24_2 : w7.cell? ⟨gb277, 2, none⟩ = some (.int .i64 a0_2) := (blk_cell BK277.out 2).trans rfl
        have hcz24_3 : w7.cell? ⟨gb277, 3, none⟩ = some (.int .i64 a0_3) := (blk_cell BK277.out 3).trans rfl
        have hcz24_4 : w7.cell? ⟨gb277, 4, none⟩ = some (.int .i64 a0_4) := (blk_cell BK277.out 4).trans rfl
        have hcz24_5 : w7.cell? ⟨gb277, 5, none⟩ = some (.string a0_5) := (blk_cell BK277.out 5).trans rfl
        have hfz24_0 := blk_frozen BK277.out 0
        have hfz24_1 := blk_frozen BK277.out 1
        have hfz24_2 := blk_frozen BK277.out 2
        have hfz24_3 := blk_frozen BK277.out 3
        have hfz24_4 := blk_frozen BK277.out 4
        have hfz24_5 := blk_frozen BK277.out 5
        go_wp2_with (first | ((with_reducible refine gate_callee (f := 32) rfl ?_); refine goesL_ (some 10) rfl rfl Try.func32 (by kernel_rfl) rfl #[.agg #[.int .i64 a0_0, .int .i64 a0_1, .int .i64 a0_2, .int .i64 a0_3, .int .i64 a0_4, .string a0_5]] rfl (by (try simp only [List.map_toArray, List.map_cons, List.map_nil]); first | done | rfl | (simp only [List.length_drop, List.length_take]; rfl)) ?_; (with_reducible refine (hopperref04_Small.calls a0_0 a0_1 a0_2 a0_3 a0_4 a0_5 true _ A8.out).mono ?_); rintro e w25 ⟨rfl, hb⟩; refine ⟨_, rfl, ?_⟩; have n0_ := Aside0.mk (blk_below (g := gb277) (o := .cells #[.int .i64 a0_0, .int .i64 a0_1, .int .i64 a0_2, .int .i64 a0_3, .int .i64 a0_4, .string a0_5] 23 (0, 0)) (by (with_reducible repeat (first | refine blk_drewN ?_ _ | refine blk_drew ?_ | refine blk_alloc ?_ _)); exact BK277.out) hb); have n1_ := Aside0.mk (blk_below (g := gb278) (o := .cells #[.int .i64 a1_0, .int .i64 a1_1, .int .i64 a1_2, .int .i64 a1_3, .int .i64 a1_4, .string a1_5] 23 (0, 0)) (by (with_reducible repeat (first | refine blk_drewN ?_ _ | refine blk_drew ?_ | refine blk_alloc ?_ _)); exact BK278.out) hb); have n2_ := Aside0.mk (blk_below (g := gb279) (o := .cells #[.int .i64 a2_0, .int .i64 a2_1, .int .i64 a2_2, .int .i64 a2_3, .int .i64 a2_4, .string a2_5] 23 (0, 0)) (by (with_reducible repeat (first | refine blk_drewN ?_ _ | refine blk_drew ?_ | refine blk_alloc ?_ _)); exact BK279.out) hb); have n3_ := Aside0.mk (below_step (by repeat (first | (with_reducible first | exact HB.out | apply below_alloc | apply pw_below_drewN | apply below_drew1 | refine below_set ?_ GE277.out | refine below_set ?_ GE278.out | refine below_set ?_ GE279.out) | exact HB.out)) hb); clear BK277; clear BK278; clear BK279; clear HB; have BK277 := n0_; have BK278 := n1_; have BK279 := n2_; have HB := n3_; clear n0_ n1_ n2_ n3_; (try clear hb); (try clear hb2); (try clear hk); (try clear hi); have hnb26 := NB278_279.out; have hnc26 := NB279_278.out; have hcz27_0 : w25.cell? ⟨gb278, 0, none⟩ = some (.int .i64 a1_0) := (blk_cell BK278.out 0).trans rfl; have hcz27_1 : w25.cell? ⟨gb278, 1, none⟩ = some (.int .i64 a1_1) := (blk_cell BK278.out 1).trans rfl; have hcz27_2 : w25.cell? ⟨gb278, 2, none⟩ = some (.int .i64 a1_2) := (blk_cell BK278.out 2).trans rfl; have hcz27_3 : w25.cell? ⟨gb278, 3, none⟩ = some (.int .i64 a1_3) := (blk_cell BK278.out 3).trans rfl; have hcz27_4 : w25.cell? ⟨gb278, 4, none⟩ = some (.int .i64 a1_4) := (blk_cell BK278.out 4).trans rfl; have hcz27_5 : w25.cell? ⟨gb278, 5, none⟩ = some (.string a1_5) := (blk_cell BK278.out 5).trans rfl; have hfz27_0 := blk_frozen BK278.out 0; have hfz27_1 := blk_frozen BK278.out 1; have hfz27_2 := blk_frozen BK278.out 2; have hfz27_3 := blk_frozen BK278.out 3; have hfz27_4 := blk_frozen BK278.out 4; have hfz27_5 := blk_frozen BK278.out 5) | (go_at_call 32; (with_reducible refine (hopperref04_Small.calls a1_0 a1_1 a1_2 a1_3 a1_4 a1_5 false _ A10.out).mono ?_); rintro e w28 ⟨rfl, hb⟩; have n0_ := Aside0.mk (blk_below (g := gb277) (o := .cells #[.int .i64 a0_0, .int .i64 a0_1, .int .i64 a0_2, .int .i64 a0_3, .int .i64 a0_4, .string a0_5] 23 (0, 0)) (by (with_reducible repeat (first | refine blk_drewN ?_ _ | refine blk_drew ?_ | refine blk_alloc ?_ _)); exact BK277.out) hb); have n1_ := Aside0.mk (blk_below (g := gb278) (o := .cells #[.int .i64 a1_0, .int .i64 a1_1, .int .i64 a1_2, .int .i64 a1_3, .int .i64 a1_4, .string a1_5] 23 (0, 0)) (by (with_reducible repeat (first | refine blk_drewN ?_ _ | refine blk_drew ?_ | refine blk_alloc ?_ _)); exact BK278.out) hb); have n2_ := Aside0.mk (blk_below (g := gb279) (o := .cells #[.int .i64 a2_0, .int .i64 a2_1, .int .i64 a2_2, .int .i64 a2_3, .int .i64 a2_4, .string a2_5] 23 (0, 0)) (by (with_reducible repeat (first | refine blk_drewN ?_ _ | refine blk_drew ?_ | refine blk_alloc ?_ _)); exact BK279.out) hb); have n3_ := Aside0.mk (below_step (by repeat (first | (with_reducible first | exact HB.out | apply below_alloc | apply pw_below_drewN | apply below_drew1 | refine below_set ?_ GE277.out | refine below_set ?_ GE278.out | refine below_set ?_ GE279.out) | exact HB.out)) hb); clear BK277; clear BK278; clear BK279; clear HB; have BK277 := n0_; have BK278 := n1_; have BK279 := n2_; have HB := n3_; clear n0_ n1_ n2_ n3_; (try clear hb); (try clear hb2); (try clear hk); (try clear hi)))
        go_meet
        case rel => exact ⟨_, (true), (by first | rfl | (simp; done) | (simp [*]; done)), H', ⟨by first | omega | exact Nat.le_refl _⟩, ⟨by (with_reducible repeat (first | refine blk_drewN ?_ _ | refine blk_drew ?_ | refine blk_alloc ?_ _)); exact BK277.out⟩, ⟨by (with_reducible repeat (first | refine blk_drewN ?_ _ | refine blk_drew ?_ | refine blk_alloc ?_ _)); exact BK278.out⟩, ⟨by (with_reducible repeat (first | refine blk_drewN ?_ _ | refine blk_drew ?_ | refine blk_alloc ?_ _)); exact BK279.out⟩, ⟨by repeat (first | (with_reducible first | exact HB.out | apply below_alloc | apply pw_below_drewN | apply below_drew1 | refine below_set ?_ GE277.out | refine below_set ?_ GE278.out | refine below_set ?_ GE279.out) | exact HB.out)⟩⟩
    · replace c9 := Bool.eq_false_iff.mpr c9
      subst c9
      have H1 : (hopperlaw04_TxnLine.j0 k true a0_0 a0_1 a0_2 a0_3 a0_4 a0_5 a1_0 a1_1 a1_2 a1_3 a1_4 a1_5 a2_0 a2_1 a2_2 a2_3 a2_4 a2_5) = some r := by rw [if_neg (show ¬ (false = true) by decide)] at H; exact H
      clear H
      have H := H1
      clear H1
      have H' := Aside0.mk H
      clear H
      have hnb29 := NB277_278.out
      have hnc29 := NB278_277.out
      have hnb30 := NB277_279.out
      have hnc30 := NB279_277.out
      have hcz31_0 : w7.cell? ⟨gb277, 0, none⟩ = some (.int .i64 a0_0) := (blk_cell BK277.out 0).trans rfl
      have hcz31_1 : w7.cell? ⟨gb277, 1, none⟩ = some (.int .i64 a0_1) := (blk_cell BK277.out 1).trans rfl
      have hcz31_2 : w7.cell? ⟨gb277, 2, none⟩ = some (.int .i64 a0_2) := (blk_cell BK277.out 2).trans rfl
      have hcz31_3 : w7.cell? ⟨gb277, 3, none⟩ = some (.int .i64 a0_3) := (blk_cell BK277.out 3).trans rfl
      have hcz31_4 : w7.cell? ⟨gb277, 4, none⟩ = some (.int .i64 a0_4) := (blk_cell BK277.out 4).trans rfl
      have hcz31_5 : w7.cell? ⟨gb277, 5, none⟩ = some (.string a0_5) := (blk_cell BK277.out 5).trans rfl
      have hfz31_0 := blk_frozen BK277.out 0
      have hfz31_1 := blk_frozen BK277.out 1
      have hfz31_2 := blk_frozen BK277.out 2
      have hfz31_3 := blk_frozen BK277.out 3
      have hfz31_4 := blk_frozen BK277.out 4
      have hfz31_5 := blk_frozen BK277.out 5
      go_wp2_with (first | ((with_reducible refine gate_callee (f := 32) rfl ?_); refine goesL_ (some 10) rfl rfl Try.func32 (by kernel_rfl) rfl #[.agg #[.int .i64 a0_0, .int .i64 a0_1, .int .i64 a0_2, .int .i64 a0_3, .int .i64 a0_4, .string a0_5]] rfl (by (try simp only [List.map_toArray, List.map_cons, List.map_nil]); first | done | rfl | (simp only [List.length_drop, List.length_take]; rfl)) ?_; (with_reducible refine (hopperref04_Small.calls a0_0 a0_1 a0_2 a0_3 a0_4 a0_5 false _ A8.out).mono ?_); rintro e w32 ⟨rfl, hb⟩; refine ⟨_, rfl, ?_⟩; have n0_ := Aside0.mk (blk_below (g := gb277) (o := .cells #[.int .i64 a0_0, .int .i64 a0_1, .int .i64 a0_2, .int .i64 a0_3, .int .i64 a0_4, .string a0_5] 23 (0, 0)) (by (with_reducible repeat (first | refine blk_drewN ?_ _ | refine blk_drew ?_ | refine blk_alloc ?_ _)); exact BK277.out) hb); have n1_ := Aside0.mk (blk_below (g := gb278) (o := .cells #[.int .i64 a1_0, .int .i64 a1_1, .int .i64 a1_2, .int .i64 a1_3, .int .i64 a1_4, .string a1_5] 23 (0, 0)) (by (with_reducible repeat (first | refine blk_drewN ?_ _ | refine blk_drew ?_ | refine blk_alloc ?_ _)); exact BK278.out) hb); have n2_ := Aside0.mk (blk_below (g := gb279) (o := .cells #[.int .i64 a2_0, .int .i64 a2_1, .int .i64 a2_2, .int .i64 a2_3, .int .i64 a2_4, .string a2_5] 23 (0, 0)) (by (with_reducible repeat (first | refine blk_drewN ?_ _ | refine blk_drew ?_ | refine blk_alloc ?_ _)); exact BK279.out) hb); have n3_ := Aside0.mk (below_step (by repeat (first | (with_reducible first | exact HB.out | apply below_alloc | apply pw_below_drewN | apply below_drew1 | refine below_set ?_ GE277.out | refine below_set ?_ GE278.out | refine below_set ?_ GE279.out) | exact HB.out)) hb); clear BK277; clear BK278; clear BK279; clear HB; have BK277 := n0_; have BK278 := n1_; have BK279 := n2_; have HB := n3_; clear n0_ n1_ n2_ n3_; (try clear hb); (try clear hb2); (try clear hk); (try clear hi)))
      go_meet
      case rel => exact ⟨_, (true), (by first | rfl | (simp; done) | (simp [*]; done)), H', ⟨by first | omega | exact Nat.le_refl _⟩, ⟨by (with_reducible repeat (first | refine blk_drewN ?_ _ | refine blk_drew ?_ | refine blk_alloc ?_ _)); exact BK277.out⟩, ⟨by (with_reducible repeat (first | refine blk_drewN ?_ _ | refine blk_drew ?_ | refine blk_alloc ?_ _)); exact BK278.out⟩, ⟨by (with_reducible repeat (first | refine blk_drewN ?_ _ | refine blk_drew ?_ | refine blk_alloc ?_ _)); exact BK279.out⟩, ⟨by repeat (first | (with_reducible first | exact HB.out | apply below_alloc | apply pw_below_drewN | apply below_drew1 | refine below_set ?_ GE277.out | refine below_set ?_ GE278.out | refine below_set ?_ GE279.out) | exact HB.out)⟩⟩
  case rest =>
    clear HC4
    try clear c1
    try clear c2
    try clear p2
    try clear c3
    try clear c6
    try clear c9
    try clear c11
    try clear c13
    try clear c14
    try clear c17
    try clear c22
    try clear c23
    try clear c26
    try clear c29
    try clear c30
    try clear c32
    try clear hcz15_0
    try clear hcz15_1
    try clear hcz15_2
    try clear hcz15_3
    try clear hcz15_4
    try clear hcz15_5
    try clear hcz18_0
    try clear hcz18_1
    try clear hcz18_2
    try clear hcz18_3
    try clear hcz18_4
    try clear hcz18_5
    try clear hcz20_0
    try clear hcz20_1
    try clear hcz20_2
    try clear hcz20_3
    try clear hcz20_4
    try clear hcz20_5
    try clear hcz24_0
    try clear hcz24_1
    try clear hcz24_2
    try clear hcz24_3
    try clear hcz24_4
    try clear hcz24_5
    try clear hcz27_0
    try clear hcz27_1
    try clear hcz27_2
    try clear hcz27_3
    try clear hcz27_4
    try clear hcz27_5
    try clear hcz31_0
    try clear hcz31_1
    try clear hcz31_2
    try clear hcz31_3
    try clear hcz31_4
    try clear hcz31_5
    try clear hfz15_0
    try clear hfz15_1
    try clear hfz15_2
    try clear hfz15_3
    try clear hfz15_4
    try clear hfz15_5
    try clear hfz18_0
    try clear hfz18_1
    try clear hfz18_2
    try clear hfz18_3
    try clear hfz18_4
    try clear hfz18_5
    try clear hfz20_0
    try clear hfz20_1
    try clear hfz20_2
    try clear hfz20_3
    try clear hfz20_4
    try clear hfz20_5
    try clear hfz24_0
    try clear hfz24_1
    try clear hfz24_2
    try clear hfz24_3
    try clear hfz24_4
    try clear hfz24_5
    try clear hfz27_0
    try clear hfz27_1
    try clear hfz27_2
    try clear hfz27_3
    try clear hfz27_4
    try clear hfz27_5
    try clear hfz31_0
    try clear hfz31_1
    try clear hfz31_2
    try clear hfz31_3
    try clear hfz31_4
    try clear hfz31_5
    obtain ⟨kq, x21_3, rfl, HA, HJ3, BK277, BK278, BK279, HB⟩ := hcut
    cases kq with
    | zero => exact absurd HA.out (by simp [hopperlaw04_TxnLine.j0])
    | succ kj3 =>
      have H := HA.out
      clear HA
      simp only [hopperlaw04_TxnLine.j0] at H
      by_cases c33 : x21_3 = true
      · subst c33
        have H1 : ((hopperlaw04_live.f kj3).bind fun t283 => (some t283)) = some r := by rw [if_pos rfl] at H; exact H
        clear H
        have H := H1
        clear H1
        replace H := Option.bind_eq_some_iff.mp H
        obtain ⟨t283, A340, H⟩ := H
        replace H : (some t283) = some r := H
        have A34 := Aside0.mk A340
        clear A340
        obtain rfl := Option.some.inj H
        go_wp2_with (first | ((with_reducible refine gate_callee (f := 33) rfl ?_); refine goesL_ (some 22) rfl rfl Try.func33 (by kernel_rfl) rfl #[] rfl (by (try simp only [List.map_toArray, List.map_cons, List.map_nil]); first | done | rfl | (simp only [List.length_drop, List.length_take]; rfl)) ?_; (with_reducible refine (hopperlaw04_live.calls kj3  t283 _ A34.out).mono ?_); rintro e w35 ⟨rfl, hb⟩; refine ⟨_, rfl, ?_⟩; have n0_ := Aside0.mk (blk_below (g := gb277) (o := .cells #[.int .i64 a0_0, .int .i64 a0_1, .int .i64 a0_2, .int .i64 a0_3, .int .i64 a0_4, .string a0_5] 23 (0, 0)) (by (with_reducible repeat (first | refine blk_drewN ?_ _ | refine blk_drew ?_ | refine blk_alloc ?_ _)); exact BK277.out) hb); have n1_ := Aside0.mk (blk_below (g := gb278) (o := .cells #[.int .i64 a1_0, .int .i64 a1_1, .int .i64 a1_2, .int .i64 a1_3, .int .i64 a1_4, .string a1_5] 23 (0, 0)) (by (with_reducible repeat (first | refine blk_drewN ?_ _ | refine blk_drew ?_ | refine blk_alloc ?_ _)); exact BK278.out) hb); have n2_ := Aside0.mk (blk_below (g := gb279) (o := .cells #[.int .i64 a2_0, .int .i64 a2_1, .int .i64 a2_2, .int .i64 a2_3, .int .i64 a2_4, .string a2_5] 23 (0, 0)) (by (with_reducible repeat (first | refine blk_drewN ?_ _ | refine blk_drew ?_ | refine blk_alloc ?_ _)); exact BK279.out) hb); have n3_ := Aside0.mk (below_step (by repeat (first | (with_reducible first | exact HB.out | apply below_alloc | apply pw_below_drewN | apply below_drew1 | refine below_set ?_ GE277.out | refine below_set ?_ GE278.out | refine below_set ?_ GE279.out) | exact HB.out)) hb); clear BK277; clear BK278; clear BK279; clear HB; have BK277 := n0_; have BK278 := n1_; have BK279 := n2_; have HB := n3_; clear n0_ n1_ n2_ n3_; (try clear hb); (try clear hb2); (try clear hk); (try clear hi)))
        go_ret
        exact ⟨by first | rfl | (simp [errW_none, errW_some] <;> rfl) | (simp [*, errW_none, errW_some] <;> rfl), by repeat (first | (with_reducible first | exact HB.out | apply below_alloc | apply pw_below_drewN | apply below_drew1 | refine below_set ?_ GE277.out | refine below_set ?_ GE278.out | refine below_set ?_ GE279.out) | exact HB.out)⟩
      · replace c33 := Bool.eq_false_iff.mpr c33
        subst c33
        have H1 : ((txn_Better.f kj3 a0_0 a0_1 a0_2 a0_3 a0_4 a0_5 a1_0 a1_1 a1_2 a1_3 a1_4 a1_5).bind fun t284 => ((txn_Better.f kj3 a1_0 a1_1 a1_2 a1_3 a1_4 a1_5 a0_0 a0_1 a0_2 a0_3 a0_4 a0_5).bind fun t285 => ((txn_Better.f kj3 a0_0 a0_1 a0_2 a0_3 a0_4 a0_5 a0_0 a0_1 a0_2 a0_3 a0_4 a0_5).bind fun t286 => (if t286 = true then (hopperlaw04_TxnLine.j1 kj3 t284 true a0_0 a0_1 a0_2 a0_3 a0_4 a0_5 a1_0 a1_1 a1_2 a1_3 a1_4 a1_5 a2_0 a2_1 a2_2 a2_3 a2_4 a2_5) else (if t284 = true then (if t285 = true then (hopperlaw04_TxnLine.j1 kj3 t284 true a0_0 a0_1 a0_2 a0_3 a0_4 a0_5 a1_0 a1_1 a1_2 a1_3 a1_4 a1_5 a2_0 a2_1 a2_2 a2_3 a2_4 a2_5) else (if a0_0 = a1_0 then (if a0_1 = a1_1 then (hopperlaw04_TxnLine.j1 kj3 t284 false a0_0 a0_1 a0_2 a0_3 a0_4 a0_5 a1_0 a1_1 a1_2 a1_3 a1_4 a1_5 a2_0 a2_1 a2_2 a2_3 a2_4 a2_5) else (hopperlaw04_TxnLine.j1 kj3 t284 false a0_0 a0_1 a0_2 a0_3 a0_4 a0_5 a1_0 a1_1 a1_2 a1_3 a1_4 a1_5 a2_0 a2_1 a2_2 a2_3 a2_4 a2_5)) else (hopperlaw04_TxnLine.j1 kj3 t284 false a0_0 a0_1 a0_2 a0_3 a0_4 a0_5 a1_0 a1_1 a1_2 a1_3 a1_4 a1_5 a2_0 a2_1 a2_2 a2_3 a2_4 a2_5))) else (if a0_0 = a1_0 then (if a0_1 = a1_1 then (hopperlaw04_TxnLine.j1 kj3 t284 false a0_0 a0_1 a0_2 a0_3 a0_4 a0_5 a1_0 a1_1 a1_2 a1_3 a1_4 a1_5 a2_0 a2_1 a2_2 a2_3 a2_4 a2_5) else (hopperlaw04_TxnLine.j1 kj3 t284 (!t285) a0_0 a0_1 a0_2 a0_3 a0_4 a0_5 a1_0 a1_1 a1_2 a1_3 a1_4 a1_5 a2_0 a2_1 a2_2 a2_3 a2_4 a2_5)) else (hopperlaw04_TxnLine.j1 kj3 t284 (!t285) a0_0 a0_1 a0_2 a0_3 a0_4 a0_5 a1_0 a1_1 a1_2 a1_3 a1_4 a1_5 a2_0 a2_1 a2_2 a2_3 a2_4 a2_5))))))) = some r := by rw [if_neg (show ¬ (false = true) by decide)] at H; exact H
        clear H
        have H := H1
        clear H1
        replace H := Option.bind_eq_some_iff.mp H
        obtain ⟨t284, A360, H⟩ := H
        replace H : ((txn_Better.f kj3 a1_0 a1_1 a1_2 a1_3 a1_4 a1_5 a0_0 a0_1 a0_2 a0_3 a0_4 a0_5).bind fun t285 => ((txn_Better.f kj3 a0_0 a0_1 a0_2 a0_3 a0_4 a0_5 a0_0 a0_1 a0_2 a0_3 a0_4 a0_5).bind fun t286 => (if t286 = true then (hopperlaw04_TxnLine.j1 kj3 t284 true a0_0 a0_1 a0_2 a0_3 a0_4 a0_5 a1_0 a1_1 a1_2 a1_3 a1_4 a1_5 a2_0 a2_1 a2_2 a2_3 a2_4 a2_5) else (if t284 = true then (if t285 = true then (hopperlaw04_TxnLine.j1 kj3 t284 true a0_0 a0_1 a0_2 a0_3 a0_4 a0_5 a1_0 a1_1 a1_2 a1_3 a1_4 a1_5 a2_0 a2_1 a2_2 a2_3 a2_4 a2_5) else (if a0_0 = a1_0 then (if a0_1 = a1_1 then (hopperlaw04_TxnLine.j1 kj3 t284 false a0_0 a0_1 a0_2 a0_3 a0_4 a0_5 a1_0 a1_1 a1_2 a1_3 a1_4 a1_5 a2_0 a2_1 a2_2 a2_3 a2_4 a2_5) else (hopperlaw04_TxnLine.j1 kj3 t284 false a0_0 a0_1 a0_2 a0_3 a0_4 a0_5 a1_0 a1_1 a1_2 a1_3 a1_4 a1_5 a2_0 a2_1 a2_2 a2_3 a2_4 a2_5)) else (hopperlaw04_TxnLine.j1 kj3 t284 false a0_0 a0_1 a0_2 a0_3 a0_4 a0_5 a1_0 a1_1 a1_2 a1_3 a1_4 a1_5 a2_0 a2_1 a2_2 a2_3 a2_4 a2_5))) else (if a0_0 = a1_0 then (if a0_1 = a1_1 then (hopperlaw04_TxnLine.j1 kj3 t284 false a0_0 a0_1 a0_2 a0_3 a0_4 a0_5 a1_0 a1_1 a1_2 a1_3 a1_4 a1_5 a2_0 a2_1 a2_2 a2_3 a2_4 a2_5) else (hopperlaw04_TxnLine.j1 kj3 t284 (!t285) a0_0 a0_1 a0_2 a0_3 a0_4 a0_5 a1_0 a1_1 a1_2 a1_3 a1_4 a1_5 a2_0 a2_1 a2_2 a2_3 a2_4 a2_5)) else (hopperlaw04_TxnLine.j1 kj3 t284 (!t285) a0_0 a0_1 a0_2 a0_3 a0_4 a0_5 a1_0 a1_1 a1_2 a1_3 a1_4 a1_5 a2_0 a2_1 a2_2 a2_3 a2_4 a2_5)))))) = some r := H
        have A36 := Aside0.mk A360
        clear A360
        replace H := Option.bind_eq_some_iff.mp H
        obtain ⟨t285, A370, H⟩ := H
        replace H : ((txn_Better.f kj3 a0_0 a0_1 a0_2 a0_3 a0_4 a0_5 a0_0 a0_1 a0_2 a0_3 a0_4 a0_5).bind fun t286 => (if t286 = true then (hopperlaw04_TxnLine.j1 kj3 t284 true a0_0 a0_1 a0_2 a0_3 a0_4 a0_5 a1_0 a1_1 a1_2 a1_3 a1_4 a1_5 a2_0 a2_1 a2_2 a2_3 a2_4 a2_5) else (if t284 = true then (if t285 = true then (hopperlaw04_TxnLine.j1 kj3 t284 true a0_0 a0_1 a0_2 a0_3 a0_4 a0_5 a1_0 a1_1 a1_2 a1_3 a1_4 a1_5 a2_0 a2_1 a2_2 a2_3 a2_4 a2_5) else (if a0_0 = a1_0 then (if a0_1 = a1_1 then (hopperlaw04_TxnLine.j1 kj3 t284 false a0_0 a0_1 a0_2 a0_3 a0_4 a0_5 a1_0 a1_1 a1_2 a1_3 a1_4 a1_5 a2_0 a2_1 a2_2 a2_3 a2_4 a2_5) else (hopperlaw04_TxnLine.j1 kj3 t284 false a0_0 a0_1 a0_2 a0_3 a0_4 a0_5 a1_0 a1_1 a1_2 a1_3 a1_4 a1_5 a2_0 a2_1 a2_2 a2_3 a2_4 a2_5)) else (hopperlaw04_TxnLine.j1 kj3 t284 false a0_0 a0_1 a0_2 a0_3 a0_4 a0_5 a1_0 a1_1 a1_2 a1_3 a1_4 a1_5 a2_0 a2_1 a2_2 a2_3 a2_4 a2_5))) else (if a0_0 = a1_0 then (if a0_1 = a1_1 then (hopperlaw04_TxnLine.j1 kj3 t284 false a0_0 a0_1 a0_2 a0_3 a0_4 a0_5 a1_0 a1_1 a1_2 a1_3 a1_4 a1_5 a2_0 a2_1 a2_2 a2_3 a2_4 a2_5) else (hopperlaw04_TxnLine.j1 kj3 t284 (!t285) a0_0 a0_1 a0_2 a0_3 a0_4 a0_5 a1_0 a1_1 a1_2 a1_3 a1_4 a1_5 a2_0 a2_1 a2_2 a2_3 a2_4 a2_5)) else (hopperlaw04_TxnLine.j1 kj3 t284 (!t285) a0_0 a0_1 a0_2 a0_3 a0_4 a0_5 a1_0 a1_1 a1_2 a1_3 a1_4 a1_5 a2_0 a2_1 a2_2 a2_3 a2_4 a2_5))))) = some r := H
        have A37 := Aside0.mk A370
        clear A370
        have HC38 := Aside0.mk H
        clear H
        have hnb39 := NB277_278.out
        have hnc39 := NB278_277.out
        have hnb40 := NB277_279.out
        have hnc40 := NB279_277.out
        have hcz41_0 : wc.cell? ⟨gb277, 0, none⟩ = some (.int .i64 a0_0) := (blk_cell BK277.out 0).trans rfl
        have hcz41_1 : wc.cell? ⟨gb277, 1, none⟩ = some (.int .i64 a0_1) := (blk_cell BK277.out 1).trans rfl
        have hcz41_2 : wc.cell? ⟨gb277, 2, none⟩ = some (.int .i64 a0_2) := (blk_cell BK277.out 2).trans rfl
        have hcz41_3 : wc.cell? ⟨gb277, 3, none⟩ = some (.int .i64 a0_3) := (blk_cell BK277.out 3).trans rfl
        have hcz41_4 : wc.cell? ⟨gb277, 4, none⟩ = some (.int .i64 a0_4) := (blk_cell BK277.out 4).trans rfl
        have hcz41_5 : wc.cell? ⟨gb277, 5, none⟩ = some (.string a0_5) := (blk_cell BK277.out 5).trans rfl
        have hfz41_0 := blk_frozen BK277.out 0
        have hfz41_1 := blk_frozen BK277.out 1
        have hfz41_2 := blk_frozen BK277.out 2
        have hfz41_3 := blk_frozen BK277.out 3
        have hfz41_4 := blk_frozen BK277.out 4
        have hfz41_5 := blk_frozen BK277.out 5
        have hnb42 := NB278_279.out
        have hnc42 := NB279_278.out
        have hcz43_0 : wc.cell? ⟨gb278, 0, none⟩ = some (.int .i64 a1_0) := (blk_cell BK278.out 0).trans rfl
        have hcz43_1 : wc.cell? ⟨gb278, 1, none⟩ = some (.int .i64 a1_1) := (blk_cell BK278.out 1).trans rfl
        have hcz43_2 : wc.cell? ⟨gb278, 2, none⟩ = some (.int .i64 a1_2) := (blk_cell BK278.out 2).trans rfl
        have hcz43_3 : wc.cell? ⟨gb278, 3, none⟩ = some (.int .i64 a1_3) := (blk_cell BK278.out 3).trans rfl
        have hcz43_4 : wc.cell? ⟨gb278, 4, none⟩ = some (.int .i64 a1_4) := (blk_cell BK278.out 4).trans rfl
        have hcz43_5 : wc.cell? ⟨gb278, 5, none⟩ = some (.string a1_5) := (blk_cell BK278.out 5).trans rfl
        have hfz43_0 := blk_frozen BK278.out 0
        have hfz43_1 := blk_frozen BK278.out 1
        have hfz43_2 := blk_frozen BK278.out 2
        have hfz43_3 := blk_frozen BK278.out 3
        have hfz43_4 := blk_frozen BK278.out 4
        have hfz43_5 := blk_frozen BK278.out 5
        go_upto_region 5 with (first | ((with_reducible refine gate_callee (f := 44) rfl ?_); refine goesL_ (some 25) rfl rfl Try.func44 (by kernel_rfl) rfl #[.agg #[.int .i64 a0_0, .int .i64 a0_1, .int .i64 a0_2, .int .i64 a0_3, .int .i64 a0_4, .string a0_5], .agg #[.int .i64 a1_0, .int .i64 a1_1, .int .i64 a1_2, .int .i64 a1_3, .int .i64 a1_4, .string a1_5]] rfl (by (try simp only [List.map_toArray, List.map_cons, List.map_nil]); first | done | rfl | (simp only [List.length_drop, List.length_take]; rfl)) ?_; (with_reducible refine (txn_Better.calls kj3 a0_0 a0_1 a0_2 a0_3 a0_4 a0_5 a1_0 a1_1 a1_2 a1_3 a1_4 a1_5 t284 _ A36.out).mono ?_); rintro e w44 ⟨rfl, hb⟩; refine ⟨_, rfl, ?_⟩; have n0_ := Aside0.mk (blk_below (g := gb277) (o := .cells #[.int .i64 a0_0, .int .i64 a0_1, .int .i64 a0_2, .int .i64 a0_3, .int .i64 a0_4, .string a0_5] 23 (0, 0)) (by (with_reducible repeat (first | refine blk_drewN ?_ _ | refine blk_drew ?_ | refine blk_alloc ?_ _)); exact BK277.out) hb); have n1_ := Aside0.mk (blk_below (g := gb278) (o := .cells #[.int .i64 a1_0, .int .i64 a1_1, .int .i64 a1_2, .int .i64 a1_3, .int .i64 a1_4, .string a1_5] 23 (0, 0)) (by (with_reducible repeat (first | refine blk_drewN ?_ _ | refine blk_drew ?_ | refine blk_alloc ?_ _)); exact BK278.out) hb); have n2_ := Aside0.mk (blk_below (g := gb279) (o := .cells #[.int .i64 a2_0, .int .i64 a2_1, .int .i64 a2_2, .int .i64 a2_3, .int .i64 a2_4, .string a2_5] 23 (0, 0)) (by (with_reducible repeat (first | refine blk_drewN ?_ _ | refine blk_drew ?_ | refine blk_alloc ?_ _)); exact BK279.out) hb); have n3_ := Aside0.mk (below_step (by repeat (first | (with_reducible first | exact HB.out | apply below_alloc | apply pw_below_drewN | apply below_drew1 | refine below_set ?_ GE277.out | refine below_set ?_ GE278.out | refine below_set ?_ GE279.out) | exact HB.out)) hb); clear BK277; clear BK278; clear BK279; clear HB; have BK277 := n0_; have BK278 := n1_; have BK279 := n2_; have HB := n3_; clear n0_ n1_ n2_ n3_; (try clear hb); (try clear hb2); (try clear hk); (try clear hi); have hcz45_0 : w44.cell? ⟨gb278, 0, none⟩ = some (.int .i64 a1_0) := (blk_cell BK278.out 0).trans rfl; have hcz45_1 : w44.cell? ⟨gb278, 1, none⟩ = some (.int .i64 a1_1) := (blk_cell BK278.out 1).trans rfl; have hcz45_2 : w44.cell? ⟨gb278, 2, none⟩ = some (.int .i64 a1_2) := (blk_cell BK278.out 2).trans rfl; have hcz45_3 : w44.cell? ⟨gb278, 3, none⟩ = some (.int .i64 a1_3) := (blk_cell BK278.out 3).trans rfl; have hcz45_4 : w44.cell? ⟨gb278, 4, none⟩ = some (.int .i64 a1_4) := (blk_cell BK278.out 4).trans rfl; have hcz45_5 : w44.cell? ⟨gb278, 5, none⟩ = some (.string a1_5) := (blk_cell BK278.out 5).trans rfl; have hfz45_0 := blk_frozen BK278.out 0; have hfz45_1 := blk_frozen BK278.out 1; have hfz45_2 := blk_frozen BK278.out 2; have hfz45_3 := blk_frozen BK278.out 3; have hfz45_4 := blk_frozen BK278.out 4; have hfz45_5 := blk_frozen BK278.out 5; have hcz46_0 : w44.cell? ⟨gb277, 0, none⟩ = some (.int .i64 a0_0) := (blk_cell BK277.out 0).trans rfl; have hcz46_1 : w44.cell? ⟨gb277, 1, none⟩ = some (.int .i64 a0_1) := (blk_cell BK277.out 1).trans rfl; have hcz46_2 : w44.cell? ⟨gb277, 2, none⟩ = some (.int .i64 a0_2) := (blk_cell BK277.out 2).trans rfl; have hcz46_3 : w44.cell? ⟨gb277, 3, none⟩ = some (.int .i64 a0_3) := (blk_cell BK277.out 3).trans rfl; have hcz46_4 : w44.cell? ⟨gb277, 4, none⟩ = some (.int .i64 a0_4) := (blk_cell BK277.out 4).trans rfl; have hcz46_5 : w44.cell? ⟨gb277, 5, none⟩ = some (.string a0_5) := (blk_cell BK277.out 5).trans rfl; have hfz46_0 := blk_frozen BK277.out 0; have hfz46_1 := blk_frozen BK277.out 1; have hfz46_2 := blk_frozen BK277.out 2; have hfz46_3 := blk_frozen BK277.out 3; have hfz46_4 := blk_frozen BK277.out 4; have hfz46_5 := blk_frozen BK277.out 5) | ((with_reducible refine gate_callee (f := 44) rfl ?_); refine goesL_ (some 28) rfl rfl Try.func44 (by kernel_rfl) rfl #[.agg #[.int .i64 a1_0, .int .i64 a1_1, .int .i64 a1_2, .int .i64 a1_3, .int .i64 a1_4, .string a1_5], .agg #[.int .i64 a0_0, .int .i64 a0_1, .int .i64 a0_2, .int .i64 a0_3, .int .i64 a0_4, .string a0_5]] rfl (by (try simp only [List.map_toArray, List.map_cons, List.map_nil]); first | done | rfl | (simp only [List.length_drop, List.length_take]; rfl)) ?_; (with_reducible refine (txn_Better.calls kj3 a1_0 a1_1 a1_2 a1_3 a1_4 a1_5 a0_0 a0_1 a0_2 a0_3 a0_4 a0_5 t285 _ A37.out).mono ?_); rintro e w47 ⟨rfl, hb⟩; refine ⟨_, rfl, ?_⟩; have n0_ := Aside0.mk (blk_below (g := gb277) (o := .cells #[.int .i64 a0_0, .int .i64 a0_1, .int .i64 a0_2, .int .i64 a0_3, .int .i64 a0_4, .string a0_5] 23 (0, 0)) (by (with_reducible repeat (first | refine blk_drewN ?_ _ | refine blk_drew ?_ | refine blk_alloc ?_ _)); exact BK277.out) hb); have n1_ := Aside0.mk (blk_below (g := gb278) (o := .cells #[.int .i64 a1_0, .int .i64 a1_1, .int .i64 a1_2, .int .i64 a1_3, .int .i64 a1_4, .string a1_5] 23 (0, 0)) (by (with_reducible repeat (first | refine blk_drewN ?_ _ | refine blk_drew ?_ | refine blk_alloc ?_ _)); exact BK278.out) hb); have n2_ := Aside0.mk (blk_below (g := gb279) (o := .cells #[.int .i64 a2_0, .int .i64 a2_1, .int .i64 a2_2, .int .i64 a2_3, .int .i64 a2_4, .string a2_5] 23 (0, 0)) (by (with_reducible repeat (first | refine blk_drewN ?_ _ | refine blk_drew ?_ | refine blk_alloc ?_ _)); exact BK279.out) hb); have n3_ := Aside0.mk (below_step (by repeat (first | (with_reducible first | exact HB.out | apply below_alloc | apply pw_below_drewN | apply below_drew1 | refine below_set ?_ GE277.out | refine below_set ?_ GE278.out | refine below_set ?_ GE279.out) | exact HB.out)) hb); clear BK277; clear BK278; clear BK279; clear HB; have BK277 := n0_; have BK278 := n1_; have BK279 := n2_; have HB := n3_; clear n0_ n1_ n2_ n3_; (try clear hb); (try clear hb2); (try clear hk); (try clear hi)))
        (try simp only [Act.put, List.setIfInBounds_toArray, List.set_cons_zero, List.set_cons_succ])
        go_cut [59] (fun v59 wc => ∃ (kq : Nat) (x59_37 : Bool), v59 = .bool x59_37 ∧ Aside0 (hopperlaw04_TxnLine.j1 kq t284 x59_37 a0_0 a0_1 a0_2 a0_3 a0_4 a0_5 a1_0 a1_1 a1_2 a1_3 a1_4 a1_5 a2_0 a2_1 a2_2 a2_3 a2_4 a2_5 = some r) ∧ Aside0 (kq ≤ kj3) ∧ Aside0 (wc.heap[gb277]? = some (.cells #[.int .i64 a0_0, .int .i64 a0_1, .int .i64 a0_2, .int .i64 a0_3, .int .i64 a0_4, .string a0_5] 23 (0, 0))) ∧ Aside0 (wc.heap[gb278]? = some (.cells #[.int .i64 a1_0, .int .i64 a1_1, .int .i64 a1_2, .int .i64 a1_3, .int .i64 a1_4, .string a1_5] 23 (0, 0))) ∧ Aside0 (wc.heap[gb279]? = some (.cells #[.int .i64 a2_0, .int .i64 a2_1, .int .i64 a2_2, .int .i64 a2_3, .int .i64 a2_4, .string a2_5] 23 (0, 0))) ∧ Aside0 (Below w.heap.size w wc))
        case first =>
          have H := HC38.out
          clear HC38
          replace H := Option.bind_eq_some_iff.mp H
          obtain ⟨t286, A480, H⟩ := H
          replace H : (if t286 = true then (hopperlaw04_TxnLine.j1 kj3 t284 true a0_0 a0_1 a0_2 a0_3 a0_4 a0_5 a1_0 a1_1 a1_2 a1_3 a1_4 a1_5 a2_0 a2_1 a2_2 a2_3 a2_4 a2_5) else (if t284 = true then (if t285 = true then (hopperlaw04_TxnLine.j1 kj3 t284 true a0_0 a0_1 a0_2 a0_3 a0_4 a0_5 a1_0 a1_1 a1_2 a1_3 a1_4 a1_5 a2_0 a2_1 a2_2 a2_3 a2_4 a2_5) else (if a0_0 = a1_0 then (if a0_1 = a1_1 then (hopperlaw04_TxnLine.j1 kj3 t284 false a0_0 a0_1 a0_2 a0_3 a0_4 a0_5 a1_0 a1_1 a1_2 a1_3 a1_4 a1_5 a2_0 a2_1 a2_2 a2_3 a2_4 a2_5) else (hopperlaw04_TxnLine.j1 kj3 t284 false a0_0 a0_1 a0_2 a0_3 a0_4 a0_5 a1_0 a1_1 a1_2 a1_3 a1_4 a1_5 a2_0 a2_1 a2_2 a2_3 a2_4 a2_5)) else (hopperlaw04_TxnLine.j1 kj3 t284 false a0_0 a0_1 a0_2 a0_3 a0_4 a0_5 a1_0 a1_1 a1_2 a1_3 a1_4 a1_5 a2_0 a2_1 a2_2 a2_3 a2_4 a2_5))) else (if a0_0 = a1_0 then (if a0_1 = a1_1 then (hopperlaw04_TxnLine.j1 kj3 t284 false a0_0 a0_1 a0_2 a0_3 a0_4 a0_5 a1_0 a1_1 a1_2 a1_3 a1_4 a1_5 a2_0 a2_1 a2_2 a2_3 a2_4 a2_5) else (hopperlaw04_TxnLine.j1 kj3 t284 (!t285) a0_0 a0_1 a0_2 a0_3 a0_4 a0_5 a1_0 a1_1 a1_2 a1_3 a1_4 a1_5 a2_0 a2_1 a2_2 a2_3 a2_4 a2_5)) else (hopperlaw04_TxnLine.j1 kj3 t284 (!t285) a0_0 a0_1 a0_2 a0_3 a0_4 a0_5 a1_0 a1_1 a1_2 a1_3 a1_4 a1_5 a2_0 a2_1 a2_2 a2_3 a2_4 a2_5)))) = some r := H
          have A48 := Aside0.mk A480
          clear A480
          by_cases c49 : t286 = true
          · subst c49
            have H1 : (hopperlaw04_TxnLine.j1 kj3 t284 true a0_0 a0_1 a0_2 a0_3 a0_4 a0_5 a1_0 a1_1 a1_2 a1_3 a1_4 a1_5 a2_0 a2_1 a2_2 a2_3 a2_4 a2_5) = some r := by rw [if_pos rfl] at H; exact H
            clear H
            have H := H1
            clear H1
            have H' := Aside0.mk H
            clear H
            have hnb50 := NB277_278.out
            have hnc50 := NB278_277.out
            have hnb51 := NB277_279.out
            have hnc51 := NB279_277.out
            have hcz52_0 : w47.cell? ⟨gb277, 0, none⟩ = some (.int .i64 a0_0) := (blk_cell BK277.out 0).trans rfl
            have hcz52_1 : w47.cell? ⟨gb277, 1, none⟩ = some (.int .i64 a0_1) := (blk_cell BK277.out 1).trans rfl
            have hcz52_2 : w47.cell? ⟨gb277, 2, none⟩ = some (.int .i64 a0_2) := (blk_cell BK277.out 2).trans rfl
            have hcz52_3 : w47.cell? ⟨gb277, 3, none⟩ = some (.int .i64 a0_3) := (blk_cell BK277.out 3).trans rfl
            have hcz52_4 : w47.cell? ⟨gb277, 4, none⟩ = some (.int .i64 a0_4) := (blk_cell BK277.out 4).trans rfl
            have hcz52_5 : w47.cell? ⟨gb277, 5, none⟩ = some (.string a0_5) := (blk_cell BK277.out 5).trans rfl
            have hfz52_0 := blk_frozen BK277.out 0
            have hfz52_1 := blk_frozen BK277.out 1
            have hfz52_2 := blk_frozen BK277.out 2
            have hfz52_3 := blk_frozen BK277.out 3
            have hfz52_4 := blk_frozen BK277.out 4
            have hfz52_5 := blk_frozen BK277.out 5
            go_wp2_with (first | ((with_reducible refine gate_callee (f := 44) rfl ?_); refine goesL_ (some 31) rfl rfl Try.func44 (by kernel_rfl) rfl #[.agg #[.int .i64 a0_0, .int .i64 a0_1, .int .i64 a0_2, .int .i64 a0_3, .int .i64 a0_4, .string a0_5], .agg #[.int .i64 a0_0, .int .i64 a0_1, .int .i64 a0_2, .int .i64 a0_3, .int .i64 a0_4, .string a0_5]] rfl (by (try simp only [List.map_toArray, List.map_cons, List.map_nil]); first | done | rfl | (simp only [List.length_drop, List.length_take]; rfl)) ?_; (with_reducible refine (txn_Better.calls kj3 a0_0 a0_1 a0_2 a0_3 a0_4 a0_5 a0_0 a0_1 a0_2 a0_3 a0_4 a0_5 true _ A48.out).mono ?_); rintro e w53 ⟨rfl, hb⟩; refine ⟨_, rfl, ?_⟩; have n0_ := Aside0.mk (blk_below (g := gb277) (o := .cells #[.int .i64 a0_0, .int .i64 a0_1, .int .i64 a0_2, .int .i64 a0_3, .int .i64 a0_4, .string a0_5] 23 (0, 0)) (by (with_reducible repeat (first | refine blk_drewN ?_ _ | refine blk_drew ?_ | refine blk_alloc ?_ _)); exact BK277.out) hb); have n1_ := Aside0.mk (blk_below (g := gb278) (o := .cells #[.int .i64 a1_0, .int .i64 a1_1, .int .i64 a1_2, .int .i64 a1_3, .int .i64 a1_4, .string a1_5] 23 (0, 0)) (by (with_reducible repeat (first | refine blk_drewN ?_ _ | refine blk_drew ?_ | refine blk_alloc ?_ _)); exact BK278.out) hb); have n2_ := Aside0.mk (blk_below (g := gb279) (o := .cells #[.int .i64 a2_0, .int .i64 a2_1, .int .i64 a2_2, .int .i64 a2_3, .int .i64 a2_4, .string a2_5] 23 (0, 0)) (by (with_reducible repeat (first | refine blk_drewN ?_ _ | refine blk_drew ?_ | refine blk_alloc ?_ _)); exact BK279.out) hb); have n3_ := Aside0.mk (below_step (by repeat (first | (with_reducible first | exact HB.out | apply below_alloc | apply pw_below_drewN | apply below_drew1 | refine below_set ?_ GE277.out | refine below_set ?_ GE278.out | refine below_set ?_ GE279.out) | exact HB.out)) hb); clear BK277; clear BK278; clear BK279; clear HB; have BK277 := n0_; have BK278 := n1_; have BK279 := n2_; have HB := n3_; clear n0_ n1_ n2_ n3_; (try clear hb); (try clear hb2); (try clear hk); (try clear hi)))
            go_meet
            case rel => exact ⟨_, (true), (by first | rfl | (simp; done) | (simp [*]; done)), H', ⟨by have := HJ3.out; first | omega | exact Nat.le_refl _⟩, ⟨by (with_reducible repeat (first | refine blk_drewN ?_ _ | refine blk_drew ?_ | refine blk_alloc ?_ _)); exact BK277.out⟩, ⟨by (with_reducible repeat (first | refine blk_drewN ?_ _ | refine blk_drew ?_ | refine blk_alloc ?_ _)); exact BK278.out⟩, ⟨by (with_reducible repeat (first | refine blk_drewN ?_ _ | refine blk_drew ?_ | refine blk_alloc ?_ _)); exact BK279.out⟩, ⟨by repeat (first | (with_reducible first | exact HB.out | apply below_alloc | apply pw_below_drewN | apply below_drew1 | refine below_set ?_ GE277.out | refine below_set ?_ GE278.out | refine below_set ?_ GE279.out) | exact HB.out)⟩⟩
          · replace c49 := Bool.eq_false_iff.mpr c49
            subst c49
            have H1 : (if t284 = true then (if t285 = true then (hopperlaw04_TxnLine.j1 kj3 t284 true a0_0 a0_1 a0_2 a0_3 a0_4 a0_5 a1_0 a1_1 a1_2 a1_3 a1_4 a1_5 a2_0 a2_1 a2_2 a2_3 a2_4 a2_5) else (if a0_0 = a1_0 then (if a0_1 = a1_1 then (hopperlaw04_TxnLine.j1 kj3 t284 false a0_0 a0_1 a0_2 a0_3 a0_4 a0_5 a1_0 a1_1 a1_2 a1_3 a1_4 a1_5 a2_0 a2_1 a2_2 a2_3 a2_4 a2_5) else (hopperlaw04_TxnLine.j1 kj3 t284 false a0_0 a0_1 a0_2 a0_3 a0_4 a0_5 a1_0 a1_1 a1_2 a1_3 a1_4 a1_5 a2_0 a2_1 a2_2 a2_3 a2_4 a2_5)) else (hopperlaw04_TxnLine.j1 kj3 t284 false a0_0 a0_1 a0_2 a0_3 a0_4 a0_5 a1_0 a1_1 a1_2 a1_3 a1_4 a1_5 a2_0 a2_1 a2_2 a2_3 a2_4 a2_5))) else (if a0_0 = a1_0 then (if a0_1 = a1_1 then (hopperlaw04_TxnLine.j1 kj3 t284 false a0_0 a0_1 a0_2 a0_3 a0_4 a0_5 a1_0 a1_1 a1_2 a1_3 a1_4 a1_5 a2_0 a2_1 a2_2 a2_3 a2_4 a2_5) else (hopperlaw04_TxnLine.j1 kj3 t284 (!t285) a0_0 a0_1 a0_2 a0_3 a0_4 a0_5 a1_0 a1_1 a1_2 a1_3 a1_4 a1_5 a2_0 a2_1 a2_2 a2_3 a2_4 a2_5)) else (hopperlaw04_TxnLine.j1 kj3 t284 (!t285) a0_0 a0_1 a0_2 a0_3 a0_4 a0_5 a1_0 a1_1 a1_2 a1_3 a1_4 a1_5 a2_0 a2_1 a2_2 a2_3 a2_4 a2_5))) = some r := by rw [if_neg (show ¬ (false = true) by decide)] at H; exact H
            clear H
            have H := H1
            clear H1
            by_cases c54 : t284 = true
            · subst c54
              have H1 : (if t285 = true then (hopperlaw04_TxnLine.j1 kj3 true true a0_0 a0_1 a0_2 a0_3 a0_4 a0_5 a1_0 a1_1 a1_2 a1_3 a1_4 a1_5 a2_0 a2_1 a2_2 a2_3 a2_4 a2_5) else (if a0_0 = a1_0 then (if a0_1 = a1_1 then (hopperlaw04_TxnLine.j1 kj3 true false a0_0 a0_1 a0_2 a0_3 a0_4 a0_5 a1_0 a1_1 a1_2 a1_3 a1_4 a1_5 a2_0 a2_1 a2_2 a2_3 a2_4 a2_5) else (hopperlaw04_TxnLine.j1 kj3 true false a0_0 a0_1 a0_2 a0_3 a0_4 a0_5 a1_0 a1_1 a1_2 a1_3 a1_4 a1_5 a2_0 a2_1 a2_2 a2_3 a2_4 a2_5)) else (hopperlaw04_TxnLine.j1 kj3 true false a0_0 a0_1 a0_2 a0_3 a0_4 a0_5 a1_0 a1_1 a1_2 a1_3 a1_4 a1_5 a2_0 a2_1 a2_2 a2_3 a2_4 a2_5))) = some r := by rw [if_pos rfl] at H; exact H
              clear H
              have H := H1
              clear H1
              by_cases c55 : t285 = true
              · subst c55
                have H1 : (hopperlaw04_TxnLine.j1 kj3 true true a0_0 a0_1 a0_2 a0_3 a0_4 a0_5 a1_0 a1_1 a1_2 a1_3 a1_4 a1_5 a2_0 a2_1 a2_2 a2_3 a2_4 a2_5) = some r := by rw [if_pos rfl] at H; exact H
                clear H
                have H := H1
                clear H1
                have H' := Aside0.mk H
                clear H
                have hnb56 := NB277_278.out
                have hnc56 := NB278_277.out
                have hnb57 := NB277_279.out
                have hnc57 := NB279_277.out
                have hcz58_0 : w47.cell? ⟨gb277, 0, none⟩ = some (.int .i64 a0_0) := (blk_cell BK277.out 0).trans rfl
                have hcz58_1 : w47.cell? ⟨gb277, 1, none⟩ = some (.int .i64 a0_1) := (blk_cell BK277.out 1).trans rfl
                have hcz58_2 : w47.cell? ⟨gb277, 2, none⟩ = some (.int .i64 a0_2) := (blk_cell BK277.out 2).trans rfl
                have hcz58_3 : w47.cell? ⟨gb277, 3, none⟩ = some (.int .i64 a0_3) := (blk_cell BK277.out 3).trans rfl
                have hcz58_4 : w47.cell? ⟨gb277, 4, none⟩ = some (.int .i64 a0_4) := (blk_cell BK277.out 4).trans rfl
                have hcz58_5 : w47.cell? ⟨gb277, 5, none⟩ = some (.string a0_5) := (blk_cell BK277.out 5).trans rfl
                have hfz58_0 := blk_frozen BK277.out 0
                have hfz58_1 := blk_frozen BK277.out 1
                have hfz58_2 := blk_frozen BK277.out 2
                have hfz58_3 := blk_frozen BK277.out 3
                have hfz58_4 := blk_frozen BK277.out 4
                have hfz58_5 := blk_frozen BK277.out 5
                go_wp2_with (first | ((with_reducible refine gate_callee (f := 44) rfl ?_); refine goesL_ (some 31) rfl rfl Try.func44 (by kernel_rfl) rfl #[.agg #[.int .i64 a0_0, .int .i64 a0_1, .int .i64 a0_2, .int .i64 a0_3, .int .i64 a0_4, .string a0_5], .agg #[.int .i64 a0_0, .int .i64 a0_1, .int .i64 a0_2, .int .i64 a0_3, .int .i64 a0_4, .string a0_5]] rfl (by (try simp only [List.map_toArray, List.map_cons, List.map_nil]); first | done | rfl | (simp only [List.length_drop, List.length_take]; rfl)) ?_; (with_reducible refine (txn_Better.calls kj3 a0_0 a0_1 a0_2 a0_3 a0_4 a0_5 a0_0 a0_1 a0_2 a0_3 a0_4 a0_5 false _ A48.out).mono ?_); rintro e w59 ⟨rfl, hb⟩; refine ⟨_, rfl, ?_⟩; have n0_ := Aside0.mk (blk_below (g := gb277) (o := .cells #[.int .i64 a0_0, .int .i64 a0_1, .int .i64 a0_2, .int .i64 a0_3, .int .i64 a0_4, .string a0_5] 23 (0, 0)) (by (with_reducible repeat (first | refine blk_drewN ?_ _ | refine blk_drew ?_ | refine blk_alloc ?_ _)); exact BK277.out) hb); have n1_ := Aside0.mk (blk_below (g := gb278) (o := .cells #[.int .i64 a1_0, .int .i64 a1_1, .int .i64 a1_2, .int .i64 a1_3, .int .i64 a1_4, .string a1_5] 23 (0, 0)) (by (with_reducible repeat (first | refine blk_drewN ?_ _ | refine blk_drew ?_ | refine blk_alloc ?_ _)); exact BK278.out) hb); have n2_ := Aside0.mk (blk_below (g := gb279) (o := .cells #[.int .i64 a2_0, .int .i64 a2_1, .int .i64 a2_2, .int .i64 a2_3, .int .i64 a2_4, .string a2_5] 23 (0, 0)) (by (with_reducible repeat (first | refine blk_drewN ?_ _ | refine blk_drew ?_ | refine blk_alloc ?_ _)); exact BK279.out) hb); have n3_ := Aside0.mk (below_step (by repeat (first | (with_reducible first | exact HB.out | apply below_alloc | apply pw_below_drewN | apply below_drew1 | refine below_set ?_ GE277.out | refine below_set ?_ GE278.out | refine below_set ?_ GE279.out) | exact HB.out)) hb); clear BK277; clear BK278; clear BK279; clear HB; have BK277 := n0_; have BK278 := n1_; have BK279 := n2_; have HB := n3_; clear n0_ n1_ n2_ n3_; (try clear hb); (try clear hb2); (try clear hk); (try clear hi)))
                go_meet
                case rel => exact ⟨_, (true), (by first | rfl | (simp; done) | (simp [*]; done)), H', ⟨by have := HJ3.out; first | omega | exact Nat.le_refl _⟩, ⟨by (with_reducible repeat (first | refine blk_drewN ?_ _ | refine blk_drew ?_ | refine blk_alloc ?_ _)); exact BK277.out⟩, ⟨by (with_reducible repeat (first | refine blk_drewN ?_ _ | refine blk_drew ?_ | refine blk_alloc ?_ _)); exact BK278.out⟩, ⟨by (with_reducible repeat (first | refine blk_drewN ?_ _ | refine blk_drew ?_ | refine blk_alloc ?_ _)); exact BK279.out⟩, ⟨by repeat (first | (with_reducible first | exact HB.out | apply below_alloc | apply pw_below_drewN | apply below_drew1 | refine below_set ?_ GE277.out | refine below_set ?_ GE278.out | refine below_set ?_ GE279.out) | exact HB.out)⟩⟩
              · replace c55 := Bool.eq_false_iff.mpr c55
                subst c55
                have H1 : (if a0_0 = a1_0 then (if a0_1 = a1_1 then (hopperlaw04_TxnLine.j1 kj3 true false a0_0 a0_1 a0_2 a0_3 a0_4 a0_5 a1_0 a1_1 a1_2 a1_3 a1_4 a1_5 a2_0 a2_1 a2_2 a2_3 a2_4 a2_5) else (hopperlaw04_TxnLine.j1 kj3 true false a0_0 a0_1 a0_2 a0_3 a0_4 a0_5 a1_0 a1_1 a1_2 a1_3 a1_4 a1_5 a2_0 a2_1 a2_2 a2_3 a2_4 a2_5)) else (hopperlaw04_TxnLine.j1 kj3 true false a0_0 a0_1 a0_2 a0_3 a0_4 a0_5 a1_0 a1_1 a1_2 a1_3 a1_4 a1_5 a2_0 a2_1 a2_2 a2_3 a2_4 a2_5)) = some r := by rw [if_neg (show ¬ (false = true) by decide)] at H; exact H
                clear H
                have H := H1
                clear H1
                by_cases c60 : a0_0 = a1_0
                · rw [if_pos c60] at H
                  have c60b0 : (a0_0 == a1_0) = true := beq_iff_eq.mpr c60
                  have c60b1 : (a0_0 != a1_0) = false := bne_eq_false_iff_eq.mpr c60
                  clear c60
                  (first | rw [c60b0] | (simp only [i64_w, i32_w]; rw [c60b0]) | skip)
                  by_cases c61 : a0_1 = a1_1
                  · rw [if_pos c61] at H
                    have c61b0 : (a0_1 == a1_1) = true := beq_iff_eq.mpr c61
                    have c61b1 : (a0_1 != a1_1) = false := bne_eq_false_iff_eq.mpr c61
                    clear c61
                    have H' := Aside0.mk H
                    clear H
                    have hnb62 := NB277_278.out
                    have hnc62 := NB278_277.out
                    have hnb63 := NB277_279.out
                    have hnc63 := NB279_277.out
                    have hcz64_0 : w47.cell? ⟨gb277, 0, none⟩ = some (.int .i64 a0_0) := (blk_cell BK277.out 0).trans rfl
                    have hcz64_1 : w47.cell? ⟨gb277, 1, none⟩ = some (.int .i64 a0_1) := (blk_cell BK277.out 1).trans rfl
                    have hcz64_2 : w47.cell? ⟨gb277, 2, none⟩ = some (.int .i64 a0_2) := (blk_cell BK277.out 2).trans rfl
                    have hcz64_3 : w47.cell? ⟨gb277, 3, none⟩ = some (.int .i64 a0_3) := (blk_cell BK277.out 3).trans rfl
                    have hcz64_4 : w47.cell? ⟨gb277, 4, none⟩ = some (.int .i64 a0_4) := (blk_cell BK277.out 4).trans rfl
                    have hcz64_5 : w47.cell? ⟨gb277, 5, none⟩ = some (.string a0_5) := (blk_cell BK277.out 5).trans rfl
                    have hfz64_0 := blk_frozen BK277.out 0
                    have hfz64_1 := blk_frozen BK277.out 1
                    have hfz64_2 := blk_frozen BK277.out 2
                    have hfz64_3 := blk_frozen BK277.out 3
                    have hfz64_4 := blk_frozen BK277.out 4
                    have hfz64_5 := blk_frozen BK277.out 5
                    go_wp2_with (first | ((with_reducible refine gate_callee (f := 44) rfl ?_); refine goesL_ (some 31) rfl rfl Try.func44 (by kernel_rfl) rfl #[.agg #[.int .i64 a0_0, .int .i64 a0_1, .int .i64 a0_2, .int .i64 a0_3, .int .i64 a0_4, .string a0_5], .agg #[.int .i64 a0_0, .int .i64 a0_1, .int .i64 a0_2, .int .i64 a0_3, .int .i64 a0_4, .string a0_5]] rfl (by (try simp only [List.map_toArray, List.map_cons, List.map_nil]); first | done | rfl | (simp only [List.length_drop, List.length_take]; rfl)) ?_; (with_reducible refine (txn_Better.calls kj3 a0_0 a0_1 a0_2 a0_3 a0_4 a0_5 a0_0 a0_1 a0_2 a0_3 a0_4 a0_5 false _ A48.out).mono ?_); rintro e w65 ⟨rfl, hb⟩; refine ⟨_, rfl, ?_⟩; have n0_ := Aside0.mk (blk_below (g := gb277) (o := .cells #[.int .i64 a0_0, .int .i64 a0_1, .int .i64 a0_2, .int .i64 a0_3, .int .i64 a0_4, .string a0_5] 23 (0, 0)) (by (with_reducible repeat (first | refine blk_drewN ?_ _ | refine blk_drew ?_ | refine blk_alloc ?_ _)); exact BK277.out) hb); have n1_ := Aside0.mk (blk_below (g := gb278) (o := .cells #[.int .i64 a1_0, .int .i64 a1_1, .int .i64 a1_2, .int .i64 a1_3, .int .i64 a1_4, .string a1_5] 23 (0, 0)) (by (with_reducible repeat (first | refine blk_drewN ?_ _ | refine blk_drew ?_ | refine blk_alloc ?_ _)); exact BK278.out) hb); have n2_ := Aside0.mk (blk_below (g := gb279) (o := .cells #[.int .i64 a2_0, .int .i64 a2_1, .int .i64 a2_2, .int .i64 a2_3, .int .i64 a2_4, .string a2_5] 23 (0, 0)) (by (with_reducible repeat (first | refine blk_drewN ?_ _ | refine blk_drew ?_ | refine blk_alloc ?_ _)); exact BK279.out) hb); have n3_ := Aside0.mk (below_step (by repeat (first | (with_reducible first | exact HB.out | apply below_alloc | apply pw_below_drewN | apply below_drew1 | refine below_set ?_ GE277.out | refine below_set ?_ GE278.out | refine below_set ?_ GE279.out) | exact HB.out)) hb); clear BK277; clear BK278; clear BK279; clear HB; have BK277 := n0_; have BK278 := n1_; have BK279 := n2_; have HB := n3_; clear n0_ n1_ n2_ n3_; (try clear hb); (try clear hb2); (try clear hk); (try clear hi); have hcz66_0 : w65.cell? ⟨gb277, 0, none⟩ = some (.int .i64 a0_0) := (blk_cell BK277.out 0).trans rfl; have hcz66_1 : w65.cell? ⟨gb277, 1, none⟩ = some (.int .i64 a0_1) := (blk_cell BK277.out 1).trans rfl; have hcz66_2 : w65.cell? ⟨gb277, 2, none⟩ = some (.int .i64 a0_2) := (blk_cell BK277.out 2).trans rfl; have hcz66_3 : w65.cell? ⟨gb277, 3, none⟩ = some (.int .i64 a0_3) := (blk_cell BK277.out 3).trans rfl; have hcz66_4 : w65.cell? ⟨gb277, 4, none⟩ = some (.int .i64 a0_4) := (blk_cell BK277.out 4).trans rfl; have hcz66_5 : w65.cell? ⟨gb277, 5, none⟩ = some (.string a0_5) := (blk_cell BK277.out 5).trans rfl; have hfz66_0 := blk_frozen BK277.out 0; have hfz66_1 := blk_frozen BK277.out 1; have hfz66_2 := blk_frozen BK277.out 2; have hfz66_3 := blk_frozen BK277.out 3; have hfz66_4 := blk_frozen BK277.out 4; have hfz66_5 := blk_frozen BK277.out 5; have hnb67 := NB278_279.out; have hnc67 := NB279_278.out; have hcz68_0 : w65.cell? ⟨gb278, 0, none⟩ = some (.int .i64 a1_0) := (blk_cell BK278.out 0).trans rfl; have hcz68_1 : w65.cell? ⟨gb278, 1, none⟩ = some (.int .i64 a1_1) := (blk_cell BK278.out 1).trans rfl; have hcz68_2 : w65.cell? ⟨gb278, 2, none⟩ = some (.int .i64 a1_2) := (blk_cell BK278.out 2).trans rfl; have hcz68_3 : w65.cell? ⟨gb278, 3, none⟩ = some (.int .i64 a1_3) := (blk_cell BK278.out 3).trans rfl; have hcz68_4 : w65.cell? ⟨gb278, 4, none⟩ = some (.int .i64 a1_4) := (blk_cell BK278.out 4).trans rfl; have hcz68_5 : w65.cell? ⟨gb278, 5, none⟩ = some (.string a1_5) := (blk_cell BK278.out 5).trans rfl; have hfz68_0 := blk_frozen BK278.out 0; have hfz68_1 := blk_frozen BK278.out 1; have hfz68_2 := blk_frozen BK278.out 2; have hfz68_3 := blk_frozen BK278.out 3; have hfz68_4 := blk_frozen BK278.out 4; have hfz68_5 := blk_frozen BK278.out 5))
                    go_meet
                    case rel => exact ⟨_, (false), (by first | rfl | (simp; done) | (simp [*]; done)), H', ⟨by have := HJ3.out; first | omega | exact Nat.le_refl _⟩, ⟨by (with_reducible repeat (first | refine blk_drewN ?_ _ | refine blk_drew ?_ | refine blk_alloc ?_ _)); exact BK277.out⟩, ⟨by (with_reducible repeat (first | refine blk_drewN ?_ _ | refine blk_drew ?_ | refine blk_alloc ?_ _)); exact BK278.out⟩, ⟨by (with_reducible repeat (first | refine blk_drewN ?_ _ | refine blk_drew ?_ | refine blk_alloc ?_ _)); exact BK279.out⟩, ⟨by repeat (first | (with_reducible first | exact HB.out | apply below_alloc | apply pw_below_drewN | apply below_drew1 | refine below_set ?_ GE277.out | refine below_set ?_ GE278.out | refine below_set ?_ GE279.out) | exact HB.out)⟩⟩
                  · rw [if_neg c61] at H
                    have c61b0 : (a0_1 == a1_1) = false := beq_eq_false_iff_ne.mpr c61
                    have c61b1 : (a0_1 != a1_1) = true := bne_iff_ne.mpr c61
                    have H' := Aside0.mk H
                    clear H
                    have hnb69 := NB277_278.out
                    have hnc69 := NB278_277.out
                    have hnb70 := NB277_279.out
                    have hnc70 := NB279_277.out
                    have hcz71_0 : w47.cell? ⟨gb277, 0, none⟩ = some (.int .i64 a0_0) := (blk_cell BK277.out 0).trans rfl
                    have hcz71_1 : w47.cell? ⟨gb277, 1, none⟩ = some (.int .i64 a0_1) := (blk_cell BK277.out 1).trans rfl
                    have hcz71_2 : w47.cell? ⟨gb277, 2, none⟩ = some (.int .i64 a0_2) := (blk_cell BK277.out 2).trans rfl
                    have hcz71_3 : w47.cell? ⟨gb277, 3, none⟩ = some (.int .i64 a0_3) := (blk_cell BK277.out 3).trans rfl
                    have hcz71_4 : w47.cell? ⟨gb277, 4, none⟩ = some (.int .i64 a0_4) := (blk_cell BK277.out 4).trans rfl
                    have hcz71_5 : w47.cell? ⟨gb277, 5, none⟩ = some (.string a0_5) := (blk_cell BK277.out 5).trans rfl
                    have hfz71_0 := blk_frozen BK277.out 0
                    have hfz71_1 := blk_frozen BK277.out 1
                    have hfz71_2 := blk_frozen BK277.out 2
                    have hfz71_3 := blk_frozen BK277.out 3
                    have hfz71_4 := blk_frozen BK277.out 4
                    have hfz71_5 := blk_frozen BK277.out 5
                    go_wp2_with (first | ((with_reducible refine gate_callee (f := 44) rfl ?_); refine goesL_ (some 31) rfl rfl Try.func44 (by kernel_rfl) rfl #[.agg #[.int .i64 a0_0, .int .i64 a0_1, .int .i64 a0_2, .int .i64 a0_3, .int .i64 a0_4, .string a0_5], .agg #[.int .i64 a0_0, .int .i64 a0_1, .int .i64 a0_2, .int .i64 a0_3, .int .i64 a0_4, .string a0_5]] rfl (by (try simp only [List.map_toArray, List.map_cons, List.map_nil]); first | done | rfl | (simp only [List.length_drop, List.length_take]; rfl)) ?_; (with_reducible refine (txn_Better.calls kj3 a0_0 a0_1 a0_2 a0_3 a0_4 a0_5 a0_0 a0_1 a0_2 a0_3 a0_4 a0_5 false _ A48.out).mono ?_); rintro e w72 ⟨rfl, hb⟩; refine ⟨_, rfl, ?_⟩; have n0_ := Aside0.mk (blk_below (g := gb277) (o := .cells #[.int .i64 a0_0, .int .i64 a0_1, .int .i64 a0_2, .int .i64 a0_3, .int .i64 a0_4, .string a0_5] 23 (0, 0)) (by (with_reducible repeat (first | refine blk_drewN ?_ _ | refine blk_drew ?_ | refine blk_alloc ?_ _)); exact BK277.out) hb); have n1_ := Aside0.mk (blk_below (g := gb278) (o := .cells #[.int .i64 a1_0, .int .i64 a1_1, .int .i64 a1_2, .int .i64 a1_3, .int .i64 a1_4, .string a1_5] 23 (0, 0)) (by (with_reducible repeat (first | refine blk_drewN ?_ _ | refine blk_drew ?_ | refine blk_alloc ?_ _)); exact BK278.out) hb); have n2_ := Aside0.mk (blk_below (g := gb279) (o := .cells #[.int .i64 a2_0, .int .i64 a2_1, .int .i64 a2_2, .int .i64 a2_3, .int .i64 a2_4, .string a2_5] 23 (0, 0)) (by (with_reducible repeat (first | refine blk_drewN ?_ _ | refine blk_drew ?_ | refine blk_alloc ?_ _)); exact BK279.out) hb); have n3_ := Aside0.mk (below_step (by repeat (first | (with_reducible first | exact HB.out | apply below_alloc | apply pw_below_drewN | apply below_drew1 | refine below_set ?_ GE277.out | refine below_set ?_ GE278.out | refine below_set ?_ GE279.out) | exact HB.out)) hb); clear BK277; clear BK278; clear BK279; clear HB; have BK277 := n0_; have BK278 := n1_; have BK279 := n2_; have HB := n3_; clear n0_ n1_ n2_ n3_; (try clear hb); (try clear hb2); (try clear hk); (try clear hi); have hcz73_0 : w72.cell? ⟨gb277, 0, none⟩ = some (.int .i64 a0_0) := (blk_cell BK277.out 0).trans rfl; have hcz73_1 : w72.cell? ⟨gb277, 1, none⟩ = some (.int .i64 a0_1) := (blk_cell BK277.out 1).trans rfl; have hcz73_2 : w72.cell? ⟨gb277, 2, none⟩ = some (.int .i64 a0_2) := (blk_cell BK277.out 2).trans rfl; have hcz73_3 : w72.cell? ⟨gb277, 3, none⟩ = some (.int .i64 a0_3) := (blk_cell BK277.out 3).trans rfl; have hcz73_4 : w72.cell? ⟨gb277, 4, none⟩ = some (.int .i64 a0_4) := (blk_cell BK277.out 4).trans rfl; have hcz73_5 : w72.cell? ⟨gb277, 5, none⟩ = some (.string a0_5) := (blk_cell BK277.out 5).trans rfl; have hfz73_0 := blk_frozen BK277.out 0; have hfz73_1 := blk_frozen BK277.out 1; have hfz73_2 := blk_frozen BK277.out 2; have hfz73_3 := blk_frozen BK277.out 3; have hfz73_4 := blk_frozen BK277.out 4; have hfz73_5 := blk_frozen BK277.out 5; have hnb74 := NB278_279.out; have hnc74 := NB279_278.out; have hcz75_0 : w72.cell? ⟨gb278, 0, none⟩ = some (.int .i64 a1_0) := (blk_cell BK278.out 0).trans rfl; have hcz75_1 : w72.cell? ⟨gb278, 1, none⟩ = some (.int .i64 a1_1) := (blk_cell BK278.out 1).trans rfl; have hcz75_2 : w72.cell? ⟨gb278, 2, none⟩ = some (.int .i64 a1_2) := (blk_cell BK278.out 2).trans rfl; have hcz75_3 : w72.cell? ⟨gb278, 3, none⟩ = some (.int .i64 a1_3) := (blk_cell BK278.out 3).trans rfl; have hcz75_4 : w72.cell? ⟨gb278, 4, none⟩ = some (.int .i64 a1_4) := (blk_cell BK278.out 4).trans rfl; have hcz75_5 : w72.cell? ⟨gb278, 5, none⟩ = some (.string a1_5) := (blk_cell BK278.out 5).trans rfl; have hfz75_0 := blk_frozen BK278.out 0; have hfz75_1 := blk_frozen BK278.out 1; have hfz75_2 := blk_frozen BK278.out 2; have hfz75_3 := blk_frozen BK278.out 3; have hfz75_4 := blk_frozen BK278.out 4; have hfz75_5 := blk_frozen BK278.out 5))
                    go_meet
                    case rel => exact ⟨_, (false), (by first | rfl | (simp; done) | (simp [*]; done)), H', ⟨by have := HJ3.out; first | omega | exact Nat.le_refl _⟩, ⟨by (with_reducible repeat (first | refine blk_drewN ?_ _ | refine blk_drew ?_ | refine blk_alloc ?_ _)); exact BK277.out⟩, ⟨by (with_reducible repeat (first | refine blk_drewN ?_ _ | refine blk_drew ?_ | refine blk_alloc ?_ _)); exact BK278.out⟩, ⟨by (with_reducible repeat (first | refine blk_drewN ?_ _ | refine blk_drew ?_ | refine blk_alloc ?_ _)); exact BK279.out⟩, ⟨by repeat (first | (with_reducible first | exact HB.out | apply below_alloc | apply pw_below_drewN | apply below_drew1 | refine below_set ?_ GE277.out | refine below_set ?_ GE278.out | refine below_set ?_ GE279.out) | exact HB.out)⟩⟩
                · rw [if_neg c60] at H
                  have c60b0 : (a0_0 == a1_0) = false := beq_eq_false_iff_ne.mpr c60
                  have c60b1 : (a0_0 != a1_0) = true := bne_iff_ne.mpr c60
                  (first | rw [c60b0] | (simp only [i64_w, i32_w]; rw [c60b0]) | skip)
                  have H' := Aside0.mk H
                  clear H
                  have hnb76 := NB277_278.out
                  have hnc76 := NB278_277.out
                  have hnb77 := NB277_279.out
                  have hnc77 := NB279_277.out
                  have hcz78_0 : w47.cell? ⟨gb277, 0, none⟩ = some (.int .i64 a0_0) := (blk_cell BK277.out 0).trans rfl
                  have hcz78_1 : w47.cell? ⟨gb277, 1, none⟩ = some (.int .i64 a0_1) := (blk_cell BK277.out 1).trans rfl
                  have hcz78_2 : w47.cell? ⟨gb277, 2, none⟩ = some (.int .i64 a0_2) := (blk_cell BK277.out 2).trans rfl
                  have hcz78_3 : w47.cell? ⟨gb277, 3, none⟩ = some (.int .i64 a0_3) := (blk_cell BK277.out 3).trans rfl
                  have hcz78_4 : w47.cell? ⟨gb277, 4, none⟩ = some (.int .i64 a0_4) := (blk_cell BK277.out 4).trans rfl
                  have hcz78_5 : w47.cell? ⟨gb277, 5, none⟩ = some (.string a0_5) := (blk_cell BK277.out 5).trans rfl
                  have hfz78_0 := blk_frozen BK277.out 0
                  have hfz78_1 := blk_frozen BK277.out 1
                  have hfz78_2 := blk_frozen BK277.out 2
                  have hfz78_3 := blk_frozen BK277.out 3
                  have hfz78_4 := blk_frozen BK277.out 4
                  have hfz78_5 := blk_frozen BK277.out 5
                  go_wp2_with (first | ((with_reducible refine gate_callee (f := 44) rfl ?_); refine goesL_ (some 31) rfl rfl Try.func44 (by kernel_rfl) rfl #[.agg #[.int .i64 a0_0, .int .i64 a0_1, .int .i64 a0_2, .int .i64 a0_3, .int .i64 a0_4, .string a0_5], .agg #[.int .i64 a0_0, .int .i64 a0_1, .int .i64 a0_2, .int .i64 a0_3, .int .i64 a0_4, .string a0_5]] rfl (by (try simp only [List.map_toArray, List.map_cons, List.map_nil]); first | done | rfl | (simp only [List.length_drop, List.length_take]; rfl)) ?_; (with_reducible refine (txn_Better.calls kj3 a0_0 a0_1 a0_2 a0_3 a0_4 a0_5 a0_0 a0_1 a0_2 a0_3 a0_4 a0_5 false _ A48.out).mono ?_); rintro e w79 ⟨rfl, hb⟩; refine ⟨_, rfl, ?_⟩; have n0_ := Aside0.mk (blk_below (g := gb277) (o := .cells #[.int .i64 a0_0, .int .i64 a0_1, .int .i64 a0_2, .int .i64 a0_3, .int .i64 a0_4, .string a0_5] 23 (0, 0)) (by (with_reducible repeat (first | refine blk_drewN ?_ _ | refine blk_drew ?_ | refine blk_alloc ?_ _)); exact BK277.out) hb); have n1_ := Aside0.mk (blk_below (g := gb278) (o := .cells #[.int .i64 a1_0, .int .i64 a1_1, .int .i64 a1_2, .int .i64 a1_3, .int .i64 a1_4, .string a1_5] 23 (0, 0)) (by (with_reducible repeat (first | refine blk_drewN ?_ _ | refine blk_drew ?_ | refine blk_alloc ?_ _)); exact BK278.out) hb); have n2_ := Aside0.mk (blk_below (g := gb279) (o := .cells #[.int .i64 a2_0, .int .i64 a2_1, .int .i64 a2_2, .int .i64 a2_3, .int .i64 a2_4, .string a2_5] 23 (0, 0)) (by (with_reducible repeat (first | refine blk_drewN ?_ _ | refine blk_drew ?_ | refine blk_alloc ?_ _)); exact BK279.out) hb); have n3_ := Aside0.mk (below_step (by repeat (first | (with_reducible first | exact HB.out | apply below_alloc | apply pw_below_drewN | apply below_drew1 | refine below_set ?_ GE277.out | refine below_set ?_ GE278.out | refine below_set ?_ GE279.out) | exact HB.out)) hb); clear BK277; clear BK278; clear BK279; clear HB; have BK277 := n0_; have BK278 := n1_; have BK279 := n2_; have HB := n3_; clear n0_ n1_ n2_ n3_; (try clear hb); (try clear hb2); (try clear hk); (try clear hi); have hcz80_0 : w79.cell? ⟨gb277, 0, none⟩ = some (.int .i64 a0_0) := (blk_cell BK277.out 0).trans rfl; have hcz80_1 : w79.cell? ⟨gb277, 1, none⟩ = some (.int .i64 a0_1) := (blk_cell BK277.out 1).trans rfl; have hcz80_2 : w79.cell? ⟨gb277, 2, none⟩ = some (.int .i64 a0_2) := (blk_cell BK277.out 2).trans rfl; have hcz80_3 : w79.cell? ⟨gb277, 3, none⟩ = some (.int .i64 a0_3) := (blk_cell BK277.out 3).trans rfl; have hcz80_4 : w79.cell? ⟨gb277, 4, none⟩ = some (.int .i64 a0_4) := (blk_cell BK277.out 4).trans rfl; have hcz80_5 : w79.cell? ⟨gb277, 5, none⟩ = some (.string a0_5) := (blk_cell BK277.out 5).trans rfl; have hfz80_0 := blk_frozen BK277.out 0; have hfz80_1 := blk_frozen BK277.out 1; have hfz80_2 := blk_frozen BK277.out 2; have hfz80_3 := blk_frozen BK277.out 3; have hfz80_4 := blk_frozen BK277.out 4; have hfz80_5 := blk_frozen BK277.out 5; have hnb81 := NB278_279.out; have hnc81 := NB279_278.out; have hcz82_0 : w79.cell? ⟨gb278, 0, none⟩ = some (.int .i64 a1_0) := (blk_cell BK278.out 0).trans rfl; have hcz82_1 : w79.cell? ⟨gb278, 1, none⟩ = some (.int .i64 a1_1) := (blk_cell BK278.out 1).trans rfl; have hcz82_2 : w79.cell? ⟨gb278, 2, none⟩ = some (.int .i64 a1_2) := (blk_cell BK278.out 2).trans rfl; have hcz82_3 : w79.cell? ⟨gb278, 3, none⟩ = some (.int .i64 a1_3) := (blk_cell BK278.out 3).trans rfl; have hcz82_4 : w79.cell? ⟨gb278, 4, none⟩ = some (.int .i64 a1_4) := (blk_cell BK278.out 4).trans rfl; have hcz82_5 : w79.cell? ⟨gb278, 5, none⟩ = some (.string a1_5) := (blk_cell BK278.out 5).trans rfl; have hfz82_0 := blk_frozen BK278.out 0; have hfz82_1 := blk_frozen BK278.out 1; have hfz82_2 := blk_frozen BK278.out 2; have hfz82_3 := blk_frozen BK278.out 3; have hfz82_4 := blk_frozen BK278.out 4; have hfz82_5 := blk_frozen BK278.out 5))
                  go_meet
                  case rel => exact ⟨_, (false), (by first | rfl | (simp; done) | (simp [*]; done)), H', ⟨by have := HJ3.out; first | omega | exact Nat.le_refl _⟩, ⟨by (with_reducible repeat (first | refine blk_drewN ?_ _ | refine blk_drew ?_ | refine blk_alloc ?_ _)); exact BK277.out⟩, ⟨by (with_reducible repeat (first | refine blk_drewN ?_ _ | refine blk_drew ?_ | refine blk_alloc ?_ _)); exact BK278.out⟩, ⟨by (with_reducible repeat (first | refine blk_drewN ?_ _ | refine blk_drew ?_ | refine blk_alloc ?_ _)); exact BK279.out⟩, ⟨by repeat (first | (with_reducible first | exact HB.out | apply below_alloc | apply pw_below_drewN | apply below_drew1 | refine below_set ?_ GE277.out | refine below_set ?_ GE278.out | refine below_set ?_ GE279.out) | exact HB.out)⟩⟩
            · replace c54 := Bool.eq_false_iff.mpr c54
              subst c54
              have H1 : (if a0_0 = a1_0 then (if a0_1 = a1_1 then (hopperlaw04_TxnLine.j1 kj3 false false a0_0 a0_1 a0_2 a0_3 a0_4 a0_5 a1_0 a1_1 a1_2 a1_3 a1_4 a1_5 a2_0 a2_1 a2_2 a2_3 a2_4 a2_5) else (hopperlaw04_TxnLine.j1 kj3 false (!t285) a0_0 a0_1 a0_2 a0_3 a0_4 a0_5 a1_0 a1_1 a1_2 a1_3 a1_4 a1_5 a2_0 a2_1 a2_2 a2_3 a2_4 a2_5)) else (hopperlaw04_TxnLine.j1 kj3 false (!t285) a0_0 a0_1 a0_2 a0_3 a0_4 a0_5 a1_0 a1_1 a1_2 a1_3 a1_4 a1_5 a2_0 a2_1 a2_2 a2_3 a2_4 a2_5)) = some r := by rw [if_neg (show ¬ (false = true) by decide)] at H; exact H
              clear H
              have H := H1
              clear H1
              by_cases c83 : a0_0 = a1_0
              · rw [if_pos c83] at H
                have c83b0 : (a0_0 == a1_0) = true := beq_iff_eq.mpr c83
                have c83b1 : (a0_0 != a1_0) = false := bne_eq_false_iff_eq.mpr c83
                clear c83
                by_cases c84 : a0_1 = a1_1
                · rw [if_pos c84] at H
                  have c84b0 : (a0_1 == a1_1) = true := beq_iff_eq.mpr c84
                  have c84b1 : (a0_1 != a1_1) = false := bne_eq_false_iff_eq.mpr c84
                  clear c84
                  have H' := Aside0.mk H
                  clear H
                  have hnb85 := NB277_278.out
                  have hnc85 := NB278_277.out
                  have hnb86 := NB277_279.out
                  have hnc86 := NB279_277.out
                  have hcz87_0 : w47.cell? ⟨gb277, 0, none⟩ = some (.int .i64 a0_0) := (blk_cell BK277.out 0).trans rfl
                  have hcz87_1 : w47.cell? ⟨gb277, 1, none⟩ = some (.int .i64 a0_1) := (blk_cell BK277.out 1).trans rfl
                  have hcz87_2 : w47.cell? ⟨gb277, 2, none⟩ = some (.int .i64 a0_2) := (blk_cell BK277.out 2).trans rfl
                  have hcz87_3 : w47.cell? ⟨gb277, 3, none⟩ = some (.int .i64 a0_3) := (blk_cell BK277.out 3).trans rfl
                  have hcz87_4 : w47.cell? ⟨gb277, 4, none⟩ = some (.int .i64 a0_4) := (blk_cell BK277.out 4).trans rfl
                  have hcz87_5 : w47.cell? ⟨gb277, 5, none⟩ = some (.string a0_5) := (blk_cell BK277.out 5).trans rfl
                  have hfz87_0 := blk_frozen BK277.out 0
                  have hfz87_1 := blk_frozen BK277.out 1
                  have hfz87_2 := blk_frozen BK277.out 2
                  have hfz87_3 := blk_frozen BK277.out 3
                  have hfz87_4 := blk_frozen BK277.out 4
                  have hfz87_5 := blk_frozen BK277.out 5
                  go_wp2_with (first | ((with_reducible refine gate_callee (f := 44) rfl ?_); refine goesL_ (some 31) rfl rfl Try.func44 (by kernel_rfl) rfl #[.agg #[.int .i64 a0_0, .int .i64 a0_1, .int .i64 a0_2, .int .i64 a0_3, .int .i64 a0_4, .string a0_5], .agg #[.int .i64 a0_0, .int .i64 a0_1, .int .i64 a0_2, .int .i64 a0_3, .int .i64 a0_4, .string a0_5]] rfl (by (try simp only [List.map_toArray, List.map_cons, List.map_nil]); first | done | rfl | (simp only [List.length_drop, List.length_take]; rfl)) ?_; (with_reducible refine (txn_Better.calls kj3 a0_0 a0_1 a0_2 a0_3 a0_4 a0_5 a0_0 a0_1 a0_2 a0_3 a0_4 a0_5 false _ A48.out).mono ?_); rintro e w88 ⟨rfl, hb⟩; refine ⟨_, rfl, ?_⟩; have n0_ := Aside0.mk (blk_below (g := gb277) (o := .cells #[.int .i64 a0_0, .int .i64 a0_1, .int .i64 a0_2, .int .i64 a0_3, .int .i64 a0_4, .string a0_5] 23 (0, 0)) (by (with_reducible repeat (first | refine blk_drewN ?_ _ | refine blk_drew ?_ | refine blk_alloc ?_ _)); exact BK277.out) hb); have n1_ := Aside0.mk (blk_below (g := gb278) (o := .cells #[.int .i64 a1_0, .int .i64 a1_1, .int .i64 a1_2, .int .i64 a1_3, .int .i64 a1_4, .string a1_5] 23 (0, 0)) (by (with_reducible repeat (first | refine blk_drewN ?_ _ | refine blk_drew ?_ | refine blk_alloc ?_ _)); exact BK278.out) hb); have n2_ := Aside0.mk (blk_below (g := gb279) (o := .cells #[.int .i64 a2_0, .int .i64 a2_1, .int .i64 a2_2, .int .i64 a2_3, .int .i64 a2_4, .string a2_5] 23 (0, 0)) (by (with_reducible repeat (first | refine blk_drewN ?_ _ | refine blk_drew ?_ | refine blk_alloc ?_ _)); exact BK279.out) hb); have n3_ := Aside0.mk (below_step (by repeat (first | (with_reducible first | exact HB.out | apply below_alloc | apply pw_below_drewN | apply below_drew1 | refine below_set ?_ GE277.out | refine below_set ?_ GE278.out | refine below_set ?_ GE279.out) | exact HB.out)) hb); clear BK277; clear BK278; clear BK279; clear HB; have BK277 := n0_; have BK278 := n1_; have BK279 := n2_; have HB := n3_; clear n0_ n1_ n2_ n3_; (try clear hb); (try clear hb2); (try clear hk); (try clear hi); have hcz89_0 : w88.cell? ⟨gb277, 0, none⟩ = some (.int .i64 a0_0) := (blk_cell BK277.out 0).trans rfl; have hcz89_1 : w88.cell? ⟨gb277, 1, none⟩ = some (.int .i64 a0_1) := (blk_cell BK277.out 1).trans rfl; have hcz89_2 : w88.cell? ⟨gb277, 2, none⟩ = some (.int .i64 a0_2) := (blk_cell BK277.out 2).trans rfl; have hcz89_3 : w88.cell? ⟨gb277, 3, none⟩ = some (.int .i64 a0_3) := (blk_cell BK277.out 3).trans rfl; have hcz89_4 : w88.cell? ⟨gb277, 4, none⟩ = some (.int .i64 a0_4) := (blk_cell BK277.out 4).trans rfl; have hcz89_5 : w88.cell? ⟨gb277, 5, none⟩ = some (.string a0_5) := (blk_cell BK277.out 5).trans rfl; have hfz89_0 := blk_frozen BK277.out 0; have hfz89_1 := blk_frozen BK277.out 1; have hfz89_2 := blk_frozen BK277.out 2; have hfz89_3 := blk_frozen BK277.out 3; have hfz89_4 := blk_frozen BK277.out 4; have hfz89_5 := blk_frozen BK277.out 5; have hnb90 := NB278_279.out; have hnc90 := NB279_278.out; have hcz91_0 : w88.cell? ⟨gb278, 0, none⟩ = some (.int .i64 a1_0) := (blk_cell BK278.out 0).trans rfl; have hcz91_1 : w88.cell? ⟨gb278, 1, none⟩ = some (.int .i64 a1_1) := (blk_cell BK278.out 1).trans rfl; have hcz91_2 : w88.cell? ⟨gb278, 2, none⟩ = some (.int .i64 a1_2) := (blk_cell BK278.out 2).trans rfl; have hcz91_3 : w88.cell? ⟨gb278, 3, none⟩ = some (.int .i64 a1_3) := (blk_cell BK278.out 3).trans rfl; have hcz91_4 : w88.cell? ⟨gb278, 4, none⟩ = some (.int .i64 a1_4) := (blk_cell BK278.out 4).trans rfl; have hcz91_5 : w88.cell? ⟨gb278, 5, none⟩ = some (.string a1_5) := (blk_cell BK278.out 5).trans rfl; have hfz91_0 := blk_frozen BK278.out 0; have hfz91_1 := blk_frozen BK278.out 1; have hfz91_2 := blk_frozen BK278.out 2; have hfz91_3 := blk_frozen BK278.out 3; have hfz91_4 := blk_frozen BK278.out 4; have hfz91_5 := blk_frozen BK278.out 5))
                  go_meet
                  case rel => exact ⟨_, (false), (by first | rfl | (simp; done) | (simp [*]; done)), H', ⟨by have := HJ3.out; first | omega | exact Nat.le_refl _⟩, ⟨by (with_reducible repeat (first | refine blk_drewN ?_ _ | refine blk_drew ?_ | refine blk_alloc ?_ _)); exact BK277.out⟩, ⟨by (with_reducible repeat (first | refine blk_drewN ?_ _ | refine blk_drew ?_ | refine blk_alloc ?_ _)); exact BK278.out⟩, ⟨by (with_reducible repeat (first | refine blk_drewN ?_ _ | refine blk_drew ?_ | refine blk_alloc ?_ _)); exact BK279.out⟩, ⟨by repeat (first | (with_reducible first | exact HB.out | apply below_alloc | apply pw_below_drewN | apply below_drew1 | refine below_set ?_ GE277.out | refine below_set ?_ GE278.out | refine below_set ?_ GE279.out) | exact HB.out)⟩⟩
                · rw [if_neg c84] at H
                  have c84b0 : (a0_1 == a1_1) = false := beq_eq_false_iff_ne.mpr c84
                  have c84b1 : (a0_1 != a1_1) = true := bne_iff_ne.mpr c84
                  have H' := Aside0.mk H
                  clear H
                  have hnb92 := NB277_278.out
                  have hnc92 := NB278_277.out
                  have hnb93 := NB277_279.out
                  have hnc93 := NB279_277.out
                  have hcz94_0 : w47.cell? ⟨gb277, 0, none⟩ = some (.int .i64 a0_0) := (blk_cell BK277.out 0).trans rfl
                  have hcz94_1 : w47.cell? ⟨gb277, 1, none⟩ = some (.int .i64 a0_1) := (blk_cell BK277.out 1).trans rfl
                  have hcz94_2 : w47.cell? ⟨gb277, 2, none⟩ = some (.int .i64 a0_2) := (blk_cell BK277.out 2).trans rfl
                  have hcz94_3 : w47.cell? ⟨gb277, 3, none⟩ = some (.int .i64 a0_3) := (blk_cell BK277.out 3).trans rfl
                  have hcz94_4 : w47.cell? ⟨gb277, 4, none⟩ = some (.int .i64 a0_4) := (blk_cell BK277.out 4).trans rfl
                  have hcz94_5 : w47.cell? ⟨gb277, 5, none⟩ = some (.string a0_5) := (blk_cell BK277.out 5).trans rfl
                  have hfz94_0 := blk_frozen BK277.out 0
                  have hfz94_1 := blk_frozen BK277.out 1
                  have hfz94_2 := blk_frozen BK277.out 2
                  have hfz94_3 := blk_frozen BK277.out 3
                  have hfz94_4 := blk_frozen BK277.out 4
                  have hfz94_5 := blk_frozen BK277.out 5
                  go_wp2_with (first | ((with_reducible refine gate_callee (f := 44) rfl ?_); refine goesL_ (some 31) rfl rfl Try.func44 (by kernel_rfl) rfl #[.agg #[.int .i64 a0_0, .int .i64 a0_1, .int .i64 a0_2, .int .i64 a0_3, .int .i64 a0_4, .string a0_5], .agg #[.int .i64 a0_0, .int .i64 a0_1, .int .i64 a0_2, .int .i64 a0_3, .int .i64 a0_4, .string a0_5]] rfl (by (try simp only [List.map_toArray, List.map_cons, List.map_nil]); first | done | rfl | (simp only [List.length_drop, List.length_take]; rfl)) ?_; (with_reducible refine (txn_Better.calls kj3 a0_0 a0_1 a0_2 a0_3 a0_4 a0_5 a0_0 a0_1 a0_2 a0_3 a0_4 a0_5 false _ A48.out).mono ?_); rintro e w95 ⟨rfl, hb⟩; refine ⟨_, rfl, ?_⟩; have n0_ := Aside0.mk (blk_below (g := gb277) (o := .cells #[.int .i64 a0_0, .int .i64 a0_1, .int .i64 a0_2, .int .i64 a0_3, .int .i64 a0_4, .string a0_5] 23 (0, 0)) (by (with_reducible repeat (first | refine blk_drewN ?_ _ | refine blk_drew ?_ | refine blk_alloc ?_ _)); exact BK277.out) hb); have n1_ := Aside0.mk (blk_below (g := gb278) (o := .cells #[.int .i64 a1_0, .int .i64 a1_1, .int .i64 a1_2, .int .i64 a1_3, .int .i64 a1_4, .string a1_5] 23 (0, 0)) (by (with_reducible repeat (first | refine blk_drewN ?_ _ | refine blk_drew ?_ | refine blk_alloc ?_ _)); exact BK278.out) hb); have n2_ := Aside0.mk (blk_below (g := gb279) (o := .cells #[.int .i64 a2_0, .int .i64 a2_1, .int .i64 a2_2, .int .i64 a2_3, .int .i64 a2_4, .string a2_5] 23 (0, 0)) (by (with_reducible repeat (first | refine blk_drewN ?_ _ | refine blk_drew ?_ | refine blk_alloc ?_ _)); exact BK279.out) hb); have n3_ := Aside0.mk (below_step (by repeat (first | (with_reducible first | exact HB.out | apply below_alloc | apply pw_below_drewN | apply below_drew1 | refine below_set ?_ GE277.out | refine below_set ?_ GE278.out | refine below_set ?_ GE279.out) | exact HB.out)) hb); clear BK277; clear BK278; clear BK279; clear HB; have BK277 := n0_; have BK278 := n1_; have BK279 := n2_; have HB := n3_; clear n0_ n1_ n2_ n3_; (try clear hb); (try clear hb2); (try clear hk); (try clear hi); have hcz96_0 : w95.cell? ⟨gb277, 0, none⟩ = some (.int .i64 a0_0) := (blk_cell BK277.out 0).trans rfl; have hcz96_1 : w95.cell? ⟨gb277, 1, none⟩ = some (.int .i64 a0_1) := (blk_cell BK277.out 1).trans rfl; have hcz96_2 : w95.cell? ⟨gb277, 2, none⟩ = some (.int .i64 a0_2) := (blk_cell BK277.out 2).trans rfl; have hcz96_3 : w95.cell? ⟨gb277, 3, none⟩ = some (.int .i64 a0_3) := (blk_cell BK277.out 3).trans rfl; have hcz96_4 : w95.cell? ⟨gb277, 4, none⟩ = some (.int .i64 a0_4) := (blk_cell BK277.out 4).trans rfl; have hcz96_5 : w95.cell? ⟨gb277, 5, none⟩ = some (.string a0_5) := (blk_cell BK277.out 5).trans rfl; have hfz96_0 := blk_frozen BK277.out 0; have hfz96_1 := blk_frozen BK277.out 1; have hfz96_2 := blk_frozen BK277.out 2; have hfz96_3 := blk_frozen BK277.out 3; have hfz96_4 := blk_frozen BK277.out 4; have hfz96_5 := blk_frozen BK277.out 5; have hnb97 := NB278_279.out; have hnc97 := NB279_278.out; have hcz98_0 : w95.cell? ⟨gb278, 0, none⟩ = some (.int .i64 a1_0) := (blk_cell BK278.out 0).trans rfl; have hcz98_1 : w95.cell? ⟨gb278, 1, none⟩ = some (.int .i64 a1_1) := (blk_cell BK278.out 1).trans rfl; have hcz98_2 : w95.cell? ⟨gb278, 2, none⟩ = some (.int .i64 a1_2) := (blk_cell BK278.out 2).trans rfl; have hcz98_3 : w95.cell? ⟨gb278, 3, none⟩ = some (.int .i64 a1_3) := (blk_cell BK278.out 3).trans rfl; have hcz98_4 : w95.cell? ⟨gb278, 4, none⟩ = some (.int .i64 a1_4) := (blk_cell BK278.out 4).trans rfl; have hcz98_5 : w95.cell? ⟨gb278, 5, none⟩ = some (.string a1_5) := (blk_cell BK278.out 5).trans rfl; have hfz98_0 := blk_frozen BK278.out 0; have hfz98_1 := blk_frozen BK278.out 1; have hfz98_2 := blk_frozen BK278.out 2; have hfz98_3 := blk_frozen BK278.out 3; have hfz98_4 := blk_frozen BK278.out 4; have hfz98_5 := blk_frozen BK278.out 5))
                  go_meet
                  case rel => exact ⟨_, (!t285), (by first | rfl | (simp; done) | (simp [*]; done)), H', ⟨by have := HJ3.out; first | omega | exact Nat.le_refl _⟩, ⟨by (with_reducible repeat (first | refine blk_drewN ?_ _ | refine blk_drew ?_ | refine blk_alloc ?_ _)); exact BK277.out⟩, ⟨by (with_reducible repeat (first | refine blk_drewN ?_ _ | refine blk_drew ?_ | refine blk_alloc ?_ _)); exact BK278.out⟩, ⟨by (with_reducible repeat (first | refine blk_drewN ?_ _ | refine blk_drew ?_ | refine blk_alloc ?_ _)); exact BK279.out⟩, ⟨by repeat (first | (with_reducible first | exact HB.out | apply below_alloc | apply pw_below_drewN | apply below_drew1 | refine below_set ?_ GE277.out | refine below_set ?_ GE278.out | refine below_set ?_ GE279.out) | exact HB.out)⟩⟩
              · rw [if_neg c83] at H
                have c83b0 : (a0_0 == a1_0) = false := beq_eq_false_iff_ne.mpr c83
                have c83b1 : (a0_0 != a1_0) = true := bne_iff_ne.mpr c83
                have H' := Aside0.mk H
                clear H
                have hnb99 := NB277_278.out
                have hnc99 := NB278_277.out
                have hnb100 := NB277_279.out
                have hnc100 := NB279_277.out
                have hcz101_0 : w47.cell? ⟨gb277, 0, none⟩ = some (.int .i64 a0_0) := (blk_cell BK277.out 0).trans rfl
                have hcz101_1 : w47.cell? ⟨gb277, 1, none⟩ = some (.int .i64 a0_1) := (blk_cell BK277.out 1).trans rfl
                have hcz101_2 : w47.cell? ⟨gb277, 2, none⟩ = some (.int .i64 a0_2) := (blk_cell BK277.out 2).trans rfl
                have hcz101_3 : w47.cell? ⟨gb277, 3, none⟩ = some (.int .i64 a0_3) := (blk_cell BK277.out 3).trans rfl
                have hcz101_4 : w47.cell? ⟨gb277, 4, none⟩ = some (.int .i64 a0_4) := (blk_cell BK277.out 4).trans rfl
                have hcz101_5 : w47.cell? ⟨gb277, 5, none⟩ = some (.string a0_5) := (blk_cell BK277.out 5).trans rfl
                have hfz101_0 := blk_frozen BK277.out 0
                have hfz101_1 := blk_frozen BK277.out 1
                have hfz101_2 := blk_frozen BK277.out 2
                have hfz101_3 := blk_frozen BK277.out 3
                have hfz101_4 := blk_frozen BK277.out 4
                have hfz101_5 := blk_frozen BK277.out 5
                go_wp2_with (first | ((with_reducible refine gate_callee (f := 44) rfl ?_); refine goesL_ (some 31) rfl rfl Try.func44 (by kernel_rfl) rfl #[.agg #[.int .i64 a0_0, .int .i64 a0_1, .int .i64 a0_2, .int .i64 a0_3, .int .i64 a0_4, .string a0_5], .agg #[.int .i64 a0_0, .int .i64 a0_1, .int .i64 a0_2, .int .i64 a0_3, .int .i64 a0_4, .string a0_5]] rfl (by (try simp only [List.map_toArray, List.map_cons, List.map_nil]); first | done | rfl | (simp only [List.length_drop, List.length_take]; rfl)) ?_; (with_reducible refine (txn_Better.calls kj3 a0_0 a0_1 a0_2 a0_3 a0_4 a0_5 a0_0 a0_1 a0_2 a0_3 a0_4 a0_5 false _ A48.out).mono ?_); rintro e w102 ⟨rfl, hb⟩; refine ⟨_, rfl, ?_⟩; have n0_ := Aside0.mk (blk_below (g := gb277) (o := .cells #[.int .i64 a0_0, .int .i64 a0_1, .int .i64 a0_2, .int .i64 a0_3, .int .i64 a0_4, .string a0_5] 23 (0, 0)) (by (with_reducible repeat (first | refine blk_drewN ?_ _ | refine blk_drew ?_ | refine blk_alloc ?_ _)); exact BK277.out) hb); have n1_ := Aside0.mk (blk_below (g := gb278) (o := .cells #[.int .i64 a1_0, .int .i64 a1_1, .int .i64 a1_2, .int .i64 a1_3, .int .i64 a1_4, .string a1_5] 23 (0, 0)) (by (with_reducible repeat (first | refine blk_drewN ?_ _ | refine blk_drew ?_ | refine blk_alloc ?_ _)); exact BK278.out) hb); have n2_ := Aside0.mk (blk_below (g := gb279) (o := .cells #[.int .i64 a2_0, .int .i64 a2_1, .int .i64 a2_2, .int .i64 a2_3, .int .i64 a2_4, .string a2_5] 23 (0, 0)) (by (with_reducible repeat (first | refine blk_drewN ?_ _ | refine blk_drew ?_ | refine blk_alloc ?_ _)); exact BK279.out) hb); have n3_ := Aside0.mk (below_step (by repeat (first | (with_reducible first | exact HB.out | apply below_alloc | apply pw_below_drewN | apply below_drew1 | refine below_set ?_ GE277.out | refine below_set ?_ GE278.out | refine below_set ?_ GE279.out) | exact HB.out)) hb); clear BK277; clear BK278; clear BK279; clear HB; have BK277 := n0_; have BK278 := n1_; have BK279 := n2_; have HB := n3_; clear n0_ n1_ n2_ n3_; (try clear hb); (try clear hb2); (try clear hk); (try clear hi); have hcz103_0 : w102.cell? ⟨gb277, 0, none⟩ = some (.int .i64 a0_0) := (blk_cell BK277.out 0).trans rfl; have hcz103_1 : w102.cell? ⟨gb277, 1, none⟩ = some (.int .i64 a0_1) := (blk_cell BK277.out 1).trans rfl; have hcz103_2 : w102.cell? ⟨gb277, 2, none⟩ = some (.int .i64 a0_2) := (blk_cell BK277.out 2).trans rfl; have hcz103_3 : w102.cell? ⟨gb277, 3, none⟩ = some (.int .i64 a0_3) := (blk_cell BK277.out 3).trans rfl; have hcz103_4 : w102.cell? ⟨gb277, 4, none⟩ = some (.int .i64 a0_4) := (blk_cell BK277.out 4).trans rfl; have hcz103_5 : w102.cell? ⟨gb277, 5, none⟩ = some (.string a0_5) := (blk_cell BK277.out 5).trans rfl; have hfz103_0 := blk_frozen BK277.out 0; have hfz103_1 := blk_frozen BK277.out 1; have hfz103_2 := blk_frozen BK277.out 2; have hfz103_3 := blk_frozen BK277.out 3; have hfz103_4 := blk_frozen BK277.out 4; have hfz103_5 := blk_frozen BK277.out 5; have hnb104 := NB278_279.out; have hnc104 := NB279_278.out; have hcz105_0 : w102.cell? ⟨gb278, 0, none⟩ = some (.int .i64 a1_0) := (blk_cell BK278.out 0).trans rfl; have hcz105_1 : w102.cell? ⟨gb278, 1, none⟩ = some (.int .i64 a1_1) := (blk_cell BK278.out 1).trans rfl; have hcz105_2 : w102.cell? ⟨gb278, 2, none⟩ = some (.int .i64 a1_2) := (blk_cell BK278.out 2).trans rfl; have hcz105_3 : w102.cell? ⟨gb278, 3, none⟩ = some (.int .i64 a1_3) := (blk_cell BK278.out 3).trans rfl; have hcz105_4 : w102.cell? ⟨gb278, 4, none⟩ = some (.int .i64 a1_4) := (blk_cell BK278.out 4).trans rfl; have hcz105_5 : w102.cell? ⟨gb278, 5, none⟩ = some (.string a1_5) := (blk_cell BK278.out 5).trans rfl; have hfz105_0 := blk_frozen BK278.out 0; have hfz105_1 := blk_frozen BK278.out 1; have hfz105_2 := blk_frozen BK278.out 2; have hfz105_3 := blk_frozen BK278.out 3; have hfz105_4 := blk_frozen BK278.out 4; have hfz105_5 := blk_frozen BK278.out 5))
                go_meet
                case rel => exact ⟨_, (!t285), (by first | rfl | (simp; done) | (simp [*]; done)), H', ⟨by have := HJ3.out; first | omega | exact Nat.le_refl _⟩, ⟨by (with_reducible repeat (first | refine blk_drewN ?_ _ | refine blk_drew ?_ | refine blk_alloc ?_ _)); exact BK277.out⟩, ⟨by (with_reducible repeat (first | refine blk_drewN ?_ _ | refine blk_drew ?_ | refine blk_alloc ?_ _)); exact BK278.out⟩, ⟨by (with_reducible repeat (first | refine blk_drewN ?_ _ | refine blk_drew ?_ | refine blk_alloc ?_ _)); exact BK279.out⟩, ⟨by repeat (first | (with_reducible first | exact HB.out | apply below_alloc | apply pw_below_drewN | apply below_drew1 | refine below_set ?_ GE277.out | refine below_set ?_ GE278.out | refine below_set ?_ GE279.out) | exact HB.out)⟩⟩
        case rest =>
          clear HC38
          try clear c1
          try clear c2
          try clear p2
          try clear c3
          try clear c4
          try clear c5
          try clear c6
          try clear c7
          try clear c8
          try clear c9
          try clear c10
          try clear c11
          try clear c13
          try clear c14
          try clear c17
          try clear c22
          try clear c23
          try clear c26
          try clear c29
          try clear c30
          try clear c32
          try clear c33
          try clear c39
          try clear c40
          try clear c42
          try clear c44
          try clear c49
          try clear c50
          try clear c51
          try clear c54
          try clear c55
          try clear c56
          try clear c57
          try clear c60
          try clear c60b0
          try clear c60b1
          try clear c61
          try clear c61b0
          try clear c61b1
          try clear c62
          try clear c63
          try clear c67
          try clear c69
          try clear c70
          try clear c74
          try clear c76
          try clear c77
          try clear c81
          try clear c83
          try clear c83b0
          try clear c83b1
          try clear c84
          try clear c84b0
          try clear c84b1
          try clear c85
          try clear c86
          try clear c90
          try clear c92
          try clear c93
          try clear c97
          try clear c99
          try clear c100
          try clear c104
          try clear hcz101_0
          try clear hcz101_1
          try clear hcz101_2
          try clear hcz101_3
          try clear hcz101_4
          try clear hcz101_5
          try clear hcz103_0
          try clear hcz103_1
          try clear hcz103_2
          try clear hcz103_3
          try clear hcz103_4
          try clear hcz103_5
          try clear hcz105_0
          try clear hcz105_1
          try clear hcz105_2
          try clear hcz105_3
          try clear hcz105_4
          try clear hcz105_5
          try clear hcz15_0
          try clear hcz15_1
          try clear hcz15_2
          try clear hcz15_3
          try clear hcz15_4
          try clear hcz15_5
          try clear hcz18_0
          try clear hcz18_1
          try clear hcz18_2
          try clear hcz18_3
          try clear hcz18_4
          try clear hcz18_5
          try clear hcz20_0
          try clear hcz20_1
          try clear hcz20_2
          try clear hcz20_3
          try clear hcz20_4
          try clear hcz20_5
          try clear hcz24_0
          try clear hcz24_1
          try clear hcz24_2
          try clear hcz24_3
          try clear hcz24_4
          try clear hcz24_5
          try clear hcz27_0
          try clear hcz27_1
          try clear hcz27_2
          try clear hcz27_3
          try clear hcz27_4
          try clear hcz27_5
          try clear hcz31_0
          try clear hcz31_1
          try clear hcz31_2
          try clear hcz31_3
          try clear hcz31_4
          try clear hcz31_5
          try clear hcz41_0
          try clear hcz41_1
          try clear hcz41_2
          try clear hcz41_3
          try clear hcz41_4
          try clear hcz41_5
          try clear hcz43_0
          try clear hcz43_1
          try clear hcz43_2
          try clear hcz43_3
          try clear hcz43_4
          try clear hcz43_5
          try clear hcz45_0
          try clear hcz45_1
          try clear hcz45_2
          try clear hcz45_3
          try clear hcz45_4
          try clear hcz45_5
          try clear hcz46_0
          try clear hcz46_1
          try clear hcz46_2
          try clear hcz46_3
          try clear hcz46_4
          try clear hcz46_5
          try clear hcz52_0
          try clear hcz52_1
          try clear hcz52_2
          try clear hcz52_3
          try clear hcz52_4
          try clear hcz52_5
          try clear hcz58_0
          try clear hcz58_1
          try clear hcz58_2
          try clear hcz58_3
          try clear hcz58_4
          try clear hcz58_5
          try clear hcz64_0
          try clear hcz64_1
          try clear hcz64_2
          try clear hcz64_3
          try clear hcz64_4
          try clear hcz64_5
          try clear hcz66_0
          try clear hcz66_1
          try clear hcz66_2
          try clear hcz66_3
          try clear hcz66_4
          try clear hcz66_5
          try clear hcz68_0
          try clear hcz68_1
          try clear hcz68_2
          try clear hcz68_3
          try clear hcz68_4
          try clear hcz68_5
          try clear hcz71_0
          try clear hcz71_1
          try clear hcz71_2
          try clear hcz71_3
          try clear hcz71_4
          try clear hcz71_5
          try clear hcz73_0
          try clear hcz73_1
          try clear hcz73_2
          try clear hcz73_3
          try clear hcz73_4
          try clear hcz73_5
          try clear hcz75_0
          try clear hcz75_1
          try clear hcz75_2
          try clear hcz75_3
          try clear hcz75_4
          try clear hcz75_5
          try clear hcz78_0
          try clear hcz78_1
          try clear hcz78_2
          try clear hcz78_3
          try clear hcz78_4
          try clear hcz78_5
          try clear hcz80_0
          try clear hcz80_1
          try clear hcz80_2
          try clear hcz80_3
          try clear hcz80_4
          try clear hcz80_5
          try clear hcz82_0
          try clear hcz82_1
          try clear hcz82_2
          try clear hcz82_3
          try clear hcz82_4
          try clear hcz82_5
          try clear hcz87_0
          try clear hcz87_1
          try clear hcz87_2
          try clear hcz87_3
          try clear hcz87_4
          try clear hcz87_5
          try clear hcz89_0
          try clear hcz89_1
          try clear hcz89_2
          try clear hcz89_3
          try clear hcz89_4
          try clear hcz89_5
          try clear hcz91_0
          try clear hcz91_1
          try clear hcz91_2
          try clear hcz91_3
          try clear hcz91_4
          try clear hcz91_5
          try clear hcz94_0
          try clear hcz94_1
          try clear hcz94_2
          try clear hcz94_3
          try clear hcz94_4
          try clear hcz94_5
          try clear hcz96_0
          try clear hcz96_1
          try clear hcz96_2
          try clear hcz96_3
          try clear hcz96_4
          try clear hcz96_5
          try clear hcz98_0
          try clear hcz98_1
          try clear hcz98_2
          try clear hcz98_3
          try clear hcz98_4
          try clear hcz98_5
          try clear hfz101_0
          try clear hfz101_1
          try clear hfz101_2
          try clear hfz101_3
          try clear hfz101_4
          try clear hfz101_5
          try clear hfz103_0
          try clear hfz103_1
          try clear hfz103_2
          try clear hfz103_3
          try clear hfz103_4
          try clear hfz103_5
          try clear hfz105_0
          try clear hfz105_1
          try clear hfz105_2
          try clear hfz105_3
          try clear hfz105_4
          try clear hfz105_5
          try clear hfz15_0
          try clear hfz15_1
          try clear hfz15_2
          try clear hfz15_3
          try clear hfz15_4
          try clear hfz15_5
          try clear hfz18_0
          try clear hfz18_1
          try clear hfz18_2
          try clear hfz18_3
          try clear hfz18_4
          try clear hfz18_5
          try clear hfz20_0
          try clear hfz20_1
          try clear hfz20_2
          try clear hfz20_3
          try clear hfz20_4
          try clear hfz20_5
          try clear hfz24_0
          try clear hfz24_1
          try clear hfz24_2
          try clear hfz24_3
          try clear hfz24_4
          try clear hfz24_5
          try clear hfz27_0
          try clear hfz27_1
          try clear hfz27_2
          try clear hfz27_3
          try clear hfz27_4
          try clear hfz27_5
          try clear hfz31_0
          try clear hfz31_1
          try clear hfz31_2
          try clear hfz31_3
          try clear hfz31_4
          try clear hfz31_5
          try clear hfz41_0
          try clear hfz41_1
          try clear hfz41_2
          try clear hfz41_3
          try clear hfz41_4
          try clear hfz41_5
          try clear hfz43_0
          try clear hfz43_1
          try clear hfz43_2
          try clear hfz43_3
          try clear hfz43_4
          try clear hfz43_5
          try clear hfz45_0
          try clear hfz45_1
          try clear hfz45_2
          try clear hfz45_3
          try clear hfz45_4
          try clear hfz45_5
          try clear hfz46_0
          try clear hfz46_1
          try clear hfz46_2
          try clear hfz46_3
          try clear hfz46_4
          try clear hfz46_5
          try clear hfz52_0
          try clear hfz52_1
          try clear hfz52_2
          try clear hfz52_3
          try clear hfz52_4
          try clear hfz52_5
          try clear hfz58_0
          try clear hfz58_1
          try clear hfz58_2
          try clear hfz58_3
          try clear hfz58_4
          try clear hfz58_5
          try clear hfz64_0
          try clear hfz64_1
          try clear hfz64_2
          try clear hfz64_3
          try clear hfz64_4
          try clear hfz64_5
          try clear hfz66_0
          try clear hfz66_1
          try clear hfz66_2
          try clear hfz66_3
          try clear hfz66_4
          try clear hfz66_5
          try clear hfz68_0
          try clear hfz68_1
          try clear hfz68_2
          try clear hfz68_3
          try clear hfz68_4
          try clear hfz68_5
          try clear hfz71_0
          try clear hfz71_1
          try clear hfz71_2
          try clear hfz71_3
          try clear hfz71_4
          try clear hfz71_5
          try clear hfz73_0
          try clear hfz73_1
          try clear hfz73_2
          try clear hfz73_3
          try clear hfz73_4
          try clear hfz73_5
          try clear hfz75_0
          try clear hfz75_1
          try clear hfz75_2
          try clear hfz75_3
          try clear hfz75_4
          try clear hfz75_5
          try clear hfz78_0
          try clear hfz78_1
          try clear hfz78_2
          try clear hfz78_3
          try clear hfz78_4
          try clear hfz78_5
          try clear hfz80_0
          try clear hfz80_1
          try clear hfz80_2
          try clear hfz80_3
          try clear hfz80_4
          try clear hfz80_5
          try clear hfz82_0
          try clear hfz82_1
          try clear hfz82_2
          try clear hfz82_3
          try clear hfz82_4
          try clear hfz82_5
          try clear hfz87_0
          try clear hfz87_1
          try clear hfz87_2
          try clear hfz87_3
          try clear hfz87_4
          try clear hfz87_5
          try clear hfz89_0
          try clear hfz89_1
          try clear hfz89_2
          try clear hfz89_3
          try clear hfz89_4
          try clear hfz89_5
          try clear hfz91_0
          try clear hfz91_1
          try clear hfz91_2
          try clear hfz91_3
          try clear hfz91_4
          try clear hfz91_5
          try clear hfz94_0
          try clear hfz94_1
          try clear hfz94_2
          try clear hfz94_3
          try clear hfz94_4
          try clear hfz94_5
          try clear hfz96_0
          try clear hfz96_1
          try clear hfz96_2
          try clear hfz96_3
          try clear hfz96_4
          try clear hfz96_5
          try clear hfz98_0
          try clear hfz98_1
          try clear hfz98_2
          try clear hfz98_3
          try clear hfz98_4
          try clear hfz98_5
          try clear p2
          obtain ⟨kq, x59_37, rfl, HA, HJ37, BK277, BK278, BK279, HB⟩ := hcut
          cases kq with
          | zero => exact absurd HA.out (by simp [hopperlaw04_TxnLine.j1])
          | succ kj37 =>
            have H := HA.out
            clear HA
            simp only [hopperlaw04_TxnLine.j1] at H
            by_cases c106 : x59_37 = true
            · subst c106
              have H1 : (none) = some r := by rw [if_pos rfl] at H; exact H
              clear H
              have H := H1
              clear H1
              exact absurd H (by simp)
            · replace c106 := Bool.eq_false_iff.mpr c106
              subst c106
              have H1 : (if t284 = true then ((txn_Better.f kj37 a1_0 a1_1 a1_2 a1_3 a1_4 a1_5 a2_0 a2_1 a2_2 a2_3 a2_4 a2_5).bind fun t287 => (if t287 = true then ((txn_Better.f kj37 a0_0 a0_1 a0_2 a0_3 a0_4 a0_5 a2_0 a2_1 a2_2 a2_3 a2_4 a2_5).bind fun t288 => (if t288 = true then (if a0_2 ≤ a1_2 then ((hopperlaw04_live.f kj37).bind fun t289 => (some t289)) else ((hopperlaw04_live.f kj37).bind fun t290 => (some t290))) else (none))) else (if a0_2 ≤ a1_2 then ((hopperlaw04_live.f kj37).bind fun t291 => (some t291)) else ((hopperlaw04_live.f kj37).bind fun t292 => (some t292))))) else (if a0_2 ≤ a1_2 then ((hopperlaw04_live.f kj37).bind fun t293 => (some t293)) else (none))) = some r := by rw [if_neg (show ¬ (false = true) by decide)] at H; exact H
              clear H
              have H := H1
              clear H1
              by_cases c107 : t284 = true
              · subst c107
                have H1 : ((txn_Better.f kj37 a1_0 a1_1 a1_2 a1_3 a1_4 a1_5 a2_0 a2_1 a2_2 a2_3 a2_4 a2_5).bind fun t287 => (if t287 = true then ((txn_Better.f kj37 a0_0 a0_1 a0_2 a0_3 a0_4 a0_5 a2_0 a2_1 a2_2 a2_3 a2_4 a2_5).bind fun t288 => (if t288 = true then (if a0_2 ≤ a1_2 then ((hopperlaw04_live.f kj37).bind fun t289 => (some t289)) else ((hopperlaw04_live.f kj37).bind fun t290 => (some t290))) else (none))) else (if a0_2 ≤ a1_2 then ((hopperlaw04_live.f kj37).bind fun t291 => (some t291)) else ((hopperlaw04_live.f kj37).bind fun t292 => (some t292))))) = some r := by rw [if_pos rfl] at H; exact H
                clear H
                have H := H1
                clear H1
                replace H := Option.bind_eq_some_iff.mp H
                obtain ⟨t287, A1080, H⟩ := H
                replace H : (if t287 = true then ((txn_Better.f kj37 a0_0 a0_1 a0_2 a0_3 a0_4 a0_5 a2_0 a2_1 a2_2 a2_3 a2_4 a2_5).bind fun t288 => (if t288 = true then (if a0_2 ≤ a1_2 then ((hopperlaw04_live.f kj37).bind fun t289 => (some t289)) else ((hopperlaw04_live.f kj37).bind fun t290 => (some t290))) else (none))) else (if a0_2 ≤ a1_2 then ((hopperlaw04_live.f kj37).bind fun t291 => (some t291)) else ((hopperlaw04_live.f kj37).bind fun t292 => (some t292)))) = some r := H
                have A108 := Aside0.mk A1080
                clear A1080
                by_cases c109 : t287 = true
                · subst c109
                  have H1 : ((txn_Better.f kj37 a0_0 a0_1 a0_2 a0_3 a0_4 a0_5 a2_0 a2_1 a2_2 a2_3 a2_4 a2_5).bind fun t288 => (if t288 = true then (if a0_2 ≤ a1_2 then ((hopperlaw04_live.f kj37).bind fun t289 => (some t289)) else ((hopperlaw04_live.f kj37).bind fun t290 => (some t290))) else (none))) = some r := by rw [if_pos rfl] at H; exact H
                  clear H
                  have H := H1
                  clear H1
                  replace H := Option.bind_eq_some_iff.mp H
                  obtain ⟨t288, A1100, H⟩ := H
                  replace H : (if t288 = true then (if a0_2 ≤ a1_2 then ((hopperlaw04_live.f kj37).bind fun t289 => (some t289)) else ((hopperlaw04_live.f kj37).bind fun t290 => (some t290))) else (none)) = some r := H
                  have A110 := Aside0.mk A1100
                  clear A1100
                  by_cases c111 : t288 = true
                  · subst c111
                    have H1 : (if a0_2 ≤ a1_2 then ((hopperlaw04_live.f kj37).bind fun t289 => (some t289)) else ((hopperlaw04_live.f kj37).bind fun t290 => (some t290))) = some r := by rw [if_pos rfl] at H; exact H
                    clear H
                    have H := H1
                    clear H1
                    by_cases c112 : a0_2 ≤ a1_2
                    · rw [if_pos c112] at H
                      have c112b0 : decide (a0_2 ≤ a1_2) = true := decide_eq_true c112
                      clear c112
                      replace H := Option.bind_eq_some_iff.mp H
                      obtain ⟨t289, A1130, H⟩ := H
                      replace H : (some t289) = some r := H
                      have A113 := Aside0.mk A1130
                      clear A1130
                      obtain rfl := Option.some.inj H
                      have hnb114 := NB278_277.out
                      have hnc114 := NB277_278.out
                      have hnb115 := NB278_279.out
                      have hnc115 := NB279_278.out
                      have hcz116_0 : wc.cell? ⟨gb278, 0, none⟩ = some (.int .i64 a1_0) := (blk_cell BK278.out 0).trans rfl
                      have hcz116_1 : wc.cell? ⟨gb278, 1, none⟩ = some (.int .i64 a1_1) := (blk_cell BK278.out 1).trans rfl
                      have hcz116_2 : wc.cell? ⟨gb278, 2, none⟩ = some (.int .i64 a1_2) := (blk_cell BK278.out 2).trans rfl
                      have hcz116_3 : wc.cell? ⟨gb278, 3, none⟩ = some (.int .i64 a1_3) := (blk_cell BK278.out 3).trans rfl
                      have hcz116_4 : wc.cell? ⟨gb278, 4, none⟩ = some (.int .i64 a1_4) := (blk_cell BK278.out 4).trans rfl
                      have hcz116_5 : wc.cell? ⟨gb278, 5, none⟩ = some (.string a1_5) := (blk_cell BK278.out 5).trans rfl
                      have hfz116_0 := blk_frozen BK278.out 0
                      have hfz116_1 := blk_frozen BK278.out 1
                      have hfz116_2 := blk_frozen BK278.out 2
                      have hfz116_3 := blk_frozen BK278.out 3
                      have hfz116_4 := blk_frozen BK278.out 4
                      have hfz116_5 := blk_frozen BK278.out 5
                      have hnb117 := NB279_277.out
                      have hnc117 := NB277_279.out
                      have hcz118_0 : wc.cell? ⟨gb279, 0, none⟩ = some (.int .i64 a2_0) := (blk_cell BK279.out 0).trans rfl
                      have hcz118_1 : wc.cell? ⟨gb279, 1, none⟩ = some (.int .i64 a2_1) := (blk_cell BK279.out 1).trans rfl
                      have hcz118_2 : wc.cell? ⟨gb279, 2, none⟩ = some (.int .i64 a2_2) := (blk_cell BK279.out 2).trans rfl
                      have hcz118_3 : wc.cell? ⟨gb279, 3, none⟩ = some (.int .i64 a2_3) := (blk_cell BK279.out 3).trans rfl
                      have hcz118_4 : wc.cell? ⟨gb279, 4, none⟩ = some (.int .i64 a2_4) := (blk_cell BK279.out 4).trans rfl
                      have hcz118_5 : wc.cell? ⟨gb279, 5, none⟩ = some (.string a2_5) := (blk_cell BK279.out 5).trans rfl
                      have hfz118_0 := blk_frozen BK279.out 0
                      have hfz118_1 := blk_frozen BK279.out 1
                      have hfz118_2 := blk_frozen BK279.out 2
                      have hfz118_3 := blk_frozen BK279.out 3
                      have hfz118_4 := blk_frozen BK279.out 4
                      have hfz118_5 := blk_frozen BK279.out 5
                      go_wp2_with (first | (go_at_call 44; (with_reducible refine (txn_Better.calls kj37 a1_0 a1_1 a1_2 a1_3 a1_4 a1_5 a2_0 a2_1 a2_2 a2_3 a2_4 a2_5 true _ A108.out).mono ?_); rintro e w119 ⟨rfl, hb⟩; have n0_ := Aside0.mk (blk_below (g := gb277) (o := .cells #[.int .i64 a0_0, .int .i64 a0_1, .int .i64 a0_2, .int .i64 a0_3, .int .i64 a0_4, .string a0_5] 23 (0, 0)) (by (with_reducible repeat (first | refine blk_drewN ?_ _ | refine blk_drew ?_ | refine blk_alloc ?_ _)); exact BK277.out) hb); have n1_ := Aside0.mk (blk_below (g := gb278) (o := .cells #[.int .i64 a1_0, .int .i64 a1_1, .int .i64 a1_2, .int .i64 a1_3, .int .i64 a1_4, .string a1_5] 23 (0, 0)) (by (with_reducible repeat (first | refine blk_drewN ?_ _ | refine blk_drew ?_ | refine blk_alloc ?_ _)); exact BK278.out) hb); have n2_ := Aside0.mk (blk_below (g := gb279) (o := .cells #[.int .i64 a2_0, .int .i64 a2_1, .int .i64 a2_2, .int .i64 a2_3, .int .i64 a2_4, .string a2_5] 23 (0, 0)) (by (with_reducible repeat (first | refine blk_drewN ?_ _ | refine blk_drew ?_ | refine blk_alloc ?_ _)); exact BK279.out) hb); have n3_ := Aside0.mk (below_step (by repeat (first | (with_reducible first | exact HB.out | apply below_alloc | apply pw_below_drewN | apply below_drew1 | refine below_set ?_ GE277.out | refine below_set ?_ GE278.out | refine below_set ?_ GE279.out) | exact HB.out)) hb); clear BK277; clear BK278; clear BK279; clear HB; have BK277 := n0_; have BK278 := n1_; have BK279 := n2_; have HB := n3_; clear n0_ n1_ n2_ n3_; (try clear hb); (try clear hb2); (try clear hk); (try clear hi); have hcz120_0 : w119.cell? ⟨gb277, 0, none⟩ = some (.int .i64 a0_0) := (blk_cell BK277.out 0).trans rfl; have hcz120_1 : w119.cell? ⟨gb277, 1, none⟩ = some (.int .i64 a0_1) := (blk_cell BK277.out 1).trans rfl; have hcz120_2 : w119.cell? ⟨gb277, 2, none⟩ = some (.int .i64 a0_2) := (blk_cell BK277.out 2).trans rfl; have hcz120_3 : w119.cell? ⟨gb277, 3, none⟩ = some (.int .i64 a0_3) := (blk_cell BK277.out 3).trans rfl; have hcz120_4 : w119.cell? ⟨gb277, 4, none⟩ = some (.int .i64 a0_4) := (blk_cell BK277.out 4).trans rfl; have hcz120_5 : w119.cell? ⟨gb277, 5, none⟩ = some (.string a0_5) := (blk_cell BK277.out 5).trans rfl; have hfz120_0 := blk_frozen BK277.out 0; have hfz120_1 := blk_frozen BK277.out 1; have hfz120_2 := blk_frozen BK277.out 2; have hfz120_3 := blk_frozen BK277.out 3; have hfz120_4 := blk_frozen BK277.out 4; have hfz120_5 := blk_frozen BK277.out 5; have hcz121_0 : w119.cell? ⟨gb279, 0, none⟩ = some (.int .i64 a2_0) := (blk_cell BK279.out 0).trans rfl; have hcz121_1 : w119.cell? ⟨gb279, 1, none⟩ = some (.int .i64 a2_1) := (blk_cell BK279.out 1).trans rfl; have hcz121_2 : w119.cell? ⟨gb279, 2, none⟩ = some (.int .i64 a2_2) := (blk_cell BK279.out 2).trans rfl; have hcz121_3 : w119.cell? ⟨gb279, 3, none⟩ = some (.int .i64 a2_3) := (blk_cell BK279.out 3).trans rfl; have hcz121_4 : w119.cell? ⟨gb279, 4, none⟩ = some (.int .i64 a2_4) := (blk_cell BK279.out 4).trans rfl; have hcz121_5 : w119.cell? ⟨gb279, 5, none⟩ = some (.string a2_5) := (blk_cell BK279.out 5).trans rfl; have hfz121_0 := blk_frozen BK279.out 0; have hfz121_1 := blk_frozen BK279.out 1; have hfz121_2 := blk_frozen BK279.out 2; have hfz121_3 := blk_frozen BK279.out 3; have hfz121_4 := blk_frozen BK279.out 4; have hfz121_5 := blk_frozen BK279.out 5) | (go_at_call 44; (with_reducible refine (txn_Better.calls kj37 a0_0 a0_1 a0_2 a0_3 a0_4 a0_5 a2_0 a2_1 a2_2 a2_3 a2_4 a2_5 true _ A110.out).mono ?_); rintro e w122 ⟨rfl, hb⟩; have n0_ := Aside0.mk (blk_below (g := gb277) (o := .cells #[.int .i64 a0_0, .int .i64 a0_1, .int .i64 a0_2, .int .i64 a0_3, .int .i64 a0_4, .string a0_5] 23 (0, 0)) (by (with_reducible repeat (first | refine blk_drewN ?_ _ | refine blk_drew ?_ | refine blk_alloc ?_ _)); exact BK277.out) hb); have n1_ := Aside0.mk (blk_below (g := gb278) (o := .cells #[.int .i64 a1_0, .int .i64 a1_1, .int .i64 a1_2, .int .i64 a1_3, .int .i64 a1_4, .string a1_5] 23 (0, 0)) (by (with_reducible repeat (first | refine blk_drewN ?_ _ | refine blk_drew ?_ | refine blk_alloc ?_ _)); exact BK278.out) hb); have n2_ := Aside0.mk (blk_below (g := gb279) (o := .cells #[.int .i64 a2_0, .int .i64 a2_1, .int .i64 a2_2, .int .i64 a2_3, .int .i64 a2_4, .string a2_5] 23 (0, 0)) (by (with_reducible repeat (first | refine blk_drewN ?_ _ | refine blk_drew ?_ | refine blk_alloc ?_ _)); exact BK279.out) hb); have n3_ := Aside0.mk (below_step (by repeat (first | (with_reducible first | exact HB.out | apply below_alloc | apply pw_below_drewN | apply below_drew1 | refine below_set ?_ GE277.out | refine below_set ?_ GE278.out | refine below_set ?_ GE279.out) | exact HB.out)) hb); clear BK277; clear BK278; clear BK279; clear HB; have BK277 := n0_; have BK278 := n1_; have BK279 := n2_; have HB := n3_; clear n0_ n1_ n2_ n3_; (try clear hb); (try clear hb2); (try clear hk); (try clear hi); have hcz123_0 : w122.cell? ⟨gb277, 0, none⟩ = some (.int .i64 a0_0) := (blk_cell BK277.out 0).trans rfl; have hcz123_1 : w122.cell? ⟨gb277, 1, none⟩ = some (.int .i64 a0_1) := (blk_cell BK277.out 1).trans rfl; have hcz123_2 : w122.cell? ⟨gb277, 2, none⟩ = some (.int .i64 a0_2) := (blk_cell BK277.out 2).trans rfl; have hcz123_3 : w122.cell? ⟨gb277, 3, none⟩ = some (.int .i64 a0_3) := (blk_cell BK277.out 3).trans rfl; have hcz123_4 : w122.cell? ⟨gb277, 4, none⟩ = some (.int .i64 a0_4) := (blk_cell BK277.out 4).trans rfl; have hcz123_5 : w122.cell? ⟨gb277, 5, none⟩ = some (.string a0_5) := (blk_cell BK277.out 5).trans rfl; have hfz123_0 := blk_frozen BK277.out 0; have hfz123_1 := blk_frozen BK277.out 1; have hfz123_2 := blk_frozen BK277.out 2; have hfz123_3 := blk_frozen BK277.out 3; have hfz123_4 := blk_frozen BK277.out 4; have hfz123_5 := blk_frozen BK277.out 5; have hcz124_0 : w122.cell? ⟨gb278, 0, none⟩ = some (.int .i64 a1_0) := (blk_cell BK278.out 0).trans rfl; have hcz124_1 : w122.cell? ⟨gb278, 1, none⟩ = some (.int .i64 a1_1) := (blk_cell BK278.out 1).trans rfl; have hcz124_2 : w122.cell? ⟨gb278, 2, none⟩ = some (.int .i64 a1_2) := (blk_cell BK278.out 2).trans rfl; have hcz124_3 : w122.cell? ⟨gb278, 3, none⟩ = some (.int .i64 a1_3) := (blk_cell BK278.out 3).trans rfl; have hcz124_4 : w122.cell? ⟨gb278, 4, none⟩ = some (.int .i64 a1_4) := (blk_cell BK278.out 4).trans rfl; have hcz124_5 : w122.cell? ⟨gb278, 5, none⟩ = some (.string a1_5) := (blk_cell BK278.out 5).trans rfl; have hfz124_0 := blk_frozen BK278.out 0; have hfz124_1 := blk_frozen BK278.out 1; have hfz124_2 := blk_frozen BK278.out 2; have hfz124_3 := blk_frozen BK278.out 3; have hfz124_4 := blk_frozen BK278.out 4; have hfz124_5 := blk_frozen BK278.out 5) | (go_at_call 33; (with_reducible refine (hopperlaw04_live.calls kj37  t289 _ A113.out).mono ?_); rintro e w125 ⟨rfl, hb⟩; have n0_ := Aside0.mk (blk_below (g := gb277) (o := .cells #[.int .i64 a0_0, .int .i64 a0_1, .int .i64 a0_2, .int .i64 a0_3, .int .i64 a0_4, .string a0_5] 23 (0, 0)) (by (with_reducible repeat (first | refine blk_drewN ?_ _ | refine blk_drew ?_ | refine blk_alloc ?_ _)); exact BK277.out) hb); have n1_ := Aside0.mk (blk_below (g := gb278) (o := .cells #[.int .i64 a1_0, .int .i64 a1_1, .int .i64 a1_2, .int .i64 a1_3, .int .i64 a1_4, .string a1_5] 23 (0, 0)) (by (with_reducible repeat (first | refine blk_drewN ?_ _ | refine blk_drew ?_ | refine blk_alloc ?_ _)); exact BK278.out) hb); have n2_ := Aside0.mk (blk_below (g := gb279) (o := .cells #[.int .i64 a2_0, .int .i64 a2_1, .int .i64 a2_2, .int .i64 a2_3, .int .i64 a2_4, .string a2_5] 23 (0, 0)) (by (with_reducible repeat (first | refine blk_drewN ?_ _ | refine blk_drew ?_ | refine blk_alloc ?_ _)); exact BK279.out) hb); have n3_ := Aside0.mk (below_step (by repeat (first | (with_reducible first | exact HB.out | apply below_alloc | apply pw_below_drewN | apply below_drew1 | refine below_set ?_ GE277.out | refine below_set ?_ GE278.out | refine below_set ?_ GE279.out) | exact HB.out)) hb); clear BK277; clear BK278; clear BK279; clear HB; have BK277 := n0_; have BK278 := n1_; have BK279 := n2_; have HB := n3_; clear n0_ n1_ n2_ n3_; (try clear hb); (try clear hb2); (try clear hk); (try clear hi)))
                      go_ret
                      exact ⟨by first | rfl | (simp [errW_none, errW_some] <;> rfl) | (simp [*, errW_none, errW_some] <;> rfl), by repeat (first | (with_reducible first | exact HB.out | apply below_alloc | apply pw_below_drewN | apply below_drew1 | refine below_set ?_ GE277.out | refine below_set ?_ GE278.out | refine below_set ?_ GE279.out) | exact HB.out)⟩
                    · rw [if_neg c112] at H
                      have c112b0 : decide (a0_2 ≤ a1_2) = false := decide_eq_false c112
                      clear c112
                      replace H := Option.bind_eq_some_iff.mp H
                      obtain ⟨t290, A1260, H⟩ := H
                      replace H : (some t290) = some r := H
                      have A126 := Aside0.mk A1260
                      clear A1260
                      obtain rfl := Option.some.inj H
                      have hnb127 := NB278_277.out
                      have hnc127 := NB277_278.out
                      have hnb128 := NB278_279.out
                      have hnc128 := NB279_278.out
                      have hcz129_0 : wc.cell? ⟨gb278, 0, none⟩ = some (.int .i64 a1_0) := (blk_cell BK278.out 0).trans rfl
                      have hcz129_1 : wc.cell? ⟨gb278, 1, none⟩ = some (.int .i64 a1_1) := (blk_cell BK278.out 1).trans rfl
                      have hcz129_2 : wc.cell? ⟨gb278, 2, none⟩ = some (.int .i64 a1_2) := (blk_cell BK278.out 2).trans rfl
                      have hcz129_3 : wc.cell? ⟨gb278, 3, none⟩ = some (.int .i64 a1_3) := (blk_cell BK278.out 3).trans rfl
                      have hcz129_4 : wc.cell? ⟨gb278, 4, none⟩ = some (.int .i64 a1_4) := (blk_cell BK278.out 4).trans rfl
                      have hcz129_5 : wc.cell? ⟨gb278, 5, none⟩ = some (.string a1_5) := (blk_cell BK278.out 5).trans rfl
                      have hfz129_0 := blk_frozen BK278.out 0
                      have hfz129_1 := blk_frozen BK278.out 1
                      have hfz129_2 := blk_frozen BK278.out 2
                      have hfz129_3 := blk_frozen BK278.out 3
                      have hfz129_4 := blk_frozen BK278.out 4
                      have hfz129_5 := blk_frozen BK278.out 5
                      have hnb130 := NB279_277.out
                      have hnc130 := NB277_279.out
                      have hcz131_0 : wc.cell? ⟨gb279, 0, none⟩ = some (.int .i64 a2_0) := (blk_cell BK279.out 0).trans rfl
                      have hcz131_1 : wc.cell? ⟨gb279, 1, none⟩ = some (.int .i64 a2_1) := (blk_cell BK279.out 1).trans rfl
                      have hcz131_2 : wc.cell? ⟨gb279, 2, none⟩ = some (.int .i64 a2_2) := (blk_cell BK279.out 2).trans rfl
                      have hcz131_3 : wc.cell? ⟨gb279, 3, none⟩ = some (.int .i64 a2_3) := (blk_cell BK279.out 3).trans rfl
                      have hcz131_4 : wc.cell? ⟨gb279, 4, none⟩ = some (.int .i64 a2_4) := (blk_cell BK279.out 4).trans rfl
                      have hcz131_5 : wc.cell? ⟨gb279, 5, none⟩ = some (.string a2_5) := (blk_cell BK279.out 5).trans rfl
                      have hfz131_0 := blk_frozen BK279.out 0
                      have hfz131_1 := blk_frozen BK279.out 1
                      have hfz131_2 := blk_frozen BK279.out 2
                      have hfz131_3 := blk_frozen BK279.out 3
                      have hfz131_4 := blk_frozen BK279.out 4
                      have hfz131_5 := blk_frozen BK279.out 5
                      go_wp2_with (first | (go_at_call 44; (with_reducible refine (txn_Better.calls kj37 a1_0 a1_1 a1_2 a1_3 a1_4 a1_5 a2_0 a2_1 a2_2 a2_3 a2_4 a2_5 true _ A108.out).mono ?_); rintro e w132 ⟨rfl, hb⟩; have n0_ := Aside0.mk (blk_below (g := gb277) (o := .cells #[.int .i64 a0_0, .int .i64 a0_1, .int .i64 a0_2, .int .i64 a0_3, .int .i64 a0_4, .string a0_5] 23 (0, 0)) (by (with_reducible repeat (first | refine blk_drewN ?_ _ | refine blk_drew ?_ | refine blk_alloc ?_ _)); exact BK277.out) hb); have n1_ := Aside0.mk (blk_below (g := gb278) (o := .cells #[.int .i64 a1_0, .int .i64 a1_1, .int .i64 a1_2, .int .i64 a1_3, .int .i64 a1_4, .string a1_5] 23 (0, 0)) (by (with_reducible repeat (first | refine blk_drewN ?_ _ | refine blk_drew ?_ | refine blk_alloc ?_ _)); exact BK278.out) hb); have n2_ := Aside0.mk (blk_below (g := gb279) (o := .cells #[.int .i64 a2_0, .int .i64 a2_1, .int .i64 a2_2, .int .i64 a2_3, .int .i64 a2_4, .string a2_5] 23 (0, 0)) (by (with_reducible repeat (first | refine blk_drewN ?_ _ | refine blk_drew ?_ | refine blk_alloc ?_ _)); exact BK279.out) hb); have n3_ := Aside0.mk (below_step (by repeat (first | (with_reducible first | exact HB.out | apply below_alloc | apply pw_below_drewN | apply below_drew1 | refine below_set ?_ GE277.out | refine below_set ?_ GE278.out | refine below_set ?_ GE279.out) | exact HB.out)) hb); clear BK277; clear BK278; clear BK279; clear HB; have BK277 := n0_; have BK278 := n1_; have BK279 := n2_; have HB := n3_; clear n0_ n1_ n2_ n3_; (try clear hb); (try clear hb2); (try clear hk); (try clear hi); have hcz133_0 : w132.cell? ⟨gb277, 0, none⟩ = some (.int .i64 a0_0) := (blk_cell BK277.out 0).trans rfl; have hcz133_1 : w132.cell? ⟨gb277, 1, none⟩ = some (.int .i64 a0_1) := (blk_cell BK277.out 1).trans rfl; have hcz133_2 : w132.cell? ⟨gb277, 2, none⟩ = some (.int .i64 a0_2) := (blk_cell BK277.out 2).trans rfl; have hcz133_3 : w132.cell? ⟨gb277, 3, none⟩ = some (.int .i64 a0_3) := (blk_cell BK277.out 3).trans rfl; have hcz133_4 : w132.cell? ⟨gb277, 4, none⟩ = some (.int .i64 a0_4) := (blk_cell BK277.out 4).trans rfl; have hcz133_5 : w132.cell? ⟨gb277, 5, none⟩ = some (.string a0_5) := (blk_cell BK277.out 5).trans rfl; have hfz133_0 := blk_frozen BK277.out 0; have hfz133_1 := blk_frozen BK277.out 1; have hfz133_2 := blk_frozen BK277.out 2; have hfz133_3 := blk_frozen BK277.out 3; have hfz133_4 := blk_frozen BK277.out 4; have hfz133_5 := blk_frozen BK277.out 5; have hcz134_0 : w132.cell? ⟨gb279, 0, none⟩ = some (.int .i64 a2_0) := (blk_cell BK279.out 0).trans rfl; have hcz134_1 : w132.cell? ⟨gb279, 1, none⟩ = some (.int .i64 a2_1) := (blk_cell BK279.out 1).trans rfl; have hcz134_2 : w132.cell? ⟨gb279, 2, none⟩ = some (.int .i64 a2_2) := (blk_cell BK279.out 2).trans rfl; have hcz134_3 : w132.cell? ⟨gb279, 3, none⟩ = some (.int .i64 a2_3) := (blk_cell BK279.out 3).trans rfl; have hcz134_4 : w132.cell? ⟨gb279, 4, none⟩ = some (.int .i64 a2_4) := (blk_cell BK279.out 4).trans rfl; have hcz134_5 : w132.cell? ⟨gb279, 5, none⟩ = some (.string a2_5) := (blk_cell BK279.out 5).trans rfl; have hfz134_0 := blk_frozen BK279.out 0; have hfz134_1 := blk_frozen BK279.out 1; have hfz134_2 := blk_frozen BK279.out 2; have hfz134_3 := blk_frozen BK279.out 3; have hfz134_4 := blk_frozen BK279.out 4; have hfz134_5 := blk_frozen BK279.out 5) | (go_at_call 44; (with_reducible refine (txn_Better.calls kj37 a0_0 a0_1 a0_2 a0_3 a0_4 a0_5 a2_0 a2_1 a2_2 a2_3 a2_4 a2_5 true _ A110.out).mono ?_); rintro e w135 ⟨rfl, hb⟩; have n0_ := Aside0.mk (blk_below (g := gb277) (o := .cells #[.int .i64 a0_0, .int .i64 a0_1, .int .i64 a0_2, .int .i64 a0_3, .int .i64 a0_4, .string a0_5] 23 (0, 0)) (by (with_reducible repeat (first | refine blk_drewN ?_ _ | refine blk_drew ?_ | refine blk_alloc ?_ _)); exact BK277.out) hb); have n1_ := Aside0.mk (blk_below (g := gb278) (o := .cells #[.int .i64 a1_0, .int .i64 a1_1, .int .i64 a1_2, .int .i64 a1_3, .int .i64 a1_4, .string a1_5] 23 (0, 0)) (by (with_reducible repeat (first | refine blk_drewN ?_ _ | refine blk_drew ?_ | refine blk_alloc ?_ _)); exact BK278.out) hb); have n2_ := Aside0.mk (blk_below (g := gb279) (o := .cells #[.int .i64 a2_0, .int .i64 a2_1, .int .i64 a2_2, .int .i64 a2_3, .int .i64 a2_4, .string a2_5] 23 (0, 0)) (by (with_reducible repeat (first | refine blk_drewN ?_ _ | refine blk_drew ?_ | refine blk_alloc ?_ _)); exact BK279.out) hb); have n3_ := Aside0.mk (below_step (by repeat (first | (with_reducible first | exact HB.out | apply below_alloc | apply pw_below_drewN | apply below_drew1 | refine below_set ?_ GE277.out | refine below_set ?_ GE278.out | refine below_set ?_ GE279.out) | exact HB.out)) hb); clear BK277; clear BK278; clear BK279; clear HB; have BK277 := n0_; have BK278 := n1_; have BK279 := n2_; have HB := n3_; clear n0_ n1_ n2_ n3_; (try clear hb); (try clear hb2); (try clear hk); (try clear hi); have hcz136_0 : w135.cell? ⟨gb277, 0, none⟩ = some (.int .i64 a0_0) := (blk_cell BK277.out 0).trans rfl; have hcz136_1 : w135.cell? ⟨gb277, 1, none⟩ = some (.int .i64 a0_1) := (blk_cell BK277.out 1).trans rfl; have hcz136_2 : w135.cell? ⟨gb277, 2, none⟩ = some (.int .i64 a0_2) := (blk_cell BK277.out 2).trans rfl; have hcz136_3 : w135.cell? ⟨gb277, 3, none⟩ = some (.int .i64 a0_3) := (blk_cell BK277.out 3).trans rfl; have hcz136_4 : w135.cell? ⟨gb277, 4, none⟩ = some (.int .i64 a0_4) := (blk_cell BK277.out 4).trans rfl; have hcz136_5 : w135.cell? ⟨gb277, 5, none⟩ = some (.string a0_5) := (blk_cell BK277.out 5).trans rfl; have hfz136_0 := blk_frozen BK277.out 0; have hfz136_1 := blk_frozen BK277.out 1; have hfz136_2 := blk_frozen BK277.out 2; have hfz136_3 := blk_frozen BK277.out 3; have hfz136_4 := blk_frozen BK277.out 4; have hfz136_5 := blk_frozen BK277.out 5; have hcz137_0 : w135.cell? ⟨gb278, 0, none⟩ = some (.int .i64 a1_0) := (blk_cell BK278.out 0).trans rfl; have hcz137_1 : w135.cell? ⟨gb278, 1, none⟩ = some (.int .i64 a1_1) := (blk_cell BK278.out 1).trans rfl; have hcz137_2 : w135.cell? ⟨gb278, 2, none⟩ = some (.int .i64 a1_2) := (blk_cell BK278.out 2).trans rfl; have hcz137_3 : w135.cell? ⟨gb278, 3, none⟩ = some (.int .i64 a1_3) := (blk_cell BK278.out 3).trans rfl; have hcz137_4 : w135.cell? ⟨gb278, 4, none⟩ = some (.int .i64 a1_4) := (blk_cell BK278.out 4).trans rfl; have hcz137_5 : w135.cell? ⟨gb278, 5, none⟩ = some (.string a1_5) := (blk_cell BK278.out 5).trans rfl; have hfz137_0 := blk_frozen BK278.out 0; have hfz137_1 := blk_frozen BK278.out 1; have hfz137_2 := blk_frozen BK278.out 2; have hfz137_3 := blk_frozen BK278.out 3; have hfz137_4 := blk_frozen BK278.out 4; have hfz137_5 := blk_frozen BK278.out 5) | (go_at_call 33; (with_reducible refine (hopperlaw04_live.calls kj37  t290 _ A126.out).mono ?_); rintro e w138 ⟨rfl, hb⟩; have n0_ := Aside0.mk (blk_below (g := gb277) (o := .cells #[.int .i64 a0_0, .int .i64 a0_1, .int .i64 a0_2, .int .i64 a0_3, .int .i64 a0_4, .string a0_5] 23 (0, 0)) (by (with_reducible repeat (first | refine blk_drewN ?_ _ | refine blk_drew ?_ | refine blk_alloc ?_ _)); exact BK277.out) hb); have n1_ := Aside0.mk (blk_below (g := gb278) (o := .cells #[.int .i64 a1_0, .int .i64 a1_1, .int .i64 a1_2, .int .i64 a1_3, .int .i64 a1_4, .string a1_5] 23 (0, 0)) (by (with_reducible repeat (first | refine blk_drewN ?_ _ | refine blk_drew ?_ | refine blk_alloc ?_ _)); exact BK278.out) hb); have n2_ := Aside0.mk (blk_below (g := gb279) (o := .cells #[.int .i64 a2_0, .int .i64 a2_1, .int .i64 a2_2, .int .i64 a2_3, .int .i64 a2_4, .string a2_5] 23 (0, 0)) (by (with_reducible repeat (first | refine blk_drewN ?_ _ | refine blk_drew ?_ | refine blk_alloc ?_ _)); exact BK279.out) hb); have n3_ := Aside0.mk (below_step (by repeat (first | (with_reducible first | exact HB.out | apply below_alloc | apply pw_below_drewN | apply below_drew1 | refine below_set ?_ GE277.out | refine below_set ?_ GE278.out | refine below_set ?_ GE279.out) | exact HB.out)) hb); clear BK277; clear BK278; clear BK279; clear HB; have BK277 := n0_; have BK278 := n1_; have BK279 := n2_; have HB := n3_; clear n0_ n1_ n2_ n3_; (try clear hb); (try clear hb2); (try clear hk); (try clear hi)))
                      go_ret
                      exact ⟨by first | rfl | (simp [errW_none, errW_some] <;> rfl) | (simp [*, errW_none, errW_some] <;> rfl), by repeat (first | (with_reducible first | exact HB.out | apply below_alloc | apply pw_below_drewN | apply below_drew1 | refine below_set ?_ GE277.out | refine below_set ?_ GE278.out | refine below_set ?_ GE279.out) | exact HB.out)⟩
                  · replace c111 := Bool.eq_false_iff.mpr c111
                    subst c111
                    have H1 : (none) = some r := by rw [if_neg (show ¬ (false = true) by decide)] at H; exact H
                    clear H
                    have H := H1
                    clear H1
                    exact absurd H (by simp)
                · replace c109 := Bool.eq_false_iff.mpr c109
                  subst c109
                  have H1 : (if a0_2 ≤ a1_2 then ((hopperlaw04_live.f kj37).bind fun t291 => (some t291)) else ((hopperlaw04_live.f kj37).bind fun t292 => (some t292))) = some r := by rw [if_neg (show ¬ (false = true) by decide)] at H; exact H
                  clear H
                  have H := H1
                  clear H1
                  by_cases c139 : a0_2 ≤ a1_2
                  · rw [if_pos c139] at H
                    have c139b0 : decide (a0_2 ≤ a1_2) = true := decide_eq_true c139
                    clear c139
                    replace H := Option.bind_eq_some_iff.mp H
                    obtain ⟨t291, A1400, H⟩ := H
                    replace H : (some t291) = some r := H
                    have A140 := Aside0.mk A1400
                    clear A1400
                    obtain rfl := Option.some.inj H
                    have hnb141 := NB278_277.out
                    have hnc141 := NB277_278.out
                    have hnb142 := NB278_279.out
                    have hnc142 := NB279_278.out
                    have hcz143_0 : wc.cell? ⟨gb278, 0, none⟩ = some (.int .i64 a1_0) := (blk_cell BK278.out 0).trans rfl
                    have hcz143_1 : wc.cell? ⟨gb278, 1, none⟩ = some (.int .i64 a1_1) := (blk_cell BK278.out 1).trans rfl
                    have hcz143_2 : wc.cell? ⟨gb278, 2, none⟩ = some (.int .i64 a1_2) := (blk_cell BK278.out 2).trans rfl
                    have hcz143_3 : wc.cell? ⟨gb278, 3, none⟩ = some (.int .i64 a1_3) := (blk_cell BK278.out 3).trans rfl
                    have hcz143_4 : wc.cell? ⟨gb278, 4, none⟩ = some (.int .i64 a1_4) := (blk_cell BK278.out 4).trans rfl
                    have hcz143_5 : wc.cell? ⟨gb278, 5, none⟩ = some (.string a1_5) := (blk_cell BK278.out 5).trans rfl
                    have hfz143_0 := blk_frozen BK278.out 0
                    have hfz143_1 := blk_frozen BK278.out 1
                    have hfz143_2 := blk_frozen BK278.out 2
                    have hfz143_3 := blk_frozen BK278.out 3
                    have hfz143_4 := blk_frozen BK278.out 4
                    have hfz143_5 := blk_frozen BK278.out 5
                    have hnb144 := NB279_277.out
                    have hnc144 := NB277_279.out
                    have hcz145_0 : wc.cell? ⟨gb279, 0, none⟩ = some (.int .i64 a2_0) := (blk_cell BK279.out 0).trans rfl
                    have hcz145_1 : wc.cell? ⟨gb279, 1, none⟩ = some (.int .i64 a2_1) := (blk_cell BK279.out 1).trans rfl
                    have hcz145_2 : wc.cell? ⟨gb279, 2, none⟩ = some (.int .i64 a2_2) := (blk_cell BK279.out 2).trans rfl
                    have hcz145_3 : wc.cell? ⟨gb279, 3, none⟩ = some (.int .i64 a2_3) := (blk_cell BK279.out 3).trans rfl
                    have hcz145_4 : wc.cell? ⟨gb279, 4, none⟩ = some (.int .i64 a2_4) := (blk_cell BK279.out 4).trans rfl
                    have hcz145_5 : wc.cell? ⟨gb279, 5, none⟩ = some (.string a2_5) := (blk_cell BK279.out 5).trans rfl
                    have hfz145_0 := blk_frozen BK279.out 0
                    have hfz145_1 := blk_frozen BK279.out 1
                    have hfz145_2 := blk_frozen BK279.out 2
                    have hfz145_3 := blk_frozen BK279.out 3
                    have hfz145_4 := blk_frozen BK279.out 4
                    have hfz145_5 := blk_frozen BK279.out 5
                    go_wp2_with (first | (go_at_call 44; (with_reducible refine (txn_Better.calls kj37 a1_0 a1_1 a1_2 a1_3 a1_4 a1_5 a2_0 a2_1 a2_2 a2_3 a2_4 a2_5 false _ A108.out).mono ?_); rintro e w146 ⟨rfl, hb⟩; have n0_ := Aside0.mk (blk_below (g := gb277) (o := .cells #[.int .i64 a0_0, .int .i64 a0_1, .int .i64 a0_2, .int .i64 a0_3, .int .i64 a0_4, .string a0_5] 23 (0, 0)) (by (with_reducible repeat (first | refine blk_drewN ?_ _ | refine blk_drew ?_ | refine blk_alloc ?_ _)); exact BK277.out) hb); have n1_ := Aside0.mk (blk_below (g := gb278) (o := .cells #[.int .i64 a1_0, .int .i64 a1_1, .int .i64 a1_2, .int .i64 a1_3, .int .i64 a1_4, .string a1_5] 23 (0, 0)) (by (with_reducible repeat (first | refine blk_drewN ?_ _ | refine blk_drew ?_ | refine blk_alloc ?_ _)); exact BK278.out) hb); have n2_ := Aside0.mk (blk_below (g := gb279) (o := .cells #[.int .i64 a2_0, .int .i64 a2_1, .int .i64 a2_2, .int .i64 a2_3, .int .i64 a2_4, .string a2_5] 23 (0, 0)) (by (with_reducible repeat (first | refine blk_drewN ?_ _ | refine blk_drew ?_ | refine blk_alloc ?_ _)); exact BK279.out) hb); have n3_ := Aside0.mk (below_step (by repeat (first | (with_reducible first | exact HB.out | apply below_alloc | apply pw_below_drewN | apply below_drew1 | refine below_set ?_ GE277.out | refine below_set ?_ GE278.out | refine below_set ?_ GE279.out) | exact HB.out)) hb); clear BK277; clear BK278; clear BK279; clear HB; have BK277 := n0_; have BK278 := n1_; have BK279 := n2_; have HB := n3_; clear n0_ n1_ n2_ n3_; (try clear hb); (try clear hb2); (try clear hk); (try clear hi); have hcz147_0 : w146.cell? ⟨gb277, 0, none⟩ = some (.int .i64 a0_0) := (blk_cell BK277.out 0).trans rfl; have hcz147_1 : w146.cell? ⟨gb277, 1, none⟩ = some (.int .i64 a0_1) := (blk_cell BK277.out 1).trans rfl; have hcz147_2 : w146.cell? ⟨gb277, 2, none⟩ = some (.int .i64 a0_2) := (blk_cell BK277.out 2).trans rfl; have hcz147_3 : w146.cell? ⟨gb277, 3, none⟩ = some (.int .i64 a0_3) := (blk_cell BK277.out 3).trans rfl; have hcz147_4 : w146.cell? ⟨gb277, 4, none⟩ = some (.int .i64 a0_4) := (blk_cell BK277.out 4).trans rfl; have hcz147_5 : w146.cell? ⟨gb277, 5, none⟩ = some (.string a0_5) := (blk_cell BK277.out 5).trans rfl; have hfz147_0 := blk_frozen BK277.out 0; have hfz147_1 := blk_frozen BK277.out 1; have hfz147_2 := blk_frozen BK277.out 2; have hfz147_3 := blk_frozen BK277.out 3; have hfz147_4 := blk_frozen BK277.out 4; have hfz147_5 := blk_frozen BK277.out 5; have hcz148_0 : w146.cell? ⟨gb278, 0, none⟩ = some (.int .i64 a1_0) := (blk_cell BK278.out 0).trans rfl; have hcz148_1 : w146.cell? ⟨gb278, 1, none⟩ = some (.int .i64 a1_1) := (blk_cell BK278.out 1).trans rfl; have hcz148_2 : w146.cell? ⟨gb278, 2, none⟩ = some (.int .i64 a1_2) := (blk_cell BK278.out 2).trans rfl; have hcz148_3 : w146.cell? ⟨gb278, 3, none⟩ = some (.int .i64 a1_3) := (blk_cell BK278.out 3).trans rfl; have hcz148_4 : w146.cell? ⟨gb278, 4, none⟩ = some (.int .i64 a1_4) := (blk_cell BK278.out 4).trans rfl; have hcz148_5 : w146.cell? ⟨gb278, 5, none⟩ = some (.string a1_5) := (blk_cell BK278.out 5).trans rfl; have hfz148_0 := blk_frozen BK278.out 0; have hfz148_1 := blk_frozen BK278.out 1; have hfz148_2 := blk_frozen BK278.out 2; have hfz148_3 := blk_frozen BK278.out 3; have hfz148_4 := blk_frozen BK278.out 4; have hfz148_5 := blk_frozen BK278.out 5) | (go_at_call 33; (with_reducible refine (hopperlaw04_live.calls kj37  t291 _ A140.out).mono ?_); rintro e w149 ⟨rfl, hb⟩; have n0_ := Aside0.mk (blk_below (g := gb277) (o := .cells #[.int .i64 a0_0, .int .i64 a0_1, .int .i64 a0_2, .int .i64 a0_3, .int .i64 a0_4, .string a0_5] 23 (0, 0)) (by (with_reducible repeat (first | refine blk_drewN ?_ _ | refine blk_drew ?_ | refine blk_alloc ?_ _)); exact BK277.out) hb); have n1_ := Aside0.mk (blk_below (g := gb278) (o := .cells #[.int .i64 a1_0, .int .i64 a1_1, .int .i64 a1_2, .int .i64 a1_3, .int .i64 a1_4, .string a1_5] 23 (0, 0)) (by (with_reducible repeat (first | refine blk_drewN ?_ _ | refine blk_drew ?_ | refine blk_alloc ?_ _)); exact BK278.out) hb); have n2_ := Aside0.mk (blk_below (g := gb279) (o := .cells #[.int .i64 a2_0, .int .i64 a2_1, .int .i64 a2_2, .int .i64 a2_3, .int .i64 a2_4, .string a2_5] 23 (0, 0)) (by (with_reducible repeat (first | refine blk_drewN ?_ _ | refine blk_drew ?_ | refine blk_alloc ?_ _)); exact BK279.out) hb); have n3_ := Aside0.mk (below_step (by repeat (first | (with_reducible first | exact HB.out | apply below_alloc | apply pw_below_drewN | apply below_drew1 | refine below_set ?_ GE277.out | refine below_set ?_ GE278.out | refine below_set ?_ GE279.out) | exact HB.out)) hb); clear BK277; clear BK278; clear BK279; clear HB; have BK277 := n0_; have BK278 := n1_; have BK279 := n2_; have HB := n3_; clear n0_ n1_ n2_ n3_; (try clear hb); (try clear hb2); (try clear hk); (try clear hi)))
                    go_ret
                    exact ⟨by first | rfl | (simp [errW_none, errW_some] <;> rfl) | (simp [*, errW_none, errW_some] <;> rfl), by repeat (first | (with_reducible first | exact HB.out | apply below_alloc | apply pw_below_drewN | apply below_drew1 | refine below_set ?_ GE277.out | refine below_set ?_ GE278.out | refine below_set ?_ GE279.out) | exact HB.out)⟩
                  · rw [if_neg c139] at H
                    have c139b0 : decide (a0_2 ≤ a1_2) = false := decide_eq_false c139
                    clear c139
                    replace H := Option.bind_eq_some_iff.mp H
                    obtain ⟨t292, A1500, H⟩ := H
                    replace H : (some t292) = some r := H
                    have A150 := Aside0.mk A1500
                    clear A1500
                    obtain rfl := Option.some.inj H
                    have hnb151 := NB278_277.out
                    have hnc151 := NB277_278.out
                    have hnb152 := NB278_279.out
                    have hnc152 := NB279_278.out
                    have hcz153_0 : wc.cell? ⟨gb278, 0, none⟩ = some (.int .i64 a1_0) := (blk_cell BK278.out 0).trans rfl
                    have hcz153_1 : wc.cell? ⟨gb278, 1, none⟩ = some (.int .i64 a1_1) := (blk_cell BK278.out 1).trans rfl
                    have hcz153_2 : wc.cell? ⟨gb278, 2, none⟩ = some (.int .i64 a1_2) := (blk_cell BK278.out 2).trans rfl
                    have hcz153_3 : wc.cell? ⟨gb278, 3, none⟩ = some (.int .i64 a1_3) := (blk_cell BK278.out 3).trans rfl
                    have hcz153_4 : wc.cell? ⟨gb278, 4, none⟩ = some (.int .i64 a1_4) := (blk_cell BK278.out 4).trans rfl
                    have hcz153_5 : wc.cell? ⟨gb278, 5, none⟩ = some (.string a1_5) := (blk_cell BK278.out 5).trans rfl
                    have hfz153_0 := blk_frozen BK278.out 0
                    have hfz153_1 := blk_frozen BK278.out 1
                    have hfz153_2 := blk_frozen BK278.out 2
                    have hfz153_3 := blk_frozen BK278.out 3
                    have hfz153_4 := blk_frozen BK278.out 4
                    have hfz153_5 := blk_frozen BK278.out 5
                    have hnb154 := NB279_277.out
                    have hnc154 := NB277_279.out
                    have hcz155_0 : wc.cell? ⟨gb279, 0, none⟩ = some (.int .i64 a2_0) := (blk_cell BK279.out 0).trans rfl
                    have hcz155_1 : wc.cell? ⟨gb279, 1, none⟩ = some (.int .i64 a2_1) := (blk_cell BK279.out 1).trans rfl
                    have hcz155_2 : wc.cell? ⟨gb279, 2, none⟩ = some (.int .i64 a2_2) := (blk_cell BK279.out 2).trans rfl
                    have hcz155_3 : wc.cell? ⟨gb279, 3, none⟩ = some (.int .i64 a2_3) := (blk_cell BK279.out 3).trans rfl
                    have hcz155_4 : wc.cell? ⟨gb279, 4, none⟩ = some (.int .i64 a2_4) := (blk_cell BK279.out 4).trans rfl
                    have hcz155_5 : wc.cell? ⟨gb279, 5, none⟩ = some (.string a2_5) := (blk_cell BK279.out 5).trans rfl
                    have hfz155_0 := blk_frozen BK279.out 0
                    have hfz155_1 := blk_frozen BK279.out 1
                    have hfz155_2 := blk_frozen BK279.out 2
                    have hfz155_3 := blk_frozen BK279.out 3
                    have hfz155_4 := blk_frozen BK279.out 4
                    have hfz155_5 := blk_frozen BK279.out 5
                    go_wp2_with (first | (go_at_call 44; (with_reducible refine (txn_Better.calls kj37 a1_0 a1_1 a1_2 a1_3 a1_4 a1_5 a2_0 a2_1 a2_2 a2_3 a2_4 a2_5 false _ A108.out).mono ?_); rintro e w156 ⟨rfl, hb⟩; have n0_ := Aside0.mk (blk_below (g := gb277) (o := .cells #[.int .i64 a0_0, .int .i64 a0_1, .int .i64 a0_2, .int .i64 a0_3, .int .i64 a0_4, .string a0_5] 23 (0, 0)) (by (with_reducible repeat (first | refine blk_drewN ?_ _ | refine blk_drew ?_ | refine blk_alloc ?_ _)); exact BK277.out) hb); have n1_ := Aside0.mk (blk_below (g := gb278) (o := .cells #[.int .i64 a1_0, .int .i64 a1_1, .int .i64 a1_2, .int .i64 a1_3, .int .i64 a1_4, .string a1_5] 23 (0, 0)) (by (with_reducible repeat (first | refine blk_drewN ?_ _ | refine blk_drew ?_ | refine blk_alloc ?_ _)); exact BK278.out) hb); have n2_ := Aside0.mk (blk_below (g := gb279) (o := .cells #[.int .i64 a2_0, .int .i64 a2_1, .int .i64 a2_2, .int .i64 a2_3, .int .i64 a2_4, .string a2_5] 23 (0, 0)) (by (with_reducible repeat (first | refine blk_drewN ?_ _ | refine blk_drew ?_ | refine blk_alloc ?_ _)); exact BK279.out) hb); have n3_ := Aside0.mk (below_step (by repeat (first | (with_reducible first | exact HB.out | apply below_alloc | apply pw_below_drewN | apply below_drew1 | refine below_set ?_ GE277.out | refine below_set ?_ GE278.out | refine below_set ?_ GE279.out) | exact HB.out)) hb); clear BK277; clear BK278; clear BK279; clear HB; have BK277 := n0_; have BK278 := n1_; have BK279 := n2_; have HB := n3_; clear n0_ n1_ n2_ n3_; (try clear hb); (try clear hb2); (try clear hk); (try clear hi); have hcz157_0 : w156.cell? ⟨gb277, 0, none⟩ = some (.int .i64 a0_0) := (blk_cell BK277.out 0).trans rfl; have hcz157_1 : w156.cell? ⟨gb277, 1, none⟩ = some (.int .i64 a0_1) := (blk_cell BK277.out 1).trans rfl; have hcz157_2 : w156.cell? ⟨gb277, 2, none⟩ = some (.int .i64 a0_2) := (blk_cell BK277.out 2).trans rfl; have hcz157_3 : w156.cell? ⟨gb277, 3, none⟩ = some (.int .i64 a0_3) := (blk_cell BK277.out 3).trans rfl; have hcz157_4 : w156.cell? ⟨gb277, 4, none⟩ = some (.int .i64 a0_4) := (blk_cell BK277.out 4).trans rfl; have hcz157_5 : w156.cell? ⟨gb277, 5, none⟩ = some (.string a0_5) := (blk_cell BK277.out 5).trans rfl; have hfz157_0 := blk_frozen BK277.out 0; have hfz157_1 := blk_frozen BK277.out 1; have hfz157_2 := blk_frozen BK277.out 2; have hfz157_3 := blk_frozen BK277.out 3; have hfz157_4 := blk_frozen BK277.out 4; have hfz157_5 := blk_frozen BK277.out 5; have hcz158_0 : w156.cell? ⟨gb278, 0, none⟩ = some (.int .i64 a1_0) := (blk_cell BK278.out 0).trans rfl; have hcz158_1 : w156.cell? ⟨gb278, 1, none⟩ = some (.int .i64 a1_1) := (blk_cell BK278.out 1).trans rfl; have hcz158_2 : w156.cell? ⟨gb278, 2, none⟩ = some (.int .i64 a1_2) := (blk_cell BK278.out 2).trans rfl; have hcz158_3 : w156.cell? ⟨gb278, 3, none⟩ = some (.int .i64 a1_3) := (blk_cell BK278.out 3).trans rfl; have hcz158_4 : w156.cell? ⟨gb278, 4, none⟩ = some (.int .i64 a1_4) := (blk_cell BK278.out 4).trans rfl; have hcz158_5 : w156.cell? ⟨gb278, 5, none⟩ = some (.string a1_5) := (blk_cell BK278.out 5).trans rfl; have hfz158_0 := blk_frozen BK278.out 0; have hfz158_1 := blk_frozen BK278.out 1; have hfz158_2 := blk_frozen BK278.out 2; have hfz158_3 := blk_frozen BK278.out 3; have hfz158_4 := blk_frozen BK278.out 4; have hfz158_5 := blk_frozen BK278.out 5) | (go_at_call 33; (with_reducible refine (hopperlaw04_live.calls kj37  t292 _ A150.out).mono ?_); rintro e w159 ⟨rfl, hb⟩; have n0_ := Aside0.mk (blk_below (g := gb277) (o := .cells #[.int .i64 a0_0, .int .i64 a0_1, .int .i64 a0_2, .int .i64 a0_3, .int .i64 a0_4, .string a0_5] 23 (0, 0)) (by (with_reducible repeat (first | refine blk_drewN ?_ _ | refine blk_drew ?_ | refine blk_alloc ?_ _)); exact BK277.out) hb); have n1_ := Aside0.mk (blk_below (g := gb278) (o := .cells #[.int .i64 a1_0, .int .i64 a1_1, .int .i64 a1_2, .int .i64 a1_3, .int .i64 a1_4, .string a1_5] 23 (0, 0)) (by (with_reducible repeat (first | refine blk_drewN ?_ _ | refine blk_drew ?_ | refine blk_alloc ?_ _)); exact BK278.out) hb); have n2_ := Aside0.mk (blk_below (g := gb279) (o := .cells #[.int .i64 a2_0, .int .i64 a2_1, .int .i64 a2_2, .int .i64 a2_3, .int .i64 a2_4, .string a2_5] 23 (0, 0)) (by (with_reducible repeat (first | refine blk_drewN ?_ _ | refine blk_drew ?_ | refine blk_alloc ?_ _)); exact BK279.out) hb); have n3_ := Aside0.mk (below_step (by repeat (first | (with_reducible first | exact HB.out | apply below_alloc | apply pw_below_drewN | apply below_drew1 | refine below_set ?_ GE277.out | refine below_set ?_ GE278.out | refine below_set ?_ GE279.out) | exact HB.out)) hb); clear BK277; clear BK278; clear BK279; clear HB; have BK277 := n0_; have BK278 := n1_; have BK279 := n2_; have HB := n3_; clear n0_ n1_ n2_ n3_; (try clear hb); (try clear hb2); (try clear hk); (try clear hi)))
                    go_ret
                    exact ⟨by first | rfl | (simp [errW_none, errW_some] <;> rfl) | (simp [*, errW_none, errW_some] <;> rfl), by repeat (first | (with_reducible first | exact HB.out | apply below_alloc | apply pw_below_drewN | apply below_drew1 | refine below_set ?_ GE277.out | refine below_set ?_ GE278.out | refine below_set ?_ GE279.out) | exact HB.out)⟩
              · replace c107 := Bool.eq_false_iff.mpr c107
                subst c107
                have H1 : (if a0_2 ≤ a1_2 then ((hopperlaw04_live.f kj37).bind fun t293 => (some t293)) else (none)) = some r := by rw [if_neg (show ¬ (false = true) by decide)] at H; exact H
                clear H
                have H := H1
                clear H1
                by_cases c160 : a0_2 ≤ a1_2
                · rw [if_pos c160] at H
                  have c160b0 : decide (a0_2 ≤ a1_2) = true := decide_eq_true c160
                  clear c160
                  replace H := Option.bind_eq_some_iff.mp H
                  obtain ⟨t293, A1610, H⟩ := H
                  replace H : (some t293) = some r := H
                  have A161 := Aside0.mk A1610
                  clear A1610
                  obtain rfl := Option.some.inj H
                  have hnb162 := NB277_278.out
                  have hnc162 := NB278_277.out
                  have hnb163 := NB277_279.out
                  have hnc163 := NB279_277.out
                  have hcz164_0 : wc.cell? ⟨gb277, 0, none⟩ = some (.int .i64 a0_0) := (blk_cell BK277.out 0).trans rfl
                  have hcz164_1 : wc.cell? ⟨gb277, 1, none⟩ = some (.int .i64 a0_1) := (blk_cell BK277.out 1).trans rfl
                  have hcz164_2 : wc.cell? ⟨gb277, 2, none⟩ = some (.int .i64 a0_2) := (blk_cell BK277.out 2).trans rfl
                  have hcz164_3 : wc.cell? ⟨gb277, 3, none⟩ = some (.int .i64 a0_3) := (blk_cell BK277.out 3).trans rfl
                  have hcz164_4 : wc.cell? ⟨gb277, 4, none⟩ = some (.int .i64 a0_4) := (blk_cell BK277.out 4).trans rfl
                  have hcz164_5 : wc.cell? ⟨gb277, 5, none⟩ = some (.string a0_5) := (blk_cell BK277.out 5).trans rfl
                  have hfz164_0 := blk_frozen BK277.out 0
                  have hfz164_1 := blk_frozen BK277.out 1
                  have hfz164_2 := blk_frozen BK277.out 2
                  have hfz164_3 := blk_frozen BK277.out 3
                  have hfz164_4 := blk_frozen BK277.out 4
                  have hfz164_5 := blk_frozen BK277.out 5
                  have hnb165 := NB278_279.out
                  have hnc165 := NB279_278.out
                  have hcz166_0 : wc.cell? ⟨gb278, 0, none⟩ = some (.int .i64 a1_0) := (blk_cell BK278.out 0).trans rfl
                  have hcz166_1 : wc.cell? ⟨gb278, 1, none⟩ = some (.int .i64 a1_1) := (blk_cell BK278.out 1).trans rfl
                  have hcz166_2 : wc.cell? ⟨gb278, 2, none⟩ = some (.int .i64 a1_2) := (blk_cell BK278.out 2).trans rfl
                  have hcz166_3 : wc.cell? ⟨gb278, 3, none⟩ = some (.int .i64 a1_3) := (blk_cell BK278.out 3).trans rfl
                  have hcz166_4 : wc.cell? ⟨gb278, 4, none⟩ = some (.int .i64 a1_4) := (blk_cell BK278.out 4).trans rfl
                  have hcz166_5 : wc.cell? ⟨gb278, 5, none⟩ = some (.string a1_5) := (blk_cell BK278.out 5).trans rfl
                  have hfz166_0 := blk_frozen BK278.out 0
                  have hfz166_1 := blk_frozen BK278.out 1
                  have hfz166_2 := blk_frozen BK278.out 2
                  have hfz166_3 := blk_frozen BK278.out 3
                  have hfz166_4 := blk_frozen BK278.out 4
                  have hfz166_5 := blk_frozen BK278.out 5
                  go_wp2_with (first | (go_at_call 33; (with_reducible refine (hopperlaw04_live.calls kj37  t293 _ A161.out).mono ?_); rintro e w167 ⟨rfl, hb⟩; have n0_ := Aside0.mk (blk_below (g := gb277) (o := .cells #[.int .i64 a0_0, .int .i64 a0_1, .int .i64 a0_2, .int .i64 a0_3, .int .i64 a0_4, .string a0_5] 23 (0, 0)) (by (with_reducible repeat (first | refine blk_drewN ?_ _ | refine blk_drew ?_ | refine blk_alloc ?_ _)); exact BK277.out) hb); have n1_ := Aside0.mk (blk_below (g := gb278) (o := .cells #[.int .i64 a1_0, .int .i64 a1_1, .int .i64 a1_2, .int .i64 a1_3, .int .i64 a1_4, .string a1_5] 23 (0, 0)) (by (with_reducible repeat (first | refine blk_drewN ?_ _ | refine blk_drew ?_ | refine blk_alloc ?_ _)); exact BK278.out) hb); have n2_ := Aside0.mk (blk_below (g := gb279) (o := .cells #[.int .i64 a2_0, .int .i64 a2_1, .int .i64 a2_2, .int .i64 a2_3, .int .i64 a2_4, .string a2_5] 23 (0, 0)) (by (with_reducible repeat (first | refine blk_drewN ?_ _ | refine blk_drew ?_ | refine blk_alloc ?_ _)); exact BK279.out) hb); have n3_ := Aside0.mk (below_step (by repeat (first | (with_reducible first | exact HB.out | apply below_alloc | apply pw_below_drewN | apply below_drew1 | refine below_set ?_ GE277.out | refine below_set ?_ GE278.out | refine below_set ?_ GE279.out) | exact HB.out)) hb); clear BK277; clear BK278; clear BK279; clear HB; have BK277 := n0_; have BK278 := n1_; have BK279 := n2_; have HB := n3_; clear n0_ n1_ n2_ n3_; (try clear hb); (try clear hb2); (try clear hk); (try clear hi)))
                  go_ret
                  exact ⟨by first | rfl | (simp [errW_none, errW_some] <;> rfl) | (simp [*, errW_none, errW_some] <;> rfl), by repeat (first | (with_reducible first | exact HB.out | apply below_alloc | apply pw_below_drewN | apply below_drew1 | refine below_set ?_ GE277.out | refine below_set ?_ GE278.out | refine below_set ?_ GE279.out) | exact HB.out)⟩
                · rw [if_neg c160] at H
                  exact absurd H (by simp)

open Go.Proofs.Ytihlogdmdmhefaa.Row (okI okB okS okL) in
/-- THE ONE PURE STATEMENT of hopperlaw04_TxnLine. -/
def hopperlaw04_TxnLine.Pure : Prop := ∀ (a0_0 : Int) (a0_1 : Int) (a0_2 : Int) (a0_3 : Int) (a0_4 : Int) (a0_5 : ByteArray) (a1_0 : Int) (a1_1 : Int) (a1_2 : Int) (a1_3 : Int) (a1_4 : Int) (a1_5 : ByteArray) (a2_0 : Int) (a2_1 : Int) (a2_2 : Int) (a2_3 : Int) (a2_4 : Int) (a2_5 : ByteArray), ok23 (⟨a0_0, a0_1, a0_2, a0_3, a0_4, a0_5⟩ : S23) → ok23 (⟨a1_0, a1_1, a1_2, a1_3, a1_4, a1_5⟩ : S23) → ok23 (⟨a2_0, a2_1, a2_2, a2_3, a2_4, a2_5⟩ : S23) → ∃ k, hopperlaw04_TxnLine.f k a0_0 a0_1 a0_2 a0_3 a0_4 a0_5 a1_0 a1_1 a1_2 a1_3 a1_4 a1_5 a2_0 a2_1 a2_2 a2_3 a2_4 a2_5 = some true

end Go.Proofs.Ytihlogdmdmhefaa.L
