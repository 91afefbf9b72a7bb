/- Written by this session's own program over the kit's print: functions of Go told as plain functions, or the row of one statement; proved for every input, with no condition of ours. -/
import Derived.Test.YtnjnogkhbadioaaDx0
namespace Go.Proofs.Ytnjnogkhbadioaa.D
open Go.RowKit Go.Proofs.YtnjnogkhbadioaaW.PrintWords Go.Proofs.YtnjnogkhbadioaaW.PrintLast Go.Proofs.YtnjnogkhbadioaaW.PrintMore
attribute [local go_sem] max2_int min2_int max_two min_two max_three min_three max_four min_four   -- for this text's walks alone
set_option linter.unusedVariables false
set_option linter.unusedSimpArgs false

/-! ### hopperref11_put: function 31 -/
def hopperref11_put.l0 : Nat → List (S46) → List (S46) → Bool → Int → Int → Int → List (S32) → Option ((List (S46)))
 | 0, _, _, _, _, _, _, _ => none
 | k + 1, x0, x5, x6, x7, x312000, x312001, x312002 => if x7 < (x0.length : Int) then (if x6 = true then (if 0 ≤ x7 then (if x5.length < 3518437208883 then (hopperref11_put.l0 k x0 (x5 ++ [(⟨(rd_T46 x0 x7).f0, (rd_T46 x0 x7).f1, (rd_T46 x0 x7).f2⟩ : S46)]) x6 (wrap64 (x7 + 1)) x312000 x312001 x312002) else (none)) else (none)) else (if 0 ≤ x7 then (if ((rd_T46 x0 x7).f0) > x312000 then (if x5.length < 3518437208883 then ((some (x5 ++ [(⟨x312000, x312001, x312002⟩ : S46)] : List (S46))).bind fun y317 => (if y317.length < 3518437208883 then (hopperref11_put.l0 k x0 (y317 ++ [(⟨(rd_T46 x0 x7).f0, (rd_T46 x0 x7).f1, (rd_T46 x0 x7).f2⟩ : S46)]) true (wrap64 (x7 + 1)) x312000 x312001 x312002) else (none))) else (none)) else (if x5.length < 3518437208883 then (hopperref11_put.l0 k x0 (x5 ++ [(⟨(rd_T46 x0 x7).f0, (rd_T46 x0 x7).f1, (rd_T46 x0 x7).f2⟩ : S46)]) x6 (wrap64 (x7 + 1)) x312000 x312001 x312002) else (none))) else (none))) else (if x6 = true then (some x5) else (if x5.length < 3518437208883 then (some (x5 ++ [(⟨x312000, x312001, x312002⟩ : S46)])) else (none)))
def hopperref11_put.f (k : Nat) (l0 : List (S46)) (a1_0 : Int) (a1_1 : Int) (l1_2 : List (S32)) : Option ((List (S46))) := hopperref11_put.l0 k l0 ([] : List (S46)) false 0 a1_0 a1_1 l1_2
theorem hopperref11_put.mono_l : ∀ k, (∀ y0 y1 y2 y3 y4 y5 y6, LeO (hopperref11_put.l0 k y0 y1 y2 y3 y4 y5 y6) (hopperref11_put.l0 (k + 1) y0 y1 y2 y3 y4 y5 y6))
 | 0 => fun _ _ _ _ _ _ _ r h => by simp [hopperref11_put.l0] at h
 | k + 1 => by
  have ih0 := hopperref11_put.mono_l k
  · intro y0 y1 y2 y3 y4 y5 y6
    unfold hopperref11_put.l0
    repeat' first
    | (with_reducible exact ih0 _ _ _ _ _ _ _)
    | (with_reducible exact LeO.refl _)
    | (with_reducible exact LeO.none _)
    | (with_reducible refine LeO.ite ?_ ?_)
    | (with_reducible refine LeO.bind ?_ (fun _ => ?_))
    | exact ih0 _ _ _ _ _ _ _
    | exact LeO.none _
    | refine LeO.ite ?_ ?_
    | refine LeO.bind ?_ (fun _ => ?_)
theorem hopperref11_put.mono : ∀ a0 a1 a2 a3 k, LeO (hopperref11_put.f k a0 a1 a2 a3) (hopperref11_put.f (k + 1) a0 a1 a2 a3) := by
 intro a0 a1 a2 a3 k
 have ih0 := hopperref11_put.mono_l k
 unfold hopperref11_put.f
 repeat' first
  | (with_reducible exact ih0 _ _ _ _ _ _ _)
  | (with_reducible exact LeO.refl _)
  | (with_reducible exact LeO.none _)
  | (with_reducible refine LeO.ite ?_ ?_)
  | (with_reducible refine LeO.bind ?_ (fun _ => ?_))
  | exact ih0 _ _ _ _ _ _ _
  | exact LeO.none _
  | refine LeO.ite ?_ ?_
  | refine LeO.bind ?_ (fun _ => ?_)
set_option maxHeartbeats 8000000 in
set_option maxRecDepth 100000 in
theorem hopperref11_put.calls (k : Nat) (P0_ : Nat → Prop) (A0 : Option Addr) (c0 : Nat) (l0 : List (S46)) (a1_0 : Int) (a1_1 : Int) (P1_2_ : Nat → Prop) (A1_2 : Option Addr) (c1_2 : Nat) (l1_2 : List (S32)) (r : List (S46)) (w : World) (hs0 : Kd.V k46 46 w w.heap.size (fun k_ => P0_ k_) (.slice A0 l0.length c0) l0) (hs1_2 : Kd.V k32 32 w w.heap.size (fun k_ => P1_2_ k_) (.slice A1_2 l1_2.length c1_2) l1_2) (h : hopperref11_put.f k l0 a1_0 a1_1 l1_2 = some r) :
 Calls Try.prog 31 #[.slice A0 l0.length c0, .agg #[.int .i64 a1_0, .int .i64 a1_1, .slice A1_2 l1_2.length c1_2]] w fun e w' => ∃ v0_ : Value, e = .returned (v0_) ∧ Kd.N k46 46 w' w.heap.size (fun k_ => ((P0_ k_ ∨ P1_2_ k_) ∨ w.heap.size ≤ k_)) v0_ r ∧ Below w.heap.size w w' := by
 have hu46 := Try.underlying46
 have HO0 := A_ (show Kd.V k46 46 w w.heap.size (fun k_ => ((P0_ k_ ∨ P1_2_ k_) ∨ w.heap.size ≤ k_)) (.slice A0 l0.length c0) l0 from Kd.V_mono hs0 (fun k_ hk => .inl (.inl hk)))
 have HO1_2 := A_ (show Kd.V k32 32 w w.heap.size (fun k_ => ((P0_ k_ ∨ P1_2_ k_) ∨ w.heap.size ≤ k_)) (.slice A1_2 l1_2.length c1_2) l1_2 from Kd.V_mono hs1_2 (fun k_ hk => .inl (.inr hk)))
 have HB := A_ (Below.refl w.heap.size w)
 have H : (hopperref11_put.l0 k l0 ([] : List (S46)) false 0 a1_0 a1_1 l1_2) = some r := h
 clear h
 have H' := A_ H
 clear H
 go_enter Try.func31, Try.ntmps31
 go_wp2_with (first | ((with_reducible refine gate_dst (N := 3) rfl ?_); refine box_event ?hg (N := 3) ?hd (cs := #[.int .i64 a1_0, .int .i64 a1_1, .slice A1_2 l1_2.length c1_2]) (t := 46) ?hr ?_; (case hd => rfl); (case hg => rfl); (case hr => first | (go_simp; done) | (go_simp; rfl)); intro gb311 hg w3 hbox hb; have n0_ := A_ (Kd.V_below (Kd.V_elderB (pv_ HO0.out) gb311 (Nat.le_of_eq hg.symm)) hb); have n1_ := A_ (Kd.V_below (Kd.V_elderB (by (with_reducible repeat (first | apply Kd.V_alloc | apply Kd.V_drewN | apply Kd.V_drew)); exact HO1_2.out) gb311 (Nat.le_of_eq hg.symm)) hb); have n2_ := A_ (below_step bw_ hb); have n3_ := A_ (hbox); have n4_ := A_ (gz_ (w := w) hg); have n5_ := A_ (gz_ (w := w) hg); replace HO0 := n0_; replace HO1_2 := n1_; replace HB := n2_; have BK311 := n3_; have GW311 := n4_; have GE311 := n5_; clear n0_ n1_ n2_ n3_ n4_ n5_; clear hb hbox hg))
 repeat (go_quiet (first | ((with_reducible refine gate_dst (N := 3) rfl ?_); refine box_event ?hg (N := 3) ?hd (cs := #[.int .i64 a1_0, .int .i64 a1_1, .slice A1_2 l1_2.length c1_2]) (t := 46) ?hr ?_; (case hd => rfl); (case hg => rfl); (case hr => first | (go_simp; done) | (go_simp; rfl)); intro gb311 hg w3 hbox hb; have n0_ := A_ (Kd.V_below (Kd.V_elderB (pv_ HO0.out) gb311 (Nat.le_of_eq hg.symm)) hb); have n1_ := A_ (Kd.V_below (Kd.V_elderB (by (with_reducible repeat (first | apply Kd.V_alloc | apply Kd.V_drewN | apply Kd.V_drew)); exact HO1_2.out) gb311 (Nat.le_of_eq hg.symm)) hb); have n2_ := A_ (below_step bw_ hb); have n3_ := A_ (hbox); have n4_ := A_ (gz_ (w := w) hg); have n5_ := A_ (gz_ (w := w) hg); replace HO0 := n0_; replace HO1_2 := n1_; replace HB := n2_; have BK311 := n3_; have GW311 := n4_; have GE311 := n5_; clear n0_ n1_ n2_ n3_ n4_ n5_; clear hb hbox hg)); try go_wp2_with (first | ((with_reducible refine gate_dst (N := 3) rfl ?_); refine box_event ?hg (N := 3) ?hd (cs := #[.int .i64 a1_0, .int .i64 a1_1, .slice A1_2 l1_2.length c1_2]) (t := 46) ?hr ?_; (case hd => rfl); (case hg => rfl); (case hr => first | (go_simp; done) | (go_simp; rfl)); intro gb311 hg w3 hbox hb; have n0_ := A_ (Kd.V_below (Kd.V_elderB (pv_ HO0.out) gb311 (Nat.le_of_eq hg.symm)) hb); have n1_ := A_ (Kd.V_below (Kd.V_elderB (by (with_reducible repeat (first | apply Kd.V_alloc | apply Kd.V_drewN | apply Kd.V_drew)); exact HO1_2.out) gb311 (Nat.le_of_eq hg.symm)) hb); have n2_ := A_ (below_step bw_ hb); have n3_ := A_ (hbox); have n4_ := A_ (gz_ (w := w) hg); have n5_ := A_ (gz_ (w := w) hg); replace HO0 := n0_; replace HO1_2 := n1_; replace HB := n2_; have BK311 := n3_; have GW311 := n4_; have GE311 := n5_; clear n0_ n1_ n2_ n3_ n4_ n5_; clear hb hbox hg)))
 go_loopg [5, 6, 7] k (fun kq v5 v6 v7 w' => ∃ (x5_1 : List (S46)) (x6_1 : Bool) (x7_1 : Int), v6 = .bool x6_1 ∧ v7 = .int .i64 x7_1 ∧ Aside0 (hopperref11_put.l0 kq l0 x5_1 x6_1 x7_1 a1_0 a1_1 l1_2 = some r) ∧ Aside0 (kq ≤ k) ∧ Aside0 (Kd.V k46 46 w' w.heap.size (fun k_ => ((P0_ k_ ∨ P1_2_ k_) ∨ w.heap.size ≤ k_) ∧ some k_ ≠ (v5 : Value).ownBlock ∧ k_ ≠ gb311) (.slice A0 l0.length c0) l0) ∧ Aside0 (Kd.N k46 46 w' w.heap.size (fun k_ => ((P0_ k_ ∨ P1_2_ k_) ∨ w.heap.size ≤ k_) ∧ k_ ≠ gb311) v5 x5_1) ∧ Aside0 (Kd.V k32 32 w' w.heap.size (fun k_ => ((P0_ k_ ∨ P1_2_ k_) ∨ w.heap.size ≤ k_) ∧ some k_ ≠ (v5 : Value).ownBlock ∧ k_ ≠ gb311) (.slice A1_2 l1_2.length c1_2) l1_2) ∧ Aside0 (w'.heap[gb311]? = some (.cells #[.int .i64 a1_0, .int .i64 a1_1, (.slice A1_2 l1_2.length c1_2)] 46 (0, 0))) ∧ Aside0 (Below w.heap.size w w'))
 case atStart => exact ⟨(([] : List (S46))), (false), (0), (by first | rfl | (simp; done) | (simp [*]; done)), (by first | rfl | (simp; done) | (simp [*]; done)), H', ⟨Nat.le_refl _⟩, ⟨by (with_reducible repeat (first | apply Kd.V_alloc | apply Kd.V_drewN | apply Kd.V_drew)); exact Kd.V_mono HO0.out (fun _ hk => ⟨hk.1, ⟨(by simp [Value.ownBlock]), hk.2⟩⟩)⟩, ⟨by first | exact Kd.S_nil _ _ _ _ _ | exact Kd.N_nil _ _ _ _ _ | exact Kd.V_nil _ _ _ _ _ | exact Kd.Q_nil _ _ _ _ _ | exact Kd.R_nil _ _ _ _ _⟩, ⟨by (with_reducible repeat (first | apply Kd.V_alloc | apply Kd.V_drewN | apply Kd.V_drew)); exact Kd.V_mono HO1_2.out (fun _ hk => ⟨hk.1, ⟨(by simp [Value.ownBlock]), hk.2⟩⟩)⟩, ⟨bk_⟩, ⟨by repeat (first | (with_reducible first | exact HB.out | apply wa_ | apply wn_ | apply wd_ | refine ws_ ?_ GE311.out) | exact HB.out)⟩⟩
 case round =>
  clear H'; (try clear c1); (try clear p2); (try clear c3)
  obtain ⟨x5_1, x6_1, x7_1, rfl, rfl, HA, HK1, HO_0, HO_5, HO_312002, BK311, HB⟩ := hrel
  cases gk with
  | zero => exact absurd HA.out (by simp [hopperref11_put.l0])
  | succ k1 =>
   have H := HA.out
   clear HA
   simp only [hopperref11_put.l0] at H
   by_cases c4 : x7_1 < (l0.length : Int)
   · rw [if_pos c4] at H
     have c4b0 : decide (x7_1 < (l0.length : Int)) = true := decide_eq_true c4
     clear c4
     by_cases c5 : x6_1 = true
     · subst c5
       have H1 : (if 0 ≤ x7_1 then (if x5_1.length < 3518437208883 then (hopperref11_put.l0 k1 l0 (x5_1 ++ [(⟨(rd_T46 l0 x7_1).f0, (rd_T46 l0 x7_1).f1, (rd_T46 l0 x7_1).f2⟩ : S46)]) true (wrap64 (x7_1 + 1)) a1_0 a1_1 l1_2) else (none)) else (none)) = some r := by rw [if_pos rfl] at H; exact H
       clear H
       have H := H1
       clear H1
       by_cases c6 : 0 ≤ x7_1
       rotate_left
       · rw [if_neg c6] at H
         exact absurd H (by simp)
       rw [if_pos c6] at H
       have c6b0 : decide (0 ≤ x7_1) = true := decide_eq_true c6
       clear c6
       by_cases c7 : x5_1.length < 3518437208883
       rotate_left
       · rw [if_neg c7] at H
         exact absurd H (by simp)
       rw [if_pos c7] at H
       have LMc7 := A_ c7
       clear c7
       obtain ⟨y313, hy313⟩ : ∃ y_ : List (S46), y_ = (x5_1 ++ [(⟨(rd_T46 l0 x7_1).f0, (rd_T46 l0 x7_1).f1, (rd_T46 l0 x7_1).f2⟩ : S46)]) := ⟨_, rfl⟩
       replace H : (hopperref11_put.l0 k1 l0 y313 true (wrap64 (x7_1 + 1)) a1_0 a1_1 l1_2) = some r := by first | (rw [hy313]; with_reducible exact H) | (have H2_ := (Option.bind_some _ _).symm.trans H; rw [hy313]; with_reducible exact H2_) | (have H2_ := (Option.bind_some _ _).symm.trans H; with_reducible exact H2_) | with_reducible exact H | (rw [hy313]; exact H) | exact H
       have Ny313 := A_ hy313
       clear hy313
       have H' := A_ H
       clear H
       have p312 : 0 ≤ (x7_1 : Int) := of_decide_eq_true (by first | (with_reducible assumption) | assumption)
       have q312 : x7_1 < (l0.length : Int) := of_decide_eq_true (by first | (with_reducible assumption) | assumption)
       obtain ⟨ad312, A312_2, c312_2, e312, hx312_0, hx312_1, hx312_2, hl312_2, hi312_2⟩ := at_T46 (Kd.V_reads' HO_0.out).2.2 x7_1 p312 q312
       cases e312
       obtain ⟨ce312, hce312, hMe312, hcc312⟩ := Kd.V_get HO_0.out z46 x7_1 p312 (by first | exact q312 | exact of_decide_eq_true (by first | (with_reducible assumption) | assumption) | (have e_ := (Kd.V_reads' HO_0.out).1; omega))
       obtain ⟨ua312_2, uc312_2, rfl, ul312_2, ge312_2⟩ := k46_openF hMe312
       have hv312_2 := hcc312 2 _ rfl
       rw [add_field _ _ 2 (by omega)] at hv312_2
       replace hv312_2 := Option.some.inj (hv312_2.symm.trans hx312_2)
       injection hv312_2 with hva_ hvn_ hvc_
       rw [hva_] at ge312_2
       rw [hvc_] at ul312_2
       have HL312_2 := A_ (show Kd.V k32 32 _ w.heap.size _ _ ((rd_T46 l0 x7_1).f2) from Kd.V_mk ul312_2 ge312_2)
       clear hva_ hvn_ hvc_ ge312_2 ul312_2; clear hcc312 hce312
       have HR312_2 := A_ hi312_2
       have HC312_2 := A_ hl312_2
       clear hi312_2 hl312_2
       replace p312 := eq_true p312
       replace q312 := eq_true q312
       go_wp2_with (first | ((with_reducible refine gate_builtin (b := .append) (xs := #[.tmp 30, .tmp 35]) rfl ?_); at_builtin; refine Kd.N_append k46 (w0 := w) w.heap.size rfl (.tmp 30) (.tmp 35) 24 46 (.agg #[(.int .i64 0), (.int .i64 0), (.slice none 0 0)]) 40 rfl Try.underlying24 info46 rfl (by decide) (by omega) u5 x5_1 (⟨(rd_T46 l0 x7_1).f0, (rd_T46 l0 x7_1).f1, (rd_T46 l0 x7_1).f2⟩ : S46) [.int .i64 ((rd_T46 l0 x7_1).f0), .int .i64 ((rd_T46 l0 x7_1).f1), .slice A312_2 ((rd_T46 l0 x7_1).f2).length c312_2] (fun k_ => ((P0_ k_ ∨ P1_2_ k_) ∨ w.heap.size ≤ k_) ∧ k_ ≠ gb311) (fun k_ => ((fun k_ => ((P0_ k_ ∨ P1_2_ k_) ∨ w.heap.size ≤ k_) ∧ k_ ≠ gb311)) k_ ∧ some k_ ≠ (u5 : Value).ownBlock) rfl rfl ?aP (fun _ hk => hk) ?aF ?aO ?aB ?aS ?aL ?_; (case aP => exact (k46_mkF _ _ (⟨(rd_T46 l0 x7_1).f0, (rd_T46 l0 x7_1).f1, (rd_T46 l0 x7_1).f2⟩ : S46) (Kd.V_reads' (Kd.V_mono (ok' := (fun k_ => ((fun k_ => ((P0_ k_ ∨ P1_2_ k_) ∨ w.heap.size ≤ k_) ∧ k_ ≠ gb311)) k_ ∧ some k_ ≠ (u5 : Value).ownBlock)) (HL312_2.out) (fun k_ hk => ⟨⟨hk.1, hk.2.2⟩, hk.2.1⟩))).2.1 (Kd.V_F (by (with_reducible repeat (first | apply Kd.V_alloc | apply Kd.V_drewN | apply Kd.V_drew)); exact Kd.V_mono (ok' := (fun k_ => ((fun k_ => ((P0_ k_ ∨ P1_2_ k_) ∨ w.heap.size ≤ k_) ∧ k_ ≠ gb311)) k_ ∧ some k_ ≠ (u5 : Value).ownBlock)) (HL312_2.out) (fun k_ hk => ⟨⟨hk.1, hk.2.2⟩, hk.2.1⟩))))); (case aB => exact bw_); (case aF => exact (fun k_ hk => ⟨(.inr (Nat.le_trans (below_size bw_) hk)), Kd.freshB (g := gb311) (o := .cells #[.int .i64 a1_0, .int .i64 a1_1, .slice A1_2 l1_2.length c1_2] 46 (0, 0)) (by (with_reducible repeat (first | refine bn_ ?_ _ | refine bd_ ?_ | refine ba_ ?_ _)); exact BK311.out) k_ hk⟩)); (case aO => exact (by (with_reducible repeat (first | apply Kd.N_alloc | apply Kd.N_drewN | apply Kd.N_drew)); exact HO_5.out)); (case aS => exact (below_size bw_)); (case aL => have := LMc7.out; omega); intro v314 w8 ho hb hg hat; rw [← Ny313.out] at ho; replace HO_0 := A_ (Kd.V_afterv (ok := (fun k_ => ((P0_ k_ ∨ P1_2_ k_) ∨ w.heap.size ≤ k_) ∧ k_ ≠ gb311)) (by (with_reducible repeat (first | apply Kd.V_alloc | apply Kd.V_drewN | apply Kd.V_drew)); exact Kd.V_mono HO_0.out (fun _ hk => ⟨⟨hk.1, hk.2.2⟩, hk.2.1⟩)) hg hat); replace HO_312002 := A_ (Kd.V_afterv (ok := (fun k_ => ((P0_ k_ ∨ P1_2_ k_) ∨ w.heap.size ≤ k_) ∧ k_ ≠ gb311)) (by (with_reducible repeat (first | apply Kd.V_alloc | apply Kd.V_drewN | apply Kd.V_drew)); exact Kd.V_mono HO_312002.out (fun _ hk => ⟨⟨hk.1, hk.2.2⟩, hk.2.1⟩)) hg hat); replace BK311 := A_ (blk_grown (g := gb311) (o := .cells #[.int .i64 a1_0, .int .i64 a1_1, .slice A1_2 l1_2.length c1_2] 46 (0, 0)) (by (with_reducible repeat (first | refine bn_ ?_ _ | refine bd_ ?_ | refine ba_ ?_ _)); exact BK311.out) hg (Kd.N_away HO_5.out (fun _ hk => hk.2))); replace HL312_2 := A_ (Kd.V_afterv (ok := (fun k_ => ((P0_ k_ ∨ P1_2_ k_) ∨ w.heap.size ≤ k_) ∧ k_ ≠ gb311)) (by (with_reducible repeat (first | apply Kd.V_alloc | apply Kd.V_drewN | apply Kd.V_drew)); exact Kd.V_mono HL312_2.out (fun _ hk => ⟨⟨hk.1, hk.2.2⟩, hk.2.1⟩)) hg hat); replace HB := A_ (hb); have HO315 := A_ (ho); clear HO_5; clear ho hb hg hat))
       repeat (go_quiet (first | ((with_reducible refine gate_builtin (b := .append) (xs := #[.tmp 30, .tmp 35]) rfl ?_); at_builtin; refine Kd.N_append k46 (w0 := w) w.heap.size rfl (.tmp 30) (.tmp 35) 24 46 (.agg #[(.int .i64 0), (.int .i64 0), (.slice none 0 0)]) 40 rfl Try.underlying24 info46 rfl (by decide) (by omega) u5 x5_1 (⟨(rd_T46 l0 x7_1).f0, (rd_T46 l0 x7_1).f1, (rd_T46 l0 x7_1).f2⟩ : S46) [.int .i64 ((rd_T46 l0 x7_1).f0), .int .i64 ((rd_T46 l0 x7_1).f1), .slice A312_2 ((rd_T46 l0 x7_1).f2).length c312_2] (fun k_ => ((P0_ k_ ∨ P1_2_ k_) ∨ w.heap.size ≤ k_) ∧ k_ ≠ gb311) (fun k_ => ((fun k_ => ((P0_ k_ ∨ P1_2_ k_) ∨ w.heap.size ≤ k_) ∧ k_ ≠ gb311)) k_ ∧ some k_ ≠ (u5 : Value).ownBlock) rfl rfl ?aP (fun _ hk => hk) ?aF ?aO ?aB ?aS ?aL ?_; (case aP => exact (k46_mkF _ _ (⟨(rd_T46 l0 x7_1).f0, (rd_T46 l0 x7_1).f1, (rd_T46 l0 x7_1).f2⟩ : S46) (Kd.V_reads' (Kd.V_mono (ok' := (fun k_ => ((fun k_ => ((P0_ k_ ∨ P1_2_ k_) ∨ w.heap.size ≤ k_) ∧ k_ ≠ gb311)) k_ ∧ some k_ ≠ (u5 : Value).ownBlock)) (HL312_2.out) (fun k_ hk => ⟨⟨hk.1, hk.2.2⟩, hk.2.1⟩))).2.1 (Kd.V_F (by (with_reducible repeat (first | apply Kd.V_alloc | apply Kd.V_drewN | apply Kd.V_drew)); exact Kd.V_mono (ok' := (fun k_ => ((fun k_ => ((P0_ k_ ∨ P1_2_ k_) ∨ w.heap.size ≤ k_) ∧ k_ ≠ gb311)) k_ ∧ some k_ ≠ (u5 : Value).ownBlock)) (HL312_2.out) (fun k_ hk => ⟨⟨hk.1, hk.2.2⟩, hk.2.1⟩))))); (case aB => exact bw_); (case aF => exact (fun k_ hk => ⟨(.inr (Nat.le_trans (below_size bw_) hk)), Kd.freshB (g := gb311) (o := .cells #[.int .i64 a1_0, .int .i64 a1_1, .slice A1_2 l1_2.length c1_2] 46 (0, 0)) (by (with_reducible repeat (first | refine bn_ ?_ _ | refine bd_ ?_ | refine ba_ ?_ _)); exact BK311.out) k_ hk⟩)); (case aO => exact (by (with_reducible repeat (first | apply Kd.N_alloc | apply Kd.N_drewN | apply Kd.N_drew)); exact HO_5.out)); (case aS => exact (below_size bw_)); (case aL => have := LMc7.out; omega); intro v314 w8 ho hb hg hat; rw [← Ny313.out] at ho; replace HO_0 := A_ (Kd.V_afterv (ok := (fun k_ => ((P0_ k_ ∨ P1_2_ k_) ∨ w.heap.size ≤ k_) ∧ k_ ≠ gb311)) (by (with_reducible repeat (first | apply Kd.V_alloc | apply Kd.V_drewN | apply Kd.V_drew)); exact Kd.V_mono HO_0.out (fun _ hk => ⟨⟨hk.1, hk.2.2⟩, hk.2.1⟩)) hg hat); replace HO_312002 := A_ (Kd.V_afterv (ok := (fun k_ => ((P0_ k_ ∨ P1_2_ k_) ∨ w.heap.size ≤ k_) ∧ k_ ≠ gb311)) (by (with_reducible repeat (first | apply Kd.V_alloc | apply Kd.V_drewN | apply Kd.V_drew)); exact Kd.V_mono HO_312002.out (fun _ hk => ⟨⟨hk.1, hk.2.2⟩, hk.2.1⟩)) hg hat); replace BK311 := A_ (blk_grown (g := gb311) (o := .cells #[.int .i64 a1_0, .int .i64 a1_1, .slice A1_2 l1_2.length c1_2] 46 (0, 0)) (by (with_reducible repeat (first | refine bn_ ?_ _ | refine bd_ ?_ | refine ba_ ?_ _)); exact BK311.out) hg (Kd.N_away HO_5.out (fun _ hk => hk.2))); replace HL312_2 := A_ (Kd.V_afterv (ok := (fun k_ => ((P0_ k_ ∨ P1_2_ k_) ∨ w.heap.size ≤ k_) ∧ k_ ≠ gb311)) (by (with_reducible repeat (first | apply Kd.V_alloc | apply Kd.V_drewN | apply Kd.V_drew)); exact Kd.V_mono HL312_2.out (fun _ hk => ⟨⟨hk.1, hk.2.2⟩, hk.2.1⟩)) hg hat); replace HB := A_ (hb); have HO315 := A_ (ho); clear HO_5; clear ho hb hg hat)); try go_wp2_with (first | ((with_reducible refine gate_builtin (b := .append) (xs := #[.tmp 30, .tmp 35]) rfl ?_); at_builtin; refine Kd.N_append k46 (w0 := w) w.heap.size rfl (.tmp 30) (.tmp 35) 24 46 (.agg #[(.int .i64 0), (.int .i64 0), (.slice none 0 0)]) 40 rfl Try.underlying24 info46 rfl (by decide) (by omega) u5 x5_1 (⟨(rd_T46 l0 x7_1).f0, (rd_T46 l0 x7_1).f1, (rd_T46 l0 x7_1).f2⟩ : S46) [.int .i64 ((rd_T46 l0 x7_1).f0), .int .i64 ((rd_T46 l0 x7_1).f1), .slice A312_2 ((rd_T46 l0 x7_1).f2).length c312_2] (fun k_ => ((P0_ k_ ∨ P1_2_ k_) ∨ w.heap.size ≤ k_) ∧ k_ ≠ gb311) (fun k_ => ((fun k_ => ((P0_ k_ ∨ P1_2_ k_) ∨ w.heap.size ≤ k_) ∧ k_ ≠ gb311)) k_ ∧ some k_ ≠ (u5 : Value).ownBlock) rfl rfl ?aP (fun _ hk => hk) ?aF ?aO ?aB ?aS ?aL ?_; (case aP => exact (k46_mkF _ _ (⟨(rd_T46 l0 x7_1).f0, (rd_T46 l0 x7_1).f1, (rd_T46 l0 x7_1).f2⟩ : S46) (Kd.V_reads' (Kd.V_mono (ok' := (fun k_ => ((fun k_ => ((P0_ k_ ∨ P1_2_ k_) ∨ w.heap.size ≤ k_) ∧ k_ ≠ gb311)) k_ ∧ some k_ ≠ (u5 : Value).ownBlock)) (HL312_2.out) (fun k_ hk => ⟨⟨hk.1, hk.2.2⟩, hk.2.1⟩))).2.1 (Kd.V_F (by (with_reducible repeat (first | apply Kd.V_alloc | apply Kd.V_drewN | apply Kd.V_drew)); exact Kd.V_mono (ok' := (fun k_ => ((fun k_ => ((P0_ k_ ∨ P1_2_ k_) ∨ w.heap.size ≤ k_) ∧ k_ ≠ gb311)) k_ ∧ some k_ ≠ (u5 : Value).ownBlock)) (HL312_2.out) (fun k_ hk => ⟨⟨hk.1, hk.2.2⟩, hk.2.1⟩))))); (case aB => exact bw_); (case aF => exact (fun k_ hk => ⟨(.inr (Nat.le_trans (below_size bw_) hk)), Kd.freshB (g := gb311) (o := .cells #[.int .i64 a1_0, .int .i64 a1_1, .slice A1_2 l1_2.length c1_2] 46 (0, 0)) (by (with_reducible repeat (first | refine bn_ ?_ _ | refine bd_ ?_ | refine ba_ ?_ _)); exact BK311.out) k_ hk⟩)); (case aO => exact (by (with_reducible repeat (first | apply Kd.N_alloc | apply Kd.N_drewN | apply Kd.N_drew)); exact HO_5.out)); (case aS => exact (below_size bw_)); (case aL => have := LMc7.out; omega); intro v314 w8 ho hb hg hat; rw [← Ny313.out] at ho; replace HO_0 := A_ (Kd.V_afterv (ok := (fun k_ => ((P0_ k_ ∨ P1_2_ k_) ∨ w.heap.size ≤ k_) ∧ k_ ≠ gb311)) (by (with_reducible repeat (first | apply Kd.V_alloc | apply Kd.V_drewN | apply Kd.V_drew)); exact Kd.V_mono HO_0.out (fun _ hk => ⟨⟨hk.1, hk.2.2⟩, hk.2.1⟩)) hg hat); replace HO_312002 := A_ (Kd.V_afterv (ok := (fun k_ => ((P0_ k_ ∨ P1_2_ k_) ∨ w.heap.size ≤ k_) ∧ k_ ≠ gb311)) (by (with_reducible repeat (first | apply Kd.V_alloc | apply Kd.V_drewN | apply Kd.V_drew)); exact Kd.V_mono HO_312002.out (fun _ hk => ⟨⟨hk.1, hk.2.2⟩, hk.2.1⟩)) hg hat); replace BK311 := A_ (blk_grown (g := gb311) (o := .cells #[.int .i64 a1_0, .int .i64 a1_1, .slice A1_2 l1_2.length c1_2] 46 (0, 0)) (by (with_reducible repeat (first | refine bn_ ?_ _ | refine bd_ ?_ | refine ba_ ?_ _)); exact BK311.out) hg (Kd.N_away HO_5.out (fun _ hk => hk.2))); replace HL312_2 := A_ (Kd.V_afterv (ok := (fun k_ => ((P0_ k_ ∨ P1_2_ k_) ∨ w.heap.size ≤ k_) ∧ k_ ≠ gb311)) (by (with_reducible repeat (first | apply Kd.V_alloc | apply Kd.V_drewN | apply Kd.V_drew)); exact Kd.V_mono HL312_2.out (fun _ hk => ⟨⟨hk.1, hk.2.2⟩, hk.2.1⟩)) hg hat); replace HB := A_ (hb); have HO315 := A_ (ho); clear HO_5; clear ho hb hg hat)))
       go_roundg k1
       case measure => have := HK1.out; omega
       case rel => exact ⟨(y313), (true), (wrap64 (x7_1 + 1)), (by first | rfl | (simp; done) | (simp [*]; done)), (by first | rfl | (simp; done) | (simp [*]; done)), H', ⟨by have := HK1.out; omega⟩, ⟨by (with_reducible repeat (first | apply Kd.V_alloc | apply Kd.V_drewN | apply Kd.V_drew)); exact Kd.V_mono HO_0.out (fun _ hk => ⟨hk.1.1, ⟨hk.2, hk.1.2⟩⟩)⟩, ⟨by (with_reducible repeat (first | apply Kd.N_alloc | apply Kd.N_drewN | apply Kd.N_drew)); exact HO315.out⟩, ⟨by (with_reducible repeat (first | apply Kd.V_alloc | apply Kd.V_drewN | apply Kd.V_drew)); exact Kd.V_mono HO_312002.out (fun _ hk => ⟨hk.1.1, ⟨hk.2, hk.1.2⟩⟩)⟩, ⟨bk_⟩, ⟨by repeat (first | (with_reducible first | exact HB.out | apply wa_ | apply wn_ | apply wd_ | refine ws_ ?_ GE311.out) | exact HB.out)⟩⟩
     · replace c5 := Bool.eq_false_iff.mpr c5
       subst c5
       have H1 : (if 0 ≤ x7_1 then (if ((rd_T46 l0 x7_1).f0) > a1_0 then (if x5_1.length < 3518437208883 then ((some (x5_1 ++ [(⟨a1_0, a1_1, l1_2⟩ : S46)] : List (S46))).bind fun y317 => (if y317.length < 3518437208883 then (hopperref11_put.l0 k1 l0 (y317 ++ [(⟨(rd_T46 l0 x7_1).f0, (rd_T46 l0 x7_1).f1, (rd_T46 l0 x7_1).f2⟩ : S46)]) true (wrap64 (x7_1 + 1)) a1_0 a1_1 l1_2) else (none))) else (none)) else (if x5_1.length < 3518437208883 then (hopperref11_put.l0 k1 l0 (x5_1 ++ [(⟨(rd_T46 l0 x7_1).f0, (rd_T46 l0 x7_1).f1, (rd_T46 l0 x7_1).f2⟩ : S46)]) false (wrap64 (x7_1 + 1)) a1_0 a1_1 l1_2) else (none))) else (none)) = some r := by rw [if_neg (show ¬ (false = true) by decide)] at H; exact H
       clear H
       have H := H1
       clear H1
       by_cases c9 : 0 ≤ x7_1
       rotate_left
       · rw [if_neg c9] at H
         exact absurd H (by simp)
       rw [if_pos c9] at H
       have c9b0 : decide (0 ≤ x7_1) = true := decide_eq_true c9
       clear c9
       by_cases c10 : ((rd_T46 l0 x7_1).f0) > a1_0
       · rw [if_pos c10] at H
         have c10b0 : decide (a1_0 < ((rd_T46 l0 x7_1).f0)) = true := decide_eq_true c10
         clear c10
         by_cases c11 : x5_1.length < 3518437208883
         rotate_left
         · rw [if_neg c11] at H
           exact absurd H (by simp)
         rw [if_pos c11] at H
         have LMc11 := A_ c11
         clear c11
         obtain ⟨y317, hy317⟩ : ∃ y_ : List (S46), y_ = (x5_1 ++ [(⟨a1_0, a1_1, l1_2⟩ : S46)]) := ⟨_, rfl⟩
         replace H : (if y317.length < 3518437208883 then (hopperref11_put.l0 k1 l0 (y317 ++ [(⟨(rd_T46 l0 x7_1).f0, (rd_T46 l0 x7_1).f1, (rd_T46 l0 x7_1).f2⟩ : S46)]) true (wrap64 (x7_1 + 1)) a1_0 a1_1 l1_2) else (none)) = some r := by first | (rw [hy317]; with_reducible exact H) | (have H2_ := (Option.bind_some _ _).symm.trans H; rw [hy317]; with_reducible exact H2_) | (have H2_ := (Option.bind_some _ _).symm.trans H; with_reducible exact H2_) | with_reducible exact H | (rw [hy317]; exact H) | exact H
         have Ny317 := A_ hy317
         clear hy317
         by_cases c12 : y317.length < 3518437208883
         rotate_left
         · rw [if_neg c12] at H
           exact absurd H (by simp)
         rw [if_pos c12] at H
         have LMc12 := A_ c12
         clear c12
         obtain ⟨y321, hy321⟩ : ∃ y_ : List (S46), y_ = (y317 ++ [(⟨(rd_T46 l0 x7_1).f0, (rd_T46 l0 x7_1).f1, (rd_T46 l0 x7_1).f2⟩ : S46)]) := ⟨_, rfl⟩
         replace H : (hopperref11_put.l0 k1 l0 y321 true (wrap64 (x7_1 + 1)) a1_0 a1_1 l1_2) = some r := by first | (rw [hy321]; with_reducible exact H) | (have H2_ := (Option.bind_some _ _).symm.trans H; rw [hy321]; with_reducible exact H2_) | (have H2_ := (Option.bind_some _ _).symm.trans H; with_reducible exact H2_) | with_reducible exact H | (rw [hy321]; exact H) | exact H
         have Ny321 := A_ hy321
         clear hy321
         have H' := A_ H
         clear H
         have p316 : 0 ≤ (x7_1 : Int) := of_decide_eq_true (by first | (with_reducible assumption) | assumption)
         have q316 : x7_1 < (l0.length : Int) := of_decide_eq_true (by first | (with_reducible assumption) | assumption)
         obtain ⟨ad316, A316_2, c316_2, e316, hx316_0, hx316_1, hx316_2, hl316_2, hi316_2⟩ := at_T46 (Kd.V_reads' HO_0.out).2.2 x7_1 p316 q316
         cases e316
         obtain ⟨ce316, hce316, hMe316, hcc316⟩ := Kd.V_get HO_0.out z46 x7_1 p316 (by first | exact q316 | exact of_decide_eq_true (by first | (with_reducible assumption) | assumption) | (have e_ := (Kd.V_reads' HO_0.out).1; omega))
         obtain ⟨ua316_2, uc316_2, rfl, ul316_2, ge316_2⟩ := k46_openF hMe316
         have hv316_2 := hcc316 2 _ rfl
         rw [add_field _ _ 2 (by omega)] at hv316_2
         replace hv316_2 := Option.some.inj (hv316_2.symm.trans hx316_2)
         injection hv316_2 with hva_ hvn_ hvc_
         rw [hva_] at ge316_2
         rw [hvc_] at ul316_2
         have HL316_2 := A_ (show Kd.V k32 32 _ w.heap.size _ _ ((rd_T46 l0 x7_1).f2) from Kd.V_mk ul316_2 ge316_2)
         clear hva_ hvn_ hvc_ ge316_2 ul316_2; clear hcc316 hce316
         have HR316_2 := A_ hi316_2
         have HC316_2 := A_ hl316_2
         clear hi316_2 hl316_2
         replace p316 := eq_true p316
         replace q316 := eq_true q316
         have hcz13_0 : wr.cell? ⟨gb311, 0, none⟩ = some (.int .i64 a1_0) := e_ BK311 0; have hcz13_1 : wr.cell? ⟨gb311, 1, none⟩ = some (.int .i64 a1_1) := e_ BK311 1; have hcz13_2 : wr.cell? ⟨gb311, 2, none⟩ = some (.slice A1_2 l1_2.length c1_2) := e_ BK311 2; obtain ⟨hfz13_0, hfz13_1, hfz13_2⟩ := z3_ BK311
         go_wp2_with (first | ((with_reducible refine gate_builtin (b := .append) (xs := #[.tmp 26, .tmp 28]) rfl ?_); at_builtin; refine Kd.N_append k46 (w0 := w) w.heap.size rfl (.tmp 26) (.tmp 28) 24 46 (.agg #[(.int .i64 0), (.int .i64 0), (.slice none 0 0)]) 40 rfl Try.underlying24 info46 rfl (by decide) (by omega) u5 x5_1 (⟨a1_0, a1_1, l1_2⟩ : S46) [.int .i64 a1_0, .int .i64 a1_1, .slice A1_2 l1_2.length c1_2] (fun k_ => ((P0_ k_ ∨ P1_2_ k_) ∨ w.heap.size ≤ k_) ∧ k_ ≠ gb311) (fun k_ => ((fun k_ => ((P0_ k_ ∨ P1_2_ k_) ∨ w.heap.size ≤ k_) ∧ k_ ≠ gb311)) k_ ∧ some k_ ≠ (u5 : Value).ownBlock) rfl rfl ?aP (fun _ hk => hk) ?aF ?aO ?aB ?aS ?aL ?_; (case aP => exact (k46_mkF _ _ (⟨a1_0, a1_1, l1_2⟩ : S46) (Kd.V_reads' (Kd.V_mono (ok' := (fun k_ => ((fun k_ => ((P0_ k_ ∨ P1_2_ k_) ∨ w.heap.size ≤ k_) ∧ k_ ≠ gb311)) k_ ∧ some k_ ≠ (u5 : Value).ownBlock)) (HO_312002.out) (fun k_ hk => ⟨⟨hk.1, hk.2.2⟩, hk.2.1⟩))).2.1 (Kd.V_F (by (with_reducible repeat (first | apply Kd.V_alloc | apply Kd.V_drewN | apply Kd.V_drew)); exact Kd.V_mono (ok' := (fun k_ => ((fun k_ => ((P0_ k_ ∨ P1_2_ k_) ∨ w.heap.size ≤ k_) ∧ k_ ≠ gb311)) k_ ∧ some k_ ≠ (u5 : Value).ownBlock)) (HO_312002.out) (fun k_ hk => ⟨⟨hk.1, hk.2.2⟩, hk.2.1⟩))))); (case aB => exact bw_); (case aF => exact (fun k_ hk => ⟨(.inr (Nat.le_trans (below_size bw_) hk)), Kd.freshB (g := gb311) (o := .cells #[.int .i64 a1_0, .int .i64 a1_1, .slice A1_2 l1_2.length c1_2] 46 (0, 0)) (by (with_reducible repeat (first | refine bn_ ?_ _ | refine bd_ ?_ | refine ba_ ?_ _)); exact BK311.out) k_ hk⟩)); (case aO => exact (by (with_reducible repeat (first | apply Kd.N_alloc | apply Kd.N_drewN | apply Kd.N_drew)); exact HO_5.out)); (case aS => exact (below_size bw_)); (case aL => have := LMc11.out; omega); intro v318 w14 ho hb hg hat; rw [← Ny317.out] at ho; replace HO_0 := A_ (Kd.V_afterv (ok := (fun k_ => ((P0_ k_ ∨ P1_2_ k_) ∨ w.heap.size ≤ k_) ∧ k_ ≠ gb311)) (by (with_reducible repeat (first | apply Kd.V_alloc | apply Kd.V_drewN | apply Kd.V_drew)); exact Kd.V_mono HO_0.out (fun _ hk => ⟨⟨hk.1, hk.2.2⟩, hk.2.1⟩)) hg hat); replace HO_312002 := A_ (Kd.V_afterv (ok := (fun k_ => ((P0_ k_ ∨ P1_2_ k_) ∨ w.heap.size ≤ k_) ∧ k_ ≠ gb311)) (by (with_reducible repeat (first | apply Kd.V_alloc | apply Kd.V_drewN | apply Kd.V_drew)); exact Kd.V_mono HO_312002.out (fun _ hk => ⟨⟨hk.1, hk.2.2⟩, hk.2.1⟩)) hg hat); replace BK311 := A_ (blk_grown (g := gb311) (o := .cells #[.int .i64 a1_0, .int .i64 a1_1, .slice A1_2 l1_2.length c1_2] 46 (0, 0)) (by (with_reducible repeat (first | refine bn_ ?_ _ | refine bd_ ?_ | refine ba_ ?_ _)); exact BK311.out) hg (Kd.N_away HO_5.out (fun _ hk => hk.2))); replace HL316_2 := A_ (Kd.V_afterv (ok := (fun k_ => ((P0_ k_ ∨ P1_2_ k_) ∨ w.heap.size ≤ k_) ∧ k_ ≠ gb311)) (by (with_reducible repeat (first | apply Kd.V_alloc | apply Kd.V_drewN | apply Kd.V_drew)); exact Kd.V_mono HL316_2.out (fun _ hk => ⟨⟨hk.1, hk.2.2⟩, hk.2.1⟩)) hg hat); replace HB := A_ (hb); have HO319 := A_ (ho); clear HO_5; clear ho hb hg hat; have p320 : 0 ≤ (x7_1 : Int) := of_decide_eq_true (by first | (with_reducible assumption) | assumption); have q320 : x7_1 < (l0.length : Int) := of_decide_eq_true (by first | (with_reducible assumption) | assumption); obtain ⟨ad320, A320_2, c320_2, e320, hx320_0, hx320_1, hx320_2, hl320_2, hi320_2⟩ := at_T46 (Kd.V_reads' HO_0.out).2.2 x7_1 p320 q320; obtain rfl : ad316 = ad320 := (by injection e320); obtain ⟨ce320, hce320, hMe320, hcc320⟩ := Kd.V_get HO_0.out z46 x7_1 p320 (by first | exact q320 | exact of_decide_eq_true (by first | (with_reducible assumption) | assumption) | (have e_ := (Kd.V_reads' HO_0.out).1; omega)); obtain ⟨ua320_2, uc320_2, rfl, ul320_2, ge320_2⟩ := k46_openF hMe320; have hv320_2 := hcc320 2 _ rfl; rw [add_field _ _ 2 (by omega)] at hv320_2; replace hv320_2 := Option.some.inj (hv320_2.symm.trans hx320_2); injection hv320_2 with hva_ hvn_ hvc_; rw [hva_] at ge320_2; rw [hvc_] at ul320_2; have HL320_2 := A_ (show Kd.V k32 32 _ w.heap.size _ _ ((rd_T46 l0 x7_1).f2) from Kd.V_mk ul320_2 ge320_2); clear hva_ hvn_ hvc_ ge320_2 ul320_2; clear hcc320 hce320; have HR320_2 := A_ hi320_2; have HC320_2 := A_ hl320_2; clear hi320_2 hl320_2; replace p320 := eq_true p320; replace q320 := eq_true q320) | ((with_reducible refine gate_builtin (b := .append) (xs := #[.tmp 30, .tmp 35]) rfl ?_); at_builtin; refine Kd.N_append k46 (w0 := w) w.heap.size rfl (.tmp 30) (.tmp 35) 24 46 (.agg #[(.int .i64 0), (.int .i64 0), (.slice none 0 0)]) 40 rfl Try.underlying24 info46 rfl (by decide) (by omega) v318 y317 (⟨(rd_T46 l0 x7_1).f0, (rd_T46 l0 x7_1).f1, (rd_T46 l0 x7_1).f2⟩ : S46) [.int .i64 ((rd_T46 l0 x7_1).f0), .int .i64 ((rd_T46 l0 x7_1).f1), .slice A320_2 ((rd_T46 l0 x7_1).f2).length c320_2] (fun k_ => ((P0_ k_ ∨ P1_2_ k_) ∨ w.heap.size ≤ k_) ∧ k_ ≠ gb311) (fun k_ => ((fun k_ => ((P0_ k_ ∨ P1_2_ k_) ∨ w.heap.size ≤ k_) ∧ k_ ≠ gb311)) k_ ∧ some k_ ≠ (v318 : Value).ownBlock) rfl rfl ?aP (fun _ hk => hk) ?aF ?aO ?aB ?aS ?aL ?_; (case aP => exact (k46_mkF _ _ (⟨(rd_T46 l0 x7_1).f0, (rd_T46 l0 x7_1).f1, (rd_T46 l0 x7_1).f2⟩ : S46) (Kd.V_reads' (Kd.V_mono (ok' := (fun k_ => ((fun k_ => ((P0_ k_ ∨ P1_2_ k_) ∨ w.heap.size ≤ k_) ∧ k_ ≠ gb311)) k_ ∧ some k_ ≠ (v318 : Value).ownBlock)) (HL320_2.out) (fun k_ hk => ⟨⟨hk.1.1, hk.1.2⟩, hk.2⟩))).2.1 (Kd.V_F (Kd.V_mono (ok' := (fun k_ => ((fun k_ => ((P0_ k_ ∨ P1_2_ k_) ∨ w.heap.size ≤ k_) ∧ k_ ≠ gb311)) k_ ∧ some k_ ≠ (v318 : Value).ownBlock)) (HL320_2.out) (fun k_ hk => ⟨⟨hk.1.1, hk.1.2⟩, hk.2⟩))))); (case aB => exact bw_); (case aF => exact (fun k_ hk => ⟨(.inr (Nat.le_trans (below_size bw_) hk)), Kd.freshB (g := gb311) (o := .cells #[.int .i64 a1_0, .int .i64 a1_1, .slice A1_2 l1_2.length c1_2] 46 (0, 0)) (by (with_reducible repeat (first | refine bn_ ?_ _ | refine bd_ ?_ | refine ba_ ?_ _)); exact BK311.out) k_ hk⟩)); (case aO => exact (by (with_reducible repeat (first | apply Kd.N_alloc | apply Kd.N_drewN | apply Kd.N_drew)); exact HO319.out)); (case aS => exact (below_size bw_)); (case aL => have := LMc12.out; omega); intro v322 w15 ho hb hg hat; rw [← Ny321.out] at ho; replace HO_0 := A_ (Kd.V_afterv (ok := (fun k_ => ((P0_ k_ ∨ P1_2_ k_) ∨ w.heap.size ≤ k_) ∧ k_ ≠ gb311)) (pv_ HO_0.out) hg hat); replace HO_312002 := A_ (Kd.V_afterv (ok := (fun k_ => ((P0_ k_ ∨ P1_2_ k_) ∨ w.heap.size ≤ k_) ∧ k_ ≠ gb311)) (pv_ HO_312002.out) hg hat); replace BK311 := A_ (blk_grown (g := gb311) (o := .cells #[.int .i64 a1_0, .int .i64 a1_1, .slice A1_2 l1_2.length c1_2] 46 (0, 0)) (by (with_reducible repeat (first | refine bn_ ?_ _ | refine bd_ ?_ | refine ba_ ?_ _)); exact BK311.out) hg (Kd.N_away HO319.out (fun _ hk => hk.2))); replace HL316_2 := A_ (Kd.V_afterv (ok := (fun k_ => ((P0_ k_ ∨ P1_2_ k_) ∨ w.heap.size ≤ k_) ∧ k_ ≠ gb311)) (by (with_reducible repeat (first | apply Kd.V_alloc | apply Kd.V_drewN | apply Kd.V_drew)); exact HL316_2.out) hg hat); replace HL320_2 := A_ (Kd.V_afterv (ok := (fun k_ => ((P0_ k_ ∨ P1_2_ k_) ∨ w.heap.size ≤ k_) ∧ k_ ≠ gb311)) (by (with_reducible repeat (first | apply Kd.V_alloc | apply Kd.V_drewN | apply Kd.V_drew)); exact HL320_2.out) hg hat); replace HB := A_ (hb); have HO323 := A_ (ho); clear HO319; clear ho hb hg hat))
         repeat (go_quiet (first | ((with_reducible refine gate_builtin (b := .append) (xs := #[.tmp 26, .tmp 28]) rfl ?_); at_builtin; refine Kd.N_append k46 (w0 := w) w.heap.size rfl (.tmp 26) (.tmp 28) 24 46 (.agg #[(.int .i64 0), (.int .i64 0), (.slice none 0 0)]) 40 rfl Try.underlying24 info46 rfl (by decide) (by omega) u5 x5_1 (⟨a1_0, a1_1, l1_2⟩ : S46) [.int .i64 a1_0, .int .i64 a1_1, .slice A1_2 l1_2.length c1_2] (fun k_ => ((P0_ k_ ∨ P1_2_ k_) ∨ w.heap.size ≤ k_) ∧ k_ ≠ gb311) (fun k_ => ((fun k_ => ((P0_ k_ ∨ P1_2_ k_) ∨ w.heap.size ≤ k_) ∧ k_ ≠ gb311)) k_ ∧ some k_ ≠ (u5 : Value).ownBlock) rfl rfl ?aP (fun _ hk => hk) ?aF ?aO ?aB ?aS ?aL ?_; (case aP => exact (k46_mkF _ _ (⟨a1_0, a1_1, l1_2⟩ : S46) (Kd.V_reads' (Kd.V_mono (ok' := (fun k_ => ((fun k_ => ((P0_ k_ ∨ P1_2_ k_) ∨ w.heap.size ≤ k_) ∧ k_ ≠ gb311)) k_ ∧ some k_ ≠ (u5 : Value).ownBlock)) (HO_312002.out) (fun k_ hk => ⟨⟨hk.1, hk.2.2⟩, hk.2.1⟩))).2.1 (Kd.V_F (by (with_reducible repeat (first | apply Kd.V_alloc | apply Kd.V_drewN | apply Kd.V_drew)); exact Kd.V_mono (ok' := (fun k_ => ((fun k_ => ((P0_ k_ ∨ P1_2_ k_) ∨ w.heap.size ≤ k_) ∧ k_ ≠ gb311)) k_ ∧ some k_ ≠ (u5 : Value).ownBlock)) (HO_312002.out) (fun k_ hk => ⟨⟨hk.1, hk.2.2⟩, hk.2.1⟩))))); (case aB => exact bw_); (case aF => exact (fun k_ hk => ⟨(.inr (Nat.le_trans (below_size bw_) hk)), Kd.freshB (g := gb311) (o := .cells #[.int .i64 a1_0, .int .i64 a1_1, .slice A1_2 l1_2.length c1_2] 46 (0, 0)) (by (with_reducible repeat (first | refine bn_ ?_ _ | refine bd_ ?_ | refine ba_ ?_ _)); exact BK311.out) k_ hk⟩)); (case aO => exact (by (with_reducible repeat (first | apply Kd.N_alloc | apply Kd.N_drewN | apply Kd.N_drew)); exact HO_5.out)); (case aS => exact (below_size bw_)); (case aL => have := LMc11.out; omega); intro v318 w14 ho hb hg hat; rw [← Ny317.out] at ho; replace HO_0 := A_ (Kd.V_afterv (ok := (fun k_ => ((P0_ k_ ∨ P1_2_ k_) ∨ w.heap.size ≤ k_) ∧ k_ ≠ gb311)) (by (with_reducible repeat (first | apply Kd.V_alloc | apply Kd.V_drewN | apply Kd.V_drew)); exact Kd.V_mono HO_0.out (fun _ hk => ⟨⟨hk.1, hk.2.2⟩, hk.2.1⟩)) hg hat); replace HO_312002 := A_ (Kd.V_afterv (ok := (fun k_ => ((P0_ k_ ∨ P1_2_ k_) ∨ w.heap.size ≤ k_) ∧ k_ ≠ gb311)) (by (with_reducible repeat (first | apply Kd.V_alloc | apply Kd.V_drewN | apply Kd.V_drew)); exact Kd.V_mono HO_312002.out (fun _ hk => ⟨⟨hk.1, hk.2.2⟩, hk.2.1⟩)) hg hat); replace BK311 := A_ (blk_grown (g := gb311) (o := .cells #[.int .i64 a1_0, .int .i64 a1_1, .slice A1_2 l1_2.length c1_2] 46 (0, 0)) (by (with_reducible repeat (first | refine bn_ ?_ _ | refine bd_ ?_ | refine ba_ ?_ _)); exact BK311.out) hg (Kd.N_away HO_5.out (fun _ hk => hk.2))); replace HL316_2 := A_ (Kd.V_afterv (ok := (fun k_ => ((P0_ k_ ∨ P1_2_ k_) ∨ w.heap.size ≤ k_) ∧ k_ ≠ gb311)) (by (with_reducible repeat (first | apply Kd.V_alloc | apply Kd.V_drewN | apply Kd.V_drew)); exact Kd.V_mono HL316_2.out (fun _ hk => ⟨⟨hk.1, hk.2.2⟩, hk.2.1⟩)) hg hat); replace HB := A_ (hb); have HO319 := A_ (ho); clear HO_5; clear ho hb hg hat; have p320 : 0 ≤ (x7_1 : Int) := of_decide_eq_true (by first | (with_reducible assumption) | assumption); have q320 : x7_1 < (l0.length : Int) := of_decide_eq_true (by first | (with_reducible assumption) | assumption); obtain ⟨ad320, A320_2, c320_2, e320, hx320_0, hx320_1, hx320_2, hl320_2, hi320_2⟩ := at_T46 (Kd.V_reads' HO_0.out).2.2 x7_1 p320 q320; obtain rfl : ad316 = ad320 := (by injection e320); obtain ⟨ce320, hce320, hMe320, hcc320⟩ := Kd.V_get HO_0.out z46 x7_1 p320 (by first | exact q320 | exact of_decide_eq_true (by first | (with_reducible assumption) | assumption) | (have e_ := (Kd.V_reads' HO_0.out).1; omega)); obtain ⟨ua320_2, uc320_2, rfl, ul320_2, ge320_2⟩ := k46_openF hMe320; have hv320_2 := hcc320 2 _ rfl; rw [add_field _ _ 2 (by omega)] at hv320_2; replace hv320_2 := Option.some.inj (hv320_2.symm.trans hx320_2); injection hv320_2 with hva_ hvn_ hvc_; rw [hva_] at ge320_2; rw [hvc_] at ul320_2; have HL320_2 := A_ (show Kd.V k32 32 _ w.heap.size _ _ ((rd_T46 l0 x7_1).f2) from Kd.V_mk ul320_2 ge320_2); clear hva_ hvn_ hvc_ ge320_2 ul320_2; clear hcc320 hce320; have HR320_2 := A_ hi320_2; have HC320_2 := A_ hl320_2; clear hi320_2 hl320_2; replace p320 := eq_true p320; replace q320 := eq_true q320) | ((with_reducible refine gate_builtin (b := .append) (xs := #[.tmp 30, .tmp 35]) rfl ?_); at_builtin; refine Kd.N_append k46 (w0 := w) w.heap.size rfl (.tmp 30) (.tmp 35) 24 46 (.agg #[(.int .i64 0), (.int .i64 0), (.slice none 0 0)]) 40 rfl Try.underlying24 info46 rfl (by decide) (by omega) v318 y317 (⟨(rd_T46 l0 x7_1).f0, (rd_T46 l0 x7_1).f1, (rd_T46 l0 x7_1).f2⟩ : S46) [.int .i64 ((rd_T46 l0 x7_1).f0), .int .i64 ((rd_T46 l0 x7_1).f1), .slice A320_2 ((rd_T46 l0 x7_1).f2).length c320_2] (fun k_ => ((P0_ k_ ∨ P1_2_ k_) ∨ w.heap.size ≤ k_) ∧ k_ ≠ gb311) (fun k_ => ((fun k_ => ((P0_ k_ ∨ P1_2_ k_) ∨ w.heap.size ≤ k_) ∧ k_ ≠ gb311)) k_ ∧ some k_ ≠ (v318 : Value).ownBlock) rfl rfl ?aP (fun _ hk => hk) ?aF ?aO ?aB ?aS ?aL ?_; (case aP => exact (k46_mkF _ _ (⟨(rd_T46 l0 x7_1).f0, (rd_T46 l0 x7_1).f1, (rd_T46 l0 x7_1).f2⟩ : S46) (Kd.V_reads' (Kd.V_mono (ok' := (fun k_ => ((fun k_ => ((P0_ k_ ∨ P1_2_ k_) ∨ w.heap.size ≤ k_) ∧ k_ ≠ gb311)) k_ ∧ some k_ ≠ (v318 : Value).ownBlock)) (HL320_2.out) (fun k_ hk => ⟨⟨hk.1.1, hk.1.2⟩, hk.2⟩))).2.1 (Kd.V_F (Kd.V_mono (ok' := (fun k_ => ((fun k_ => ((P0_ k_ ∨ P1_2_ k_) ∨ w.heap.size ≤ k_) ∧ k_ ≠ gb311)) k_ ∧ some k_ ≠ (v318 : Value).ownBlock)) (HL320_2.out) (fun k_ hk => ⟨⟨hk.1.1, hk.1.2⟩, hk.2⟩))))); (case aB => exact bw_); (case aF => exact (fun k_ hk => ⟨(.inr (Nat.le_trans (below_size bw_) hk)), Kd.freshB (g := gb311) (o := .cells #[.int .i64 a1_0, .int .i64 a1_1, .slice A1_2 l1_2.length c1_2] 46 (0, 0)) (by (with_reducible repeat (first | refine bn_ ?_ _ | refine bd_ ?_ | refine ba_ ?_ _)); exact BK311.out) k_ hk⟩)); (case aO => exact (by (with_reducible repeat (first | apply Kd.N_alloc | apply Kd.N_drewN | apply Kd.N_drew)); exact HO319.out)); (case aS => exact (below_size bw_)); (case aL => have := LMc12.out; omega); intro v322 w15 ho hb hg hat; rw [← Ny321.out] at ho; replace HO_0 := A_ (Kd.V_afterv (ok := (fun k_ => ((P0_ k_ ∨ P1_2_ k_) ∨ w.heap.size ≤ k_) ∧ k_ ≠ gb311)) (pv_ HO_0.out) hg hat); replace HO_312002 := A_ (Kd.V_afterv (ok := (fun k_ => ((P0_ k_ ∨ P1_2_ k_) ∨ w.heap.size ≤ k_) ∧ k_ ≠ gb311)) (pv_ HO_312002.out) hg hat); replace BK311 := A_ (blk_grown (g := gb311) (o := .cells #[.int .i64 a1_0, .int .i64 a1_1, .slice A1_2 l1_2.length c1_2] 46 (0, 0)) (by (with_reducible repeat (first | refine bn_ ?_ _ | refine bd_ ?_ | refine ba_ ?_ _)); exact BK311.out) hg (Kd.N_away HO319.out (fun _ hk => hk.2))); replace HL316_2 := A_ (Kd.V_afterv (ok := (fun k_ => ((P0_ k_ ∨ P1_2_ k_) ∨ w.heap.size ≤ k_) ∧ k_ ≠ gb311)) (by (with_reducible repeat (first | apply Kd.V_alloc | apply Kd.V_drewN | apply Kd.V_drew)); exact HL316_2.out) hg hat); replace HL320_2 := A_ (Kd.V_afterv (ok := (fun k_ => ((P0_ k_ ∨ P1_2_ k_) ∨ w.heap.size ≤ k_) ∧ k_ ≠ gb311)) (by (with_reducible repeat (first | apply Kd.V_alloc | apply Kd.V_drewN | apply Kd.V_drew)); exact HL320_2.out) hg hat); replace HB := A_ (hb); have HO323 := A_ (ho); clear HO319; clear ho hb hg hat)); try go_wp2_with (first | ((with_reducible refine gate_builtin (b := .append) (xs := #[.tmp 26, .tmp 28]) rfl ?_); at_builtin; refine Kd.N_append k46 (w0 := w) w.heap.size rfl (.tmp 26) (.tmp 28) 24 46 (.agg #[(.int .i64 0), (.int .i64 0), (.slice none 0 0)]) 40 rfl Try.underlying24 info46 rfl (by decide) (by omega) u5 x5_1 (⟨a1_0, a1_1, l1_2⟩ : S46) [.int .i64 a1_0, .int .i64 a1_1, .slice A1_2 l1_2.length c1_2] (fun k_ => ((P0_ k_ ∨ P1_2_ k_) ∨ w.heap.size ≤ k_) ∧ k_ ≠ gb311) (fun k_ => ((fun k_ => ((P0_ k_ ∨ P1_2_ k_) ∨ w.heap.size ≤ k_) ∧ k_ ≠ gb311)) k_ ∧ some k_ ≠ (u5 : Value).ownBlock) rfl rfl ?aP (fun _ hk => hk) ?aF ?aO ?aB ?aS ?aL ?_; (case aP => exact (k46_mkF _ _ (⟨a1_0, a1_1, l1_2⟩ : S46) (Kd.V_reads' (Kd.V_mono (ok' := (fun k_ => ((fun k_ => ((P0_ k_ ∨ P1_2_ k_) ∨ w.heap.size ≤ k_) ∧ k_ ≠ gb311)) k_ ∧ some k_ ≠ (u5 : Value).ownBlock)) (HO_312002.out) (fun k_ hk => ⟨⟨hk.1, hk.2.2⟩, hk.2.1⟩))).2.1 (Kd.V_F (by (with_reducible repeat (first | apply Kd.V_alloc | apply Kd.V_drewN | apply Kd.V_drew)); exact Kd.V_mono (ok' := (fun k_ => ((fun k_ => ((P0_ k_ ∨ P1_2_ k_) ∨ w.heap.size ≤ k_) ∧ k_ ≠ gb311)) k_ ∧ some k_ ≠ (u5 : Value).ownBlock)) (HO_312002.out) (fun k_ hk => ⟨⟨hk.1, hk.2.2⟩, hk.2.1⟩))))); (case aB => exact bw_); (case aF => exact (fun k_ hk => ⟨(.inr (Nat.le_trans (below_size bw_) hk)), Kd.freshB (g := gb311) (o := .cells #[.int .i64 a1_0, .int .i64 a1_1, .slice A1_2 l1_2.length c1_2] 46 (0, 0)) (by (with_reducible repeat (first | refine bn_ ?_ _ | refine bd_ ?_ | refine ba_ ?_ _)); exact BK311.out) k_ hk⟩)); (case aO => exact (by (with_reducible repeat (first | apply Kd.N_alloc | apply Kd.N_drewN | apply Kd.N_drew)); exact HO_5.out)); (case aS => exact (below_size bw_)); (case aL => have := LMc11.out; omega); intro v318 w14 ho hb hg hat; rw [← Ny317.out] at ho; replace HO_0 := A_ (Kd.V_afterv (ok := (fun k_ => ((P0_ k_ ∨ P1_2_ k_) ∨ w.heap.size ≤ k_) ∧ k_ ≠ gb311)) (by (with_reducible repeat (first | apply Kd.V_alloc | apply Kd.V_drewN | apply Kd.V_drew)); exact Kd.V_mono HO_0.out (fun _ hk => ⟨⟨hk.1, hk.2.2⟩, hk.2.1⟩)) hg hat); replace HO_312002 := A_ (Kd.V_afterv (ok := (fun k_ => ((P0_ k_ ∨ P1_2_ k_) ∨ w.heap.size ≤ k_) ∧ k_ ≠ gb311)) (by (with_reducible repeat (first | apply Kd.V_alloc | apply Kd.V_drewN | apply Kd.V_drew)); exact Kd.V_mono HO_312002.out (fun _ hk => ⟨⟨hk.1, hk.2.2⟩, hk.2.1⟩)) hg hat); replace BK311 := A_ (blk_grown (g := gb311) (o := .cells #[.int .i64 a1_0, .int .i64 a1_1, .slice A1_2 l1_2.length c1_2] 46 (0, 0)) (by (with_reducible repeat (first | refine bn_ ?_ _ | refine bd_ ?_ | refine ba_ ?_ _)); exact BK311.out) hg (Kd.N_away HO_5.out (fun _ hk => hk.2))); replace HL316_2 := A_ (Kd.V_afterv (ok := (fun k_ => ((P0_ k_ ∨ P1_2_ k_) ∨ w.heap.size ≤ k_) ∧ k_ ≠ gb311)) (by (with_reducible repeat (first | apply Kd.V_alloc | apply Kd.V_drewN | apply Kd.V_drew)); exact Kd.V_mono HL316_2.out (fun _ hk => ⟨⟨hk.1, hk.2.2⟩, hk.2.1⟩)) hg hat); replace HB := A_ (hb); have HO319 := A_ (ho); clear HO_5; clear ho hb hg hat; have p320 : 0 ≤ (x7_1 : Int) := of_decide_eq_true (by first | (with_reducible assumption) | assumption); have q320 : x7_1 < (l0.length : Int) := of_decide_eq_true (by first | (with_reducible assumption) | assumption); obtain ⟨ad320, A320_2, c320_2, e320, hx320_0, hx320_1, hx320_2, hl320_2, hi320_2⟩ := at_T46 (Kd.V_reads' HO_0.out).2.2 x7_1 p320 q320; obtain rfl : ad316 = ad320 := (by injection e320); obtain ⟨ce320, hce320, hMe320, hcc320⟩ := Kd.V_get HO_0.out z46 x7_1 p320 (by first | exact q320 | exact of_decide_eq_true (by first | (with_reducible assumption) | assumption) | (have e_ := (Kd.V_reads' HO_0.out).1; omega)); obtain ⟨ua320_2, uc320_2, rfl, ul320_2, ge320_2⟩ := k46_openF hMe320; have hv320_2 := hcc320 2 _ rfl; rw [add_field _ _ 2 (by omega)] at hv320_2; replace hv320_2 := Option.some.inj (hv320_2.symm.trans hx320_2); injection hv320_2 with hva_ hvn_ hvc_; rw [hva_] at ge320_2; rw [hvc_] at ul320_2; have HL320_2 := A_ (show Kd.V k32 32 _ w.heap.size _ _ ((rd_T46 l0 x7_1).f2) from Kd.V_mk ul320_2 ge320_2); clear hva_ hvn_ hvc_ ge320_2 ul320_2; clear hcc320 hce320; have HR320_2 := A_ hi320_2; have HC320_2 := A_ hl320_2; clear hi320_2 hl320_2; replace p320 := eq_true p320; replace q320 := eq_true q320) | ((with_reducible refine gate_builtin (b := .append) (xs := #[.tmp 30, .tmp 35]) rfl ?_); at_builtin; refine Kd.N_append k46 (w0 := w) w.heap.size rfl (.tmp 30) (.tmp 35) 24 46 (.agg #[(.int .i64 0), (.int .i64 0), (.slice none 0 0)]) 40 rfl Try.underlying24 info46 rfl (by decide) (by omega) v318 y317 (⟨(rd_T46 l0 x7_1).f0, (rd_T46 l0 x7_1).f1, (rd_T46 l0 x7_1).f2⟩ : S46) [.int .i64 ((rd_T46 l0 x7_1).f0), .int .i64 ((rd_T46 l0 x7_1).f1), .slice A320_2 ((rd_T46 l0 x7_1).f2).length c320_2] (fun k_ => ((P0_ k_ ∨ P1_2_ k_) ∨ w.heap.size ≤ k_) ∧ k_ ≠ gb311) (fun k_ => ((fun k_ => ((P0_ k_ ∨ P1_2_ k_) ∨ w.heap.size ≤ k_) ∧ k_ ≠ gb311)) k_ ∧ some k_ ≠ (v318 : Value).ownBlock) rfl rfl ?aP (fun _ hk => hk) ?aF ?aO ?aB ?aS ?aL ?_; (case aP => exact (k46_mkF _ _ (⟨(rd_T46 l0 x7_1).f0, (rd_T46 l0 x7_1).f1, (rd_T46 l0 x7_1).f2⟩ : S46) (Kd.V_reads' (Kd.V_mono (ok' := (fun k_ => ((fun k_ => ((P0_ k_ ∨ P1_2_ k_) ∨ w.heap.size ≤ k_) ∧ k_ ≠ gb311)) k_ ∧ some k_ ≠ (v318 : Value).ownBlock)) (HL320_2.out) (fun k_ hk => ⟨⟨hk.1.1, hk.1.2⟩, hk.2⟩))).2.1 (Kd.V_F (Kd.V_mono (ok' := (fun k_ => ((fun k_ => ((P0_ k_ ∨ P1_2_ k_) ∨ w.heap.size ≤ k_) ∧ k_ ≠ gb311)) k_ ∧ some k_ ≠ (v318 : Value).ownBlock)) (HL320_2.out) (fun k_ hk => ⟨⟨hk.1.1, hk.1.2⟩, hk.2⟩))))); (case aB => exact bw_); (case aF => exact (fun k_ hk => ⟨(.inr (Nat.le_trans (below_size bw_) hk)), Kd.freshB (g := gb311) (o := .cells #[.int .i64 a1_0, .int .i64 a1_1, .slice A1_2 l1_2.length c1_2] 46 (0, 0)) (by (with_reducible repeat (first | refine bn_ ?_ _ | refine bd_ ?_ | refine ba_ ?_ _)); exact BK311.out) k_ hk⟩)); (case aO => exact (by (with_reducible repeat (first | apply Kd.N_alloc | apply Kd.N_drewN | apply Kd.N_drew)); exact HO319.out)); (case aS => exact (below_size bw_)); (case aL => have := LMc12.out; omega); intro v322 w15 ho hb hg hat; rw [← Ny321.out] at ho; replace HO_0 := A_ (Kd.V_afterv (ok := (fun k_ => ((P0_ k_ ∨ P1_2_ k_) ∨ w.heap.size ≤ k_) ∧ k_ ≠ gb311)) (pv_ HO_0.out) hg hat); replace HO_312002 := A_ (Kd.V_afterv (ok := (fun k_ => ((P0_ k_ ∨ P1_2_ k_) ∨ w.heap.size ≤ k_) ∧ k_ ≠ gb311)) (pv_ HO_312002.out) hg hat); replace BK311 := A_ (blk_grown (g := gb311) (o := .cells #[.int .i64 a1_0, .int .i64 a1_1, .slice A1_2 l1_2.length c1_2] 46 (0, 0)) (by (with_reducible repeat (first | refine bn_ ?_ _ | refine bd_ ?_ | refine ba_ ?_ _)); exact BK311.out) hg (Kd.N_away HO319.out (fun _ hk => hk.2))); replace HL316_2 := A_ (Kd.V_afterv (ok := (fun k_ => ((P0_ k_ ∨ P1_2_ k_) ∨ w.heap.size ≤ k_) ∧ k_ ≠ gb311)) (by (with_reducible repeat (first | apply Kd.V_alloc | apply Kd.V_drewN | apply Kd.V_drew)); exact HL316_2.out) hg hat); replace HL320_2 := A_ (Kd.V_afterv (ok := (fun k_ => ((P0_ k_ ∨ P1_2_ k_) ∨ w.heap.size ≤ k_) ∧ k_ ≠ gb311)) (by (with_reducible repeat (first | apply Kd.V_alloc | apply Kd.V_drewN | apply Kd.V_drew)); exact HL320_2.out) hg hat); replace HB := A_ (hb); have HO323 := A_ (ho); clear HO319; clear ho hb hg hat)))
         go_roundg k1
         case measure => have := HK1.out; omega
         case rel => exact ⟨(y321), (true), (wrap64 (x7_1 + 1)), (by first | rfl | (simp; done) | (simp [*]; done)), (by first | rfl | (simp; done) | (simp [*]; done)), H', ⟨by have := HK1.out; omega⟩, ⟨by (with_reducible repeat (first | apply Kd.V_alloc | apply Kd.V_drewN | apply Kd.V_drew)); exact Kd.V_mono HO_0.out (fun _ hk => ⟨hk.1.1, ⟨hk.2, hk.1.2⟩⟩)⟩, ⟨by (with_reducible repeat (first | apply Kd.N_alloc | apply Kd.N_drewN | apply Kd.N_drew)); exact HO323.out⟩, ⟨by (with_reducible repeat (first | apply Kd.V_alloc | apply Kd.V_drewN | apply Kd.V_drew)); exact Kd.V_mono HO_312002.out (fun _ hk => ⟨hk.1.1, ⟨hk.2, hk.1.2⟩⟩)⟩, ⟨bk_⟩, ⟨by repeat (first | (with_reducible first | exact HB.out | apply wa_ | apply wn_ | apply wd_ | refine ws_ ?_ GE311.out) | exact HB.out)⟩⟩
       · rw [if_neg c10] at H
         have c10b0 : decide (a1_0 < ((rd_T46 l0 x7_1).f0)) = false := decide_eq_false c10
         clear c10
         by_cases c16 : x5_1.length < 3518437208883
         rotate_left
         · rw [if_neg c16] at H
           exact absurd H (by simp)
         rw [if_pos c16] at H
         have LMc16 := A_ c16
         clear c16
         obtain ⟨y325, hy325⟩ : ∃ y_ : List (S46), y_ = (x5_1 ++ [(⟨(rd_T46 l0 x7_1).f0, (rd_T46 l0 x7_1).f1, (rd_T46 l0 x7_1).f2⟩ : S46)]) := ⟨_, rfl⟩
         replace H : (hopperref11_put.l0 k1 l0 y325 false (wrap64 (x7_1 + 1)) a1_0 a1_1 l1_2) = some r := by first | (rw [hy325]; with_reducible exact H) | (have H2_ := (Option.bind_some _ _).symm.trans H; rw [hy325]; with_reducible exact H2_) | (have H2_ := (Option.bind_some _ _).symm.trans H; with_reducible exact H2_) | with_reducible exact H | (rw [hy325]; exact H) | exact H
         have Ny325 := A_ hy325
         clear hy325
         have H' := A_ H
         clear H
         have p316 : 0 ≤ (x7_1 : Int) := of_decide_eq_true (by first | (with_reducible assumption) | assumption)
         have q316 : x7_1 < (l0.length : Int) := of_decide_eq_true (by first | (with_reducible assumption) | assumption)
         obtain ⟨ad316, A316_2, c316_2, e316, hx316_0, hx316_1, hx316_2, hl316_2, hi316_2⟩ := at_T46 (Kd.V_reads' HO_0.out).2.2 x7_1 p316 q316
         cases e316
         obtain ⟨ce316, hce316, hMe316, hcc316⟩ := Kd.V_get HO_0.out z46 x7_1 p316 (by first | exact q316 | exact of_decide_eq_true (by first | (with_reducible assumption) | assumption) | (have e_ := (Kd.V_reads' HO_0.out).1; omega))
         obtain ⟨ua316_2, uc316_2, rfl, ul316_2, ge316_2⟩ := k46_openF hMe316
         have hv316_2 := hcc316 2 _ rfl
         rw [add_field _ _ 2 (by omega)] at hv316_2
         replace hv316_2 := Option.some.inj (hv316_2.symm.trans hx316_2)
         injection hv316_2 with hva_ hvn_ hvc_
         rw [hva_] at ge316_2
         rw [hvc_] at ul316_2
         have HL316_2 := A_ (show Kd.V k32 32 _ w.heap.size _ _ ((rd_T46 l0 x7_1).f2) from Kd.V_mk ul316_2 ge316_2)
         clear hva_ hvn_ hvc_ ge316_2 ul316_2; clear hcc316 hce316
         have HR316_2 := A_ hi316_2
         have HC316_2 := A_ hl316_2
         clear hi316_2 hl316_2
         replace p316 := eq_true p316
         replace q316 := eq_true q316
         have hcz17_0 : wr.cell? ⟨gb311, 0, none⟩ = some (.int .i64 a1_0) := e_ BK311 0; have hcz17_1 : wr.cell? ⟨gb311, 1, none⟩ = some (.int .i64 a1_1) := e_ BK311 1; have hcz17_2 : wr.cell? ⟨gb311, 2, none⟩ = some (.slice A1_2 l1_2.length c1_2) := e_ BK311 2; obtain ⟨hfz17_0, hfz17_1, hfz17_2⟩ := z3_ BK311
         have p324 : 0 ≤ (x7_1 : Int) := of_decide_eq_true (by first | (with_reducible assumption) | assumption)
         have q324 : x7_1 < (l0.length : Int) := of_decide_eq_true (by first | (with_reducible assumption) | assumption)
         obtain ⟨ad324, A324_2, c324_2, e324, hx324_0, hx324_1, hx324_2, hl324_2, hi324_2⟩ := at_T46 (Kd.V_reads' HO_0.out).2.2 x7_1 p324 q324
         obtain rfl : ad316 = ad324 := (by injection e324)
         obtain ⟨ce324, hce324, hMe324, hcc324⟩ := Kd.V_get HO_0.out z46 x7_1 p324 (by first | exact q324 | exact of_decide_eq_true (by first | (with_reducible assumption) | assumption) | (have e_ := (Kd.V_reads' HO_0.out).1; omega))
         obtain ⟨ua324_2, uc324_2, rfl, ul324_2, ge324_2⟩ := k46_openF hMe324
         have hv324_2 := hcc324 2 _ rfl
         rw [add_field _ _ 2 (by omega)] at hv324_2
         replace hv324_2 := Option.some.inj (hv324_2.symm.trans hx324_2)
         injection hv324_2 with hva_ hvn_ hvc_
         rw [hva_] at ge324_2
         rw [hvc_] at ul324_2
         have HL324_2 := A_ (show Kd.V k32 32 _ w.heap.size _ _ ((rd_T46 l0 x7_1).f2) from Kd.V_mk ul324_2 ge324_2)
         clear hva_ hvn_ hvc_ ge324_2 ul324_2; clear hcc324 hce324
         have HR324_2 := A_ hi324_2
         have HC324_2 := A_ hl324_2
         clear hi324_2 hl324_2
         replace p324 := eq_true p324
         replace q324 := eq_true q324
         have ea_ := Option.some.inj (hx316_2.symm.trans hx324_2)
         injection ea_ with ea_ en_ ec_
         subst ea_
         subst ec_
         clear en_
         go_wp2_with (first | ((with_reducible refine gate_builtin (b := .append) (xs := #[.tmp 30, .tmp 35]) rfl ?_); at_builtin; refine Kd.N_append k46 (w0 := w) w.heap.size rfl (.tmp 30) (.tmp 35) 24 46 (.agg #[(.int .i64 0), (.int .i64 0), (.slice none 0 0)]) 40 rfl Try.underlying24 info46 rfl (by decide) (by omega) u5 x5_1 (⟨(rd_T46 l0 x7_1).f0, (rd_T46 l0 x7_1).f1, (rd_T46 l0 x7_1).f2⟩ : S46) [.int .i64 ((rd_T46 l0 x7_1).f0), .int .i64 ((rd_T46 l0 x7_1).f1), .slice A316_2 ((rd_T46 l0 x7_1).f2).length c316_2] (fun k_ => ((P0_ k_ ∨ P1_2_ k_) ∨ w.heap.size ≤ k_) ∧ k_ ≠ gb311) (fun k_ => ((fun k_ => ((P0_ k_ ∨ P1_2_ k_) ∨ w.heap.size ≤ k_) ∧ k_ ≠ gb311)) k_ ∧ some k_ ≠ (u5 : Value).ownBlock) rfl rfl ?aP (fun _ hk => hk) ?aF ?aO ?aB ?aS ?aL ?_; (case aP => exact (k46_mkF _ _ (⟨(rd_T46 l0 x7_1).f0, (rd_T46 l0 x7_1).f1, (rd_T46 l0 x7_1).f2⟩ : S46) (Kd.V_reads' (Kd.V_mono (ok' := (fun k_ => ((fun k_ => ((P0_ k_ ∨ P1_2_ k_) ∨ w.heap.size ≤ k_) ∧ k_ ≠ gb311)) k_ ∧ some k_ ≠ (u5 : Value).ownBlock)) (HL324_2.out) (fun k_ hk => ⟨⟨hk.1, hk.2.2⟩, hk.2.1⟩))).2.1 (Kd.V_F (by (with_reducible repeat (first | apply Kd.V_alloc | apply Kd.V_drewN | apply Kd.V_drew)); exact Kd.V_mono (ok' := (fun k_ => ((fun k_ => ((P0_ k_ ∨ P1_2_ k_) ∨ w.heap.size ≤ k_) ∧ k_ ≠ gb311)) k_ ∧ some k_ ≠ (u5 : Value).ownBlock)) (HL324_2.out) (fun k_ hk => ⟨⟨hk.1, hk.2.2⟩, hk.2.1⟩))))); (case aB => exact bw_); (case aF => exact (fun k_ hk => ⟨(.inr (Nat.le_trans (below_size bw_) hk)), Kd.freshB (g := gb311) (o := .cells #[.int .i64 a1_0, .int .i64 a1_1, .slice A1_2 l1_2.length c1_2] 46 (0, 0)) (by (with_reducible repeat (first | refine bn_ ?_ _ | refine bd_ ?_ | refine ba_ ?_ _)); exact BK311.out) k_ hk⟩)); (case aO => exact (by (with_reducible repeat (first | apply Kd.N_alloc | apply Kd.N_drewN | apply Kd.N_drew)); exact HO_5.out)); (case aS => exact (below_size bw_)); (case aL => have := LMc16.out; omega); intro v326 w18 ho hb hg hat; rw [← Ny325.out] at ho; replace HO_0 := A_ (Kd.V_afterv (ok := (fun k_ => ((P0_ k_ ∨ P1_2_ k_) ∨ w.heap.size ≤ k_) ∧ k_ ≠ gb311)) (by (with_reducible repeat (first | apply Kd.V_alloc | apply Kd.V_drewN | apply Kd.V_drew)); exact Kd.V_mono HO_0.out (fun _ hk => ⟨⟨hk.1, hk.2.2⟩, hk.2.1⟩)) hg hat); replace HO_312002 := A_ (Kd.V_afterv (ok := (fun k_ => ((P0_ k_ ∨ P1_2_ k_) ∨ w.heap.size ≤ k_) ∧ k_ ≠ gb311)) (by (with_reducible repeat (first | apply Kd.V_alloc | apply Kd.V_drewN | apply Kd.V_drew)); exact Kd.V_mono HO_312002.out (fun _ hk => ⟨⟨hk.1, hk.2.2⟩, hk.2.1⟩)) hg hat); replace BK311 := A_ (blk_grown (g := gb311) (o := .cells #[.int .i64 a1_0, .int .i64 a1_1, .slice A1_2 l1_2.length c1_2] 46 (0, 0)) (by (with_reducible repeat (first | refine bn_ ?_ _ | refine bd_ ?_ | refine ba_ ?_ _)); exact BK311.out) hg (Kd.N_away HO_5.out (fun _ hk => hk.2))); replace HL316_2 := A_ (Kd.V_afterv (ok := (fun k_ => ((P0_ k_ ∨ P1_2_ k_) ∨ w.heap.size ≤ k_) ∧ k_ ≠ gb311)) (by (with_reducible repeat (first | apply Kd.V_alloc | apply Kd.V_drewN | apply Kd.V_drew)); exact Kd.V_mono HL316_2.out (fun _ hk => ⟨⟨hk.1, hk.2.2⟩, hk.2.1⟩)) hg hat); replace HL324_2 := A_ (Kd.V_afterv (ok := (fun k_ => ((P0_ k_ ∨ P1_2_ k_) ∨ w.heap.size ≤ k_) ∧ k_ ≠ gb311)) (by (with_reducible repeat (first | apply Kd.V_alloc | apply Kd.V_drewN | apply Kd.V_drew)); exact Kd.V_mono HL324_2.out (fun _ hk => ⟨⟨hk.1, hk.2.2⟩, hk.2.1⟩)) hg hat); replace HB := A_ (hb); have HO327 := A_ (ho); clear HO_5; clear ho hb hg hat))
         repeat (go_quiet (first | ((with_reducible refine gate_builtin (b := .append) (xs := #[.tmp 30, .tmp 35]) rfl ?_); at_builtin; refine Kd.N_append k46 (w0 := w) w.heap.size rfl (.tmp 30) (.tmp 35) 24 46 (.agg #[(.int .i64 0), (.int .i64 0), (.slice none 0 0)]) 40 rfl Try.underlying24 info46 rfl (by decide) (by omega) u5 x5_1 (⟨(rd_T46 l0 x7_1).f0, (rd_T46 l0 x7_1).f1, (rd_T46 l0 x7_1).f2⟩ : S46) [.int .i64 ((rd_T46 l0 x7_1).f0), .int .i64 ((rd_T46 l0 x7_1).f1), .slice A316_2 ((rd_T46 l0 x7_1).f2).length c316_2] (fun k_ => ((P0_ k_ ∨ P1_2_ k_) ∨ w.heap.size ≤ k_) ∧ k_ ≠ gb311) (fun k_ => ((fun k_ => ((P0_ k_ ∨ P1_2_ k_) ∨ w.heap.size ≤ k_) ∧ k_ ≠ gb311)) k_ ∧ some k_ ≠ (u5 : Value).ownBlock) rfl rfl ?aP (fun _ hk => hk) ?aF ?aO ?aB ?aS ?aL ?_; (case aP => exact (k46_mkF _ _ (⟨(rd_T46 l0 x7_1).f0, (rd_T46 l0 x7_1).f1, (rd_T46 l0 x7_1).f2⟩ : S46) (Kd.V_reads' (Kd.V_mono (ok' := (fun k_ => ((fun k_ => ((P0_ k_ ∨ P1_2_ k_) ∨ w.heap.size ≤ k_) ∧ k_ ≠ gb311)) k_ ∧ some k_ ≠ (u5 : Value).ownBlock)) (HL324_2.out) (fun k_ hk => ⟨⟨hk.1, hk.2.2⟩, hk.2.1⟩))).2.1 (Kd.V_F (by (with_reducible repeat (first | apply Kd.V_alloc | apply Kd.V_drewN | apply Kd.V_drew)); exact Kd.V_mono (ok' := (fun k_ => ((fun k_ => ((P0_ k_ ∨ P1_2_ k_) ∨ w.heap.size ≤ k_) ∧ k_ ≠ gb311)) k_ ∧ some k_ ≠ (u5 : Value).ownBlock)) (HL324_2.out) (fun k_ hk => ⟨⟨hk.1, hk.2.2⟩, hk.2.1⟩))))); (case aB => exact bw_); (case aF => exact (fun k_ hk => ⟨(.inr (Nat.le_trans (below_size bw_) hk)), Kd.freshB (g := gb311) (o := .cells #[.int .i64 a1_0, .int .i64 a1_1, .slice A1_2 l1_2.length c1_2] 46 (0, 0)) (by (with_reducible repeat (first | refine bn_ ?_ _ | refine bd_ ?_ | refine ba_ ?_ _)); exact BK311.out) k_ hk⟩)); (case aO => exact (by (with_reducible repeat (first | apply Kd.N_alloc | apply Kd.N_drewN | apply Kd.N_drew)); exact HO_5.out)); (case aS => exact (below_size bw_)); (case aL => have := LMc16.out; omega); intro v326 w18 ho hb hg hat; rw [← Ny325.out] at ho; replace HO_0 := A_ (Kd.V_afterv (ok := (fun k_ => ((P0_ k_ ∨ P1_2_ k_) ∨ w.heap.size ≤ k_) ∧ k_ ≠ gb311)) (by (with_reducible repeat (first | apply Kd.V_alloc | apply Kd.V_drewN | apply Kd.V_drew)); exact Kd.V_mono HO_0.out (fun _ hk => ⟨⟨hk.1, hk.2.2⟩, hk.2.1⟩)) hg hat); replace HO_312002 := A_ (Kd.V_afterv (ok := (fun k_ => ((P0_ k_ ∨ P1_2_ k_) ∨ w.heap.size ≤ k_) ∧ k_ ≠ gb311)) (by (with_reducible repeat (first | apply Kd.V_alloc | apply Kd.V_drewN | apply Kd.V_drew)); exact Kd.V_mono HO_312002.out (fun _ hk => ⟨⟨hk.1, hk.2.2⟩, hk.2.1⟩)) hg hat); replace BK311 := A_ (blk_grown (g := gb311) (o := .cells #[.int .i64 a1_0, .int .i64 a1_1, .slice A1_2 l1_2.length c1_2] 46 (0, 0)) (by (with_reducible repeat (first | refine bn_ ?_ _ | refine bd_ ?_ | refine ba_ ?_ _)); exact BK311.out) hg (Kd.N_away HO_5.out (fun _ hk => hk.2))); replace HL316_2 := A_ (Kd.V_afterv (ok := (fun k_ => ((P0_ k_ ∨ P1_2_ k_) ∨ w.heap.size ≤ k_) ∧ k_ ≠ gb311)) (by (with_reducible repeat (first | apply Kd.V_alloc | apply Kd.V_drewN | apply Kd.V_drew)); exact Kd.V_mono HL316_2.out (fun _ hk => ⟨⟨hk.1, hk.2.2⟩, hk.2.1⟩)) hg hat); replace HL324_2 := A_ (Kd.V_afterv (ok := (fun k_ => ((P0_ k_ ∨ P1_2_ k_) ∨ w.heap.size ≤ k_) ∧ k_ ≠ gb311)) (by (with_reducible repeat (first | apply Kd.V_alloc | apply Kd.V_drewN | apply Kd.V_drew)); exact Kd.V_mono HL324_2.out (fun _ hk => ⟨⟨hk.1, hk.2.2⟩, hk.2.1⟩)) hg hat); replace HB := A_ (hb); have HO327 := A_ (ho); clear HO_5; clear ho hb hg hat)); try go_wp2_with (first | ((with_reducible refine gate_builtin (b := .append) (xs := #[.tmp 30, .tmp 35]) rfl ?_); at_builtin; refine Kd.N_append k46 (w0 := w) w.heap.size rfl (.tmp 30) (.tmp 35) 24 46 (.agg #[(.int .i64 0), (.int .i64 0), (.slice none 0 0)]) 40 rfl Try.underlying24 info46 rfl (by decide) (by omega) u5 x5_1 (⟨(rd_T46 l0 x7_1).f0, (rd_T46 l0 x7_1).f1, (rd_T46 l0 x7_1).f2⟩ : S46) [.int .i64 ((rd_T46 l0 x7_1).f0), .int .i64 ((rd_T46 l0 x7_1).f1), .slice A316_2 ((rd_T46 l0 x7_1).f2).length c316_2] (fun k_ => ((P0_ k_ ∨ P1_2_ k_) ∨ w.heap.size ≤ k_) ∧ k_ ≠ gb311) (fun k_ => ((fun k_ => ((P0_ k_ ∨ P1_2_ k_) ∨ w.heap.size ≤ k_) ∧ k_ ≠ gb311)) k_ ∧ some k_ ≠ (u5 : Value).ownBlock) rfl rfl ?aP (fun _ hk => hk) ?aF ?aO ?aB ?aS ?aL ?_; (case aP => exact (k46_mkF _ _ (⟨(rd_T46 l0 x7_1).f0, (rd_T46 l0 x7_1).f1, (rd_T46 l0 x7_1).f2⟩ : S46) (Kd.V_reads' (Kd.V_mono (ok' := (fun k_ => ((fun k_ => ((P0_ k_ ∨ P1_2_ k_) ∨ w.heap.size ≤ k_) ∧ k_ ≠ gb311)) k_ ∧ some k_ ≠ (u5 : Value).ownBlock)) (HL324_2.out) (fun k_ hk => ⟨⟨hk.1, hk.2.2⟩, hk.2.1⟩))).2.1 (Kd.V_F (by (with_reducible repeat (first | apply Kd.V_alloc | apply Kd.V_drewN | apply Kd.V_drew)); exact Kd.V_mono (ok' := (fun k_ => ((fun k_ => ((P0_ k_ ∨ P1_2_ k_) ∨ w.heap.size ≤ k_) ∧ k_ ≠ gb311)) k_ ∧ some k_ ≠ (u5 : Value).ownBlock)) (HL324_2.out) (fun k_ hk => ⟨⟨hk.1, hk.2.2⟩, hk.2.1⟩))))); (case aB => exact bw_); (case aF => exact (fun k_ hk => ⟨(.inr (Nat.le_trans (below_size bw_) hk)), Kd.freshB (g := gb311) (o := .cells #[.int .i64 a1_0, .int .i64 a1_1, .slice A1_2 l1_2.length c1_2] 46 (0, 0)) (by (with_reducible repeat (first | refine bn_ ?_ _ | refine bd_ ?_ | refine ba_ ?_ _)); exact BK311.out) k_ hk⟩)); (case aO => exact (by (with_reducible repeat (first | apply Kd.N_alloc | apply Kd.N_drewN | apply Kd.N_drew)); exact HO_5.out)); (case aS => exact (below_size bw_)); (case aL => have := LMc16.out; omega); intro v326 w18 ho hb hg hat; rw [← Ny325.out] at ho; replace HO_0 := A_ (Kd.V_afterv (ok := (fun k_ => ((P0_ k_ ∨ P1_2_ k_) ∨ w.heap.size ≤ k_) ∧ k_ ≠ gb311)) (by (with_reducible repeat (first | apply Kd.V_alloc | apply Kd.V_drewN | apply Kd.V_drew)); exact Kd.V_mono HO_0.out (fun _ hk => ⟨⟨hk.1, hk.2.2⟩, hk.2.1⟩)) hg hat); replace HO_312002 := A_ (Kd.V_afterv (ok := (fun k_ => ((P0_ k_ ∨ P1_2_ k_) ∨ w.heap.size ≤ k_) ∧ k_ ≠ gb311)) (by (with_reducible repeat (first | apply Kd.V_alloc | apply Kd.V_drewN | apply Kd.V_drew)); exact Kd.V_mono HO_312002.out (fun _ hk => ⟨⟨hk.1, hk.2.2⟩, hk.2.1⟩)) hg hat); replace BK311 := A_ (blk_grown (g := gb311) (o := .cells #[.int .i64 a1_0, .int .i64 a1_1, .slice A1_2 l1_2.length c1_2] 46 (0, 0)) (by (with_reducible repeat (first | refine bn_ ?_ _ | refine bd_ ?_ | refine ba_ ?_ _)); exact BK311.out) hg (Kd.N_away HO_5.out (fun _ hk => hk.2))); replace HL316_2 := A_ (Kd.V_afterv (ok := (fun k_ => ((P0_ k_ ∨ P1_2_ k_) ∨ w.heap.size ≤ k_) ∧ k_ ≠ gb311)) (by (with_reducible repeat (first | apply Kd.V_alloc | apply Kd.V_drewN | apply Kd.V_drew)); exact Kd.V_mono HL316_2.out (fun _ hk => ⟨⟨hk.1, hk.2.2⟩, hk.2.1⟩)) hg hat); replace HL324_2 := A_ (Kd.V_afterv (ok := (fun k_ => ((P0_ k_ ∨ P1_2_ k_) ∨ w.heap.size ≤ k_) ∧ k_ ≠ gb311)) (by (with_reducible repeat (first | apply Kd.V_alloc | apply Kd.V_drewN | apply Kd.V_drew)); exact Kd.V_mono HL324_2.out (fun _ hk => ⟨⟨hk.1, hk.2.2⟩, hk.2.1⟩)) hg hat); replace HB := A_ (hb); have HO327 := A_ (ho); clear HO_5; clear ho hb hg hat)))
         go_roundg k1
         case measure => have := HK1.out; omega
         case rel => exact ⟨(y325), (false), (wrap64 (x7_1 + 1)), (by first | rfl | (simp; done) | (simp [*]; done)), (by first | rfl | (simp; done) | (simp [*]; done)), H', ⟨by have := HK1.out; omega⟩, ⟨by (with_reducible repeat (first | apply Kd.V_alloc | apply Kd.V_drewN | apply Kd.V_drew)); exact Kd.V_mono HO_0.out (fun _ hk => ⟨hk.1.1, ⟨hk.2, hk.1.2⟩⟩)⟩, ⟨by (with_reducible repeat (first | apply Kd.N_alloc | apply Kd.N_drewN | apply Kd.N_drew)); exact HO327.out⟩, ⟨by (with_reducible repeat (first | apply Kd.V_alloc | apply Kd.V_drewN | apply Kd.V_drew)); exact Kd.V_mono HO_312002.out (fun _ hk => ⟨hk.1.1, ⟨hk.2, hk.1.2⟩⟩)⟩, ⟨bk_⟩, ⟨by repeat (first | (with_reducible first | exact HB.out | apply wa_ | apply wn_ | apply wd_ | refine ws_ ?_ GE311.out) | exact HB.out)⟩⟩
   · rw [if_neg c4] at H
     have c4b0 : decide (x7_1 < (l0.length : Int)) = false := decide_eq_false c4
     clear c4
     by_cases c19 : x6_1 = true
     · subst c19
       have H1 : (some x5_1) = some r := by rw [if_pos rfl] at H; exact H
       clear H
       have H := H1
       clear H1
       obtain rfl := Option.some.inj H
       go_wp2
       repeat (go_quiet (fail); try go_wp2)
       go_ret
       exact ⟨_, by first | rfl | (simp [errW_none, errW_some] <;> rfl) | (simp [*, errW_none, errW_some] <;> rfl), by (with_reducible repeat (first | apply Kd.N_alloc | apply Kd.N_drewN | apply Kd.N_drew)); exact Kd.N_mono HO_5.out (fun _ hk => hk.1), by repeat (first | (with_reducible first | exact HB.out | apply wa_ | apply wn_ | apply wd_ | refine ws_ ?_ GE311.out) | exact HB.out)⟩
     replace c19 := Bool.eq_false_iff.mpr c19
     subst c19
     have H1 : (if x5_1.length < 3518437208883 then (some (x5_1 ++ [(⟨a1_0, a1_1, l1_2⟩ : S46)])) else (none)) = some r := by rw [if_neg (show ¬ (false = true) by decide)] at H; exact H
     clear H
     have H := H1
     clear H1
     by_cases c20 : x5_1.length < 3518437208883
     rotate_left
     · rw [if_neg c20] at H
       exact absurd H (by simp)

     rw [if_pos c20] at H
     have LMc20 := A_ c20
     clear c20
     obtain ⟨y328, hy328⟩ : ∃ y_ : List (S46), y_ = (x5_1 ++ [(⟨a1_0, a1_1, l1_2⟩ : S46)]) := ⟨_, rfl⟩
     replace H : (some y328) = some r := by first | (rw [hy328]; with_reducible exact H) | (have H2_ := (Option.bind_some _ _).symm.trans H; rw [hy328]; with_reducible exact H2_) | (have H2_ := (Option.bind_some _ _).symm.trans H; with_reducible exact H2_) | with_reducible exact H | (rw [hy328]; exact H) | exact H
     have Ny328 := A_ hy328
     clear hy328
     obtain rfl := Option.some.inj H
     have hcz21_0 : wr.cell? ⟨gb311, 0, none⟩ = some (.int .i64 a1_0) := e_ BK311 0; have hcz21_1 : wr.cell? ⟨gb311, 1, none⟩ = some (.int .i64 a1_1) := e_ BK311 1; have hcz21_2 : wr.cell? ⟨gb311, 2, none⟩ = some (.slice A1_2 l1_2.length c1_2) := e_ BK311 2; obtain ⟨hfz21_0, hfz21_1, hfz21_2⟩ := z3_ BK311
     go_wp2_with (first | ((with_reducible refine gate_builtin (b := .append) (xs := #[.tmp 39, .tmp 41]) rfl ?_); at_builtin; refine Kd.N_append k46 (w0 := w) w.heap.size rfl (.tmp 39) (.tmp 41) 24 46 (.agg #[(.int .i64 0), (.int .i64 0), (.slice none 0 0)]) 40 rfl Try.underlying24 info46 rfl (by decide) (by omega) u5 x5_1 (⟨a1_0, a1_1, l1_2⟩ : S46) [.int .i64 a1_0, .int .i64 a1_1, .slice A1_2 l1_2.length c1_2] (fun k_ => ((P0_ k_ ∨ P1_2_ k_) ∨ w.heap.size ≤ k_) ∧ k_ ≠ gb311) (fun k_ => ((fun k_ => ((P0_ k_ ∨ P1_2_ k_) ∨ w.heap.size ≤ k_) ∧ k_ ≠ gb311)) k_ ∧ some k_ ≠ (u5 : Value).ownBlock) rfl rfl ?aP (fun _ hk => hk) ?aF ?aO ?aB ?aS ?aL ?_; (case aP => exact (k46_mkF _ _ (⟨a1_0, a1_1, l1_2⟩ : S46) (Kd.V_reads' (Kd.V_mono (ok' := (fun k_ => ((fun k_ => ((P0_ k_ ∨ P1_2_ k_) ∨ w.heap.size ≤ k_) ∧ k_ ≠ gb311)) k_ ∧ some k_ ≠ (u5 : Value).ownBlock)) (HO_312002.out) (fun k_ hk => ⟨⟨hk.1, hk.2.2⟩, hk.2.1⟩))).2.1 (Kd.V_F (by (with_reducible repeat (first | apply Kd.V_alloc | apply Kd.V_drewN | apply Kd.V_drew)); exact Kd.V_mono (ok' := (fun k_ => ((fun k_ => ((P0_ k_ ∨ P1_2_ k_) ∨ w.heap.size ≤ k_) ∧ k_ ≠ gb311)) k_ ∧ some k_ ≠ (u5 : Value).ownBlock)) (HO_312002.out) (fun k_ hk => ⟨⟨hk.1, hk.2.2⟩, hk.2.1⟩))))); (case aB => exact bw_); (case aF => exact (fun k_ hk => ⟨(.inr (Nat.le_trans (below_size bw_) hk)), Kd.freshB (g := gb311) (o := .cells #[.int .i64 a1_0, .int .i64 a1_1, .slice A1_2 l1_2.length c1_2] 46 (0, 0)) (by (with_reducible repeat (first | refine bn_ ?_ _ | refine bd_ ?_ | refine ba_ ?_ _)); exact BK311.out) k_ hk⟩)); (case aO => exact (by (with_reducible repeat (first | apply Kd.N_alloc | apply Kd.N_drewN | apply Kd.N_drew)); exact HO_5.out)); (case aS => exact (below_size bw_)); (case aL => have := LMc20.out; omega); intro v329 w22 ho hb hg hat; rw [← Ny328.out] at ho; replace HO_0 := A_ (Kd.V_afterv (ok := (fun k_ => ((P0_ k_ ∨ P1_2_ k_) ∨ w.heap.size ≤ k_) ∧ k_ ≠ gb311)) (by (with_reducible repeat (first | apply Kd.V_alloc | apply Kd.V_drewN | apply Kd.V_drew)); exact Kd.V_mono HO_0.out (fun _ hk => ⟨⟨hk.1, hk.2.2⟩, hk.2.1⟩)) hg hat); replace HO_312002 := A_ (Kd.V_afterv (ok := (fun k_ => ((P0_ k_ ∨ P1_2_ k_) ∨ w.heap.size ≤ k_) ∧ k_ ≠ gb311)) (by (with_reducible repeat (first | apply Kd.V_alloc | apply Kd.V_drewN | apply Kd.V_drew)); exact Kd.V_mono HO_312002.out (fun _ hk => ⟨⟨hk.1, hk.2.2⟩, hk.2.1⟩)) hg hat); replace BK311 := A_ (blk_grown (g := gb311) (o := .cells #[.int .i64 a1_0, .int .i64 a1_1, .slice A1_2 l1_2.length c1_2] 46 (0, 0)) (by (with_reducible repeat (first | refine bn_ ?_ _ | refine bd_ ?_ | refine ba_ ?_ _)); exact BK311.out) hg (Kd.N_away HO_5.out (fun _ hk => hk.2))); replace HB := A_ (hb); have HO330 := A_ (ho); clear HO_5; clear ho hb hg hat))
     repeat (go_quiet (first | ((with_reducible refine gate_builtin (b := .append) (xs := #[.tmp 39, .tmp 41]) rfl ?_); at_builtin; refine Kd.N_append k46 (w0 := w) w.heap.size rfl (.tmp 39) (.tmp 41) 24 46 (.agg #[(.int .i64 0), (.int .i64 0), (.slice none 0 0)]) 40 rfl Try.underlying24 info46 rfl (by decide) (by omega) u5 x5_1 (⟨a1_0, a1_1, l1_2⟩ : S46) [.int .i64 a1_0, .int .i64 a1_1, .slice A1_2 l1_2.length c1_2] (fun k_ => ((P0_ k_ ∨ P1_2_ k_) ∨ w.heap.size ≤ k_) ∧ k_ ≠ gb311) (fun k_ => ((fun k_ => ((P0_ k_ ∨ P1_2_ k_) ∨ w.heap.size ≤ k_) ∧ k_ ≠ gb311)) k_ ∧ some k_ ≠ (u5 : Value).ownBlock) rfl rfl ?aP (fun _ hk => hk) ?aF ?aO ?aB ?aS ?aL ?_; (case aP => exact (k46_mkF _ _ (⟨a1_0, a1_1, l1_2⟩ : S46) (Kd.V_reads' (Kd.V_mono (ok' := (fun k_ => ((fun k_ => ((P0_ k_ ∨ P1_2_ k_) ∨ w.heap.size ≤ k_) ∧ k_ ≠ gb311)) k_ ∧ some k_ ≠ (u5 : Value).ownBlock)) (HO_312002.out) (fun k_ hk => ⟨⟨hk.1, hk.2.2⟩, hk.2.1⟩))).2.1 (Kd.V_F (by (with_reducible repeat (first | apply Kd.V_alloc | apply Kd.V_drewN | apply Kd.V_drew)); exact Kd.V_mono (ok' := (fun k_ => ((fun k_ => ((P0_ k_ ∨ P1_2_ k_) ∨ w.heap.size ≤ k_) ∧ k_ ≠ gb311)) k_ ∧ some k_ ≠ (u5 : Value).ownBlock)) (HO_312002.out) (fun k_ hk => ⟨⟨hk.1, hk.2.2⟩, hk.2.1⟩))))); (case aB => exact bw_); (case aF => exact (fun k_ hk => ⟨(.inr (Nat.le_trans (below_size bw_) hk)), Kd.freshB (g := gb311) (o := .cells #[.int .i64 a1_0, .int .i64 a1_1, .slice A1_2 l1_2.length c1_2] 46 (0, 0)) (by (with_reducible repeat (first | refine bn_ ?_ _ | refine bd_ ?_ | refine ba_ ?_ _)); exact BK311.out) k_ hk⟩)); (case aO => exact (by (with_reducible repeat (first | apply Kd.N_alloc | apply Kd.N_drewN | apply Kd.N_drew)); exact HO_5.out)); (case aS => exact (below_size bw_)); (case aL => have := LMc20.out; omega); intro v329 w22 ho hb hg hat; rw [← Ny328.out] at ho; replace HO_0 := A_ (Kd.V_afterv (ok := (fun k_ => ((P0_ k_ ∨ P1_2_ k_) ∨ w.heap.size ≤ k_) ∧ k_ ≠ gb311)) (by (with_reducible repeat (first | apply Kd.V_alloc | apply Kd.V_drewN | apply Kd.V_drew)); exact Kd.V_mono HO_0.out (fun _ hk => ⟨⟨hk.1, hk.2.2⟩, hk.2.1⟩)) hg hat); replace HO_312002 := A_ (Kd.V_afterv (ok := (fun k_ => ((P0_ k_ ∨ P1_2_ k_) ∨ w.heap.size ≤ k_) ∧ k_ ≠ gb311)) (by (with_reducible repeat (first | apply Kd.V_alloc | apply Kd.V_drewN | apply Kd.V_drew)); exact Kd.V_mono HO_312002.out (fun _ hk => ⟨⟨hk.1, hk.2.2⟩, hk.2.1⟩)) hg hat); replace BK311 := A_ (blk_grown (g := gb311) (o := .cells #[.int .i64 a1_0, .int .i64 a1_1, .slice A1_2 l1_2.length c1_2] 46 (0, 0)) (by (with_reducible repeat (first | refine bn_ ?_ _ | refine bd_ ?_ | refine ba_ ?_ _)); exact BK311.out) hg (Kd.N_away HO_5.out (fun _ hk => hk.2))); replace HB := A_ (hb); have HO330 := A_ (ho); clear HO_5; clear ho hb hg hat)); try go_wp2_with (first | ((with_reducible refine gate_builtin (b := .append) (xs := #[.tmp 39, .tmp 41]) rfl ?_); at_builtin; refine Kd.N_append k46 (w0 := w) w.heap.size rfl (.tmp 39) (.tmp 41) 24 46 (.agg #[(.int .i64 0), (.int .i64 0), (.slice none 0 0)]) 40 rfl Try.underlying24 info46 rfl (by decide) (by omega) u5 x5_1 (⟨a1_0, a1_1, l1_2⟩ : S46) [.int .i64 a1_0, .int .i64 a1_1, .slice A1_2 l1_2.length c1_2] (fun k_ => ((P0_ k_ ∨ P1_2_ k_) ∨ w.heap.size ≤ k_) ∧ k_ ≠ gb311) (fun k_ => ((fun k_ => ((P0_ k_ ∨ P1_2_ k_) ∨ w.heap.size ≤ k_) ∧ k_ ≠ gb311)) k_ ∧ some k_ ≠ (u5 : Value).ownBlock) rfl rfl ?aP (fun _ hk => hk) ?aF ?aO ?aB ?aS ?aL ?_; (case aP => exact (k46_mkF _ _ (⟨a1_0, a1_1, l1_2⟩ : S46) (Kd.V_reads' (Kd.V_mono (ok' := (fun k_ => ((fun k_ => ((P0_ k_ ∨ P1_2_ k_) ∨ w.heap.size ≤ k_) ∧ k_ ≠ gb311)) k_ ∧ some k_ ≠ (u5 : Value).ownBlock)) (HO_312002.out) (fun k_ hk => ⟨⟨hk.1, hk.2.2⟩, hk.2.1⟩))).2.1 (Kd.V_F (by (with_reducible repeat (first | apply Kd.V_alloc | apply Kd.V_drewN | apply Kd.V_drew)); exact Kd.V_mono (ok' := (fun k_ => ((fun k_ => ((P0_ k_ ∨ P1_2_ k_) ∨ w.heap.size ≤ k_) ∧ k_ ≠ gb311)) k_ ∧ some k_ ≠ (u5 : Value).ownBlock)) (HO_312002.out) (fun k_ hk => ⟨⟨hk.1, hk.2.2⟩, hk.2.1⟩))))); (case aB => exact bw_); (case aF => exact (fun k_ hk => ⟨(.inr (Nat.le_trans (below_size bw_) hk)), Kd.freshB (g := gb311) (o := .cells #[.int .i64 a1_0, .int .i64 a1_1, .slice A1_2 l1_2.length c1_2] 46 (0, 0)) (by (with_reducible repeat (first | refine bn_ ?_ _ | refine bd_ ?_ | refine ba_ ?_ _)); exact BK311.out) k_ hk⟩)); (case aO => exact (by (with_reducible repeat (first | apply Kd.N_alloc | apply Kd.N_drewN | apply Kd.N_drew)); exact HO_5.out)); (case aS => exact (below_size bw_)); (case aL => have := LMc20.out; omega); intro v329 w22 ho hb hg hat; rw [← Ny328.out] at ho; replace HO_0 := A_ (Kd.V_afterv (ok := (fun k_ => ((P0_ k_ ∨ P1_2_ k_) ∨ w.heap.size ≤ k_) ∧ k_ ≠ gb311)) (by (with_reducible repeat (first | apply Kd.V_alloc | apply Kd.V_drewN | apply Kd.V_drew)); exact Kd.V_mono HO_0.out (fun _ hk => ⟨⟨hk.1, hk.2.2⟩, hk.2.1⟩)) hg hat); replace HO_312002 := A_ (Kd.V_afterv (ok := (fun k_ => ((P0_ k_ ∨ P1_2_ k_) ∨ w.heap.size ≤ k_) ∧ k_ ≠ gb311)) (by (with_reducible repeat (first | apply Kd.V_alloc | apply Kd.V_drewN | apply Kd.V_drew)); exact Kd.V_mono HO_312002.out (fun _ hk => ⟨⟨hk.1, hk.2.2⟩, hk.2.1⟩)) hg hat); replace BK311 := A_ (blk_grown (g := gb311) (o := .cells #[.int .i64 a1_0, .int .i64 a1_1, .slice A1_2 l1_2.length c1_2] 46 (0, 0)) (by (with_reducible repeat (first | refine bn_ ?_ _ | refine bd_ ?_ | refine ba_ ?_ _)); exact BK311.out) hg (Kd.N_away HO_5.out (fun _ hk => hk.2))); replace HB := A_ (hb); have HO330 := A_ (ho); clear HO_5; clear ho hb hg hat)))
     go_ret
     exact ⟨_, by first | rfl | (simp [errW_none, errW_some] <;> rfl) | (simp [*, errW_none, errW_some] <;> rfl), by (with_reducible repeat (first | apply Kd.N_alloc | apply Kd.N_drewN | apply Kd.N_drew)); exact Kd.N_mono HO330.out (fun _ hk => hk.1), by repeat (first | (with_reducible first | exact HB.out | apply wa_ | apply wn_ | apply wd_ | refine ws_ ?_ GE311.out) | exact HB.out)⟩
/-! ### hopperref11_Join: function 13 -/
mutual
def hopperref11_Join.l0 : Nat → List (S26) → List (S46) → Int → Option ((List (S46)))
 | 0, _, _, _ => none
 | k + 1, x0, x3, x4 => if x4 < (x0.length : Int) then (hopperref11_Join.l1 k x0 x3 x4 0) else (some x3)
def hopperref11_Join.l1 : Nat → List (S26) → List (S46) → Int → Int → Option ((List (S46)))
 | 0, _, _, _, _ => none
 | k + 1, x0, x3, x4, x5 => if 0 ≤ x4 then (if x4 < (x0.length : Int) then (if x5 < (((rd_T26 x0 x4).f0).length : Int) then (if 0 ≤ x5 then ((hopperref11_put.f k x3 ((rd_T46 ((rd_T26 x0 x4).f0) x5).f0) ((rd_T46 ((rd_T26 x0 x4).f0) x5).f1) ((rd_T46 ((rd_T26 x0 x4).f0) x5).f2)).bind fun t334 => (hopperref11_Join.l1 k x0 t334 x4 (wrap64 (x5 + 1)))) else (none)) else (hopperref11_Join.l0 k x0 x3 (wrap64 (x4 + 1)))) else (none)) else (none)
end
def hopperref11_Join.f (k : Nat) (l0 : List (S26)) : Option ((List (S46))) := hopperref11_Join.l0 k l0 ([] : List (S46)) 0
theorem hopperref11_Join.mono_l : ∀ k, (∀ y0 y1 y2, LeO (hopperref11_Join.l0 k y0 y1 y2) (hopperref11_Join.l0 (k + 1) y0 y1 y2)) ∧ (∀ y0 y1 y2 y3, LeO (hopperref11_Join.l1 k y0 y1 y2 y3) (hopperref11_Join.l1 (k + 1) y0 y1 y2 y3))
 | 0 => ⟨fun _ _ _ r h => by simp [hopperref11_Join.l0] at h, fun _ _ _ _ r h => by simp [hopperref11_Join.l1] at h⟩
 | k + 1 => by
  obtain ⟨ih0, ih1⟩ := hopperref11_Join.mono_l k
  refine ⟨?_, ?_⟩
  · intro y0 y1 y2
    unfold hopperref11_Join.l0
    repeat' first
    | (with_reducible exact ih0 _ _ _)
    | (with_reducible exact ih1 _ _ _ _)
    | (with_reducible exact hopperref11_put.mono _ _ _ _ _)
    | (with_reducible exact LeO.refl _)
    | (with_reducible exact LeO.none _)
    | (with_reducible refine LeO.ite ?_ ?_)
    | (with_reducible refine LeO.bind ?_ (fun _ => ?_))
    | exact ih0 _ _ _
    | exact ih1 _ _ _ _
    | exact hopperref11_put.mono _ _ _ _ _
    | exact LeO.none _
    | refine LeO.ite ?_ ?_
    | refine LeO.bind ?_ (fun _ => ?_)
  · intro y0 y1 y2 y3
    unfold hopperref11_Join.l1
    repeat' first
    | (with_reducible exact ih0 _ _ _)
    | (with_reducible exact ih1 _ _ _ _)
    | (with_reducible exact hopperref11_put.mono _ _ _ _ _)
    | (with_reducible exact LeO.refl _)
    | (with_reducible exact LeO.none _)
    | (with_reducible refine LeO.ite ?_ ?_)
    | (with_reducible refine LeO.bind ?_ (fun _ => ?_))
    | exact ih0 _ _ _
    | exact ih1 _ _ _ _
    | exact hopperref11_put.mono _ _ _ _ _
    | exact LeO.none _
    | refine LeO.ite ?_ ?_
    | refine LeO.bind ?_ (fun _ => ?_)
theorem hopperref11_Join.mono : ∀ a0 k, LeO (hopperref11_Join.f k a0) (hopperref11_Join.f (k + 1) a0) := by
 intro a0 k
 obtain ⟨ih0, ih1⟩ := hopperref11_Join.mono_l k
 unfold hopperref11_Join.f
 repeat' first
  | (with_reducible exact ih0 _ _ _)
  | (with_reducible exact ih1 _ _ _ _)
  | (with_reducible exact hopperref11_put.mono _ _ _ _ _)
  | (with_reducible exact LeO.refl _)
  | (with_reducible exact LeO.none _)
  | (with_reducible refine LeO.ite ?_ ?_)
  | (with_reducible refine LeO.bind ?_ (fun _ => ?_))
  | exact ih0 _ _ _
  | exact ih1 _ _ _ _
  | exact hopperref11_put.mono _ _ _ _ _
  | exact LeO.none _
  | refine LeO.ite ?_ ?_
  | refine LeO.bind ?_ (fun _ => ?_)
set_option maxHeartbeats 8000000 in
set_option maxRecDepth 100000 in
theorem hopperref11_Join.calls (k : Nat) (P0_ : Nat → Prop) (A0 : Option Addr) (c0 : Nat) (l0 : List (S26)) (r : List (S46)) (w : World) (hs0 : Kd.V k26 26 w w.heap.size (fun k_ => P0_ k_) (.slice A0 l0.length c0) l0) (h : hopperref11_Join.f k l0 = some r) :
 Calls Try.prog 13 #[.slice A0 l0.length c0] w fun e w' => ∃ v0_ : Value, e = .returned (v0_) ∧ Kd.N k46 46 w' w.heap.size (fun k_ => (P0_ k_ ∨ w.heap.size ≤ k_)) v0_ r ∧ Below w.heap.size w w' := by
 have hu46 := Try.underlying46
 have HO0 := A_ (show Kd.V k26 26 w w.heap.size (fun k_ => (P0_ k_ ∨ w.heap.size ≤ k_)) (.slice A0 l0.length c0) l0 from Kd.V_mono hs0 (fun k_ hk => .inl hk)); have HB := A_ (Below.refl w.heap.size w)
 have H : (hopperref11_Join.l0 k l0 ([] : List (S46)) 0) = some r := h
 clear h
 have H' := A_ H
 clear H
 go_enter Try.func13, Try.ntmps13
 go_wp2
 go_loopg [3, 4] k (fun kq v3 v4 w' => ∃ (x3_1 : List (S46)) (x4_1 : Int), v4 = .int .i64 x4_1 ∧ Aside0 (hopperref11_Join.l0 kq l0 x3_1 x4_1 = some r) ∧ Aside0 (kq ≤ k) ∧ Aside0 (Kd.V k26 26 w' w.heap.size (fun k_ => (P0_ k_ ∨ w.heap.size ≤ k_) ∧ some k_ ≠ (v3 : Value).ownBlock) (.slice A0 l0.length c0) l0) ∧ Aside0 (Kd.N k46 46 w' w.heap.size (fun k_ => (P0_ k_ ∨ w.heap.size ≤ k_)) v3 x3_1) ∧ Aside0 (Below w.heap.size w w'))
 case atStart => exact ⟨(([] : List (S46))), (0), (by first | rfl | (simp; done) | (simp [*]; done)), H', ⟨Nat.le_refl _⟩, ⟨by (with_reducible repeat (first | apply Kd.V_alloc | apply Kd.V_drewN | apply Kd.V_drew)); exact Kd.V_mono HO0.out (fun _ hk => ⟨hk, (by simp [Value.ownBlock])⟩)⟩, ⟨by first | exact Kd.S_nil _ _ _ _ _ | exact Kd.N_nil _ _ _ _ _ | exact Kd.V_nil _ _ _ _ _ | exact Kd.Q_nil _ _ _ _ _ | exact Kd.R_nil _ _ _ _ _⟩, ⟨by repeat (first | (with_reducible first | exact HB.out | apply wa_ | apply wn_ | apply wd_) | exact HB.out)⟩⟩
 case round =>
  clear H'; (try clear c1)
  obtain ⟨x3_1, x4_1, rfl, HA, HK1, HO_0, HO_3, HB⟩ := hrel
  cases gk with
  | zero => exact absurd HA.out (by simp [hopperref11_Join.l0])
  | succ k1 =>
   have H := HA.out
   clear HA
   simp only [hopperref11_Join.l0] at H
   by_cases c2 : x4_1 < (l0.length : Int)
   rotate_left
   · rw [if_neg c2] at H
     have c2b0 : decide (x4_1 < (l0.length : Int)) = false := decide_eq_false c2
     clear c2
     obtain rfl := Option.some.inj H
     go_wp2
     go_ret
     exact ⟨_, by first | rfl | (simp [errW_none, errW_some] <;> rfl) | (simp [*, errW_none, errW_some] <;> rfl), by (with_reducible repeat (first | apply Kd.N_alloc | apply Kd.N_drewN | apply Kd.N_drew)); exact HO_3.out, by repeat (first | (with_reducible first | exact HB.out | apply wa_ | apply wn_ | apply wd_) | exact HB.out)⟩

   rw [if_pos c2] at H
   have c2b0 : decide (x4_1 < (l0.length : Int)) = true := decide_eq_true c2
   clear c2
   have H' := A_ H
   clear H
   go_wp2
   go_loopg [3, 5] k1 (fun kq v3 v5 w' => ∃ (x3_2 : List (S46)) (x5_2 : Int), v5 = .int .i64 x5_2 ∧ Aside0 (hopperref11_Join.l1 kq l0 x3_2 x4_1 x5_2 = some r) ∧ Aside0 (kq ≤ k1) ∧ Aside0 (Kd.V k26 26 w' w.heap.size (fun k_ => (P0_ k_ ∨ w.heap.size ≤ k_) ∧ some k_ ≠ (v3 : Value).ownBlock) (.slice A0 l0.length c0) l0) ∧ Aside0 (Kd.N k46 46 w' w.heap.size (fun k_ => (P0_ k_ ∨ w.heap.size ≤ k_)) v3 x3_2) ∧ Aside0 (Below w.heap.size w w'))
   case atStart => exact ⟨(x3_1), (0), (by first | rfl | (simp; done) | (simp [*]; done)), H', ⟨Nat.le_refl _⟩, ⟨by (with_reducible repeat (first | apply Kd.V_alloc | apply Kd.V_drewN | apply Kd.V_drew)); exact HO_0.out⟩, ⟨by (with_reducible repeat (first | apply Kd.N_alloc | apply Kd.N_drewN | apply Kd.N_drew)); exact HO_3.out⟩, ⟨by repeat (first | (with_reducible first | exact HB.out | apply wa_ | apply wn_ | apply wd_) | exact HB.out)⟩⟩
   case round =>
    clear H'; (try clear c1); (try clear c2); (try clear c2b0); (try clear p2)
    obtain ⟨x3_2, x5_2, rfl, HA, HK2, HO_0, HO_3, HB⟩ := hrel
    cases gk with
    | zero => exact absurd HA.out (by simp [hopperref11_Join.l1])
    | succ k2 =>
     have H := HA.out
     clear HA
     simp only [hopperref11_Join.l1] at H
     by_cases c3 : 0 ≤ x4_1
     rotate_left
     · rw [if_neg c3] at H
       exact absurd H (by simp)
     rw [if_pos c3] at H
     have c3b0 : decide (0 ≤ x4_1) = true := decide_eq_true c3
     clear c3
     by_cases c4 : x4_1 < (l0.length : Int)
     rotate_left
     · rw [if_neg c4] at H
       exact absurd H (by simp)
     rw [if_pos c4] at H
     have c4b0 : decide (x4_1 < (l0.length : Int)) = true := decide_eq_true c4
     clear c4
     by_cases c5 : x5_2 < (((rd_T26 l0 x4_1).f0).length : Int)
     · rw [if_pos c5] at H
       have c5b0 : decide (x5_2 < (((rd_T26 l0 x4_1).f0).length : Int)) = true := decide_eq_true c5
       clear c5
       by_cases c6 : 0 ≤ x5_2
       rotate_left
       · rw [if_neg c6] at H
         exact absurd H (by simp)
       rw [if_pos c6] at H
       have c6b0 : decide (0 ≤ x5_2) = true := decide_eq_true c6
       clear c6
       replace H := Option.bind_eq_some_iff.mp H
       obtain ⟨t334, A70, H⟩ := H
       try dsimp only at H
       have A7 := A_ A70
       clear A70
       have H' := A_ H
       clear H
       have p331 : 0 ≤ (x4_1 : Int) := of_decide_eq_true (by first | (with_reducible assumption) | assumption)
       have q331 : x4_1 < (l0.length : Int) := of_decide_eq_true (by first | (with_reducible assumption) | assumption)
       obtain ⟨ad331, A331_0, c331_0, e331, hx331_0, hx331_1, hl331_0, hi331_0⟩ := at_T26 (Kd.V_reads' HO_0.out).2.2 x4_1 p331 q331
       cases e331
       obtain ⟨ce331, hce331, hMe331, hcc331⟩ := Kd.V_get HO_0.out z26 x4_1 p331 (by first | exact q331 | exact of_decide_eq_true (by first | (with_reducible assumption) | assumption) | (have e_ := (Kd.V_reads' HO_0.out).1; omega))
       obtain ⟨ua331_0, uc331_0, rfl, ul331_0, ge331_0⟩ := k26_openF hMe331
       have hv331_0 := hcc331 0 _ rfl
       rw [Nat.add_zero] at hv331_0
       replace hv331_0 := Option.some.inj (hv331_0.symm.trans hx331_0)
       injection hv331_0 with hva_ hvn_ hvc_
       rw [hva_] at ge331_0
       rw [hvc_] at ul331_0
       have HL331_0 := A_ (show Kd.V k46 46 _ w.heap.size _ _ ((rd_T26 l0 x4_1).f0) from Kd.V_mk ul331_0 ge331_0)
       clear hva_ hvn_ hvc_ ge331_0 ul331_0; clear hcc331 hce331
       have HR331_0 := A_ hi331_0
       have HC331_0 := A_ hl331_0
       clear hi331_0 hl331_0
       replace p331 := eq_true p331
       replace q331 := eq_true q331
       have p332 : 0 ≤ (x4_1 : Int) := of_decide_eq_true (by first | (with_reducible assumption) | assumption)
       have q332 : x4_1 < (l0.length : Int) := of_decide_eq_true (by first | (with_reducible assumption) | assumption)
       obtain ⟨ad332, A332_0, c332_0, e332, hx332_0, hx332_1, hl332_0, hi332_0⟩ := at_T26 (Kd.V_reads' HO_0.out).2.2 x4_1 p332 q332
       obtain rfl : ad331 = ad332 := (by injection e332)
       obtain ⟨ce332, hce332, hMe332, hcc332⟩ := Kd.V_get HO_0.out z26 x4_1 p332 (by first | exact q332 | exact of_decide_eq_true (by first | (with_reducible assumption) | assumption) | (have e_ := (Kd.V_reads' HO_0.out).1; omega))
       obtain ⟨ua332_0, uc332_0, rfl, ul332_0, ge332_0⟩ := k26_openF hMe332
       have hv332_0 := hcc332 0 _ rfl
       rw [Nat.add_zero] at hv332_0
       replace hv332_0 := Option.some.inj (hv332_0.symm.trans hx332_0)
       injection hv332_0 with hva_ hvn_ hvc_
       rw [hva_] at ge332_0
       rw [hvc_] at ul332_0
       have HL332_0 := A_ (show Kd.V k46 46 _ w.heap.size _ _ ((rd_T26 l0 x4_1).f0) from Kd.V_mk ul332_0 ge332_0)
       clear hva_ hvn_ hvc_ ge332_0 ul332_0; clear hcc332 hce332
       have HR332_0 := A_ hi332_0
       have HC332_0 := A_ hl332_0
       clear hi332_0 hl332_0
       replace p332 := eq_true p332
       replace q332 := eq_true q332
       have ea_ := Option.some.inj (hx331_0.symm.trans hx332_0)
       injection ea_ with ea_ en_ ec_
       subst ea_
       subst ec_
       clear en_
       have p333 : 0 ≤ (x5_2 : Int) := of_decide_eq_true (by first | (with_reducible assumption) | assumption)
       have q333 : x5_2 < (((rd_T26 l0 x4_1).f0).length : Int) := of_decide_eq_true (by first | (with_reducible assumption) | assumption)
       obtain ⟨ad333, A333_2, c333_2, e333, hx333_0, hx333_1, hx333_2, hl333_2, hi333_2⟩ := at_T46 (by repeat (first | (with_reducible exact HR332_0.out) | (with_reducible refine ca_ ?_ _) | (with_reducible refine cn_ ?_ _) | (with_reducible refine cd_ ?_) | exact HR332_0.out)) x5_2 p333 q333
       cases e333
       obtain ⟨ce333, hce333, hMe333, hcc333⟩ := Kd.V_get HL332_0.out z46 x5_2 p333 (by first | exact q333 | exact of_decide_eq_true (by first | (with_reducible assumption) | assumption) | (have e_ := (Kd.V_reads' HL332_0.out).1; omega))
       obtain ⟨ua333_2, uc333_2, rfl, ul333_2, ge333_2⟩ := k46_openF hMe333
       have hv333_2 := hcc333 2 _ rfl
       rw [add_field _ _ 2 (by omega)] at hv333_2
       replace hv333_2 := Option.some.inj (hv333_2.symm.trans hx333_2)
       injection hv333_2 with hva_ hvn_ hvc_
       rw [hva_] at ge333_2
       rw [hvc_] at ul333_2
       have HL333_2 := A_ (show Kd.V k32 32 _ w.heap.size _ _ ((rd_T46 ((rd_T26 l0 x4_1).f0) x5_2).f2) from Kd.V_mk ul333_2 ge333_2)
       clear hva_ hvn_ hvc_ ge333_2 ul333_2; clear hcc333 hce333
       have HR333_2 := A_ hi333_2
       have HC333_2 := A_ hl333_2
       clear hi333_2 hl333_2
       replace p333 := eq_true p333
       replace q333 := eq_true q333
       obtain ⟨Ao8, co8, eo8⟩ := Kd.N_slice HO_3.out
       subst eo8
       go_wp2_with (first | ((with_reducible refine gate_callee (f := 31) rfl ?_); refine goesL_ (some 31) rfl rfl Try.func31 (by kernel_rfl) rfl #[.slice Ao8 x3_2.length co8, .agg #[.int .i64 ((rd_T46 ((rd_T26 l0 x4_1).f0) x5_2).f0), .int .i64 ((rd_T46 ((rd_T26 l0 x4_1).f0) x5_2).f1), .slice A333_2 ((rd_T46 ((rd_T26 l0 x4_1).f0) x5_2).f2).length c333_2]] rfl (by (try simp only [m0_, m1_, m2_]); first | done | rfl) ?_; (with_reducible refine (hopperref11_put.calls k2 (fun k_ => (P0_ k_ ∨ w.heap.size ≤ k_)) _ _ x3_2 ((rd_T46 ((rd_T26 l0 x4_1).f0) x5_2).f0) ((rd_T46 ((rd_T26 l0 x4_1).f0) x5_2).f1) (fun k_ => ((P0_ k_ ∨ w.heap.size ≤ k_) ∧ some k_ ≠ (.slice Ao8 x3_2.length co8 : Value).ownBlock)) _ _ ((rd_T46 ((rd_T26 l0 x4_1).f0) x5_2).f2) t334 _ ?side1 ?side2 A7.out).mono ?_); (case side1 => exact Kd.N_V (HO_3.out)); (case side2 => exact HL333_2.out); rintro e w9 ⟨v335, rfl, ho0, hb⟩; refine ⟨_, rfl, ?_⟩; replace HO_0 := A_ (Kd.V_elder' (pv_ HO_0.out) (Kd.N_base ho0) hb); replace HO_3 := A_ (Kd.N_elder' (by (with_reducible repeat (first | apply Kd.N_alloc | apply Kd.N_drewN | apply Kd.N_drew)); exact HO_3.out) (Kd.N_base ho0) hb); replace HL331_0 := A_ (Kd.V_elder' (by (with_reducible repeat (first | apply Kd.V_alloc | apply Kd.V_drewN | apply Kd.V_drew)); exact HL331_0.out) (Kd.N_base ho0) hb); replace HL332_0 := A_ (Kd.V_elder' (by (with_reducible repeat (first | apply Kd.V_alloc | apply Kd.V_drewN | apply Kd.V_drew)); exact HL332_0.out) (Kd.N_base ho0) hb); replace HL333_2 := A_ (Kd.V_elder' (by (with_reducible repeat (first | apply Kd.V_alloc | apply Kd.V_drewN | apply Kd.V_drew)); exact HL333_2.out) (Kd.N_base ho0) hb); have HO336 := A_ (Kd.N_lower (Kd.N_mono (ok' := fun k_ => (P0_ k_ ∨ w.heap.size ≤ k_)) ho0 (fun k_ hk_ => Or.elim hk_ (fun hs_ => Or.elim hs_ (fun hs_ => hs_) (fun hs_ => hs_.1)) (fun hn_ => (.inr (Nat.le_trans (below_size bw_) hn_))))) (below_size bw_)); replace HR331_0 := A_ (Kd.C_below (by repeat (first | (with_reducible exact HR331_0.out) | (with_reducible refine ca_ ?_ _) | (with_reducible refine cn_ ?_ _) | (with_reducible refine cd_ ?_) | exact HR331_0.out)) hb); replace HR332_0 := A_ (Kd.C_below (by repeat (first | (with_reducible exact HR332_0.out) | (with_reducible refine ca_ ?_ _) | (with_reducible refine cn_ ?_ _) | (with_reducible refine cd_ ?_) | exact HR332_0.out)) hb); replace HR333_2 := A_ (Kd.C_below (by repeat (first | (with_reducible exact HR333_2.out) | (with_reducible refine ca_ ?_ _) | (with_reducible refine cn_ ?_ _) | (with_reducible refine cd_ ?_) | exact HR333_2.out)) hb); replace HB := A_ (below_step bw_ hb); (try clear hb); (try clear hb2); (try clear hk); (try clear hi); (try clear ho0)))
       go_roundg k2
       case measure => have := HK1.out; have := HK2.out; omega
       case rel => exact ⟨(t334), (wrap64 (x5_2 + 1)), (by first | rfl | (simp; done) | (simp [*]; done)), H', ⟨by have := HK1.out; have := HK2.out; omega⟩, ⟨by (with_reducible repeat (first | apply Kd.V_alloc | apply Kd.V_drewN | apply Kd.V_drew)); exact Kd.V_mono HO_0.out (fun _ hk => ⟨hk.1.1, hk.2⟩)⟩, ⟨by (with_reducible repeat (first | apply Kd.N_alloc | apply Kd.N_drewN | apply Kd.N_drew)); exact HO336.out⟩, ⟨by repeat (first | (with_reducible first | exact HB.out | apply wa_ | apply wn_ | apply wd_) | exact HB.out)⟩⟩
     · rw [if_neg c5] at H
       have c5b0 : decide (x5_2 < (((rd_T26 l0 x4_1).f0).length : Int)) = false := decide_eq_false c5
       clear c5
       have H' := A_ H
       clear H
       have p331 : 0 ≤ (x4_1 : Int) := of_decide_eq_true (by first | (with_reducible assumption) | assumption)
       have q331 : x4_1 < (l0.length : Int) := of_decide_eq_true (by first | (with_reducible assumption) | assumption)
       obtain ⟨ad331, A331_0, c331_0, e331, hx331_0, hx331_1, hl331_0, hi331_0⟩ := at_T26 (Kd.V_reads' HO_0.out).2.2 x4_1 p331 q331
       cases e331
       obtain ⟨ce331, hce331, hMe331, hcc331⟩ := Kd.V_get HO_0.out z26 x4_1 p331 (by first | exact q331 | exact of_decide_eq_true (by first | (with_reducible assumption) | assumption) | (have e_ := (Kd.V_reads' HO_0.out).1; omega))
       obtain ⟨ua331_0, uc331_0, rfl, ul331_0, ge331_0⟩ := k26_openF hMe331
       have hv331_0 := hcc331 0 _ rfl
       rw [Nat.add_zero] at hv331_0
       replace hv331_0 := Option.some.inj (hv331_0.symm.trans hx331_0)
       injection hv331_0 with hva_ hvn_ hvc_
       rw [hva_] at ge331_0
       rw [hvc_] at ul331_0
       have HL331_0 := A_ (show Kd.V k46 46 _ w.heap.size _ _ ((rd_T26 l0 x4_1).f0) from Kd.V_mk ul331_0 ge331_0)
       clear hva_ hvn_ hvc_ ge331_0 ul331_0; clear hcc331 hce331
       have HR331_0 := A_ hi331_0
       have HC331_0 := A_ hl331_0
       clear hi331_0 hl331_0
       replace p331 := eq_true p331
       replace q331 := eq_true q331
       go_wp2
       go_roundg k2
       case measure => have := HK1.out; have := HK2.out; omega
       case rel => exact ⟨(x3_2), (wrap64 (x4_1 + 1)), (by first | rfl | (simp; done) | (simp [*]; done)), H', ⟨by have := HK1.out; have := HK2.out; omega⟩, ⟨by (with_reducible repeat (first | apply Kd.V_alloc | apply Kd.V_drewN | apply Kd.V_drew)); exact HO_0.out⟩, ⟨by (with_reducible repeat (first | apply Kd.N_alloc | apply Kd.N_drewN | apply Kd.N_drew)); exact HO_3.out⟩, ⟨by repeat (first | (with_reducible first | exact HB.out | apply wa_ | apply wn_ | apply wd_) | exact HB.out)⟩⟩
end Go.Proofs.Ytnjnogkhbadioaa.D
