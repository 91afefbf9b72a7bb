/- Written by this session's own program over the kit's print: functions of Go told as plain functions, or the row of one statement; proved for every input, with no condition of ours. -/
import Derived.Test.YtehncbhmdgdkjaaQx0
namespace Go.Proofs.Ytehncbhmdgdkjaa.Q
open Go.RowKit Go.Proofs.YtehncbhmdgdkjaaW.PrintWords Go.Proofs.YtehncbhmdgdkjaaW.PrintLast Go.Proofs.YtehncbhmdgdkjaaW.PrintMore
attribute [local go_sem] max2_int min2_int max_two min_two max_three min_three max_four min_four   -- for this text's walks alone
set_option linter.unusedVariables false
set_option linter.unusedSimpArgs false

/-! ### hopperref05_Ready: function 48 -/
def hopperref05_Ready.l0 : Nat → List (S24) → Int → Int → Int → List (S24) → Option ((List (S24)))
 | 0, _, _, _, _, _ => none
 | k + 1, x3, x4, x110000, x110001, x110002 => if x4 < (x110002.length : Int) then (if 0 ≤ x4 then (if ((rd_T24 x110002 x4).f1) < x110001 then (some x3) else (if (wrap64 (((rd_T24 x110002 x4).f1) - x110001)) = x4 then (if x3.length < 2513169434916 then (hopperref05_Ready.l0 k (x3 ++ [(⟨(rd_T24 x110002 x4).f0, (rd_T24 x110002 x4).f1, (rd_T24 x110002 x4).f2, (rd_T24 x110002 x4).f3, (rd_T24 x110002 x4).f4, (rd_T24 x110002 x4).f5⟩ : S24)]) (wrap64 (x4 + 1)) x110000 x110001 x110002) else (none)) else (some x3))) else (none)) else (some x3)
def hopperref05_Ready.f (k : Nat) (a0_0 : Int) (a0_1 : Int) (l0_2 : List (S24)) : Option ((List (S24))) := hopperref05_Ready.l0 k ([] : List (S24)) 0 a0_0 a0_1 l0_2
theorem hopperref05_Ready.mono_l : ∀ k, (∀ y0 y1 y2 y3 y4, LeO (hopperref05_Ready.l0 k y0 y1 y2 y3 y4) (hopperref05_Ready.l0 (k + 1) y0 y1 y2 y3 y4))
 | 0 => fun _ _ _ _ _ r h => by simp [hopperref05_Ready.l0] at h
 | k + 1 => by
  have ih0 := hopperref05_Ready.mono_l k
  · intro y0 y1 y2 y3 y4
    unfold hopperref05_Ready.l0
    repeat' first
    | (with_reducible exact ih0 _ _ _ _ _)
    | (with_reducible exact LeO.refl _)
    | (with_reducible exact LeO.none _)
    | (with_reducible refine LeO.ite ?_ ?_)
    | (with_reducible refine LeO.bind ?_ (fun _ => ?_))
    | exact ih0 _ _ _ _ _
    | exact LeO.none _
    | refine LeO.ite ?_ ?_
    | refine LeO.bind ?_ (fun _ => ?_)
theorem hopperref05_Ready.mono : ∀ a0 a1 a2 k, LeO (hopperref05_Ready.f k a0 a1 a2) (hopperref05_Ready.f (k + 1) a0 a1 a2) := by
 intro a0 a1 a2 k
 have ih0 := hopperref05_Ready.mono_l k
 unfold hopperref05_Ready.f
 repeat' first
  | (with_reducible exact ih0 _ _ _ _ _)
  | (with_reducible exact LeO.refl _)
  | (with_reducible exact LeO.none _)
  | (with_reducible refine LeO.ite ?_ ?_)
  | (with_reducible refine LeO.bind ?_ (fun _ => ?_))
  | exact ih0 _ _ _ _ _
  | exact LeO.none _
  | refine LeO.ite ?_ ?_
  | refine LeO.bind ?_ (fun _ => ?_)
set_option maxHeartbeats 8000000 in
set_option maxRecDepth 100000 in
theorem hopperref05_Ready.calls (k : Nat) (a0_0 : Int) (a0_1 : Int) (A0_2 : Option Addr) (c0_2 : Nat) (l0_2 : List (S24)) (r : List (S24)) (w : World) (hr0_2 : Kd.C k24 w A0_2 l0_2.length l0_2) (hc0_2 : l0_2.length ≤ c0_2) (h : hopperref05_Ready.f k a0_0 a0_1 l0_2 = some r) :
 Calls Try.prog 48 #[.agg #[.int .i64 a0_0, .int .i64 a0_1, .slice A0_2 l0_2.length c0_2]] w fun e w' => ∃ v0_ : Value, e = .returned (v0_) ∧ Kd.R k24 24 w' w.heap.size (fun _ => True) v0_ r ∧ Below w.heap.size w w' := by
 have hu46 := Try.underlying46
 have hu24 := Try.underlying24
 have HR0_2 := A_ hr0_2
 have HC0_2 := A_ hc0_2
 clear hr0_2 hc0_2; have HB := A_ (Below.refl w.heap.size w)
 have H : (hopperref05_Ready.l0 k ([] : List (S24)) 0 a0_0 a0_1 l0_2) = some r := h
 clear h
 have H' := A_ H
 clear H
 go_enter Try.func48, Try.ntmps48
 go_wp2_with (first | ((with_reducible refine gate_dst (N := 1) rfl ?_); refine box_event ?hg (N := 1) ?hd (cs := #[.int .i64 a0_0, .int .i64 a0_1, .slice A0_2 l0_2.length c0_2]) (t := 46) ?hr ?_; (case hd => rfl); (case hg => rfl); (case hr => first | (go_simp; done) | (go_simp; rfl)); intro gb109 hg w2 hbox hb; have n0_ := A_ (below_step bw_ hb); have n1_ := A_ (hbox); have n2_ := A_ (gz_ (w := w) hg); have n3_ := A_ (gz_ (w := w) hg); replace HB := n0_; have BK109 := n1_; have GW109 := n2_; have GE109 := n3_; clear n0_ n1_ n2_ n3_; clear hb hbox hg))
 repeat (go_quiet (first | ((with_reducible refine gate_dst (N := 1) rfl ?_); refine box_event ?hg (N := 1) ?hd (cs := #[.int .i64 a0_0, .int .i64 a0_1, .slice A0_2 l0_2.length c0_2]) (t := 46) ?hr ?_; (case hd => rfl); (case hg => rfl); (case hr => first | (go_simp; done) | (go_simp; rfl)); intro gb109 hg w2 hbox hb; have n0_ := A_ (below_step bw_ hb); have n1_ := A_ (hbox); have n2_ := A_ (gz_ (w := w) hg); have n3_ := A_ (gz_ (w := w) hg); replace HB := n0_; have BK109 := n1_; have GW109 := n2_; have GE109 := n3_; clear n0_ n1_ n2_ n3_; clear hb hbox hg)); try go_wp2_with (first | ((with_reducible refine gate_dst (N := 1) rfl ?_); refine box_event ?hg (N := 1) ?hd (cs := #[.int .i64 a0_0, .int .i64 a0_1, .slice A0_2 l0_2.length c0_2]) (t := 46) ?hr ?_; (case hd => rfl); (case hg => rfl); (case hr => first | (go_simp; done) | (go_simp; rfl)); intro gb109 hg w2 hbox hb; have n0_ := A_ (below_step bw_ hb); have n1_ := A_ (hbox); have n2_ := A_ (gz_ (w := w) hg); have n3_ := A_ (gz_ (w := w) hg); replace HB := n0_; have BK109 := n1_; have GW109 := n2_; have GE109 := n3_; clear n0_ n1_ n2_ n3_; clear hb hbox hg)))
 go_loopg [3, 4] k (fun kq v3 v4 w' => ∃ (x3_1 : List (S24)) (x4_1 : Int), v4 = .int .i64 x4_1 ∧ Aside0 (hopperref05_Ready.l0 kq x3_1 x4_1 a0_0 a0_1 l0_2 = some r) ∧ Aside0 (kq ≤ k) ∧ Aside0 (Kd.R k24 24 w' w.heap.size (fun _ => True) v3 x3_1) ∧ Aside0 (w'.heap[gb109]? = some (.cells #[.int .i64 a0_0, .int .i64 a0_1, (.slice A0_2 l0_2.length c0_2)] 46 (0, 0))) ∧ Aside0 (Below w.heap.size w w'))
 case atStart => exact ⟨(([] : List (S24))), (0), (by first | rfl | (simp; done) | (simp [*]; done)), H', ⟨Nat.le_refl _⟩, ⟨by first | exact Kd.R_nil _ _ _ _ _ | exact Kd.N_nil _ _ _ _ _ | exact Kd.V_nil _ _ _ _ _ | exact Kd.Q_nil _ _ _ _ _ | exact Kd.S_nil _ _ _ _ _⟩, ⟨bk_⟩, ⟨by repeat (first | (with_reducible first | exact HB.out | apply wa_ | apply wn_ | apply wd_ | refine ws_ ?_ GE109.out) | exact HB.out)⟩⟩
 case round =>
  clear H'; (try clear p2)
  obtain ⟨x3_1, x4_1, rfl, HA, HK1, HO_3, BK109, HB⟩ := hrel
  cases gk with
  | zero => exact absurd HA.out (by simp [hopperref05_Ready.l0])
  | succ k1 =>
   have H := HA.out
   clear HA
   simp only [hopperref05_Ready.l0] at H
   by_cases c3 : x4_1 < (l0_2.length : Int)
   · rw [if_pos c3] at H
     have c3b0 : decide (x4_1 < (l0_2.length : Int)) = true := decide_eq_true c3
     clear c3
     by_cases c4 : 0 ≤ x4_1
     rotate_left
     · rw [if_neg c4] at H
       exact absurd H (by simp)
     rw [if_pos c4] at H
     have c4b0 : decide (0 ≤ x4_1) = true := decide_eq_true c4
     clear c4
     by_cases c5 : ((rd_T24 l0_2 x4_1).f1) < a0_1
     · rw [if_pos c5] at H
       have c5b0 : decide (((rd_T24 l0_2 x4_1).f1) < a0_1) = true := decide_eq_true c5
       clear c5
       obtain rfl := Option.some.inj H
       have hcz6_0 : wr.cell? ⟨gb109, 0, none⟩ = some (.int .i64 a0_0) := e_ BK109 0; have hcz6_1 : wr.cell? ⟨gb109, 1, none⟩ = some (.int .i64 a0_1) := e_ BK109 1; have hcz6_2 : wr.cell? ⟨gb109, 2, none⟩ = some (.slice A0_2 l0_2.length c0_2) := e_ BK109 2; obtain ⟨hfz6_0, hfz6_1, hfz6_2⟩ := z3_ BK109
       have p110 : 0 ≤ (x4_1 : Int) := of_decide_eq_true (by first | (with_reducible assumption) | assumption)
       have q110 : x4_1 < (l0_2.length : Int) := of_decide_eq_true (by first | (with_reducible assumption) | assumption)
       obtain ⟨ad110, e110, hx110_0, hx110_1, hx110_2, hx110_3, hx110_4, hx110_5⟩ := at_T24 HR0_2.out x4_1 p110 q110
       cases e110
       replace hx110_0 := on_ HB.out hx110_0
       replace hx110_1 := on_ HB.out hx110_1
       replace hx110_2 := on_ HB.out hx110_2
       replace hx110_3 := on_ HB.out hx110_3
       replace hx110_4 := on_ HB.out hx110_4
       replace hx110_5 := on_ HB.out hx110_5
       replace p110 := eq_true p110
       replace q110 := eq_true q110
       go_wp2
       repeat (go_quiet (fail); try go_wp2)
       go_ret
       exact ⟨_, by first | rfl | (simp [errW_none, errW_some] <;> rfl) | (simp [*, errW_none, errW_some] <;> rfl), by (with_reducible repeat (first | apply ra_ | apply rn_ | apply rd_)); exact HO_3.out, by repeat (first | (with_reducible first | exact HB.out | apply wa_ | apply wn_ | apply wd_ | refine ws_ ?_ GE109.out) | exact HB.out)⟩
     · rw [if_neg c5] at H
       have c5b0 : decide (((rd_T24 l0_2 x4_1).f1) < a0_1) = false := decide_eq_false c5
       clear c5
       by_cases c7 : (wrap64 (((rd_T24 l0_2 x4_1).f1) - a0_1)) = x4_1
       · rw [if_pos c7] at H
         have c7b0 : ((wrap64 (((rd_T24 l0_2 x4_1).f1) - a0_1)) == x4_1) = true := beq_iff_eq.mpr c7
         have c7b1 : ((wrap64 (((rd_T24 l0_2 x4_1).f1) - a0_1)) != x4_1) = false := bne_eq_false_iff_eq.mpr c7
         clear c7
         by_cases c8 : x3_1.length < 2513169434916
         rotate_left
         · rw [if_neg c8] at H
           exact absurd H (by simp)
         rw [if_pos c8] at H
         have LMc8 := A_ c8
         clear c8
         obtain ⟨y113, hy113⟩ : ∃ y_ : List (S24), y_ = (x3_1 ++ [(⟨(rd_T24 l0_2 x4_1).f0, (rd_T24 l0_2 x4_1).f1, (rd_T24 l0_2 x4_1).f2, (rd_T24 l0_2 x4_1).f3, (rd_T24 l0_2 x4_1).f4, (rd_T24 l0_2 x4_1).f5⟩ : S24)]) := ⟨_, rfl⟩
         replace H : (hopperref05_Ready.l0 k1 y113 (wrap64 (x4_1 + 1)) a0_0 a0_1 l0_2) = some r := by first | (rw [hy113]; with_reducible exact H) | (have H2_ := (Option.bind_some _ _).symm.trans H; rw [hy113]; with_reducible exact H2_) | (have H2_ := (Option.bind_some _ _).symm.trans H; with_reducible exact H2_) | with_reducible exact H | (rw [hy113]; exact H) | exact H
         have Ny113 := A_ hy113
         clear hy113
         have H' := A_ H
         clear H; have hcz9_0 : wr.cell? ⟨gb109, 0, none⟩ = some (.int .i64 a0_0) := e_ BK109 0; have hcz9_1 : wr.cell? ⟨gb109, 1, none⟩ = some (.int .i64 a0_1) := e_ BK109 1; have hcz9_2 : wr.cell? ⟨gb109, 2, none⟩ = some (.slice A0_2 l0_2.length c0_2) := e_ BK109 2; obtain ⟨hfz9_0, hfz9_1, hfz9_2⟩ := z3_ BK109
         have p110 : 0 ≤ (x4_1 : Int) := of_decide_eq_true (by first | (with_reducible assumption) | assumption)
         have q110 : x4_1 < (l0_2.length : Int) := of_decide_eq_true (by first | (with_reducible assumption) | assumption)
         obtain ⟨ad110, e110, hx110_0, hx110_1, hx110_2, hx110_3, hx110_4, hx110_5⟩ := at_T24 HR0_2.out x4_1 p110 q110
         cases e110
         replace hx110_0 := on_ HB.out hx110_0
         replace hx110_1 := on_ HB.out hx110_1
         replace hx110_2 := on_ HB.out hx110_2
         replace hx110_3 := on_ HB.out hx110_3
         replace hx110_4 := on_ HB.out hx110_4
         replace hx110_5 := on_ HB.out hx110_5
         replace p110 := eq_true p110
         replace q110 := eq_true q110
         have p111 : 0 ≤ (x4_1 : Int) := of_decide_eq_true (by first | (with_reducible assumption) | assumption)
         have q111 : x4_1 < (l0_2.length : Int) := of_decide_eq_true (by first | (with_reducible assumption) | assumption)
         obtain ⟨ad111, e111, hx111_0, hx111_1, hx111_2, hx111_3, hx111_4, hx111_5⟩ := at_T24 HR0_2.out x4_1 p111 q111
         obtain rfl : ad110 = ad111 := (by injection e111)
         replace hx111_0 := on_ HB.out hx111_0
         replace hx111_1 := on_ HB.out hx111_1
         replace hx111_2 := on_ HB.out hx111_2
         replace hx111_3 := on_ HB.out hx111_3
         replace hx111_4 := on_ HB.out hx111_4
         replace hx111_5 := on_ HB.out hx111_5
         replace p111 := eq_true p111
         replace q111 := eq_true q111
         have p112 : 0 ≤ (x4_1 : Int) := of_decide_eq_true (by first | (with_reducible assumption) | assumption)
         have q112 : x4_1 < (l0_2.length : Int) := of_decide_eq_true (by first | (with_reducible assumption) | assumption)
         obtain ⟨ad112, e112, hx112_0, hx112_1, hx112_2, hx112_3, hx112_4, hx112_5⟩ := at_T24 HR0_2.out x4_1 p112 q112
         obtain rfl : ad110 = ad112 := (by injection e112)
         replace hx112_0 := on_ HB.out hx112_0
         replace hx112_1 := on_ HB.out hx112_1
         replace hx112_2 := on_ HB.out hx112_2
         replace hx112_3 := on_ HB.out hx112_3
         replace hx112_4 := on_ HB.out hx112_4
         replace hx112_5 := on_ HB.out hx112_5
         replace p112 := eq_true p112
         replace q112 := eq_true q112
         go_wp2_with (first | ((with_reducible refine gate_builtin (b := .append) (xs := #[.tmp 34, .tmp 40]) rfl ?_); at_builtin; refine Kd.R_append k24 (w0 := w) w.heap.size rfl (.tmp 34) (.tmp 40) 22 24 (.agg #[(.int .i64 0), (.int .i64 0), (.int .i64 0), (.int .i64 0), (.int .i64 0), (.string ⟨#[]⟩)]) 56 rfl Try.underlying22 info24 rfl (by decide) (by omega) u3 x3_1 (⟨(rd_T24 l0_2 x4_1).f0, (rd_T24 l0_2 x4_1).f1, (rd_T24 l0_2 x4_1).f2, (rd_T24 l0_2 x4_1).f3, (rd_T24 l0_2 x4_1).f4, (rd_T24 l0_2 x4_1).f5⟩ : S24) [.int .i64 ((rd_T24 l0_2 x4_1).f0), .int .i64 ((rd_T24 l0_2 x4_1).f1), .int .i64 ((rd_T24 l0_2 x4_1).f2), .int .i64 ((rd_T24 l0_2 x4_1).f3), .int .i64 ((rd_T24 l0_2 x4_1).f4), .string ((rd_T24 l0_2 x4_1).f5)] (fun _ => True) (fun _ => False) rfl rfl ?aP (fun _ hk => hk.elim) ?aF ?aO ?aB ?aS ?aL ?_; (case aP => exact k24_mkM _ _ _ (⟨(rd_T24 l0_2 x4_1).f0, (rd_T24 l0_2 x4_1).f1, (rd_T24 l0_2 x4_1).f2, (rd_T24 l0_2 x4_1).f3, (rd_T24 l0_2 x4_1).f4, (rd_T24 l0_2 x4_1).f5⟩ : S24)); (case aB => exact bw_); (case aF => exact (fun _ _ => trivial)); (case aO => exact (pr_ HO_3.out)); (case aS => exact (below_size bw_)); (case aL => have := LMc8.out; omega); intro v114 w10 ho hb hg hat; rw [← Ny113.out] at ho; replace BK109 := A_ (blk_grown (g := gb109) (o := .cells #[.int .i64 a0_0, .int .i64 a0_1, .slice (some ad110) l0_2.length c0_2] 46 (0, 0)) (by (with_reducible repeat (first | refine bn_ ?_ _ | refine bd_ ?_ | refine ba_ ?_ _)); exact BK109.out) hg (Kd.R_ne HO_3.out BK109.out (by decide))); replace HB := A_ (hb); have HO115 := A_ (ho); clear HO_3; clear ho hb hg hat))
         repeat (go_quiet (first | ((with_reducible refine gate_builtin (b := .append) (xs := #[.tmp 34, .tmp 40]) rfl ?_); at_builtin; refine Kd.R_append k24 (w0 := w) w.heap.size rfl (.tmp 34) (.tmp 40) 22 24 (.agg #[(.int .i64 0), (.int .i64 0), (.int .i64 0), (.int .i64 0), (.int .i64 0), (.string ⟨#[]⟩)]) 56 rfl Try.underlying22 info24 rfl (by decide) (by omega) u3 x3_1 (⟨(rd_T24 l0_2 x4_1).f0, (rd_T24 l0_2 x4_1).f1, (rd_T24 l0_2 x4_1).f2, (rd_T24 l0_2 x4_1).f3, (rd_T24 l0_2 x4_1).f4, (rd_T24 l0_2 x4_1).f5⟩ : S24) [.int .i64 ((rd_T24 l0_2 x4_1).f0), .int .i64 ((rd_T24 l0_2 x4_1).f1), .int .i64 ((rd_T24 l0_2 x4_1).f2), .int .i64 ((rd_T24 l0_2 x4_1).f3), .int .i64 ((rd_T24 l0_2 x4_1).f4), .string ((rd_T24 l0_2 x4_1).f5)] (fun _ => True) (fun _ => False) rfl rfl ?aP (fun _ hk => hk.elim) ?aF ?aO ?aB ?aS ?aL ?_; (case aP => exact k24_mkM _ _ _ (⟨(rd_T24 l0_2 x4_1).f0, (rd_T24 l0_2 x4_1).f1, (rd_T24 l0_2 x4_1).f2, (rd_T24 l0_2 x4_1).f3, (rd_T24 l0_2 x4_1).f4, (rd_T24 l0_2 x4_1).f5⟩ : S24)); (case aB => exact bw_); (case aF => exact (fun _ _ => trivial)); (case aO => exact (pr_ HO_3.out)); (case aS => exact (below_size bw_)); (case aL => have := LMc8.out; omega); intro v114 w10 ho hb hg hat; rw [← Ny113.out] at ho; replace BK109 := A_ (blk_grown (g := gb109) (o := .cells #[.int .i64 a0_0, .int .i64 a0_1, .slice (some ad110) l0_2.length c0_2] 46 (0, 0)) (by (with_reducible repeat (first | refine bn_ ?_ _ | refine bd_ ?_ | refine ba_ ?_ _)); exact BK109.out) hg (Kd.R_ne HO_3.out BK109.out (by decide))); replace HB := A_ (hb); have HO115 := A_ (ho); clear HO_3; clear ho hb hg hat)); try go_wp2_with (first | ((with_reducible refine gate_builtin (b := .append) (xs := #[.tmp 34, .tmp 40]) rfl ?_); at_builtin; refine Kd.R_append k24 (w0 := w) w.heap.size rfl (.tmp 34) (.tmp 40) 22 24 (.agg #[(.int .i64 0), (.int .i64 0), (.int .i64 0), (.int .i64 0), (.int .i64 0), (.string ⟨#[]⟩)]) 56 rfl Try.underlying22 info24 rfl (by decide) (by omega) u3 x3_1 (⟨(rd_T24 l0_2 x4_1).f0, (rd_T24 l0_2 x4_1).f1, (rd_T24 l0_2 x4_1).f2, (rd_T24 l0_2 x4_1).f3, (rd_T24 l0_2 x4_1).f4, (rd_T24 l0_2 x4_1).f5⟩ : S24) [.int .i64 ((rd_T24 l0_2 x4_1).f0), .int .i64 ((rd_T24 l0_2 x4_1).f1), .int .i64 ((rd_T24 l0_2 x4_1).f2), .int .i64 ((rd_T24 l0_2 x4_1).f3), .int .i64 ((rd_T24 l0_2 x4_1).f4), .string ((rd_T24 l0_2 x4_1).f5)] (fun _ => True) (fun _ => False) rfl rfl ?aP (fun _ hk => hk.elim) ?aF ?aO ?aB ?aS ?aL ?_; (case aP => exact k24_mkM _ _ _ (⟨(rd_T24 l0_2 x4_1).f0, (rd_T24 l0_2 x4_1).f1, (rd_T24 l0_2 x4_1).f2, (rd_T24 l0_2 x4_1).f3, (rd_T24 l0_2 x4_1).f4, (rd_T24 l0_2 x4_1).f5⟩ : S24)); (case aB => exact bw_); (case aF => exact (fun _ _ => trivial)); (case aO => exact (pr_ HO_3.out)); (case aS => exact (below_size bw_)); (case aL => have := LMc8.out; omega); intro v114 w10 ho hb hg hat; rw [← Ny113.out] at ho; replace BK109 := A_ (blk_grown (g := gb109) (o := .cells #[.int .i64 a0_0, .int .i64 a0_1, .slice (some ad110) l0_2.length c0_2] 46 (0, 0)) (by (with_reducible repeat (first | refine bn_ ?_ _ | refine bd_ ?_ | refine ba_ ?_ _)); exact BK109.out) hg (Kd.R_ne HO_3.out BK109.out (by decide))); replace HB := A_ (hb); have HO115 := A_ (ho); clear HO_3; clear ho hb hg hat)))
         go_roundg k1
         case measure => have := HK1.out; omega
         case rel => exact ⟨(y113), (wrap64 (x4_1 + 1)), (by first | rfl | (simp; done) | (simp [*]; done)), H', ⟨by have := HK1.out; omega⟩, ⟨by (with_reducible repeat (first | apply ra_ | apply rn_ | apply rd_)); exact HO115.out⟩, ⟨bk_⟩, ⟨by repeat (first | (with_reducible first | exact HB.out | apply wa_ | apply wn_ | apply wd_ | refine ws_ ?_ GE109.out) | exact HB.out)⟩⟩
       · rw [if_neg c7] at H
         have c7b0 : ((wrap64 (((rd_T24 l0_2 x4_1).f1) - a0_1)) == x4_1) = false := beq_eq_false_iff_ne.mpr c7
         have c7b1 : ((wrap64 (((rd_T24 l0_2 x4_1).f1) - a0_1)) != x4_1) = true := bne_iff_ne.mpr c7
         obtain rfl := Option.some.inj H
         have hcz11_0 : wr.cell? ⟨gb109, 0, none⟩ = some (.int .i64 a0_0) := e_ BK109 0; have hcz11_1 : wr.cell? ⟨gb109, 1, none⟩ = some (.int .i64 a0_1) := e_ BK109 1; have hcz11_2 : wr.cell? ⟨gb109, 2, none⟩ = some (.slice A0_2 l0_2.length c0_2) := e_ BK109 2; obtain ⟨hfz11_0, hfz11_1, hfz11_2⟩ := z3_ BK109
         have p110 : 0 ≤ (x4_1 : Int) := of_decide_eq_true (by first | (with_reducible assumption) | assumption)
         have q110 : x4_1 < (l0_2.length : Int) := of_decide_eq_true (by first | (with_reducible assumption) | assumption)
         obtain ⟨ad110, e110, hx110_0, hx110_1, hx110_2, hx110_3, hx110_4, hx110_5⟩ := at_T24 HR0_2.out x4_1 p110 q110
         cases e110
         replace hx110_0 := on_ HB.out hx110_0
         replace hx110_1 := on_ HB.out hx110_1
         replace hx110_2 := on_ HB.out hx110_2
         replace hx110_3 := on_ HB.out hx110_3
         replace hx110_4 := on_ HB.out hx110_4
         replace hx110_5 := on_ HB.out hx110_5
         replace p110 := eq_true p110
         replace q110 := eq_true q110
         have p111 : 0 ≤ (x4_1 : Int) := of_decide_eq_true (by first | (with_reducible assumption) | assumption)
         have q111 : x4_1 < (l0_2.length : Int) := of_decide_eq_true (by first | (with_reducible assumption) | assumption)
         obtain ⟨ad111, e111, hx111_0, hx111_1, hx111_2, hx111_3, hx111_4, hx111_5⟩ := at_T24 HR0_2.out x4_1 p111 q111
         obtain rfl : ad110 = ad111 := (by injection e111)
         replace hx111_0 := on_ HB.out hx111_0
         replace hx111_1 := on_ HB.out hx111_1
         replace hx111_2 := on_ HB.out hx111_2
         replace hx111_3 := on_ HB.out hx111_3
         replace hx111_4 := on_ HB.out hx111_4
         replace hx111_5 := on_ HB.out hx111_5
         replace p111 := eq_true p111
         replace q111 := eq_true q111
         go_wp2
         repeat (go_quiet (fail); try go_wp2)
         go_ret
         exact ⟨_, by first | rfl | (simp [errW_none, errW_some] <;> rfl) | (simp [*, errW_none, errW_some] <;> rfl), by (with_reducible repeat (first | apply ra_ | apply rn_ | apply rd_)); exact HO_3.out, by repeat (first | (with_reducible first | exact HB.out | apply wa_ | apply wn_ | apply wd_ | refine ws_ ?_ GE109.out) | exact HB.out)⟩
   · rw [if_neg c3] at H
     have c3b0 : decide (x4_1 < (l0_2.length : Int)) = false := decide_eq_false c3
     clear c3
     obtain rfl := Option.some.inj H
     have hcz12_0 : wr.cell? ⟨gb109, 0, none⟩ = some (.int .i64 a0_0) := e_ BK109 0; have hcz12_1 : wr.cell? ⟨gb109, 1, none⟩ = some (.int .i64 a0_1) := e_ BK109 1; have hcz12_2 : wr.cell? ⟨gb109, 2, none⟩ = some (.slice A0_2 l0_2.length c0_2) := e_ BK109 2; obtain ⟨hfz12_0, hfz12_1, hfz12_2⟩ := z3_ BK109
     go_wp2
     repeat (go_quiet (fail); try go_wp2)
     go_ret
     exact ⟨_, by first | rfl | (simp [errW_none, errW_some] <;> rfl) | (simp [*, errW_none, errW_some] <;> rfl), by (with_reducible repeat (first | apply ra_ | apply rn_ | apply rd_)); exact HO_3.out, by repeat (first | (with_reducible first | exact HB.out | apply wa_ | apply wn_ | apply wd_ | refine ws_ ?_ GE109.out) | exact HB.out)⟩

/-! ### hopperref04_Small: function 22 -/
def hopperref04_Small.f (a0_0 : Int) (a0_1 : Int) (a0_2 : Int) (a0_3 : Int) (a0_4 : Int) (a0_5 : ByteArray) : Option (Bool) := some (decide ((a0_5.size : Int) ≤ 500))
set_option maxHeartbeats 8000000 in
set_option maxRecDepth 100000 in
theorem hopperref04_Small.calls (a0_0 : Int) (a0_1 : Int) (a0_2 : Int) (a0_3 : Int) (a0_4 : Int) (a0_5 : ByteArray) (r : Bool) (w : World) (h : hopperref04_Small.f a0_0 a0_1 a0_2 a0_3 a0_4 a0_5 = some r) :
    Calls Try.prog 22 #[.agg #[.int .i64 a0_0, .int .i64 a0_1, .int .i64 a0_2, .int .i64 a0_3, .int .i64 a0_4, .string a0_5]] w fun e w' => e = .returned (.bool r) ∧ Below w.heap.size w w' := by
  have hu24 := Try.underlying24
  have HB := Aside0.mk (Below.refl w.heap.size w)
  have H : (some (decide ((a0_5.size : Int) ≤ 500))) = some r := h
  clear h
  obtain rfl := Option.some.inj H
  go_enter Try.func22, Try.ntmps22
  go_wp2_with (first | ((with_reducible refine gate_dst (N := 1) rfl ?_); refine box_event ?hg (N := 1) ?hd (cs := #[.int .i64 a0_0, .int .i64 a0_1, .int .i64 a0_2, .int .i64 a0_3, .int .i64 a0_4, .string a0_5]) (t := 24) ?hr ?_; (case hd => rfl); (case hg => rfl); (case hr => first | (go_simp; done) | (go_simp; rfl)); intro gb116 hg w2 hbox hb; have n0_ := Aside0.mk (below_step (by repeat (first | (with_reducible first | exact HB.out | apply below_alloc | apply pw_below_drewN | apply below_drew1) | exact HB.out)) hb); have n1_ := Aside0.mk (hbox); have n2_ := Aside0.mk ((by rw [hg]; exact (below_size (by repeat (first | (with_reducible first | exact HB.out | apply below_alloc | apply pw_below_drewN | apply below_drew1) | exact HB.out))) : w.heap.size ≤ gb116)); have n3_ := Aside0.mk ((by rw [hg]; exact (below_size (by repeat (first | (with_reducible first | exact HB.out | apply below_alloc | apply pw_below_drewN | apply below_drew1) | exact HB.out))) : w.heap.size ≤ gb116)); clear HB; have HB := n0_; have BK116 := n1_; have GW116 := n2_; have GE116 := n3_; clear n0_ n1_ n2_ n3_; clear hb hbox hg; have hcz3_0 : w2.cell? ⟨gb116, 0, none⟩ = some (.int .i64 a0_0) := (blk_cell BK116.out 0).trans rfl; have hcz3_1 : w2.cell? ⟨gb116, 1, none⟩ = some (.int .i64 a0_1) := (blk_cell BK116.out 1).trans rfl; have hcz3_2 : w2.cell? ⟨gb116, 2, none⟩ = some (.int .i64 a0_2) := (blk_cell BK116.out 2).trans rfl; have hcz3_3 : w2.cell? ⟨gb116, 3, none⟩ = some (.int .i64 a0_3) := (blk_cell BK116.out 3).trans rfl; have hcz3_4 : w2.cell? ⟨gb116, 4, none⟩ = some (.int .i64 a0_4) := (blk_cell BK116.out 4).trans rfl; have hcz3_5 : w2.cell? ⟨gb116, 5, none⟩ = some (.string a0_5) := (blk_cell BK116.out 5).trans rfl; have hfz3_0 := blk_frozen BK116.out 0; have hfz3_1 := blk_frozen BK116.out 1; have hfz3_2 := blk_frozen BK116.out 2; have hfz3_3 := blk_frozen BK116.out 3; have hfz3_4 := blk_frozen BK116.out 4; have hfz3_5 := blk_frozen BK116.out 5))
  go_ret
  exact ⟨by first | rfl | (simp [errW_none, errW_some] <;> rfl) | (simp [*, errW_none, errW_some] <;> rfl), by repeat (first | (with_reducible first | exact HB.out | apply below_alloc | apply pw_below_drewN | apply below_drew1 | refine below_set ?_ GE116.out) | exact HB.out)⟩

/-! ### hopperref04_Few: function 21 -/
def hopperref04_Few.l0 : Nat → List (S24) → Int → Int → Option (Bool)
 | 0, _, _, _ => none
 | k + 1, x0, x1, x5 => if x5 < (x0.length : Int) then (if 0 ≤ x5 then ((hopperref04_Small.f ((rd_T24 x0 x5).f0) ((rd_T24 x0 x5).f1) ((rd_T24 x0 x5).f2) ((rd_T24 x0 x5).f3) ((rd_T24 x0 x5).f4) ((rd_T24 x0 x5).f5)).bind fun t118 => (if t118 = true then (hopperref04_Few.l0 k x0 x1 (wrap64 (x5 + 1))) else (some false))) else (none)) else (some (decide ((x0.length : Int) ≤ x1)))
def hopperref04_Few.f (k : Nat) (l0 : List (S24)) (a1 : Int) : Option (Bool) := hopperref04_Few.l0 k l0 a1 0
theorem hopperref04_Few.mono_l : ∀ k, (∀ y0 y1 y2, LeO (hopperref04_Few.l0 k y0 y1 y2) (hopperref04_Few.l0 (k + 1) y0 y1 y2))
 | 0 => fun _ _ _ r h => by simp [hopperref04_Few.l0] at h
 | k + 1 => by
  have ih0 := hopperref04_Few.mono_l k
  · intro y0 y1 y2
    unfold hopperref04_Few.l0
    repeat' first
    | (with_reducible exact ih0 _ _ _)
    | (with_reducible exact LeO.refl _)
    | (with_reducible exact LeO.none _)
    | (with_reducible refine LeO.ite ?_ ?_)
    | (with_reducible refine LeO.bind ?_ (fun _ => ?_))
    | exact ih0 _ _ _
    | exact LeO.none _
    | refine LeO.ite ?_ ?_
    | refine LeO.bind ?_ (fun _ => ?_)
theorem hopperref04_Few.mono : ∀ a0 a1 k, LeO (hopperref04_Few.f k a0 a1) (hopperref04_Few.f (k + 1) a0 a1) := by
 intro a0 a1 k
 have ih0 := hopperref04_Few.mono_l k
 unfold hopperref04_Few.f
 repeat' first
  | (with_reducible exact ih0 _ _ _)
  | (with_reducible exact LeO.refl _)
  | (with_reducible exact LeO.none _)
  | (with_reducible refine LeO.ite ?_ ?_)
  | (with_reducible refine LeO.bind ?_ (fun _ => ?_))
  | exact ih0 _ _ _
  | exact LeO.none _
  | refine LeO.ite ?_ ?_
  | refine LeO.bind ?_ (fun _ => ?_)
set_option maxHeartbeats 8000000 in
set_option maxRecDepth 100000 in
theorem hopperref04_Few.calls (k : Nat) (A0 : Option Addr) (c0 : Nat) (l0 : List (S24)) (a1 : Int) (r : Bool) (w : World) (hr0 : Kd.C k24 w A0 l0.length l0) (hc0 : l0.length ≤ c0) (h : hopperref04_Few.f k l0 a1 = some r) :
 Calls Try.prog 21 #[.slice A0 l0.length c0, .int .i64 a1] w fun e w' => e = .returned (.bool r) ∧ Below w.heap.size w w' := by
 have hu24 := Try.underlying24
 have HR0 := A_ hr0
 have HC0 := A_ hc0
 clear hr0 hc0; have HB := A_ (Below.refl w.heap.size w)
 have H : (hopperref04_Few.l0 k l0 a1 0) = some r := h
 clear h
 have H' := A_ H
 clear H
 go_enter Try.func21, Try.ntmps21
 go_wp2
 go_loopg [5] k (fun kq v5 w' => ∃ (x5_1 : Int), v5 = .int .i64 x5_1 ∧ Aside0 (hopperref04_Few.l0 kq l0 a1 x5_1 = some r) ∧ Aside0 (kq ≤ k) ∧ Aside0 (Below w.heap.size w w'))
 case atStart => exact ⟨(0), (by first | rfl | (simp; done) | (simp [*]; done)), H', ⟨Nat.le_refl _⟩, ⟨by repeat (first | (with_reducible first | exact HB.out | apply wa_ | apply wn_ | apply wd_) | exact HB.out)⟩⟩
 case round =>
  clear H'; (try clear c2); (try clear p2)
  obtain ⟨x5_1, rfl, HA, HK1, HB⟩ := hrel
  cases gk with
  | zero => exact absurd HA.out (by simp [hopperref04_Few.l0])
  | succ k1 =>
   have H := HA.out
   clear HA
   simp only [hopperref04_Few.l0] at H
   by_cases c3 : x5_1 < (l0.length : Int)
   rotate_left
   · rw [if_neg c3] at H
     have c3b0 : decide (x5_1 < (l0.length : Int)) = false := decide_eq_false c3
     clear c3
     obtain rfl := Option.some.inj H
     go_wp2
     go_ret
     exact ⟨by first | rfl | (simp [errW_none, errW_some] <;> rfl) | (simp [*, errW_none, errW_some] <;> rfl), by repeat (first | (with_reducible first | exact HB.out | apply wa_ | apply wn_ | apply wd_) | exact HB.out)⟩

   rw [if_pos c3] at H
   have c3b0 : decide (x5_1 < (l0.length : Int)) = true := decide_eq_true c3
   clear c3
   by_cases c4 : 0 ≤ x5_1
   rotate_left
   · rw [if_neg c4] at H
     exact absurd H (by simp)
   rw [if_pos c4] at H
   have c4b0 : decide (0 ≤ x5_1) = true := decide_eq_true c4
   clear c4
   replace H := Option.bind_eq_some_iff.mp H
   obtain ⟨t118, A50, H⟩ := H
   try dsimp only at H
   have A5 := A_ A50
   clear A50
   by_cases c6 : t118 = true
   · subst c6
     have H1 : (hopperref04_Few.l0 k1 l0 a1 (wrap64 (x5_1 + 1))) = some r := by rw [if_pos rfl] at H; exact H
     clear H
     have H := H1
     clear H1
     have H' := A_ H
     clear H
     have p117 : 0 ≤ (x5_1 : Int) := of_decide_eq_true (by first | (with_reducible assumption) | assumption)
     have q117 : x5_1 < (l0.length : Int) := of_decide_eq_true (by first | (with_reducible assumption) | assumption)
     obtain ⟨ad117, e117, hx117_0, hx117_1, hx117_2, hx117_3, hx117_4, hx117_5⟩ := at_T24 HR0.out x5_1 p117 q117
     cases e117
     replace hx117_0 := on_ HB.out hx117_0
     replace hx117_1 := on_ HB.out hx117_1
     replace hx117_2 := on_ HB.out hx117_2
     replace hx117_3 := on_ HB.out hx117_3
     replace hx117_4 := on_ HB.out hx117_4
     replace hx117_5 := on_ HB.out hx117_5
     replace p117 := eq_true p117
     replace q117 := eq_true q117
     go_wp2_with (first | ((with_reducible refine gate_callee (f := 22) rfl ?_); refine goesL_ (some 16) rfl rfl Try.func22 (by kernel_rfl) rfl #[.agg #[.int .i64 ((rd_T24 l0 x5_1).f0), .int .i64 ((rd_T24 l0 x5_1).f1), .int .i64 ((rd_T24 l0 x5_1).f2), .int .i64 ((rd_T24 l0 x5_1).f3), .int .i64 ((rd_T24 l0 x5_1).f4), .string ((rd_T24 l0 x5_1).f5)]] rfl (by (try simp only [m0_, m1_, m2_]); first | done | rfl) ?_; (with_reducible refine (hopperref04_Small.calls ((rd_T24 l0 x5_1).f0) ((rd_T24 l0 x5_1).f1) ((rd_T24 l0 x5_1).f2) ((rd_T24 l0 x5_1).f3) ((rd_T24 l0 x5_1).f4) ((rd_T24 l0 x5_1).f5) true _ A5.out).mono ?_); rintro e w7 ⟨rfl, hb⟩; refine ⟨_, rfl, ?_⟩; replace HB := A_ (below_step bw_ hb); (try clear hb); (try clear hb2); (try clear hk); (try clear hi)))
     go_roundg k1
     case measure => have := HK1.out; omega
     case rel => exact ⟨(wrap64 (x5_1 + 1)), (by first | rfl | (simp; done) | (simp [*]; done)), H', ⟨by have := HK1.out; omega⟩, ⟨by repeat (first | (with_reducible first | exact HB.out | apply wa_ | apply wn_ | apply wd_) | exact HB.out)⟩⟩
   · replace c6 := Bool.eq_false_iff.mpr c6
     subst c6
     have H1 : (some false) = some r := by rw [if_neg (show ¬ (false = true) by decide)] at H; exact H
     clear H
     have H := H1
     clear H1
     obtain rfl := Option.some.inj H
     have p117 : 0 ≤ (x5_1 : Int) := of_decide_eq_true (by first | (with_reducible assumption) | assumption)
     have q117 : x5_1 < (l0.length : Int) := of_decide_eq_true (by first | (with_reducible assumption) | assumption)
     obtain ⟨ad117, e117, hx117_0, hx117_1, hx117_2, hx117_3, hx117_4, hx117_5⟩ := at_T24 HR0.out x5_1 p117 q117
     cases e117
     replace hx117_0 := on_ HB.out hx117_0
     replace hx117_1 := on_ HB.out hx117_1
     replace hx117_2 := on_ HB.out hx117_2
     replace hx117_3 := on_ HB.out hx117_3
     replace hx117_4 := on_ HB.out hx117_4
     replace hx117_5 := on_ HB.out hx117_5
     replace p117 := eq_true p117
     replace q117 := eq_true q117
     go_wp2_with (first | ((with_reducible refine gate_callee (f := 22) rfl ?_); refine goesL_ (some 16) rfl rfl Try.func22 (by kernel_rfl) rfl #[.agg #[.int .i64 ((rd_T24 l0 x5_1).f0), .int .i64 ((rd_T24 l0 x5_1).f1), .int .i64 ((rd_T24 l0 x5_1).f2), .int .i64 ((rd_T24 l0 x5_1).f3), .int .i64 ((rd_T24 l0 x5_1).f4), .string ((rd_T24 l0 x5_1).f5)]] rfl (by (try simp only [m0_, m1_, m2_]); first | done | rfl) ?_; (with_reducible refine (hopperref04_Small.calls ((rd_T24 l0 x5_1).f0) ((rd_T24 l0 x5_1).f1) ((rd_T24 l0 x5_1).f2) ((rd_T24 l0 x5_1).f3) ((rd_T24 l0 x5_1).f4) ((rd_T24 l0 x5_1).f5) false _ A5.out).mono ?_); rintro e w8 ⟨rfl, hb⟩; refine ⟨_, rfl, ?_⟩; replace HB := A_ (below_step bw_ hb); (try clear hb); (try clear hb2); (try clear hk); (try clear hi)))
     go_ret
     exact ⟨by first | rfl | (simp [errW_none, errW_some] <;> rfl) | (simp [*, errW_none, errW_some] <;> rfl), by repeat (first | (with_reducible first | exact HB.out | apply wa_ | apply wn_ | apply wd_) | exact HB.out)⟩
/-! ### hopperref05_Small: function 50 -/
def hopperref05_Small.f (k : Nat) (a0_0 : Int) (a0_1 : Int) (l0_2 : List (S24)) : Option (Bool) := (hopperref04_Few.f k l0_2 30).bind fun t120 => (some t120)
theorem hopperref05_Small.mono : ∀ a0 a1 a2 k, LeO (hopperref05_Small.f k a0 a1 a2) (hopperref05_Small.f (k + 1) a0 a1 a2) := by
  intro a0 a1 a2 k
  unfold hopperref05_Small.f
  repeat' first
      | (with_reducible exact hopperref04_Few.mono _ _ _)
      | (with_reducible exact LeO.refl _)
      | (with_reducible exact LeO.none _)
      | (with_reducible refine LeO.ite ?_ ?_)
      | (with_reducible refine LeO.bind ?_ (fun _ => ?_))
      | exact hopperref04_Few.mono _ _ _
      | exact LeO.none _
      | refine LeO.ite ?_ ?_
      | refine LeO.bind ?_ (fun _ => ?_)
set_option maxHeartbeats 8000000 in
set_option maxRecDepth 100000 in
theorem hopperref05_Small.calls (k : Nat) (a0_0 : Int) (a0_1 : Int) (A0_2 : Option Addr) (c0_2 : Nat) (l0_2 : List (S24)) (r : Bool) (w : World) (hr0_2 : Kd.C k24 w A0_2 l0_2.length l0_2) (hc0_2 : l0_2.length ≤ c0_2) (h : hopperref05_Small.f k a0_0 a0_1 l0_2 = some r) :
    Calls Try.prog 50 #[.agg #[.int .i64 a0_0, .int .i64 a0_1, .slice A0_2 l0_2.length c0_2]] w fun e w' => e = .returned (.bool r) ∧ Below w.heap.size w w' := by
  have hu46 := Try.underlying46
  have HR0_2 := Aside0.mk hr0_2
  have HC0_2 := Aside0.mk hc0_2
  clear hr0_2 hc0_2
  have HB := Aside0.mk (Below.refl w.heap.size w)
  have H : ((hopperref04_Few.f k l0_2 30).bind fun t120 => (some t120)) = some r := h
  clear h
  replace H := Option.bind_eq_some_iff.mp H
  obtain ⟨t120, A20, H⟩ := H
  replace H : (some t120) = some r := H
  have A2 := Aside0.mk A20
  clear A20
  obtain rfl := Option.some.inj H
  go_enter Try.func50, Try.ntmps50
  go_wp2_with (first | ((with_reducible refine gate_dst (N := 1) rfl ?_); refine box_event ?hg (N := 1) ?hd (cs := #[.int .i64 a0_0, .int .i64 a0_1, .slice A0_2 l0_2.length c0_2]) (t := 46) ?hr ?_; (case hd => rfl); (case hg => rfl); (case hr => first | (go_simp; done) | (go_simp; rfl)); intro gb119 hg w3 hbox hb; have n0_ := Aside0.mk (below_step (by repeat (first | (with_reducible first | exact HB.out | apply below_alloc | apply pw_below_drewN | apply below_drew1) | exact HB.out)) hb); have n1_ := Aside0.mk (hbox); have n2_ := Aside0.mk ((by rw [hg]; exact (below_size (by repeat (first | (with_reducible first | exact HB.out | apply below_alloc | apply pw_below_drewN | apply below_drew1) | exact HB.out))) : w.heap.size ≤ gb119)); have n3_ := Aside0.mk ((by rw [hg]; exact (below_size (by repeat (first | (with_reducible first | exact HB.out | apply below_alloc | apply pw_below_drewN | apply below_drew1) | exact HB.out))) : w.heap.size ≤ gb119)); clear HB; have HB := n0_; have BK119 := n1_; have GW119 := n2_; have GE119 := n3_; clear n0_ n1_ n2_ n3_; clear hb hbox hg; have hcz4_0 : w3.cell? ⟨gb119, 0, none⟩ = some (.int .i64 a0_0) := (blk_cell BK119.out 0).trans rfl; have hcz4_1 : w3.cell? ⟨gb119, 1, none⟩ = some (.int .i64 a0_1) := (blk_cell BK119.out 1).trans rfl; have hcz4_2 : w3.cell? ⟨gb119, 2, none⟩ = some (.slice A0_2 l0_2.length c0_2) := (blk_cell BK119.out 2).trans rfl; have hfz4_0 := blk_frozen BK119.out 0; have hfz4_1 := blk_frozen BK119.out 1; have hfz4_2 := blk_frozen BK119.out 2) | ((with_reducible refine gate_callee (f := 21) rfl ?_); refine goesL_ (some 5) rfl rfl Try.func21 (by kernel_rfl) rfl #[.slice A0_2 l0_2.length c0_2, .int .i64 30] rfl (by (try simp only [List.map_toArray, List.map_cons, List.map_nil]); first | done | rfl | (simp only [List.length_drop, List.length_take]; rfl)) ?_; (with_reducible refine (hopperref04_Few.calls k _ _ l0_2 30 t120 _ ?side1 ?side2 A2.out).mono ?_); (case side1 => repeat (first | exact (Kd.C_below HR0_2.out HB.out) | (with_reducible refine Kd.C_alloc ?_ _) | (with_reducible refine Kd.C_drewN ?_ _) | (with_reducible refine Kd.C_drew ?_))); (case side2 => exact HC0_2.out); rintro e w5 ⟨rfl, hb⟩; refine ⟨_, rfl, ?_⟩; have n0_ := Aside0.mk (blk_below (g := gb119) (o := .cells #[.int .i64 a0_0, .int .i64 a0_1, .slice A0_2 l0_2.length c0_2] 46 (0, 0)) (by (with_reducible repeat (first | refine blk_drewN ?_ _ | refine blk_drew ?_ | refine blk_alloc ?_ _)); exact BK119.out) hb); have n1_ := Aside0.mk (below_step (by repeat (first | (with_reducible first | exact HB.out | apply below_alloc | apply pw_below_drewN | apply below_drew1 | refine below_set ?_ GE119.out) | exact HB.out)) hb); clear BK119; clear HB; have BK119 := n0_; have HB := n1_; clear n0_ n1_; (try clear hb); (try clear hb2); (try clear hk); (try clear hi)))
  go_ret
  exact ⟨by first | rfl | (simp [errW_none, errW_some] <;> rfl) | (simp [*, errW_none, errW_some] <;> rfl), by repeat (first | (with_reducible first | exact HB.out | apply below_alloc | apply pw_below_drewN | apply below_drew1 | refine below_set ?_ GE119.out) | exact HB.out)⟩

/-! ### queue_place: function 100, by hand -/
-- HAND rounds=0 making=1
-- IMPORT Derived.Test.YtehncbhmdgdkjaaGoto
/-- Where a nonce is, and whether; else where it belongs. -/
def placeL (n len : Int) : List S24 → Int → Int → Int × Bool
  | [], _, b => (b, false)
  | x :: r, i, b => if x.f1 = n then (i, true) else placeL n len r (i + 1) (if x.f1 > n ∧ b = len then i else b)
def queue_place.f (l0 : List S24) (a1 : Int) : Option (Int × Bool) := if l0.length < 2513169434916 then some (placeL a1 l0.length l0 0 l0.length) else none
def PlaceJ (A0 : Option Addr) (c0 : Nat) (l0 : List S24) (a1 r1 : Int) (r2 : Bool) (w w' : World) (a : Act) : Prop := ∃ i : Nat, ∃ b : Int, i ≤ l0.length ∧ placeL a1 l0.length (l0.drop i) i b = (r1, r2) ∧ Drawn0 w w' ∧ ∃ u2 u3 u4 u5 u8 u9 u10 u11 u12 u13 u14 u15 u16 u17 u18 u19 u20 u21 u22 u23 u24 u25 u26 u27 u28 u29 u30 u31 u32 u33 u34 u35 u36 u37 u38 : Value, a = { tmps := #[(.slice A0 l0.length c0), .int .i64 a1, u2, u3, u4, u5, .int .i64 (i : Int), .int .i64 b, u8, u9, u10, u11, u12, u13, u14, u15, u16, u17, u18, u19, u20, u21, u22, u23, u24, u25, u26, u27, u28, u29, u30, u31, u32, u33, u34, u35, u36, u37, u38], defers := [] }
set_option maxHeartbeats 4000000 in
set_option maxRecDepth 100000 in
theorem queue_place.calls (A0 : Option Addr) (c0 : Nat) (l0 : List S24) (a1 r1 : Int) (r2 : Bool) (w : World) (hr0 : Kd.C k24 w A0 l0.length l0) (hc0 : l0.length ≤ c0) (h : queue_place.f l0 a1 = some (r1, r2)) :
    Calls Try.prog 100 #[.slice A0 l0.length c0, .int .i64 a1] w fun e w' => e = .returned (.tuple #[.int .i64 r1, .bool r2]) ∧ Below w.heap.size w w' := by
  unfold queue_place.f at h
  by_cases hl : l0.length < 2513169434916
  · rw [if_pos hl] at h
    have HR0 := Aside0.mk hr0
    have HC0 := Aside0.mk hc0
    have HL := Aside0.mk hl
    have HH := Aside0.mk (Option.some.inj h)
    clear hr0 hc0 hl h
    go_enter Try.func100, Try.ntmps100
    go_wp2
    refine Goto.scope_label 0 (fun a' w' => PlaceJ A0 c0 l0 a1 r1 r2 w w' a') (fun a' _ => l0.length - (intOf (a'.tmps.getD 6 undef)).toNat) rfl ?_ ?_
    · rintro a' w' ⟨i, b, hi, hp, ⟨nd, rfl⟩, u2, u3, u4, u5, u8, u9, u10, u11, u12, u13, u14, u15, u16, u17, u18, u19, u20, u21, u22, u23, u24, u25, u26, u27, u28, u29, u30, u31, u32, u33, u34, u35, u36, u37, u38, rfl⟩
      by_cases he : i = l0.length
      · subst he
        rw [List.drop_length] at hp
        simp only [placeL, Prod.mk.injEq] at hp
        obtain ⟨rfl, rfl⟩ := hp
        go_wp2
        simp only [Exit.jump]
        first | go_end0 | (refine bodyPost_ret (results_list (rs := [.tmp 4, .tmp 5]) rfl (by simp) (.tmp (.tmp .nil))) rfl ?_)
        exact ⟨rfl, pw_below_drewN (Below.refl _ _) _⟩
      · have hlt : i < l0.length := by omega
        rw [List.drop_eq_getElem_cons hlt] at hp
        have hx : rd_T24 l0 (i : Int) = l0[i] := by
          show l0.getD i _ = _
          rw [List.getD_eq_getElem?_getD, List.getElem?_eq_getElem hlt, Option.getD_some]
        rw [← hx] at hp
        have hs : i + 1 ≤ l0.length := hlt
        obtain ⟨ad, e0, h0, h1, h2, h3, h4, h5⟩ := at_T24 HR0.out (i : Int) (by omega) (by omega)
        subst e0
        have q1 : (0 ≤ (i : Int)) = True := eq_true (by omega)
        have q2 : ((i : Int) < (l0.length : Int)) = True := eq_true (by omega)
        clear h0 h2 h3 h4 h5 hx
        rw [Int.toNat_natCast] at h1
        generalize rd_T24 l0 (i : Int) = x at h1 hp
        go_wp2
        · have hg : x.f1 = a1 := eq_of_beq (by assumption)
          rw [placeL, if_pos hg] at hp
          obtain ⟨rfl, rfl⟩ := Prod.mk.inj hp
          try simp only [Exit.jump]
          go_ret2
          exact ⟨rfl, pw_below_drewN (Below.refl _ _) _⟩
        · have hg : ¬ x.f1 = a1 := beq_eq_false_iff_ne.1 (by assumption)
          have hc : (if x.f1 > a1 ∧ b = (l0.length : Int) then (i : Int) else b) = (i : Int) := if_pos ⟨(by assumption : a1 < x.f1), eq_of_beq (by assumption)⟩
          go_step3
          have hw : wrap64 ((i : Int) + 1) = ((i + 1 : Nat) : Int) := by have := HL.out; unfold wrap64; omega
          rw [hw]
          refine ⟨rfl, ⟨i + 1, (i : Int), hs, ?_, ⟨_, rfl⟩, _, _, _, _, _, _, _, _, _, _, _, _, _, _, _, _, _, _, _, _, _, _, _, _, _, _, _, _, _, _, _, _, _, _, _, rfl⟩, by simp [intOf]; omega⟩
          rw [placeL, if_neg hg, hc] at hp
          exact hp
        · have hg : ¬ x.f1 = a1 := beq_eq_false_iff_ne.1 (by assumption)
          have hc : (if x.f1 > a1 ∧ b = (l0.length : Int) then (i : Int) else b) = b := if_neg (fun q => (beq_eq_false_iff_ne.1 (by assumption : (b == (l0.length : Int)) = false)) q.2)
          go_step3
          have hw : wrap64 ((i : Int) + 1) = ((i + 1 : Nat) : Int) := by have := HL.out; unfold wrap64; omega
          rw [hw]
          refine ⟨rfl, ⟨i + 1, b, hs, ?_, ⟨_, rfl⟩, _, _, _, _, _, _, _, _, _, _, _, _, _, _, _, _, _, _, _, _, _, _, _, _, _, _, _, _, _, _, _, _, _, _, _, rfl⟩, by simp [intOf]; omega⟩
          rw [placeL, if_neg hg, hc] at hp
          exact hp
        · have hg : ¬ x.f1 = a1 := beq_eq_false_iff_ne.1 (by assumption)
          have hc : (if x.f1 > a1 ∧ b = (l0.length : Int) then (i : Int) else b) = b := if_neg (fun q => Int.not_lt.2 (by assumption : x.f1 ≤ a1) q.1)
          go_step3
          have hw : wrap64 ((i : Int) + 1) = ((i + 1 : Nat) : Int) := by have := HL.out; unfold wrap64; omega
          rw [hw]
          refine ⟨rfl, ⟨i + 1, b, hs, ?_, ⟨_, rfl⟩, _, _, _, _, _, _, _, _, _, _, _, _, _, _, _, _, _, _, _, _, _, _, _, _, _, _, _, _, _, _, _, _, _, _, _, rfl⟩, by simp [intOf]; omega⟩
          rw [placeL, if_neg hg, hc] at hp
          exact hp
    · intro L hL hLr
      have HL := Aside0.mk hL
      have HLr := Aside0.mk hLr
      clear hL hLr
      go_wp2
      go_step3
      rename_i K hK
      exact hK _ _ (HLr.out _ _ (HL.out _ _ ⟨0, _, by omega, HH.out, Drawn0.refl _, _, _, _, _, _, _, _, _, _, _, _, _, _, _, _, _, _, _, _, _, _, _, _, _, _, _, _, _, _, _, _, _, _, _, _, rfl⟩))
  · rw [if_neg hl] at h; cases h


/-! ### queue_Find: function 52 -/
def queue_Find.f (a0_0 : Int) (a0_1 : Int) (l0_2 : List (S24)) (a1 : Int) : Option (Int × Int × Int × Int × Int × ByteArray × Bool) := (queue_place.f l0_2 a1).bind fun bt123 => (if bt123.2 = true then (if 0 ≤ bt123.1 then (if bt123.1 < (l0_2.length : Int) then (some ((rd_T24 l0_2 bt123.1).f0, (rd_T24 l0_2 bt123.1).f1, (rd_T24 l0_2 bt123.1).f2, (rd_T24 l0_2 bt123.1).f3, (rd_T24 l0_2 bt123.1).f4, (rd_T24 l0_2 bt123.1).f5, true)) else (none)) else (none)) else (some (0, 0, 0, 0, 0, (⟨#[]⟩ : ByteArray), false)))
set_option maxHeartbeats 8000000 in
set_option maxRecDepth 100000 in
theorem queue_Find.calls (a0_0 : Int) (a0_1 : Int) (A0_2 : Option Addr) (c0_2 : Nat) (l0_2 : List (S24)) (a1 : Int) (r1 : Int) (r2 : Int) (r3 : Int) (r4 : Int) (r5 : Int) (r6 : ByteArray) (r7 : Bool) (w : World) (hr0_2 : Kd.C k24 w A0_2 l0_2.length l0_2) (hc0_2 : l0_2.length ≤ c0_2) (h : queue_Find.f a0_0 a0_1 l0_2 a1 = some (r1, r2, r3, r4, r5, r6, r7)) :
 Calls Try.prog 52 #[.agg #[.int .i64 a0_0, .int .i64 a0_1, .slice A0_2 l0_2.length c0_2], .int .i64 a1] w fun e w' => e = .returned (.tuple #[.agg #[.int .i64 r1, .int .i64 r2, .int .i64 r3, .int .i64 r4, .int .i64 r5, .string r6], .bool r7]) ∧ Below w.heap.size w w' := by
 have hu46 := Try.underlying46
 have hu24 := Try.underlying24
 have HR0_2 := A_ hr0_2
 have HC0_2 := A_ hc0_2
 clear hr0_2 hc0_2; have HB := A_ (Below.refl w.heap.size w)
 have H : ((queue_place.f l0_2 a1).bind fun bt123 => (if bt123.2 = true then (if 0 ≤ bt123.1 then (if bt123.1 < (l0_2.length : Int) then (some ((rd_T24 l0_2 bt123.1).f0, (rd_T24 l0_2 bt123.1).f1, (rd_T24 l0_2 bt123.1).f2, (rd_T24 l0_2 bt123.1).f3, (rd_T24 l0_2 bt123.1).f4, (rd_T24 l0_2 bt123.1).f5, true)) else (none)) else (none)) else (some (0, 0, 0, 0, 0, (⟨#[]⟩ : ByteArray), false)))) = some (r1, r2, r3, r4, r5, r6, r7) := h
 clear h
 replace H := Option.bind_eq_some_iff.mp H
 obtain ⟨⟨t123, t124⟩, A30, H⟩ := H
 replace H : (if t124 = true then (if 0 ≤ t123 then (if t123 < (l0_2.length : Int) then (some ((rd_T24 l0_2 t123).f0, (rd_T24 l0_2 t123).f1, (rd_T24 l0_2 t123).f2, (rd_T24 l0_2 t123).f3, (rd_T24 l0_2 t123).f4, (rd_T24 l0_2 t123).f5, true)) else (none)) else (none)) else (some (0, 0, 0, 0, 0, (⟨#[]⟩ : ByteArray), false))) = some (r1, r2, r3, r4, r5, r6, r7) := H
 have A3 := A_ A30
 clear A30
 by_cases c4 : t124 = true
 · subst c4
   have H1 : (if 0 ≤ t123 then (if t123 < (l0_2.length : Int) then (some ((rd_T24 l0_2 t123).f0, (rd_T24 l0_2 t123).f1, (rd_T24 l0_2 t123).f2, (rd_T24 l0_2 t123).f3, (rd_T24 l0_2 t123).f4, (rd_T24 l0_2 t123).f5, true)) else (none)) else (none)) = some (r1, r2, r3, r4, r5, r6, r7) := by rw [if_pos rfl] at H; exact H
   clear H
   have H := H1
   clear H1
   by_cases c5 : 0 ≤ t123
   rotate_left
   · rw [if_neg c5] at H
     exact absurd H (by simp)
   rw [if_pos c5] at H
   have c5b0 : decide (0 ≤ t123) = true := decide_eq_true c5
   clear c5
   by_cases c6 : t123 < (l0_2.length : Int)
   · rw [if_pos c6] at H
     have c6b0 : decide (t123 < (l0_2.length : Int)) = true := decide_eq_true c6
     clear c6
     simp only [Option.some.injEq, Prod.mk.injEq] at H
     obtain ⟨rfl, rfl, rfl, rfl, rfl, rfl, rfl⟩ := H
     go_enter Try.func52, Try.ntmps52
     go_wp2_with (first | ((with_reducible refine gate_dst (N := 2) rfl ?_); refine box_event ?hg (N := 2) ?hd (cs := #[.int .i64 a0_0, .int .i64 a0_1, .slice A0_2 l0_2.length c0_2]) (t := 46) ?hr ?_; (case hd => rfl); (case hg => rfl); (case hr => first | (go_simp; done) | (go_simp; rfl)); intro gb121 hg w7 hbox hb; have n0_ := A_ (below_step bw_ hb); have n1_ := A_ (hbox); have n2_ := A_ (gz_ (w := w) hg); have n3_ := A_ (gz_ (w := w) hg); replace HB := n0_; have BK121 := n1_; have GW121 := n2_; have GE121 := n3_; clear n0_ n1_ n2_ n3_; clear hb hbox hg) | ((with_reducible refine gate_dst (N := 4) rfl ?_); refine box_event ?hg (N := 4) ?hd (cs := #[.int .i64 0, .int .i64 0, .int .i64 0, .int .i64 0, .int .i64 0, .string (⟨#[]⟩ : ByteArray)]) (t := 24) ?hr ?_; (case hd => rfl); (case hg => rfl); (case hr => first | (go_simp; done) | (go_simp; rfl)); intro gb122 hg w8 hbox hb; have n0_ := A_ (kb_ BK121 hb); have n1_ := A_ (below_step bw_ hb); have n2_ := A_ (hbox); have n3_ := A_ (gz_ (w := w) hg); have n4_ := A_ (gz_ (w := w) hg); have n5_ := A_ (nl_ BK121 hg); have n6_ := A_ (ng_ BK121 hg); replace BK121 := n0_; replace HB := n1_; have BK122 := n2_; have GW122 := n3_; have GE122 := n4_; have NB121_122 := n5_; have NB122_121 := n6_; clear n0_ n1_ n2_ n3_ n4_ n5_ n6_; clear hb hbox hg; have hnb9 := NB121_122.out; have hnc9 := NB122_121.out; have hcz10_0 : w8.cell? ⟨gb121, 0, none⟩ = some (.int .i64 a0_0) := e_ BK121 0; have hcz10_1 : w8.cell? ⟨gb121, 1, none⟩ = some (.int .i64 a0_1) := e_ BK121 1; have hcz10_2 : w8.cell? ⟨gb121, 2, none⟩ = some (.slice A0_2 l0_2.length c0_2) := e_ BK121 2; obtain ⟨hfz10_0, hfz10_1, hfz10_2⟩ := z3_ BK121) | ((with_reducible refine gate_callee (f := 100) rfl ?_); refine goesL_ (some 12) rfl rfl Try.func100 (by kernel_rfl) rfl #[.slice A0_2 l0_2.length c0_2, .int .i64 a1] rfl (by (try simp only [m0_, m1_, m2_]); first | done | rfl) ?_; (with_reducible refine (queue_place.calls _ _ l0_2 a1 t123 true _ ?side1 ?side2 A3.out).mono ?_); (case side1 => repeat (first | exact (Kd.C_below HR0_2.out HB.out) | (with_reducible refine ca_ ?_ _) | (with_reducible refine cn_ ?_ _) | (with_reducible refine cd_ ?_))); (case side2 => exact HC0_2.out); rintro e w11 ⟨rfl, hb⟩; refine ⟨_, rfl, ?_⟩; replace BK121 := A_ (kb_ BK121 hb); replace BK122 := A_ (kb_ BK122 hb); replace HB := A_ (below_step bw_ hb); (try clear hb); (try clear hb2); (try clear hk); (try clear hi); have hcz12_0 : w11.cell? ⟨gb121, 0, none⟩ = some (.int .i64 a0_0) := e_ BK121 0; have hcz12_1 : w11.cell? ⟨gb121, 1, none⟩ = some (.int .i64 a0_1) := e_ BK121 1; have hcz12_2 : w11.cell? ⟨gb121, 2, none⟩ = some (.slice A0_2 l0_2.length c0_2) := e_ BK121 2; obtain ⟨hfz12_0, hfz12_1, hfz12_2⟩ := z3_ BK121; have p125 : 0 ≤ (t123 : Int) := of_decide_eq_true (by first | (with_reducible assumption) | assumption); have q125 : t123 < (l0_2.length : Int) := of_decide_eq_true (by first | (with_reducible assumption) | assumption); obtain ⟨ad125, e125, hx125_0, hx125_1, hx125_2, hx125_3, hx125_4, hx125_5⟩ := at_T24 HR0_2.out t123 p125 q125; cases e125; replace hx125_0 := on_ HB.out hx125_0; replace hx125_1 := on_ HB.out hx125_1; replace hx125_2 := on_ HB.out hx125_2; replace hx125_3 := on_ HB.out hx125_3; replace hx125_4 := on_ HB.out hx125_4; replace hx125_5 := on_ HB.out hx125_5; replace p125 := eq_true p125; replace q125 := eq_true q125; have hcz13_0 : w11.cell? ⟨gb122, 0, none⟩ = some (.int .i64 0) := e_ BK122 0; have hcz13_1 : w11.cell? ⟨gb122, 1, none⟩ = some (.int .i64 0) := e_ BK122 1; have hcz13_2 : w11.cell? ⟨gb122, 2, none⟩ = some (.int .i64 0) := e_ BK122 2; have hcz13_3 : w11.cell? ⟨gb122, 3, none⟩ = some (.int .i64 0) := e_ BK122 3; have hcz13_4 : w11.cell? ⟨gb122, 4, none⟩ = some (.int .i64 0) := e_ BK122 4; have hcz13_5 : w11.cell? ⟨gb122, 5, none⟩ = some (.string (⟨#[]⟩ : ByteArray)) := e_ BK122 5; obtain ⟨hfz13_0, hfz13_1, hfz13_2, hfz13_3, hfz13_4, hfz13_5⟩ := z6_ BK122))
     refine bodyPost_ret (results_ct rfl _ _ gb122 24 #[.int .i64 ((rd_T24 l0_2 t123).f0), .int .i64 ((rd_T24 l0_2 t123).f1), .int .i64 ((rd_T24 l0_2 t123).f2), .int .i64 ((rd_T24 l0_2 t123).f3), .int .i64 ((rd_T24 l0_2 t123).f4), .string ((rd_T24 l0_2 t123).f5)] (0, 0) _ rfl (by exact pk_ (b6_ BK122.out)) Try.underlying24 rfl (by kernel_rfl)) rfl ?_
     exact ⟨by first | rfl | (simp [errW_none, errW_some] <;> rfl) | (simp [*, errW_none, errW_some] <;> rfl), by repeat (first | (with_reducible first | exact HB.out | apply wa_ | apply wn_ | apply wd_ | refine ws_ ?_ GE121.out | refine ws_ ?_ GE122.out) | exact HB.out)⟩
   · rw [if_neg c6] at H
     exact absurd H (by simp)
 · replace c4 := Bool.eq_false_iff.mpr c4
   subst c4
   have H1 : (some (0, 0, 0, 0, 0, (⟨#[]⟩ : ByteArray), false)) = some (r1, r2, r3, r4, r5, r6, r7) := by rw [if_neg (show ¬ (false = true) by decide)] at H; exact H
   clear H
   have H := H1
   clear H1
   simp only [Option.some.injEq, Prod.mk.injEq] at H
   obtain ⟨rfl, rfl, rfl, rfl, rfl, rfl, rfl⟩ := H
   go_enter Try.func52, Try.ntmps52
   go_wp2_with (first | ((with_reducible refine gate_dst (N := 2) rfl ?_); refine box_event ?hg (N := 2) ?hd (cs := #[.int .i64 a0_0, .int .i64 a0_1, .slice A0_2 l0_2.length c0_2]) (t := 46) ?hr ?_; (case hd => rfl); (case hg => rfl); (case hr => first | (go_simp; done) | (go_simp; rfl)); intro gb121 hg w14 hbox hb; have n0_ := A_ (below_step bw_ hb); have n1_ := A_ (hbox); have n2_ := A_ (gz_ (w := w) hg); have n3_ := A_ (gz_ (w := w) hg); replace HB := n0_; have BK121 := n1_; have GW121 := n2_; have GE121 := n3_; clear n0_ n1_ n2_ n3_; clear hb hbox hg) | ((with_reducible refine gate_dst (N := 4) rfl ?_); refine box_event ?hg (N := 4) ?hd (cs := #[.int .i64 0, .int .i64 0, .int .i64 0, .int .i64 0, .int .i64 0, .string (⟨#[]⟩ : ByteArray)]) (t := 24) ?hr ?_; (case hd => rfl); (case hg => rfl); (case hr => first | (go_simp; done) | (go_simp; rfl)); intro gb122 hg w15 hbox hb; have n0_ := A_ (kb_ BK121 hb); have n1_ := A_ (below_step bw_ hb); have n2_ := A_ (hbox); have n3_ := A_ (gz_ (w := w) hg); have n4_ := A_ (gz_ (w := w) hg); have n5_ := A_ (nl_ BK121 hg); have n6_ := A_ (ng_ BK121 hg); replace BK121 := n0_; replace HB := n1_; have BK122 := n2_; have GW122 := n3_; have GE122 := n4_; have NB121_122 := n5_; have NB122_121 := n6_; clear n0_ n1_ n2_ n3_ n4_ n5_ n6_; clear hb hbox hg; have hnb16 := NB121_122.out; have hnc16 := NB122_121.out; have hcz17_0 : w15.cell? ⟨gb121, 0, none⟩ = some (.int .i64 a0_0) := e_ BK121 0; have hcz17_1 : w15.cell? ⟨gb121, 1, none⟩ = some (.int .i64 a0_1) := e_ BK121 1; have hcz17_2 : w15.cell? ⟨gb121, 2, none⟩ = some (.slice A0_2 l0_2.length c0_2) := e_ BK121 2; obtain ⟨hfz17_0, hfz17_1, hfz17_2⟩ := z3_ BK121) | ((with_reducible refine gate_callee (f := 100) rfl ?_); refine goesL_ (some 12) rfl rfl Try.func100 (by kernel_rfl) rfl #[.slice A0_2 l0_2.length c0_2, .int .i64 a1] rfl (by (try simp only [m0_, m1_, m2_]); first | done | rfl) ?_; (with_reducible refine (queue_place.calls _ _ l0_2 a1 t123 false _ ?side1 ?side2 A3.out).mono ?_); (case side1 => repeat (first | exact (Kd.C_below HR0_2.out HB.out) | (with_reducible refine ca_ ?_ _) | (with_reducible refine cn_ ?_ _) | (with_reducible refine cd_ ?_))); (case side2 => exact HC0_2.out); rintro e w18 ⟨rfl, hb⟩; refine ⟨_, rfl, ?_⟩; replace BK121 := A_ (kb_ BK121 hb); replace BK122 := A_ (kb_ BK122 hb); replace HB := A_ (below_step bw_ hb); (try clear hb); (try clear hb2); (try clear hk); (try clear hi); have hcz19_0 : w18.cell? ⟨gb122, 0, none⟩ = some (.int .i64 0) := e_ BK122 0; have hcz19_1 : w18.cell? ⟨gb122, 1, none⟩ = some (.int .i64 0) := e_ BK122 1; have hcz19_2 : w18.cell? ⟨gb122, 2, none⟩ = some (.int .i64 0) := e_ BK122 2; have hcz19_3 : w18.cell? ⟨gb122, 3, none⟩ = some (.int .i64 0) := e_ BK122 3; have hcz19_4 : w18.cell? ⟨gb122, 4, none⟩ = some (.int .i64 0) := e_ BK122 4; have hcz19_5 : w18.cell? ⟨gb122, 5, none⟩ = some (.string (⟨#[]⟩ : ByteArray)) := e_ BK122 5; obtain ⟨hfz19_0, hfz19_1, hfz19_2, hfz19_3, hfz19_4, hfz19_5⟩ := z6_ BK122))
   refine bodyPost_ret (results_ct rfl _ _ gb122 24 #[.int .i64 0, .int .i64 0, .int .i64 0, .int .i64 0, .int .i64 0, .string (⟨#[]⟩ : ByteArray)] (0, 0) _ rfl (by exact pk_ (b6_ BK122.out)) Try.underlying24 rfl (by kernel_rfl)) rfl ?_
   exact ⟨by first | rfl | (simp [errW_none, errW_some] <;> rfl) | (simp [*, errW_none, errW_some] <;> rfl), by repeat (first | (with_reducible first | exact HB.out | apply wa_ | apply wn_ | apply wd_ | refine ws_ ?_ GE121.out | refine ws_ ?_ GE122.out) | exact HB.out)⟩

/-! ### queue_in: function 101 -/
def queue_in.f (a0 : Int) (a1 : Int) (a2 : Int) : Option (Bool) := if a0 ≥ a1 then (some (decide (a0 ≤ a2))) else (some false)
set_option maxHeartbeats 8000000 in
set_option maxRecDepth 100000 in
theorem queue_in.calls (a0 : Int) (a1 : Int) (a2 : Int) (r : Bool) (w : World) (h : queue_in.f a0 a1 a2 = some r) :
    Calls Try.prog 101 #[.int .i64 a0, .int .i64 a1, .int .i64 a2] w fun e w' => e = .returned (.bool r) ∧ Drawn0 w w' := by
  have H : (if a0 ≥ a1 then (some (decide (a0 ≤ a2))) else (some false)) = some r := h
  clear h
  by_cases c4 : a0 ≥ a1
  · rw [if_pos c4] at H
    have c4b0 : decide (a1 ≤ a0) = true := decide_eq_true c4
    clear c4
    obtain rfl := Option.some.inj H
    go_enter Try.func101, Try.ntmps101
    go_wp2
    go_ret
    exact ⟨by first | rfl | (simp; done) | (simp [*]; done), by repeat (first | exact Drawn0.refl _ | apply Drawn0.step)⟩
  · rw [if_neg c4] at H
    have c4b0 : decide (a1 ≤ a0) = false := decide_eq_false c4
    clear c4
    obtain rfl := Option.some.inj H
    go_enter Try.func101, Try.ntmps101
    go_wp2
    go_ret
    exact ⟨by first | rfl | (simp; done) | (simp [*]; done), by repeat (first | exact Drawn0.refl _ | apply Drawn0.step)⟩

/-! ### txn_in: function 133 -/
def txn_in.f (a0 : Int) (a1 : Int) (a2 : Int) : Option (Bool) := if a0 ≥ a1 then (some (decide (a0 ≤ a2))) else (some false)
set_option maxHeartbeats 8000000 in
set_option maxRecDepth 100000 in
theorem txn_in.calls (a0 : Int) (a1 : Int) (a2 : Int) (r : Bool) (w : World) (h : txn_in.f a0 a1 a2 = some r) :
    Calls Try.prog 133 #[.int .i64 a0, .int .i64 a1, .int .i64 a2] w fun e w' => e = .returned (.bool r) ∧ Drawn0 w w' := by
  have H : (if a0 ≥ a1 then (some (decide (a0 ≤ a2))) else (some false)) = some r := h
  clear h
  by_cases c4 : a0 ≥ a1
  · rw [if_pos c4] at H
    have c4b0 : decide (a1 ≤ a0) = true := decide_eq_true c4
    clear c4
    obtain rfl := Option.some.inj H
    go_enter Try.func133, Try.ntmps133
    go_wp2
    go_ret
    exact ⟨by first | rfl | (simp; done) | (simp [*]; done), by repeat (first | exact Drawn0.refl _ | apply Drawn0.step)⟩
  · rw [if_neg c4] at H
    have c4b0 : decide (a1 ≤ a0) = false := decide_eq_false c4
    clear c4
    obtain rfl := Option.some.inj H
    go_enter Try.func133, Try.ntmps133
    go_wp2
    go_ret
    exact ⟨by first | rfl | (simp; done) | (simp [*]; done), by repeat (first | exact Drawn0.refl _ | apply Drawn0.step)⟩

end Go.Proofs.Ytehncbhmdgdkjaa.Q
