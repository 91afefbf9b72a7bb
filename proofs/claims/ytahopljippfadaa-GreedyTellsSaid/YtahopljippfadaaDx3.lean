/- Written by this session's own program over the kit's print: functions of Go told as plain functions, or the row of one statement; proved for every input, with no condition of ours. -/
import Derived.Test.YtahopljippfadaaDx0
namespace Go.Proofs.Ytahopljippfadaa.D
open Go.RowKit Go.Proofs.YtahopljippfadaaW.PrintWords Go.Proofs.YtahopljippfadaaW.PrintLast Go.Proofs.YtahopljippfadaaW.PrintMore
attribute [local go_sem] max2_int min2_int max_two min_two max_three min_three max_four min_four   -- for this text's walks alone
set_option linter.unusedVariables false
set_option linter.unusedSimpArgs false

/-! ### queue_Ready: function 41 -/
def queue_Ready.l0 : Nat → List (S38) → List (S38) → Int → Int → Int → Int → List (S38) → Option ((List (S38)))
 | 0, _, _, _, _, _, _, _ => none
 | k + 1, x3, x7, x8, x9, x116000, x116001, x116002 => if x9 < x8 then (if 0 ≤ x9 then (if x9 < (x7.length : Int) then (if ((rd_T38 x7 x9).f1) < x116001 then (some x3) else (if (wrap64 (((rd_T38 x7 x9).f1) - x116001)) = x9 then (if x3.length < 2513169434916 then (queue_Ready.l0 k (x3 ++ [(⟨(rd_T38 x7 x9).f0, (rd_T38 x7 x9).f1, (rd_T38 x7 x9).f2, (rd_T38 x7 x9).f3, (rd_T38 x7 x9).f4, (rd_T38 x7 x9).f5⟩ : S38)]) x7 x8 (wrap64 (x9 + 1)) x116000 x116001 x116002) else (none)) else (some x3))) else (none)) else (none)) else (some x3)
def queue_Ready.f (k : Nat) (a0_0 : Int) (a0_1 : Int) (l0_2 : List (S38)) : Option ((List (S38))) := queue_Ready.l0 k ([] : List (S38)) l0_2 (l0_2.length : Int) 0 a0_0 a0_1 l0_2
theorem queue_Ready.mono_l : ∀ k, (∀ y0 y1 y2 y3 y4 y5 y6, LeO (queue_Ready.l0 k y0 y1 y2 y3 y4 y5 y6) (queue_Ready.l0 (k + 1) y0 y1 y2 y3 y4 y5 y6))
 | 0 => fun _ _ _ _ _ _ _ r h => by simp [queue_Ready.l0] at h
 | k + 1 => by
  have ih0 := queue_Ready.mono_l k
  · intro y0 y1 y2 y3 y4 y5 y6
    unfold queue_Ready.l0
    repeat' first
    | (with_reducible exact ih0 _ _ _ _ _ _ _)
    | (with_reducible exact LeO.refl _)
    | (with_reducible exact LeO.none _)
    | (with_reducible refine LeO.ite ?_ ?_)
    | (with_reducible refine LeO.bind ?_ (fun _ => ?_))
    | exact ih0 _ _ _ _ _ _ _
    | exact LeO.none _
    | refine LeO.ite ?_ ?_
    | refine LeO.bind ?_ (fun _ => ?_)
theorem queue_Ready.mono : ∀ a0 a1 a2 k, LeO (queue_Ready.f k a0 a1 a2) (queue_Ready.f (k + 1) a0 a1 a2) := by
 intro a0 a1 a2 k
 have ih0 := queue_Ready.mono_l k
 unfold queue_Ready.f
 repeat' first
  | (with_reducible exact ih0 _ _ _ _ _ _ _)
  | (with_reducible exact LeO.refl _)
  | (with_reducible exact LeO.none _)
  | (with_reducible refine LeO.ite ?_ ?_)
  | (with_reducible refine LeO.bind ?_ (fun _ => ?_))
  | exact ih0 _ _ _ _ _ _ _
  | exact LeO.none _
  | refine LeO.ite ?_ ?_
  | refine LeO.bind ?_ (fun _ => ?_)
set_option maxHeartbeats 8000000 in
set_option maxRecDepth 100000 in
theorem queue_Ready.calls (k : Nat) (a0_0 : Int) (a0_1 : Int) (A0_2 : Option Addr) (c0_2 : Nat) (l0_2 : List (S38)) (r : List (S38)) (w : World) (hr0_2 : Kd.C k38 w A0_2 l0_2.length l0_2) (hc0_2 : l0_2.length ≤ c0_2) (h : queue_Ready.f k a0_0 a0_1 l0_2 = some r) :
 Calls Try.prog 41 #[.agg #[.int .i64 a0_0, .int .i64 a0_1, .slice A0_2 l0_2.length c0_2]] w fun e w' => ∃ v0_ : Value, e = .returned (v0_) ∧ Kd.R k38 38 w' w.heap.size (fun _ => True) v0_ r ∧ Below w.heap.size w w' := by
 have hu35 := Try.underlying35
 have hu38 := Try.underlying38
 have HR0_2 := A_ hr0_2
 have HC0_2 := A_ hc0_2
 clear hr0_2 hc0_2; have HB := A_ (Below.refl w.heap.size w)
 have H : (queue_Ready.l0 k ([] : List (S38)) l0_2 (l0_2.length : Int) 0 a0_0 a0_1 l0_2) = some r := h
 clear h
 have H' := A_ H
 clear H
 go_enter Try.func41, Try.ntmps41
 go_wp2_with (first | ((with_reducible refine gate_dst (N := 1) rfl ?_); refine box_event ?hg (N := 1) ?hd (cs := #[.int .i64 a0_0, .int .i64 a0_1, .slice A0_2 l0_2.length c0_2]) (t := 35) ?hr ?_; (case hd => rfl); (case hg => rfl); (case hr => first | (go_simp; done) | (go_simp; rfl)); intro gb115 hg w2 hbox hb; have n0_ := A_ (below_step bw_ hb); have n1_ := A_ (hbox); have n2_ := A_ (gz_ (w := w) hg); have n3_ := A_ (gz_ (w := w) hg); replace HB := n0_; have BK115 := n1_; have GW115 := n2_; have GE115 := n3_; clear n0_ n1_ n2_ n3_; clear hb hbox hg; have hcz3_0 : w2.cell? ⟨gb115, 0, none⟩ = some (.int .i64 a0_0) := e_ BK115 0; have hcz3_1 : w2.cell? ⟨gb115, 1, none⟩ = some (.int .i64 a0_1) := e_ BK115 1; have hcz3_2 : w2.cell? ⟨gb115, 2, none⟩ = some (.slice A0_2 l0_2.length c0_2) := e_ BK115 2; obtain ⟨hfz3_0, hfz3_1, hfz3_2⟩ := z3_ BK115))
 go_loopg [3, 9] k (fun kq v3 v9 w' => ∃ (x3_1 : List (S38)) (x9_1 : Int), v9 = .int .i64 x9_1 ∧ Aside0 (queue_Ready.l0 kq x3_1 l0_2 (l0_2.length : Int) x9_1 a0_0 a0_1 l0_2 = some r) ∧ Aside0 (kq ≤ k) ∧ Aside0 (Kd.R k38 38 w' w.heap.size (fun _ => True) v3 x3_1) ∧ Aside0 (w'.heap[gb115]? = some (.cells #[.int .i64 a0_0, .int .i64 a0_1, (.slice A0_2 l0_2.length c0_2)] 35 (0, 0))) ∧ Aside0 (Below w.heap.size w w'))
 case atStart => exact ⟨(([] : List (S38))), (0), (by first | rfl | (simp; done) | (simp [*]; done)), H', ⟨Nat.le_refl _⟩, ⟨by first | exact Kd.R_nil _ _ _ _ _ | exact Kd.N_nil _ _ _ _ _ | exact Kd.V_nil _ _ _ _ _ | exact Kd.Q_nil _ _ _ _ _ | exact Kd.S_nil _ _ _ _ _⟩, ⟨bk_⟩, ⟨by repeat (first | (with_reducible first | exact HB.out | apply wa_ | apply wn_ | apply wd_ | refine ws_ ?_ GE115.out) | exact HB.out)⟩⟩
 case round =>
  clear H'; (try clear p2); (try clear hcz3_0 hcz3_1 hcz3_2); (try clear hfz3_0 hfz3_1 hfz3_2)
  obtain ⟨x3_1, x9_1, rfl, HA, HK1, HO_3, BK115, HB⟩ := hrel
  cases gk with
  | zero => exact absurd HA.out (by simp [queue_Ready.l0])
  | succ k1 =>
   have H := HA.out
   clear HA
   simp only [queue_Ready.l0] at H
   by_cases c4 : x9_1 < (l0_2.length : Int)
   rotate_left
   · rw [if_neg c4] at H
     have c4b0 : decide (x9_1 < (l0_2.length : Int)) = false := decide_eq_false c4
     clear c4
     obtain rfl := Option.some.inj H
     go_wp2
     go_ret
     exact ⟨_, by first | rfl | (simp [errW_none, errW_some] <;> rfl) | (simp [*, errW_none, errW_some] <;> rfl), by (with_reducible repeat (first | apply ra_ | apply rn_ | apply rd_)); exact HO_3.out, by repeat (first | (with_reducible first | exact HB.out | apply wa_ | apply wn_ | apply wd_ | refine ws_ ?_ GE115.out) | exact HB.out)⟩

   rw [if_pos c4] at H
   have c4b0 : decide (x9_1 < (l0_2.length : Int)) = true := decide_eq_true c4
   clear c4
   by_cases c5 : 0 ≤ x9_1
   rotate_left
   · rw [if_neg c5] at H
     exact absurd H (by simp)
   rw [if_pos c5] at H
   have c5b0 : decide (0 ≤ x9_1) = true := decide_eq_true c5
   clear c5
   by_cases c6 : x9_1 < (l0_2.length : Int)
   rotate_left
   · rw [if_neg c6] at H
     exact absurd H (by simp)
   rw [if_pos c6] at H
   have c6b0 : decide (x9_1 < (l0_2.length : Int)) = true := decide_eq_true c6
   clear c6
   by_cases c7 : ((rd_T38 l0_2 x9_1).f1) < a0_1
   · rw [if_pos c7] at H
     have c7b0 : decide (((rd_T38 l0_2 x9_1).f1) < a0_1) = true := decide_eq_true c7
     clear c7
     obtain rfl := Option.some.inj H
     have p116 : 0 ≤ (x9_1 : Int) := of_decide_eq_true (by first | (with_reducible assumption) | assumption)
     have q116 : x9_1 < (l0_2.length : Int) := of_decide_eq_true (by first | (with_reducible assumption) | assumption)
     obtain ⟨ad116, e116, hx116_0, hx116_1, hx116_2, hx116_3, hx116_4, hx116_5⟩ := at_T38 HR0_2.out x9_1 p116 q116
     cases e116
     replace hx116_0 := on_ HB.out hx116_0
     replace hx116_1 := on_ HB.out hx116_1
     replace hx116_2 := on_ HB.out hx116_2
     replace hx116_3 := on_ HB.out hx116_3
     replace hx116_4 := on_ HB.out hx116_4
     replace hx116_5 := on_ HB.out hx116_5
     replace p116 := eq_true p116
     replace q116 := eq_true q116
     go_wp2_with (first | ((with_reducible refine gate_dst (N := 5) rfl ?_); refine box_event ?hg (N := 5) ?hd (cs := #[.int .i64 0, .int .i64 0, .int .i64 0, .int .i64 0, .int .i64 0, .string (⟨#[]⟩ : ByteArray)]) (t := 38) ?hr ?_; (case hd => rfl); (case hg => rfl); (case hr => first | (go_simp; done) | (go_simp; rfl)); intro gb117 hg w8 hbox hb; have n0_ := A_ (Kd.R_below (Kd.R_elderB (pr_ HO_3.out) gb117 (Nat.le_of_eq hg.symm)) hb); have n1_ := A_ (kb_ BK115 hb); have n2_ := A_ (below_step bw_ hb); have n3_ := A_ (hbox); have n4_ := A_ (gz_ (w := w) hg); have n5_ := A_ (gz_ (w := w) hg); have n6_ := A_ (nl_ BK115 hg); have n7_ := A_ (ng_ BK115 hg); replace HO_3 := n0_; replace BK115 := n1_; replace HB := n2_; have BK117 := n3_; have GW117 := n4_; have GE117 := n5_; have NB115_117 := n6_; have NB117_115 := n7_; clear n0_ n1_ n2_ n3_ n4_ n5_ n6_ n7_; clear hb hbox hg; have hnb9 := NB117_115.out; have hnc9 := NB115_117.out; have hcz10_0 : w8.cell? ⟨gb117, 0, none⟩ = some (.int .i64 0) := e_ BK117 0; have hcz10_1 : w8.cell? ⟨gb117, 1, none⟩ = some (.int .i64 0) := e_ BK117 1; have hcz10_2 : w8.cell? ⟨gb117, 2, none⟩ = some (.int .i64 0) := e_ BK117 2; have hcz10_3 : w8.cell? ⟨gb117, 3, none⟩ = some (.int .i64 0) := e_ BK117 3; have hcz10_4 : w8.cell? ⟨gb117, 4, none⟩ = some (.int .i64 0) := e_ BK117 4; have hcz10_5 : w8.cell? ⟨gb117, 5, none⟩ = some (.string (⟨#[]⟩ : ByteArray)) := e_ BK117 5; obtain ⟨hfz10_0, hfz10_1, hfz10_2, hfz10_3, hfz10_4, hfz10_5⟩ := z6_ BK117; have hcz11_0 : w8.cell? ⟨gb115, 0, none⟩ = some (.int .i64 a0_0) := e_ BK115 0; have hcz11_1 : w8.cell? ⟨gb115, 1, none⟩ = some (.int .i64 a0_1) := e_ BK115 1; have hcz11_2 : w8.cell? ⟨gb115, 2, none⟩ = some (.slice (some ad116) l0_2.length c0_2) := e_ BK115 2; obtain ⟨hfz11_0, hfz11_1, hfz11_2⟩ := z3_ BK115))
     go_ret
     exact ⟨_, by first | rfl | (simp [errW_none, errW_some] <;> rfl) | (simp [*, errW_none, errW_some] <;> rfl), by (with_reducible repeat (first | apply ra_ | apply rn_ | apply rd_)); exact Kd.R_mono (f6_ (g := gb117) (Kd.R_mono HO_3.out (fun k_ hk => (⟨hk, hk.2⟩ : _ ∧ k_ ≠ gb117))) (fun _ hk => hk.2) (.int .i64 ((rd_T38 l0_2 x9_1).f0)) (.int .i64 ((rd_T38 l0_2 x9_1).f1)) (.int .i64 ((rd_T38 l0_2 x9_1).f2)) (.int .i64 ((rd_T38 l0_2 x9_1).f3)) (.int .i64 ((rd_T38 l0_2 x9_1).f4)) (.string ((rd_T38 l0_2 x9_1).f5))) (fun _ hk => trivial), by repeat (first | (with_reducible first | exact HB.out | apply wa_ | apply wn_ | apply wd_ | refine ws_ ?_ GE115.out | refine ws_ ?_ GE117.out) | exact HB.out)⟩
   · rw [if_neg c7] at H
     have c7b0 : decide (((rd_T38 l0_2 x9_1).f1) < a0_1) = false := decide_eq_false c7
     clear c7
     by_cases c12 : (wrap64 (((rd_T38 l0_2 x9_1).f1) - a0_1)) = x9_1
     · rw [if_pos c12] at H
       have c12b0 : ((wrap64 (((rd_T38 l0_2 x9_1).f1) - a0_1)) == x9_1) = true := beq_iff_eq.mpr c12
       have c12b1 : ((wrap64 (((rd_T38 l0_2 x9_1).f1) - a0_1)) != x9_1) = false := bne_eq_false_iff_eq.mpr c12
       clear c12
       by_cases c13 : x3_1.length < 2513169434916
       rotate_left
       · rw [if_neg c13] at H
         exact absurd H (by simp)
       rw [if_pos c13] at H
       have LMc13 := A_ c13
       clear c13
       obtain ⟨y118, hy118⟩ : ∃ y_ : List (S38), y_ = (x3_1 ++ [(⟨(rd_T38 l0_2 x9_1).f0, (rd_T38 l0_2 x9_1).f1, (rd_T38 l0_2 x9_1).f2, (rd_T38 l0_2 x9_1).f3, (rd_T38 l0_2 x9_1).f4, (rd_T38 l0_2 x9_1).f5⟩ : S38)]) := ⟨_, rfl⟩
       replace H : (queue_Ready.l0 k1 y118 l0_2 (l0_2.length : Int) (wrap64 (x9_1 + 1)) a0_0 a0_1 l0_2) = some r := by first | (rw [hy118]; with_reducible exact H) | (have H2_ := (Option.bind_some _ _).symm.trans H; rw [hy118]; with_reducible exact H2_) | (have H2_ := (Option.bind_some _ _).symm.trans H; with_reducible exact H2_) | with_reducible exact H | (rw [hy118]; exact H) | exact H
       have Ny118 := A_ hy118
       clear hy118
       have H' := A_ H
       clear H
       have p116 : 0 ≤ (x9_1 : Int) := of_decide_eq_true (by first | (with_reducible assumption) | assumption)
       have q116 : x9_1 < (l0_2.length : Int) := of_decide_eq_true (by first | (with_reducible assumption) | assumption)
       obtain ⟨ad116, e116, hx116_0, hx116_1, hx116_2, hx116_3, hx116_4, hx116_5⟩ := at_T38 HR0_2.out x9_1 p116 q116
       cases e116
       replace hx116_0 := on_ HB.out hx116_0
       replace hx116_1 := on_ HB.out hx116_1
       replace hx116_2 := on_ HB.out hx116_2
       replace hx116_3 := on_ HB.out hx116_3
       replace hx116_4 := on_ HB.out hx116_4
       replace hx116_5 := on_ HB.out hx116_5
       replace p116 := eq_true p116
       replace q116 := eq_true q116
       go_wp2_with (first | ((with_reducible refine gate_dst (N := 5) rfl ?_); refine box_event ?hg (N := 5) ?hd (cs := #[.int .i64 0, .int .i64 0, .int .i64 0, .int .i64 0, .int .i64 0, .string (⟨#[]⟩ : ByteArray)]) (t := 38) ?hr ?_; (case hd => rfl); (case hg => rfl); (case hr => first | (go_simp; done) | (go_simp; rfl)); intro gb117 hg w14 hbox hb; have n0_ := A_ (Kd.R_below (Kd.R_elderB (pr_ HO_3.out) gb117 (Nat.le_of_eq hg.symm)) hb); have n1_ := A_ (kb_ BK115 hb); have n2_ := A_ (below_step bw_ hb); have n3_ := A_ (hbox); have n4_ := A_ (gz_ (w := w) hg); have n5_ := A_ (gz_ (w := w) hg); have n6_ := A_ (nl_ BK115 hg); have n7_ := A_ (ng_ BK115 hg); replace HO_3 := n0_; replace BK115 := n1_; replace HB := n2_; have BK117 := n3_; have GW117 := n4_; have GE117 := n5_; have NB115_117 := n6_; have NB117_115 := n7_; clear n0_ n1_ n2_ n3_ n4_ n5_ n6_ n7_; clear hb hbox hg; have hnb15 := NB117_115.out; have hnc15 := NB115_117.out; have hcz16_0 : w14.cell? ⟨gb117, 0, none⟩ = some (.int .i64 0) := e_ BK117 0; have hcz16_1 : w14.cell? ⟨gb117, 1, none⟩ = some (.int .i64 0) := e_ BK117 1; have hcz16_2 : w14.cell? ⟨gb117, 2, none⟩ = some (.int .i64 0) := e_ BK117 2; have hcz16_3 : w14.cell? ⟨gb117, 3, none⟩ = some (.int .i64 0) := e_ BK117 3; have hcz16_4 : w14.cell? ⟨gb117, 4, none⟩ = some (.int .i64 0) := e_ BK117 4; have hcz16_5 : w14.cell? ⟨gb117, 5, none⟩ = some (.string (⟨#[]⟩ : ByteArray)) := e_ BK117 5; obtain ⟨hfz16_0, hfz16_1, hfz16_2, hfz16_3, hfz16_4, hfz16_5⟩ := z6_ BK117; have hcz17_0 : w14.cell? ⟨gb115, 0, none⟩ = some (.int .i64 a0_0) := e_ BK115 0; have hcz17_1 : w14.cell? ⟨gb115, 1, none⟩ = some (.int .i64 a0_1) := e_ BK115 1; have hcz17_2 : w14.cell? ⟨gb115, 2, none⟩ = some (.slice (some ad116) l0_2.length c0_2) := e_ BK115 2; obtain ⟨hfz17_0, hfz17_1, hfz17_2⟩ := z3_ BK115) | ((with_reducible refine gate_builtin (b := .append) (xs := #[.tmp 28, .tmp 30]) rfl ?_); at_builtin; refine Kd.R_append k38 (w0 := w) w.heap.size rfl (.tmp 28) (.tmp 30) 23 38 (.agg #[(.int .i64 0), (.int .i64 0), (.int .i64 0), (.int .i64 0), (.int .i64 0), (.string ⟨#[]⟩)]) 56 rfl Try.underlying23 info38 rfl (by decide) (by omega) u3 x3_1 (⟨(rd_T38 l0_2 x9_1).f0, (rd_T38 l0_2 x9_1).f1, (rd_T38 l0_2 x9_1).f2, (rd_T38 l0_2 x9_1).f3, (rd_T38 l0_2 x9_1).f4, (rd_T38 l0_2 x9_1).f5⟩ : S38) [.int .i64 ((rd_T38 l0_2 x9_1).f0), .int .i64 ((rd_T38 l0_2 x9_1).f1), .int .i64 ((rd_T38 l0_2 x9_1).f2), .int .i64 ((rd_T38 l0_2 x9_1).f3), .int .i64 ((rd_T38 l0_2 x9_1).f4), .string ((rd_T38 l0_2 x9_1).f5)] (fun k_ => k_ ≠ gb117) (fun _ => False) rfl (by first | (go_simp; done) | (go_simp; rfl)) ?aP (fun _ hk => hk.elim) ?aF ?aO ?aB ?aS ?aL ?_; (case aP => exact k38_mkM _ _ _ (⟨(rd_T38 l0_2 x9_1).f0, (rd_T38 l0_2 x9_1).f1, (rd_T38 l0_2 x9_1).f2, (rd_T38 l0_2 x9_1).f3, (rd_T38 l0_2 x9_1).f4, (rd_T38 l0_2 x9_1).f5⟩ : S38)); (case aB => exact bw_); (case aF => exact (fun k_ hk => Kd.freshB (g := gb117) (o := .cells #[.int .i64 ((rd_T38 l0_2 x9_1).f0), .int .i64 ((rd_T38 l0_2 x9_1).f1), .int .i64 ((rd_T38 l0_2 x9_1).f2), .int .i64 ((rd_T38 l0_2 x9_1).f3), .int .i64 ((rd_T38 l0_2 x9_1).f4), .string ((rd_T38 l0_2 x9_1).f5)] 38 (0, 0)) (by exact pk_ (b6_ BK117.out)) k_ hk)); (case aO => exact (by (with_reducible repeat (first | apply ra_ | apply rn_ | apply rd_)); exact Kd.R_mono (f6_ (g := gb117) (Kd.R_mono HO_3.out (fun k_ hk => (⟨hk, hk.2⟩ : _ ∧ k_ ≠ gb117))) (fun _ hk => hk.2) (.int .i64 ((rd_T38 l0_2 x9_1).f0)) (.int .i64 ((rd_T38 l0_2 x9_1).f1)) (.int .i64 ((rd_T38 l0_2 x9_1).f2)) (.int .i64 ((rd_T38 l0_2 x9_1).f3)) (.int .i64 ((rd_T38 l0_2 x9_1).f4)) (.string ((rd_T38 l0_2 x9_1).f5))) (fun _ hk => hk.1.2))); (case aS => exact (below_size bw_)); (case aL => have := LMc13.out; omega); intro v119 w18 ho hb hg hat; rw [← Ny118.out] at ho; replace BK115 := A_ (blk_grown (g := gb115) (o := .cells #[.int .i64 a0_0, .int .i64 a0_1, .slice (some ad116) l0_2.length c0_2] 35 (0, 0)) bk_ hg (Kd.R_ne HO_3.out BK115.out (by decide))); replace BK117 := A_ (blk_grown (g := gb117) (o := .cells #[.int .i64 ((rd_T38 l0_2 x9_1).f0), .int .i64 ((rd_T38 l0_2 x9_1).f1), .int .i64 ((rd_T38 l0_2 x9_1).f2), .int .i64 ((rd_T38 l0_2 x9_1).f3), .int .i64 ((rd_T38 l0_2 x9_1).f4), .string ((rd_T38 l0_2 x9_1).f5)] 38 (0, 0)) (by exact pk_ (b6_ BK117.out)) hg (Kd.R_away HO_3.out (fun _ hk => hk.2))); replace HB := A_ (hb); have HO120 := A_ (ho); clear HO_3; clear ho hb hg hat))
       go_roundg k1
       case measure => have := HK1.out; omega
       case rel => exact ⟨(y118), (wrap64 (x9_1 + 1)), (by first | rfl | (simp; done) | (simp [*]; done)), H', ⟨by have := HK1.out; omega⟩, ⟨by (with_reducible repeat (first | apply ra_ | apply rn_ | apply rd_)); exact Kd.R_mono HO120.out (fun _ hk => trivial)⟩, ⟨bk_⟩, ⟨by repeat (first | (with_reducible first | exact HB.out | apply wa_ | apply wn_ | apply wd_ | refine ws_ ?_ GE115.out | refine ws_ ?_ GE117.out) | exact HB.out)⟩⟩
     · rw [if_neg c12] at H
       have c12b0 : ((wrap64 (((rd_T38 l0_2 x9_1).f1) - a0_1)) == x9_1) = false := beq_eq_false_iff_ne.mpr c12
       have c12b1 : ((wrap64 (((rd_T38 l0_2 x9_1).f1) - a0_1)) != x9_1) = true := bne_iff_ne.mpr c12
       obtain rfl := Option.some.inj H
       have p116 : 0 ≤ (x9_1 : Int) := of_decide_eq_true (by first | (with_reducible assumption) | assumption)
       have q116 : x9_1 < (l0_2.length : Int) := of_decide_eq_true (by first | (with_reducible assumption) | assumption)
       obtain ⟨ad116, e116, hx116_0, hx116_1, hx116_2, hx116_3, hx116_4, hx116_5⟩ := at_T38 HR0_2.out x9_1 p116 q116
       cases e116
       replace hx116_0 := on_ HB.out hx116_0
       replace hx116_1 := on_ HB.out hx116_1
       replace hx116_2 := on_ HB.out hx116_2
       replace hx116_3 := on_ HB.out hx116_3
       replace hx116_4 := on_ HB.out hx116_4
       replace hx116_5 := on_ HB.out hx116_5
       replace p116 := eq_true p116
       replace q116 := eq_true q116
       go_wp2_with (first | ((with_reducible refine gate_dst (N := 5) rfl ?_); refine box_event ?hg (N := 5) ?hd (cs := #[.int .i64 0, .int .i64 0, .int .i64 0, .int .i64 0, .int .i64 0, .string (⟨#[]⟩ : ByteArray)]) (t := 38) ?hr ?_; (case hd => rfl); (case hg => rfl); (case hr => first | (go_simp; done) | (go_simp; rfl)); intro gb117 hg w19 hbox hb; have n0_ := A_ (Kd.R_below (Kd.R_elderB (pr_ HO_3.out) gb117 (Nat.le_of_eq hg.symm)) hb); have n1_ := A_ (kb_ BK115 hb); have n2_ := A_ (below_step bw_ hb); have n3_ := A_ (hbox); have n4_ := A_ (gz_ (w := w) hg); have n5_ := A_ (gz_ (w := w) hg); have n6_ := A_ (nl_ BK115 hg); have n7_ := A_ (ng_ BK115 hg); replace HO_3 := n0_; replace BK115 := n1_; replace HB := n2_; have BK117 := n3_; have GW117 := n4_; have GE117 := n5_; have NB115_117 := n6_; have NB117_115 := n7_; clear n0_ n1_ n2_ n3_ n4_ n5_ n6_ n7_; clear hb hbox hg; have hnb20 := NB117_115.out; have hnc20 := NB115_117.out; have hcz21_0 : w19.cell? ⟨gb117, 0, none⟩ = some (.int .i64 0) := e_ BK117 0; have hcz21_1 : w19.cell? ⟨gb117, 1, none⟩ = some (.int .i64 0) := e_ BK117 1; have hcz21_2 : w19.cell? ⟨gb117, 2, none⟩ = some (.int .i64 0) := e_ BK117 2; have hcz21_3 : w19.cell? ⟨gb117, 3, none⟩ = some (.int .i64 0) := e_ BK117 3; have hcz21_4 : w19.cell? ⟨gb117, 4, none⟩ = some (.int .i64 0) := e_ BK117 4; have hcz21_5 : w19.cell? ⟨gb117, 5, none⟩ = some (.string (⟨#[]⟩ : ByteArray)) := e_ BK117 5; obtain ⟨hfz21_0, hfz21_1, hfz21_2, hfz21_3, hfz21_4, hfz21_5⟩ := z6_ BK117; have hcz22_0 : w19.cell? ⟨gb115, 0, none⟩ = some (.int .i64 a0_0) := e_ BK115 0; have hcz22_1 : w19.cell? ⟨gb115, 1, none⟩ = some (.int .i64 a0_1) := e_ BK115 1; have hcz22_2 : w19.cell? ⟨gb115, 2, none⟩ = some (.slice (some ad116) l0_2.length c0_2) := e_ BK115 2; obtain ⟨hfz22_0, hfz22_1, hfz22_2⟩ := z3_ BK115))
       go_ret
       exact ⟨_, by first | rfl | (simp [errW_none, errW_some] <;> rfl) | (simp [*, errW_none, errW_some] <;> rfl), by (with_reducible repeat (first | apply ra_ | apply rn_ | apply rd_)); exact Kd.R_mono (f6_ (g := gb117) (Kd.R_mono HO_3.out (fun k_ hk => (⟨hk, hk.2⟩ : _ ∧ k_ ≠ gb117))) (fun _ hk => hk.2) (.int .i64 ((rd_T38 l0_2 x9_1).f0)) (.int .i64 ((rd_T38 l0_2 x9_1).f1)) (.int .i64 ((rd_T38 l0_2 x9_1).f2)) (.int .i64 ((rd_T38 l0_2 x9_1).f3)) (.int .i64 ((rd_T38 l0_2 x9_1).f4)) (.string ((rd_T38 l0_2 x9_1).f5))) (fun _ hk => trivial), by repeat (first | (with_reducible first | exact HB.out | apply wa_ | apply wn_ | apply wd_ | refine ws_ ?_ GE115.out | refine ws_ ?_ GE117.out) | exact HB.out)⟩
/-! ### api_Tx: function 42, by hand -/
-- HAND rounds=0 making=0 opaque
-- IMPORT Derived.Test.YtahopljippfadaaCopyK
theorem api_Tx.split (x : List Value) (h : x.length = 6) : ∃ u0 u1 u2 u3 u4 u5 : Value, x = [u0, u1, u2, u3, u4, u5] := by
  match x, h with
  | [u0, u1, u2, u3, u4, u5], _ => exact ⟨_, _, _, _, _, _, rfl⟩
set_option maxHeartbeats 8000000 in
set_option maxRecDepth 100000 in
/-- The first place at which a closure says yes, of a row of one's own. -/
theorem api_Tx.calls (base n : Nat) (v : Value) (rows : List (List Value)) (p : List Value → Bool) (gf : Nat) (lb : Array Value) (eg : ∀ args w, (callFunc gf args).run Try.prog w = .ok (.enter gf args) w) (w : World) (HO : w.ownsRow base 38 6 v n rows.flatten) (hn : rows.length = n) (hr : ∀ r ∈ rows, r.length = 6) (hbig : n < 2513169434916)
    (hp : ∀ (W : World) (x : List Value), x ∈ rows → w.grownBy W none → Calls Try.prog gf (#[.agg x.toArray] ++ lb) W fun e w' => e = .returned (.bool (p x)) ∧ W.grownBy w' none) :
    Calls Try.prog 42 #[v, .func (.func gf) #[] lb] w fun e w' => e = .returned (.int .i64 (CopyK.idxC p rows 0)) ∧ w.grownBy w' none := by
  rcases CopyK.Blk.of HO with ⟨rfl, rfl, hz⟩ | ⟨g, cap, rfl, hbg, hB⟩
  · obtain rfl : rows = [] := List.eq_nil_of_length_eq_zero hn
    go_enter Try.func42, Try.ntmps42
    go_wp2
    go_loopg [5, 8] 1 (fun gg _ s8 wr => 0 < gg ∧ s8 = .int .i64 0 ∧ wr = w)
    case atStart => exact ⟨by omega, rfl, rfl⟩
    case round =>
      obtain ⟨hgg, rfl, rfl⟩ := hrel
      go_wp2
      go_ret
      exact ⟨rfl, CopyK.grown_refl _ _⟩
  · have HB := Aside0.mk hB
    have HP := Aside0.mk hp
    have HR := Aside0.mk hr
    have HN := Aside0.mk hn
    have HBG := Aside0.mk hbig
    clear HO hB hp hr hn hbig
    go_enter Try.func42, Try.ntmps42
    go_wp2
    go_loopg [5, 8] n (fun gg _ s8 wr => ∃ kk : Nat, kk ≤ n ∧ n - kk ≤ gg ∧ s8 = .int .i64 kk ∧ Aside0 (w.grownBy wr none) ∧ Aside0 (CopyK.idxC p rows 0 = CopyK.idxC p (rows.drop kk) kk))
    case atStart => exact ⟨0, Nat.zero_le _, by omega, rfl, ⟨CopyK.grown_refl _ _⟩, ⟨rfl⟩⟩
    case round =>
      obtain ⟨kk, hkk, hg, rfl, BW, A⟩ := hrel
      by_cases hlt : kk < n
      · have hltz : (kk : Int) < (n : Int) := by omega
        have hk0 : (0 : Int) ≤ (kk : Int) := by omega
        obtain ⟨x, hx⟩ : ∃ x, rows[kk]? = some x := ⟨_, List.getElem?_eq_getElem (by rw [HN.out]; exact hlt)⟩
        have hxm : x ∈ rows := List.mem_of_getElem? hx
        have hcall := HP.out wr x hxm BW.out
        have hd : rows.drop kk = x :: rows.drop (kk + 1) := by
          obtain ⟨hk, e⟩ := List.getElem?_eq_some_iff.1 hx
          rw [List.drop_eq_getElem_cons hk, e]
        have hB1 := HB.out.grown BW.out (by simp)
        have hcs : ∀ j u, x[j]? = some u → wr.cell? ⟨g, kk * 6 + j, none⟩ = some u := fun j u hj => hB1.cell _ u (by rw [CopyK.flat_at 6 rows HR.out kk j x hx (by have := (List.getElem?_eq_some_iff.1 hj).1; rw [HR.out x hxm] at this; exact this)]; exact hj)
        obtain ⟨u0, u1, u2, u3, u4, u5, rfl⟩ := api_Tx.split x (HR.out x hxm)
        have l0 : wr.cell? ⟨g, kk * 6, none⟩ = some u0 := hcs 0 u0 rfl
        have l1 : wr.cell? ⟨g, kk * 6 + 1, none⟩ = some u1 := hcs 1 u1 rfl
        have l2 : wr.cell? ⟨g, kk * 6 + 2, none⟩ = some u2 := hcs 2 u2 rfl
        have l3 : wr.cell? ⟨g, kk * 6 + 3, none⟩ = some u3 := hcs 3 u3 rfl
        have l4 : wr.cell? ⟨g, kk * 6 + 4, none⟩ = some u4 := hcs 4 u4 rfl
        have l5 : wr.cell? ⟨g, kk * 6 + 5, none⟩ = some u5 := hcs 5 u5 rfl
        have HD := Aside0.mk hd
        clear hcs hd hx hxm hB1
        have hw1 : wrap64 ((kk : Int) + 1) = ((kk + 1 : Nat) : Int) := by have := HBG.out; unfold wrap64; omega
        cases hq : p [u0, u1, u2, u3, u4, u5] with
        | true =>
          rw [hq] at hcall
          go_wp2_with (go_at_fn gf; refine hcall.mono ?_; rintro e w' ⟨rfl, hb'⟩)
          go_ret
          refine ⟨?_, BW.out.trans hb'⟩
          rw [A.out, HD.out, CopyK.idxC, if_pos hq]
          rfl
        | false =>
          rw [hq] at hcall
          go_wp2_with (go_at_fn gf; refine hcall.mono ?_; rintro e w' ⟨rfl, hb'⟩)
          go_roundg (n - (kk + 1))
          case measure => omega
          case rel =>
            refine ⟨kk + 1, by omega, by omega, by first | rfl | rw [hw1] | go_num, ⟨BW.out.trans hb'⟩, ⟨?_⟩⟩
            rw [A.out, HD.out, CopyK.idxC, if_neg (by rw [hq]; decide), Int.natCast_add]
            rfl
      · have hltz : ¬ (kk : Int) < (n : Int) := by omega
        have hkn : kk = n := by omega
        subst hkn
        go_wp2
        go_ret
        refine ⟨?_, BW.out⟩
        rw [A.out, List.drop_eq_nil_of_le (by rw [HN.out]; exact Nat.le_refl _)]
        rfl


/-! ### txn_in: function 52 -/
def txn_in.f (a0 : Int) (a1 : Int) (a2 : Int) : Option (Bool) := if a0 ≥ a1 then (some (decide (a0 ≤ a2))) else (some false)
set_option maxHeartbeats 8000000 in
set_option maxRecDepth 100000 in
theorem txn_in.calls (a0 : Int) (a1 : Int) (a2 : Int) (r : Bool) (w : World) (h : txn_in.f a0 a1 a2 = some r) :
    Calls Try.prog 52 #[.int .i64 a0, .int .i64 a1, .int .i64 a2] w fun e w' => e = .returned (.bool r) ∧ Drawn0 w w' := by
  have H : (if a0 ≥ a1 then (some (decide (a0 ≤ a2))) else (some false)) = some r := h
  clear h
  by_cases c4 : a0 ≥ a1
  · rw [if_pos c4] at H
    have c4b0 : decide (a1 ≤ a0) = true := decide_eq_true c4
    clear c4
    obtain rfl := Option.some.inj H
    go_enter Try.func52, Try.ntmps52
    go_wp2
    go_ret
    exact ⟨by first | rfl | (simp; done) | (simp [*]; done), by repeat (first | exact Drawn0.refl _ | apply Drawn0.step)⟩
  · rw [if_neg c4] at H
    have c4b0 : decide (a1 ≤ a0) = false := decide_eq_false c4
    clear c4
    obtain rfl := Option.some.inj H
    go_enter Try.func52, Try.ntmps52
    go_wp2
    go_ret
    exact ⟨by first | rfl | (simp; done) | (simp [*]; done), by repeat (first | exact Drawn0.refl _ | apply Drawn0.step)⟩

/-! ### txn_Check: function 44 -/
def txn_Check.f (a0_0 : Int) (a0_1 : Int) (a0_2 : Int) (a0_3 : Int) (a0_4 : Int) (a0_5 : ByteArray) : Option (Bool) := (txn_in.f a0_0 0 255).bind fun t122 => (if t122 = true then ((txn_in.f a0_1 0 4294967295).bind fun t123 => (if t123 = true then ((txn_in.f a0_2 0 1099511627776).bind fun t124 => (if t124 = true then ((txn_in.f a0_3 a0_2 1099511627776).bind fun t125 => (if t125 = true then ((txn_in.f a0_4 1 1073741824).bind fun t126 => (if t126 = true then (some (decide ((a0_5.size : Int) ≤ 256))) else (some false))) else (some false))) else (some false))) else (some false))) else (some false))
set_option maxHeartbeats 8000000 in
set_option maxRecDepth 100000 in
theorem txn_Check.calls (a0_0 : Int) (a0_1 : Int) (a0_2 : Int) (a0_3 : Int) (a0_4 : Int) (a0_5 : ByteArray) (r : Bool) (w : World) (h : txn_Check.f a0_0 a0_1 a0_2 a0_3 a0_4 a0_5 = some r) :
 Calls Try.prog 44 #[.agg #[.int .i64 a0_0, .int .i64 a0_1, .int .i64 a0_2, .int .i64 a0_3, .int .i64 a0_4, .string a0_5]] w fun e w' => e = .returned (.bool r) ∧ Below w.heap.size w w' := by
 have hu38 := Try.underlying38
 have HB := A_ (Below.refl w.heap.size w)
 have H : ((txn_in.f a0_0 0 255).bind fun t122 => (if t122 = true then ((txn_in.f a0_1 0 4294967295).bind fun t123 => (if t123 = true then ((txn_in.f a0_2 0 1099511627776).bind fun t124 => (if t124 = true then ((txn_in.f a0_3 a0_2 1099511627776).bind fun t125 => (if t125 = true then ((txn_in.f a0_4 1 1073741824).bind fun t126 => (if t126 = true then (some (decide ((a0_5.size : Int) ≤ 256))) else (some false))) else (some false))) else (some false))) else (some false))) else (some false))) = some r := h
 clear h
 replace H := Option.bind_eq_some_iff.mp H
 obtain ⟨t122, A20, H⟩ := H
 try dsimp only at H
 have A2 := A_ A20
 clear A20
 by_cases c3 : t122 = true
 rotate_left
 · replace c3 := Bool.eq_false_iff.mpr c3
   subst c3
   have H1 : (some false) = some r := by rw [if_neg (show ¬ (false = true) by decide)] at H; exact H
   clear H
   have H := H1
   clear H1
   obtain rfl := Option.some.inj H
   go_enter Try.func44, Try.ntmps44
   go_wp2_with (first | ((with_reducible refine gate_dst (N := 1) rfl ?_); (try (refine gate_guard (by rfl) ?_; dsimp only)); refine box_event ?hg (N := 1) ?hd (cs := #[.int .i64 a0_0, .int .i64 a0_1, .int .i64 a0_2, .int .i64 a0_3, .int .i64 a0_4, .string a0_5]) (t := 38) ?hr ?_; (case hd => rfl); (case hg => rfl); (case hr => first | (go_simp; done) | (go_simp; rfl)); intro gb121 hg w22 hbox hb; have n0_ := A_ (below_step bw_ hb); have n1_ := A_ (hbox); have n2_ := A_ (gz_ (w := w) hg); have n3_ := A_ (gz_ (w := w) hg); replace HB := n0_; have BK121 := n1_; have GW121 := n2_; have GE121 := n3_; clear n0_ n1_ n2_ n3_; clear hb hbox hg; have hcz23_0 : w22.cell? ⟨gb121, 0, none⟩ = some (.int .i64 a0_0) := e_ BK121 0; have hcz23_1 : w22.cell? ⟨gb121, 1, none⟩ = some (.int .i64 a0_1) := e_ BK121 1; have hcz23_2 : w22.cell? ⟨gb121, 2, none⟩ = some (.int .i64 a0_2) := e_ BK121 2; have hcz23_3 : w22.cell? ⟨gb121, 3, none⟩ = some (.int .i64 a0_3) := e_ BK121 3; have hcz23_4 : w22.cell? ⟨gb121, 4, none⟩ = some (.int .i64 a0_4) := e_ BK121 4; have hcz23_5 : w22.cell? ⟨gb121, 5, none⟩ = some (.string a0_5) := e_ BK121 5; obtain ⟨hfz23_0, hfz23_1, hfz23_2, hfz23_3, hfz23_4, hfz23_5⟩ := z6_ BK121) | ((with_reducible refine gate_callee (f := 52) rfl ?_); refine goesL_ (some 5) rfl rfl Try.func52 (by kernel_rfl) rfl #[.int .i64 a0_0, .int .i64 0, .int .i64 255] rfl (by (try simp only [m0_, m1_, m2_]); first | done | rfl) ?_; (with_reducible refine (txn_in.calls a0_0 0 255 false _ A2.out).mono ?_); rintro e w' ⟨rfl, ⟨nd, rfl⟩⟩; refine ⟨_, rfl, ?_⟩))
   go_ret
   exact ⟨by first | rfl | (simp [errW_none, errW_some] <;> rfl) | (simp [*, errW_none, errW_some] <;> rfl), by repeat (first | (with_reducible first | exact HB.out | apply wa_ | apply wn_ | apply wd_ | refine ws_ ?_ GE121.out) | exact HB.out)⟩

 subst c3
 have H1 : ((txn_in.f a0_1 0 4294967295).bind fun t123 => (if t123 = true then ((txn_in.f a0_2 0 1099511627776).bind fun t124 => (if t124 = true then ((txn_in.f a0_3 a0_2 1099511627776).bind fun t125 => (if t125 = true then ((txn_in.f a0_4 1 1073741824).bind fun t126 => (if t126 = true then (some (decide ((a0_5.size : Int) ≤ 256))) else (some false))) else (some false))) else (some false))) else (some false))) = some r := by rw [if_pos rfl] at H; exact H
 clear H
 have H := H1
 clear H1
 replace H := Option.bind_eq_some_iff.mp H
 obtain ⟨t123, A40, H⟩ := H
 try dsimp only at H
 have A4 := A_ A40
 clear A40
 by_cases c5 : t123 = true
 rotate_left
 · replace c5 := Bool.eq_false_iff.mpr c5
   subst c5
   have H1 : (some false) = some r := by rw [if_neg (show ¬ (false = true) by decide)] at H; exact H
   clear H
   have H := H1
   clear H1
   obtain rfl := Option.some.inj H
   go_enter Try.func44, Try.ntmps44
   go_wp2_with (first | ((with_reducible refine gate_dst (N := 1) rfl ?_); (try (refine gate_guard (by rfl) ?_; dsimp only)); refine box_event ?hg (N := 1) ?hd (cs := #[.int .i64 a0_0, .int .i64 a0_1, .int .i64 a0_2, .int .i64 a0_3, .int .i64 a0_4, .string a0_5]) (t := 38) ?hr ?_; (case hd => rfl); (case hg => rfl); (case hr => first | (go_simp; done) | (go_simp; rfl)); intro gb121 hg w20 hbox hb; have n0_ := A_ (below_step bw_ hb); have n1_ := A_ (hbox); have n2_ := A_ (gz_ (w := w) hg); have n3_ := A_ (gz_ (w := w) hg); replace HB := n0_; have BK121 := n1_; have GW121 := n2_; have GE121 := n3_; clear n0_ n1_ n2_ n3_; clear hb hbox hg; have hcz21_0 : w20.cell? ⟨gb121, 0, none⟩ = some (.int .i64 a0_0) := e_ BK121 0; have hcz21_1 : w20.cell? ⟨gb121, 1, none⟩ = some (.int .i64 a0_1) := e_ BK121 1; have hcz21_2 : w20.cell? ⟨gb121, 2, none⟩ = some (.int .i64 a0_2) := e_ BK121 2; have hcz21_3 : w20.cell? ⟨gb121, 3, none⟩ = some (.int .i64 a0_3) := e_ BK121 3; have hcz21_4 : w20.cell? ⟨gb121, 4, none⟩ = some (.int .i64 a0_4) := e_ BK121 4; have hcz21_5 : w20.cell? ⟨gb121, 5, none⟩ = some (.string a0_5) := e_ BK121 5; obtain ⟨hfz21_0, hfz21_1, hfz21_2, hfz21_3, hfz21_4, hfz21_5⟩ := z6_ BK121) | ((with_reducible refine gate_callee (f := 52) rfl ?_); refine goesL_ (some 5) rfl rfl Try.func52 (by kernel_rfl) rfl #[.int .i64 a0_0, .int .i64 0, .int .i64 255] rfl (by (try simp only [m0_, m1_, m2_]); first | done | rfl) ?_; (with_reducible refine (txn_in.calls a0_0 0 255 true _ A2.out).mono ?_); rintro e w' ⟨rfl, ⟨nd, rfl⟩⟩; refine ⟨_, rfl, ?_⟩) | (go_at_call 52; (with_reducible refine (txn_in.calls a0_1 0 4294967295 false _ A4.out).mono ?_); rintro e w' ⟨rfl, ⟨nd, rfl⟩⟩))
   go_ret
   exact ⟨by first | rfl | (simp [errW_none, errW_some] <;> rfl) | (simp [*, errW_none, errW_some] <;> rfl), by repeat (first | (with_reducible first | exact HB.out | apply wa_ | apply wn_ | apply wd_ | refine ws_ ?_ GE121.out) | exact HB.out)⟩
 subst c5
 have H1 : ((txn_in.f a0_2 0 1099511627776).bind fun t124 => (if t124 = true then ((txn_in.f a0_3 a0_2 1099511627776).bind fun t125 => (if t125 = true then ((txn_in.f a0_4 1 1073741824).bind fun t126 => (if t126 = true then (some (decide ((a0_5.size : Int) ≤ 256))) else (some false))) else (some false))) else (some false))) = some r := by rw [if_pos rfl] at H; exact H
 clear H
 have H := H1
 clear H1
 replace H := Option.bind_eq_some_iff.mp H
 obtain ⟨t124, A60, H⟩ := H
 try dsimp only at H
 have A6 := A_ A60
 clear A60
 by_cases c7 : t124 = true
 rotate_left
 · replace c7 := Bool.eq_false_iff.mpr c7
   subst c7
   have H1 : (some false) = some r := by rw [if_neg (show ¬ (false = true) by decide)] at H; exact H
   clear H
   have H := H1
   clear H1
   obtain rfl := Option.some.inj H
   go_enter Try.func44, Try.ntmps44
   go_wp2_with (first | ((with_reducible refine gate_dst (N := 1) rfl ?_); (try (refine gate_guard (by rfl) ?_; dsimp only)); refine box_event ?hg (N := 1) ?hd (cs := #[.int .i64 a0_0, .int .i64 a0_1, .int .i64 a0_2, .int .i64 a0_3, .int .i64 a0_4, .string a0_5]) (t := 38) ?hr ?_; (case hd => rfl); (case hg => rfl); (case hr => first | (go_simp; done) | (go_simp; rfl)); intro gb121 hg w18 hbox hb; have n0_ := A_ (below_step bw_ hb); have n1_ := A_ (hbox); have n2_ := A_ (gz_ (w := w) hg); have n3_ := A_ (gz_ (w := w) hg); replace HB := n0_; have BK121 := n1_; have GW121 := n2_; have GE121 := n3_; clear n0_ n1_ n2_ n3_; clear hb hbox hg; have hcz19_0 : w18.cell? ⟨gb121, 0, none⟩ = some (.int .i64 a0_0) := e_ BK121 0; have hcz19_1 : w18.cell? ⟨gb121, 1, none⟩ = some (.int .i64 a0_1) := e_ BK121 1; have hcz19_2 : w18.cell? ⟨gb121, 2, none⟩ = some (.int .i64 a0_2) := e_ BK121 2; have hcz19_3 : w18.cell? ⟨gb121, 3, none⟩ = some (.int .i64 a0_3) := e_ BK121 3; have hcz19_4 : w18.cell? ⟨gb121, 4, none⟩ = some (.int .i64 a0_4) := e_ BK121 4; have hcz19_5 : w18.cell? ⟨gb121, 5, none⟩ = some (.string a0_5) := e_ BK121 5; obtain ⟨hfz19_0, hfz19_1, hfz19_2, hfz19_3, hfz19_4, hfz19_5⟩ := z6_ BK121) | ((with_reducible refine gate_callee (f := 52) rfl ?_); refine goesL_ (some 5) rfl rfl Try.func52 (by kernel_rfl) rfl #[.int .i64 a0_0, .int .i64 0, .int .i64 255] rfl (by (try simp only [m0_, m1_, m2_]); first | done | rfl) ?_; (with_reducible refine (txn_in.calls a0_0 0 255 true _ A2.out).mono ?_); rintro e w' ⟨rfl, ⟨nd, rfl⟩⟩; refine ⟨_, rfl, ?_⟩) | (go_at_call 52; (with_reducible refine (txn_in.calls a0_1 0 4294967295 true _ A4.out).mono ?_); rintro e w' ⟨rfl, ⟨nd, rfl⟩⟩) | (go_at_call 52; (with_reducible refine (txn_in.calls a0_2 0 1099511627776 false _ A6.out).mono ?_); rintro e w' ⟨rfl, ⟨nd, rfl⟩⟩))
   go_ret
   exact ⟨by first | rfl | (simp [errW_none, errW_some] <;> rfl) | (simp [*, errW_none, errW_some] <;> rfl), by repeat (first | (with_reducible first | exact HB.out | apply wa_ | apply wn_ | apply wd_ | refine ws_ ?_ GE121.out) | exact HB.out)⟩
 subst c7
 have H1 : ((txn_in.f a0_3 a0_2 1099511627776).bind fun t125 => (if t125 = true then ((txn_in.f a0_4 1 1073741824).bind fun t126 => (if t126 = true then (some (decide ((a0_5.size : Int) ≤ 256))) else (some false))) else (some false))) = some r := by rw [if_pos rfl] at H; exact H
 clear H
 have H := H1
 clear H1
 replace H := Option.bind_eq_some_iff.mp H
 obtain ⟨t125, A80, H⟩ := H
 try dsimp only at H
 have A8 := A_ A80
 clear A80
 by_cases c9 : t125 = true
 rotate_left
 · replace c9 := Bool.eq_false_iff.mpr c9
   subst c9
   have H1 : (some false) = some r := by rw [if_neg (show ¬ (false = true) by decide)] at H; exact H
   clear H
   have H := H1
   clear H1
   obtain rfl := Option.some.inj H
   go_enter Try.func44, Try.ntmps44
   go_wp2_with (first | ((with_reducible refine gate_dst (N := 1) rfl ?_); (try (refine gate_guard (by rfl) ?_; dsimp only)); refine box_event ?hg (N := 1) ?hd (cs := #[.int .i64 a0_0, .int .i64 a0_1, .int .i64 a0_2, .int .i64 a0_3, .int .i64 a0_4, .string a0_5]) (t := 38) ?hr ?_; (case hd => rfl); (case hg => rfl); (case hr => first | (go_simp; done) | (go_simp; rfl)); intro gb121 hg w16 hbox hb; have n0_ := A_ (below_step bw_ hb); have n1_ := A_ (hbox); have n2_ := A_ (gz_ (w := w) hg); have n3_ := A_ (gz_ (w := w) hg); replace HB := n0_; have BK121 := n1_; have GW121 := n2_; have GE121 := n3_; clear n0_ n1_ n2_ n3_; clear hb hbox hg; have hcz17_0 : w16.cell? ⟨gb121, 0, none⟩ = some (.int .i64 a0_0) := e_ BK121 0; have hcz17_1 : w16.cell? ⟨gb121, 1, none⟩ = some (.int .i64 a0_1) := e_ BK121 1; have hcz17_2 : w16.cell? ⟨gb121, 2, none⟩ = some (.int .i64 a0_2) := e_ BK121 2; have hcz17_3 : w16.cell? ⟨gb121, 3, none⟩ = some (.int .i64 a0_3) := e_ BK121 3; have hcz17_4 : w16.cell? ⟨gb121, 4, none⟩ = some (.int .i64 a0_4) := e_ BK121 4; have hcz17_5 : w16.cell? ⟨gb121, 5, none⟩ = some (.string a0_5) := e_ BK121 5; obtain ⟨hfz17_0, hfz17_1, hfz17_2, hfz17_3, hfz17_4, hfz17_5⟩ := z6_ BK121) | ((with_reducible refine gate_callee (f := 52) rfl ?_); refine goesL_ (some 5) rfl rfl Try.func52 (by kernel_rfl) rfl #[.int .i64 a0_0, .int .i64 0, .int .i64 255] rfl (by (try simp only [m0_, m1_, m2_]); first | done | rfl) ?_; (with_reducible refine (txn_in.calls a0_0 0 255 true _ A2.out).mono ?_); rintro e w' ⟨rfl, ⟨nd, rfl⟩⟩; refine ⟨_, rfl, ?_⟩) | (go_at_call 52; (with_reducible refine (txn_in.calls a0_1 0 4294967295 true _ A4.out).mono ?_); rintro e w' ⟨rfl, ⟨nd, rfl⟩⟩) | (go_at_call 52; (with_reducible refine (txn_in.calls a0_2 0 1099511627776 true _ A6.out).mono ?_); rintro e w' ⟨rfl, ⟨nd, rfl⟩⟩) | (go_at_call 52; (with_reducible refine (txn_in.calls a0_3 a0_2 1099511627776 false _ A8.out).mono ?_); rintro e w' ⟨rfl, ⟨nd, rfl⟩⟩))
   go_ret
   exact ⟨by first | rfl | (simp [errW_none, errW_some] <;> rfl) | (simp [*, errW_none, errW_some] <;> rfl), by repeat (first | (with_reducible first | exact HB.out | apply wa_ | apply wn_ | apply wd_ | refine ws_ ?_ GE121.out) | exact HB.out)⟩
 subst c9
 have H1 : ((txn_in.f a0_4 1 1073741824).bind fun t126 => (if t126 = true then (some (decide ((a0_5.size : Int) ≤ 256))) else (some false))) = some r := by rw [if_pos rfl] at H; exact H
 clear H
 have H := H1
 clear H1
 replace H := Option.bind_eq_some_iff.mp H
 obtain ⟨t126, A100, H⟩ := H
 try dsimp only at H
 have A10 := A_ A100
 clear A100
 by_cases c11 : t126 = true
 · subst c11
   have H1 : (some (decide ((a0_5.size : Int) ≤ 256))) = some r := by rw [if_pos rfl] at H; exact H
   clear H
   have H := H1
   clear H1
   obtain rfl := Option.some.inj H
   go_enter Try.func44, Try.ntmps44
   go_wp2_with (first | ((with_reducible refine gate_dst (N := 1) rfl ?_); (try (refine gate_guard (by rfl) ?_; dsimp only)); refine box_event ?hg (N := 1) ?hd (cs := #[.int .i64 a0_0, .int .i64 a0_1, .int .i64 a0_2, .int .i64 a0_3, .int .i64 a0_4, .string a0_5]) (t := 38) ?hr ?_; (case hd => rfl); (case hg => rfl); (case hr => first | (go_simp; done) | (go_simp; rfl)); intro gb121 hg w12 hbox hb; have n0_ := A_ (below_step bw_ hb); have n1_ := A_ (hbox); have n2_ := A_ (gz_ (w := w) hg); have n3_ := A_ (gz_ (w := w) hg); replace HB := n0_; have BK121 := n1_; have GW121 := n2_; have GE121 := n3_; clear n0_ n1_ n2_ n3_; clear hb hbox hg; have hcz13_0 : w12.cell? ⟨gb121, 0, none⟩ = some (.int .i64 a0_0) := e_ BK121 0; have hcz13_1 : w12.cell? ⟨gb121, 1, none⟩ = some (.int .i64 a0_1) := e_ BK121 1; have hcz13_2 : w12.cell? ⟨gb121, 2, none⟩ = some (.int .i64 a0_2) := e_ BK121 2; have hcz13_3 : w12.cell? ⟨gb121, 3, none⟩ = some (.int .i64 a0_3) := e_ BK121 3; have hcz13_4 : w12.cell? ⟨gb121, 4, none⟩ = some (.int .i64 a0_4) := e_ BK121 4; have hcz13_5 : w12.cell? ⟨gb121, 5, none⟩ = some (.string a0_5) := e_ BK121 5; obtain ⟨hfz13_0, hfz13_1, hfz13_2, hfz13_3, hfz13_4, hfz13_5⟩ := z6_ BK121) | ((with_reducible refine gate_callee (f := 52) rfl ?_); refine goesL_ (some 5) rfl rfl Try.func52 (by kernel_rfl) rfl #[.int .i64 a0_0, .int .i64 0, .int .i64 255] rfl (by (try simp only [m0_, m1_, m2_]); first | done | rfl) ?_; (with_reducible refine (txn_in.calls a0_0 0 255 true _ A2.out).mono ?_); rintro e w' ⟨rfl, ⟨nd, rfl⟩⟩; refine ⟨_, rfl, ?_⟩) | (go_at_call 52; (with_reducible refine (txn_in.calls a0_1 0 4294967295 true _ A4.out).mono ?_); rintro e w' ⟨rfl, ⟨nd, rfl⟩⟩) | (go_at_call 52; (with_reducible refine (txn_in.calls a0_2 0 1099511627776 true _ A6.out).mono ?_); rintro e w' ⟨rfl, ⟨nd, rfl⟩⟩) | (go_at_call 52; (with_reducible refine (txn_in.calls a0_3 a0_2 1099511627776 true _ A8.out).mono ?_); rintro e w' ⟨rfl, ⟨nd, rfl⟩⟩) | (go_at_call 52; (with_reducible refine (txn_in.calls a0_4 1 1073741824 true _ A10.out).mono ?_); rintro e w' ⟨rfl, ⟨nd, rfl⟩⟩))
   go_ret
   exact ⟨by first | rfl | (simp [errW_none, errW_some] <;> rfl) | (simp [*, errW_none, errW_some] <;> rfl), by repeat (first | (with_reducible first | exact HB.out | apply wa_ | apply wn_ | apply wd_ | refine ws_ ?_ GE121.out) | exact HB.out)⟩
 · replace c11 := Bool.eq_false_iff.mpr c11
   subst c11
   have H1 : (some false) = some r := by rw [if_neg (show ¬ (false = true) by decide)] at H; exact H
   clear H
   have H := H1
   clear H1
   obtain rfl := Option.some.inj H
   go_enter Try.func44, Try.ntmps44
   go_wp2_with (first | ((with_reducible refine gate_dst (N := 1) rfl ?_); (try (refine gate_guard (by rfl) ?_; dsimp only)); refine box_event ?hg (N := 1) ?hd (cs := #[.int .i64 a0_0, .int .i64 a0_1, .int .i64 a0_2, .int .i64 a0_3, .int .i64 a0_4, .string a0_5]) (t := 38) ?hr ?_; (case hd => rfl); (case hg => rfl); (case hr => first | (go_simp; done) | (go_simp; rfl)); intro gb121 hg w14 hbox hb; have n0_ := A_ (below_step bw_ hb); have n1_ := A_ (hbox); have n2_ := A_ (gz_ (w := w) hg); have n3_ := A_ (gz_ (w := w) hg); replace HB := n0_; have BK121 := n1_; have GW121 := n2_; have GE121 := n3_; clear n0_ n1_ n2_ n3_; clear hb hbox hg; have hcz15_0 : w14.cell? ⟨gb121, 0, none⟩ = some (.int .i64 a0_0) := e_ BK121 0; have hcz15_1 : w14.cell? ⟨gb121, 1, none⟩ = some (.int .i64 a0_1) := e_ BK121 1; have hcz15_2 : w14.cell? ⟨gb121, 2, none⟩ = some (.int .i64 a0_2) := e_ BK121 2; have hcz15_3 : w14.cell? ⟨gb121, 3, none⟩ = some (.int .i64 a0_3) := e_ BK121 3; have hcz15_4 : w14.cell? ⟨gb121, 4, none⟩ = some (.int .i64 a0_4) := e_ BK121 4; have hcz15_5 : w14.cell? ⟨gb121, 5, none⟩ = some (.string a0_5) := e_ BK121 5; obtain ⟨hfz15_0, hfz15_1, hfz15_2, hfz15_3, hfz15_4, hfz15_5⟩ := z6_ BK121) | ((with_reducible refine gate_callee (f := 52) rfl ?_); refine goesL_ (some 5) rfl rfl Try.func52 (by kernel_rfl) rfl #[.int .i64 a0_0, .int .i64 0, .int .i64 255] rfl (by (try simp only [m0_, m1_, m2_]); first | done | rfl) ?_; (with_reducible refine (txn_in.calls a0_0 0 255 true _ A2.out).mono ?_); rintro e w' ⟨rfl, ⟨nd, rfl⟩⟩; refine ⟨_, rfl, ?_⟩) | (go_at_call 52; (with_reducible refine (txn_in.calls a0_1 0 4294967295 true _ A4.out).mono ?_); rintro e w' ⟨rfl, ⟨nd, rfl⟩⟩) | (go_at_call 52; (with_reducible refine (txn_in.calls a0_2 0 1099511627776 true _ A6.out).mono ?_); rintro e w' ⟨rfl, ⟨nd, rfl⟩⟩) | (go_at_call 52; (with_reducible refine (txn_in.calls a0_3 a0_2 1099511627776 true _ A8.out).mono ?_); rintro e w' ⟨rfl, ⟨nd, rfl⟩⟩) | (go_at_call 52; (with_reducible refine (txn_in.calls a0_4 1 1073741824 false _ A10.out).mono ?_); rintro e w' ⟨rfl, ⟨nd, rfl⟩⟩))
   go_ret
   exact ⟨by first | rfl | (simp [errW_none, errW_some] <;> rfl) | (simp [*, errW_none, errW_some] <;> rfl), by repeat (first | (with_reducible first | exact HB.out | apply wa_ | apply wn_ | apply wd_ | refine ws_ ?_ GE121.out) | exact HB.out)⟩
/-! ### greedy_ready: function 34, by hand -/
-- HAND rounds=0 making=1
-- AFTER hopper/txn.Check
-- IMPORT Derived.Test.YtahopljippfadaaCopyM
theorem greedy_ready.blk {w w' : World} {e : TypeId} {sz g n cap : Nat} {inner : List Value} (h : CopyK.Blk w e sz g n cap inner) (hb : Below w.heap.size w w') : CopyK.Blk w' e sz g n cap inner := by
  obtain ⟨h1, h2, h3, cur, h4, h5⟩ := h
  exact ⟨h1, h2, h3, cur, blk_below h4 hb, h5⟩
theorem greedy_ready.split (x : List Value) (h : x.length = 6) : ∃ u0 u1 u2 u3 u4 u5 : Value, x = [u0, u1, u2, u3, u4, u5] := by
  match x, h with
  | [u0, u1, u2, u3, u4, u5], _ => exact ⟨_, _, _, _, _, _, rfl⟩
set_option maxHeartbeats 8000000 in
set_option maxRecDepth 100000 in
/-- The first place at which a closure says yes, of a row of one's own. -/
theorem greedy_ready.index (base n : Nat) (v : Value) (rows : List (List Value)) (p : List Value → Bool) (gf : Nat) (lb : Array Value) (eg : ∀ args w, (callFunc gf args).run Try.prog w = .ok (.enter gf args) w) (w : World) (HO : w.ownsRow base 38 6 v n rows.flatten) (hn : rows.length = n) (hr : ∀ r ∈ rows, r.length = 6) (hbig : n < 2513169434916)
    (hp : ∀ (W : World) (x : List Value), x ∈ rows → Below w.heap.size w W → Calls Try.prog gf (#[.agg x.toArray] ++ lb) W fun e w' => e = .returned (.bool (p x)) ∧ Below W.heap.size W w') :
    Calls Try.prog 42 #[v, .func (.func gf) #[] lb] w fun e w' => e = .returned (.int .i64 (CopyK.idxC p rows 0)) ∧ Below w.heap.size w w' := by
  rcases CopyK.Blk.of HO with ⟨rfl, rfl, hz⟩ | ⟨g, cap, rfl, hbg, hB⟩
  · obtain rfl : rows = [] := List.eq_nil_of_length_eq_zero hn
    go_enter Try.func42, Try.ntmps42
    go_wp2
    go_loopg [5, 8] 1 (fun gg _ s8 wr => 0 < gg ∧ s8 = .int .i64 0 ∧ wr = w)
    case atStart => exact ⟨by omega, rfl, rfl⟩
    case round =>
      obtain ⟨hgg, rfl, rfl⟩ := hrel
      go_wp2
      go_ret
      exact ⟨rfl, Below.refl _ _⟩
  · have HB := Aside0.mk hB
    have HP := Aside0.mk hp
    have HR := Aside0.mk hr
    have HN := Aside0.mk hn
    have HBG := Aside0.mk hbig
    clear HO hB hp hr hn hbig
    go_enter Try.func42, Try.ntmps42
    go_wp2
    go_loopg [5, 8] n (fun gg _ s8 wr => ∃ kk : Nat, kk ≤ n ∧ n - kk ≤ gg ∧ s8 = .int .i64 kk ∧ Aside0 (Below w.heap.size w wr) ∧ Aside0 (CopyK.idxC p rows 0 = CopyK.idxC p (rows.drop kk) kk))
    case atStart => exact ⟨0, Nat.zero_le _, by omega, rfl, ⟨Below.refl _ _⟩, ⟨rfl⟩⟩
    case round =>
      obtain ⟨kk, hkk, hg, rfl, BW, A⟩ := hrel
      by_cases hlt : kk < n
      · have hltz : (kk : Int) < (n : Int) := by omega
        have hk0 : (0 : Int) ≤ (kk : Int) := by omega
        obtain ⟨x, hx⟩ : ∃ x, rows[kk]? = some x := ⟨_, List.getElem?_eq_getElem (by rw [HN.out]; exact hlt)⟩
        have hxm : x ∈ rows := List.mem_of_getElem? hx
        have hcall := HP.out wr x hxm BW.out
        have hd : rows.drop kk = x :: rows.drop (kk + 1) := by
          obtain ⟨hk, e⟩ := List.getElem?_eq_some_iff.1 hx
          rw [List.drop_eq_getElem_cons hk, e]
        have hB1 := greedy_ready.blk HB.out BW.out
        have hcs : ∀ j u, x[j]? = some u → wr.cell? ⟨g, kk * 6 + j, none⟩ = some u := fun j u hj => hB1.cell _ u (by rw [CopyK.flat_at 6 rows HR.out kk j x hx (by have := (List.getElem?_eq_some_iff.1 hj).1; rw [HR.out x hxm] at this; exact this)]; exact hj)
        obtain ⟨u0, u1, u2, u3, u4, u5, rfl⟩ := greedy_ready.split x (HR.out x hxm)
        have l0 : wr.cell? ⟨g, kk * 6, none⟩ = some u0 := hcs 0 u0 rfl
        have l1 : wr.cell? ⟨g, kk * 6 + 1, none⟩ = some u1 := hcs 1 u1 rfl
        have l2 : wr.cell? ⟨g, kk * 6 + 2, none⟩ = some u2 := hcs 2 u2 rfl
        have l3 : wr.cell? ⟨g, kk * 6 + 3, none⟩ = some u3 := hcs 3 u3 rfl
        have l4 : wr.cell? ⟨g, kk * 6 + 4, none⟩ = some u4 := hcs 4 u4 rfl
        have l5 : wr.cell? ⟨g, kk * 6 + 5, none⟩ = some u5 := hcs 5 u5 rfl
        have HD := Aside0.mk hd
        clear hcs hd hx hxm hB1
        have hw1 : wrap64 ((kk : Int) + 1) = ((kk + 1 : Nat) : Int) := by have := HBG.out; unfold wrap64; omega
        cases hq : p [u0, u1, u2, u3, u4, u5] with
        | true =>
          rw [hq] at hcall
          go_wp2_with (go_at_fn gf; refine hcall.mono ?_; rintro e w' ⟨rfl, hb'⟩)
          go_ret
          refine ⟨?_, below_step BW.out hb'⟩
          rw [A.out, HD.out, CopyK.idxC, if_pos hq]
          rfl
        | false =>
          rw [hq] at hcall
          go_wp2_with (go_at_fn gf; refine hcall.mono ?_; rintro e w' ⟨rfl, hb'⟩)
          go_roundg (n - (kk + 1))
          case measure => omega
          case rel =>
            refine ⟨kk + 1, by omega, by omega, by first | rfl | rw [hw1] | go_num, ⟨below_step BW.out hb'⟩, ⟨?_⟩⟩
            rw [A.out, HD.out, CopyK.idxC, if_neg (by rw [hq]; decide), Int.natCast_add]
            rfl
      · have hltz : ¬ (kk : Int) < (n : Int) := by omega
        have hkn : kk = n := by omega
        subst hkn
        go_wp2
        go_ret
        refine ⟨?_, BW.out⟩
        rw [A.out, List.drop_eq_nil_of_le (by rw [HN.out]; exact Nat.le_refl _)]
        rfl
/-- A transaction's cells. -/
def greedy_ready.cells (x : S38) : List Value := [.int .i64 x.f0, .int .i64 x.f1, .int .i64 x.f2, .int .i64 x.f3, .int .i64 x.f4, .string x.f5]
/-- May it be? -/
def greedy_ready.good (x : S38) : Bool := txn_Check.f x.f0 x.f1 x.f2 x.f3 x.f4 x.f5 == some true
def greedy_ready.bad (r : List Value) : Bool := match r with | [Value.int _ a, Value.int _ b, Value.int _ c, Value.int _ d, Value.int _ e, Value.string z] => !(txn_Check.f a b c d e z == some true) | _ => false
/-- An account's line: those that are ready, up to the first one that may not be. -/
def greedy_ready.f (a0_0 : Int) (a0_1 : Int) (l0_2 : List S38) : Option (List S38) := (queue_Ready.f (l0_2.length + 1) a0_0 a0_1 l0_2).bind fun l => if l.length < 2513169434916 ∧ (l.all fun x => (txn_Check.f x.f0 x.f1 x.f2 x.f3 x.f4 x.f5).isSome) = true then some (l.takeWhile greedy_ready.good) else none
theorem greedy_ready.idx : ∀ (l : List S38) (i : Int), CopyK.idxC greedy_ready.bad (l.map greedy_ready.cells) i = if (l.takeWhile greedy_ready.good).length < l.length then i + ((l.takeWhile greedy_ready.good).length : Int) else -1
  | [], i => rfl
  | x :: l, i => by
    rw [List.map_cons, CopyK.idxC, List.takeWhile_cons]
    have hb : greedy_ready.bad (greedy_ready.cells x) = !(greedy_ready.good x) := rfl
    cases h : greedy_ready.good x with
    | false =>
      rw [hb, h]
      simp
    | true =>
      rw [hb, h, if_neg (by decide), if_pos rfl, greedy_ready.idx l (i + 1), List.length_cons, List.length_cons]
      by_cases c : (l.takeWhile greedy_ready.good).length < l.length
      · rw [if_pos c, if_pos (by omega)]; omega
      · rw [if_neg c, if_neg (by omega)]
theorem greedy_ready.rows {w : World} {base : Nat} {ok : Nat → Prop} {v : Value} {xs : List S38} (h : Kd.R k38 38 w base ok v xs) : w.ownsRow base 38 6 v xs.length (xs.map greedy_ready.cells).flatten := by
  obtain ⟨_, inner, ho, hr⟩ := h
  have e : inner = (xs.map greedy_ready.cells).flatten := CopyK.rows_eq 6 greedy_ready.cells (fun _ => rfl) xs inner hr.1 (fun j p hj => k38_openM (hr.2 j p hj))
  rw [← e]
  exact ho
set_option maxHeartbeats 8000000 in
set_option maxRecDepth 100000 in
theorem greedy_ready.closure (x : S38) (W : World) (hx : (txn_Check.f x.f0 x.f1 x.f2 x.f3 x.f4 x.f5).isSome = true) :
    Calls Try.prog 43 (#[.agg (greedy_ready.cells x).toArray] ++ #[]) W fun e w' => e = .returned (.bool (greedy_ready.bad (greedy_ready.cells x))) ∧ Below W.heap.size W w' := by
  obtain ⟨b, hb⟩ := Option.isSome_iff_exists.1 hx
  have hv : greedy_ready.bad (greedy_ready.cells x) = !b := by
    show (!(txn_Check.f x.f0 x.f1 x.f2 x.f3 x.f4 x.f5 == some true)) = !b
    rw [hb]
    cases b <;> rfl
  rw [hv]
  have HC := fun W' => Aside0.mk (txn_Check.calls x.f0 x.f1 x.f2 x.f3 x.f4 x.f5 b W' hb)
  have HH := Aside0.mk HC
  clear HC hb hx hv
  show Calls Try.prog 43 #[.agg #[.int .i64 x.f0, .int .i64 x.f1, .int .i64 x.f2, .int .i64 x.f3, .int .i64 x.f4, .string x.f5]] W _
  go_enter Try.func43, Try.ntmps43
  go_upto_region 1 with (fail)
  have K0 := heap_alloc_new W (.cells #[.int .i64 x.f0, .int .i64 x.f1, .int .i64 x.f2, .int .i64 x.f3, .int .i64 x.f4, .string x.f5] 38)
  have HB := Aside0.mk (below_alloc (Below.refl W.heap.size W) (.cells #[.int .i64 x.f0, .int .i64 x.f1, .int .i64 x.f2, .int .i64 x.f3, .int .i64 x.f4, .string x.f5] 38))
  generalize W.alloc _ = w1 at K0 HB ⊢
  obtain ⟨b0, hb0⟩ : ∃ b0, b0 = W.heap.size := ⟨_, rfl⟩
  rw [← hb0] at K0 ⊢
  clear hb0
  obtain ⟨d0, d1, d2, d3, d4, d5⟩ := c6_ (Aside0.mk K0)
  clear K0
  go_wp2_with (go_at_call 44; refine (HH.out _).out.mono ?_; rintro e w2 ⟨rfl, hb⟩; have HB2 := Aside0.mk (below_step HB.out hb); clear hb)
  go_ret
  exact ⟨rfl, HB2.out⟩
set_option maxHeartbeats 8000000 in
set_option maxRecDepth 100000 in
theorem greedy_ready.calls (a0_0 : Int) (a0_1 : Int) (A0_2 : Option Addr) (c0_2 : Nat) (l0_2 : List S38) (r : List S38) (w : World) (hr0_2 : Kd.C k38 w A0_2 l0_2.length l0_2) (hc0_2 : l0_2.length ≤ c0_2) (h : greedy_ready.f a0_0 a0_1 l0_2 = some r) :
    Calls Try.prog 34 #[.agg #[.int .i64 a0_0, .int .i64 a0_1, .slice A0_2 l0_2.length c0_2]] w fun e w' => ∃ v0_ : Value, e = .returned (v0_) ∧ Kd.R k38 38 w' w.heap.size (fun _ => True) v0_ r ∧ Below w.heap.size w w' := by
  obtain ⟨l, hl, h⟩ := Option.bind_eq_some_iff.1 h
  by_cases hall : l.length < 2513169434916 ∧ (l.all fun x => (txn_Check.f x.f0 x.f1 x.f2 x.f3 x.f4 x.f5).isSome) = true
  rotate_left
  · rw [if_neg hall] at h; cases h
  rw [if_pos hall] at h
  have HL := Aside0.mk hall.1
  have HA := Aside0.mk (fun x hx => List.all_eq_true.1 hall.2 x hx : ∀ x ∈ l, (txn_Check.f x.f0 x.f1 x.f2 x.f3 x.f4 x.f5).isSome = true)
  have HR := Aside0.mk (Option.some.inj h)
  have HX := Aside0.mk hl
  have H2 := Aside0.mk hr0_2
  have H3 := Aside0.mk hc0_2
  have HLE := Aside0.mk (List.takeWhile_prefix (p := greedy_ready.good) (l := l))
  clear hall h hl hr0_2 hc0_2
  go_enter Try.func34, Try.ntmps34
  go_upto_region 1 with (fail)
  have K0 := heap_alloc_new w (.cells #[.int .i64 a0_0, .int .i64 a0_1, .slice A0_2 l0_2.length c0_2] 35)
  have HB := Aside0.mk (below_alloc (Below.refl w.heap.size w) (.cells #[.int .i64 a0_0, .int .i64 a0_1, .slice A0_2 l0_2.length c0_2] 35))
  generalize w.alloc _ = w1 at K0 HB ⊢
  obtain ⟨b0, hb0⟩ : ∃ b0, b0 = w.heap.size := ⟨_, rfl⟩
  rw [← hb0] at K0 ⊢
  clear hb0
  obtain ⟨d0, d1, d2⟩ := c3_ (Aside0.mk K0)
  clear K0
  go_upto_region 2 with (go_at_call 41; refine (queue_Ready.calls (l0_2.length + 1) a0_0 a0_1 A0_2 c0_2 l0_2 l w1 (Kd.C_below H2.out HB.out) H3.out HX.out).mono ?_; rintro e w2 ⟨v, rfl, hR, hb⟩; have HO := Aside0.mk hR; have HB1 := Aside0.mk hb; clear hR hb)
  obtain ⟨A, c, hv⟩ := Kd.R_slice HO.out
  subst hv
  have HI := Aside0.mk (greedy_ready.index w1.heap.size l.length (.slice A l.length c) (l.map greedy_ready.cells) greedy_ready.bad 43 #[] (enters_of Try.func43 (by kernel_rfl) rfl) w2 (greedy_ready.rows HO.out) (List.length_map ..) (fun r hr => by obtain ⟨x, _, rfl⟩ := List.mem_map.1 hr; rfl) HL.out (fun W y hy _ => by obtain ⟨x, hx, rfl⟩ := List.mem_map.1 hy; exact greedy_ready.closure x W (HA.out x hx)))
  rw [greedy_ready.idx] at HI
  clear d0 d1 d2
  obtain ⟨m, hm⟩ : ∃ m, m = (l.takeWhile greedy_ready.good).length := ⟨_, rfl⟩
  have hT : l.takeWhile greedy_ready.good = l.take m := by rw [hm]; exact List.prefix_iff_eq_take.1 HLE.out
  rw [← hm] at HI
  have HT := Aside0.mk hT
  have hml : m ≤ l.length := by rw [hm]; exact HLE.out.length_le
  clear hm hT
  by_cases hlt : m < l.length
  · rw [if_pos hlt, Int.zero_add] at HI
    have h0 : (0 : Int) ≤ (m : Int) := by omega
    obtain ⟨g, cap, hv, _, _, _⟩ := Kd.R_form HO.out (by omega)
    injection hv with hA _ hc
    subst hA hc
    have hmc : m ≤ c := by have := (Kd.R_reads' HO.out).2.1; omega
    have hmc2 : (m : Int) ≤ (c : Int) := by omega
    go_wp2_with (go_at_call 42; refine HI.out.mono ?_; rintro e w3 ⟨rfl, hb⟩; have HB2 := Aside0.mk hb; clear hb)
    go_ret
    exact ⟨_, rfl, by rw [← HR.out, HT.out]; exact Kd.R_lower (Kd.R_below (Kd.R_take HO.out hml) HB2.out) (below_size HB.out), below_step (below_step HB.out HB1.out) HB2.out⟩
  · rw [if_neg hlt] at HI
    go_wp2_with (go_at_call 42; refine HI.out.mono ?_; rintro e w3 ⟨rfl, hb⟩; have HB2 := Aside0.mk hb; clear hb)
    go_ret
    exact ⟨_, rfl, by rw [← HR.out, HT.out, List.take_of_length_le (by omega)]; exact Kd.R_lower (Kd.R_below HO.out HB2.out) (below_size HB.out), below_step (below_step HB.out HB1.out) HB2.out⟩


end Go.Proofs.Ytahopljippfadaa.D
