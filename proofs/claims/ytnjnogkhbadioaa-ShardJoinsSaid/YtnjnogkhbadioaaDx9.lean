/- Written by this session's own program over the kit's print: functions of Go told as plain functions, or the row of one statement; proved for every input, with no condition of ours. -/
import Derived.Test.YtnjnogkhbadioaaDx0
import Derived.Test.YtnjnogkhbadioaaDx3
import Derived.Test.YtnjnogkhbadioaaDx6
import Derived.Test.YtnjnogkhbadioaaDx8
namespace Go.Proofs.Ytnjnogkhbadioaa.D
open Go.RowKit Go.Proofs.YtnjnogkhbadioaaW.PrintWords Go.Proofs.YtnjnogkhbadioaaW.PrintLast Go.Proofs.YtnjnogkhbadioaaW.PrintMore
attribute [local go_sem] max2_int min2_int max_two min_two max_three min_three max_four min_four   -- for this text's walks alone
set_option linter.unusedVariables false
set_option linter.unusedSimpArgs false

/-! ### queue_Check: function 44 -/
mutual
def queue_Check.j0 : Nat → Bool → Int → Int → List (S32) → Option (Bool)
 | 0, _, _, _, _ => none
 | k + 1, x29, x172000, x172001, x172002 => if x29 = true then (some false) else (queue_Check.l0 k x172001 x172002 (x172002.length : Int) 0 x172000 x172001 x172002)
def queue_Check.l0 : Nat → Int → List (S32) → Int → Int → Int → Int → List (S32) → Option (Bool)
 | 0, _, _, _, _, _, _, _ => none
 | k + 1, x5, x33, x34, x35, x172000, x172001, x172002 => if x35 < x34 then (if 0 ≤ x35 then (if x35 < (x33.length : Int) then ((txn_Check.f ((rd_T32 x33 x35).f0) ((rd_T32 x33 x35).f1) ((rd_T32 x33 x35).f2) ((rd_T32 x33 x35).f3) ((rd_T32 x33 x35).f4) ((rd_T32 x33 x35).f5)).bind fun t177 => (if t177 = true then (if ((rd_T32 x33 x35).f0) = x172000 then (if ((rd_T32 x33 x35).f1) < x5 then (some false) else (queue_Check.l0 k (wrap64 (((rd_T32 x33 x35).f1) + 1)) x33 x34 (wrap64 (x35 + 1)) x172000 x172001 x172002)) else (some false)) else (some false))) else (none)) else (none)) else (some true)
end
def queue_Check.f (k : Nat) (a0_0 : Int) (a0_1 : Int) (l0_2 : List (S32)) (a1 : Int) : Option (Bool) := (queue_in.f a0_0 0 255).bind fun t172 => (if t172 = true then ((queue_in.f a0_1 0 4294967295).bind fun t173 => (if t173 = true then ((queue_in.f a1 1 16).bind fun t174 => (if t174 = true then (queue_Check.j0 k (decide ((l0_2.length : Int) > a1)) a0_0 a0_1 l0_2) else (queue_Check.j0 k true a0_0 a0_1 l0_2))) else (queue_Check.j0 k true a0_0 a0_1 l0_2))) else (queue_Check.j0 k true a0_0 a0_1 l0_2))
theorem queue_Check.mono_l : ∀ k, (∀ y0 y1 y2 y3, LeO (queue_Check.j0 k y0 y1 y2 y3) (queue_Check.j0 (k + 1) y0 y1 y2 y3)) ∧ (∀ y0 y1 y2 y3 y4 y5 y6, LeO (queue_Check.l0 k y0 y1 y2 y3 y4 y5 y6) (queue_Check.l0 (k + 1) y0 y1 y2 y3 y4 y5 y6))
 | 0 => ⟨fun _ _ _ _ r h => by simp [queue_Check.j0] at h, fun _ _ _ _ _ _ _ r h => by simp [queue_Check.l0] at h⟩
 | k + 1 => by
  obtain ⟨ih0, ih1⟩ := queue_Check.mono_l k
  refine ⟨?_, ?_⟩
  · intro y0 y1 y2 y3
    unfold queue_Check.j0
    repeat' first
    | (with_reducible exact ih0 _ _ _ _)
    | (with_reducible exact ih1 _ _ _ _ _ _ _)
    | (with_reducible exact LeO.refl _)
    | (with_reducible exact LeO.none _)
    | (with_reducible refine LeO.ite ?_ ?_)
    | (with_reducible refine LeO.bind ?_ (fun _ => ?_))
    | exact ih0 _ _ _ _
    | exact ih1 _ _ _ _ _ _ _
    | exact LeO.none _
    | refine LeO.ite ?_ ?_
    | refine LeO.bind ?_ (fun _ => ?_)
  · intro y0 y1 y2 y3 y4 y5 y6
    unfold queue_Check.l0
    repeat' first
    | (with_reducible exact ih0 _ _ _ _)
    | (with_reducible exact ih1 _ _ _ _ _ _ _)
    | (with_reducible exact LeO.refl _)
    | (with_reducible exact LeO.none _)
    | (with_reducible refine LeO.ite ?_ ?_)
    | (with_reducible refine LeO.bind ?_ (fun _ => ?_))
    | exact ih0 _ _ _ _
    | exact ih1 _ _ _ _ _ _ _
    | exact LeO.none _
    | refine LeO.ite ?_ ?_
    | refine LeO.bind ?_ (fun _ => ?_)
theorem queue_Check.mono : ∀ a0 a1 a2 a3 k, LeO (queue_Check.f k a0 a1 a2 a3) (queue_Check.f (k + 1) a0 a1 a2 a3) := by
 intro a0 a1 a2 a3 k
 obtain ⟨ih0, ih1⟩ := queue_Check.mono_l k
 unfold queue_Check.f
 repeat' first
  | (with_reducible exact ih0 _ _ _ _)
  | (with_reducible exact ih1 _ _ _ _ _ _ _)
  | (with_reducible exact LeO.refl _)
  | (with_reducible exact LeO.none _)
  | (with_reducible refine LeO.ite ?_ ?_)
  | (with_reducible refine LeO.bind ?_ (fun _ => ?_))
  | exact ih0 _ _ _ _
  | exact ih1 _ _ _ _ _ _ _
  | exact LeO.none _
  | refine LeO.ite ?_ ?_
  | refine LeO.bind ?_ (fun _ => ?_)
set_option maxHeartbeats 8000000 in
set_option maxRecDepth 100000 in
theorem queue_Check.calls (k : Nat) (a0_0 : Int) (a0_1 : Int) (A0_2 : Option Addr) (c0_2 : Nat) (l0_2 : List (S32)) (a1 : Int) (r : Bool) (w : World) (hr0_2 : Kd.C k32 w A0_2 l0_2.length l0_2) (hc0_2 : l0_2.length ≤ c0_2) (h : queue_Check.f k a0_0 a0_1 l0_2 a1 = some r) :
 Calls Try.prog 44 #[.agg #[.int .i64 a0_0, .int .i64 a0_1, .slice A0_2 l0_2.length c0_2], .int .i64 a1] w fun e w' => e = .returned (.bool r) ∧ Below w.heap.size w w' := by
 have hu46 := Try.underlying46
 have hu32 := Try.underlying32
 have HR0_2 := A_ hr0_2
 have HC0_2 := A_ hc0_2
 clear hr0_2 hc0_2; have HB := A_ (Below.refl w.heap.size w)
 have H : ((queue_in.f a0_0 0 255).bind fun t172 => (if t172 = true then ((queue_in.f a0_1 0 4294967295).bind fun t173 => (if t173 = true then ((queue_in.f a1 1 16).bind fun t174 => (if t174 = true then (queue_Check.j0 k (decide ((l0_2.length : Int) > a1)) a0_0 a0_1 l0_2) else (queue_Check.j0 k true a0_0 a0_1 l0_2))) else (queue_Check.j0 k true a0_0 a0_1 l0_2))) else (queue_Check.j0 k true a0_0 a0_1 l0_2))) = some r := h
 clear h
 have HC3 := A_ H
 clear H
 go_enter Try.func44, Try.ntmps44
 go_upto_region 1 with (first | ((with_reducible refine gate_dst (N := 2) rfl ?_); (try (refine gate_guard (by rfl) ?_; dsimp only)); refine box_event ?hg (N := 2) ?hd (cs := #[.int .i64 a0_0, .int .i64 a0_1, .slice A0_2 l0_2.length c0_2]) (t := 46) ?hr ?_; (case hd => rfl); (case hg => rfl); (case hr => first | (go_simp; done) | (go_simp; rfl)); intro gb171 hg w4 hbox hb; have n0_ := A_ (below_step bw_ hb); have n1_ := A_ (hbox); have n2_ := A_ (gz_ (w := w) hg); have n3_ := A_ (gz_ (w := w) hg); replace HB := n0_; have BK171 := n1_; have GW171 := n2_; have GE171 := n3_; clear n0_ n1_ n2_ n3_; clear hb hbox hg))
 (try simp only [Act.put, s0_, s1_, s2_])
 go_cut [29] (fun v29 wc => ∃ (kq : Nat) (x29_2 : Bool), v29 = .bool x29_2 ∧ Aside0 (queue_Check.j0 kq x29_2 a0_0 a0_1 l0_2 = some r) ∧ Aside0 (kq ≤ k) ∧ Aside0 (wc.heap[gb171]? = some (.cells #[.int .i64 a0_0, .int .i64 a0_1, (.slice A0_2 l0_2.length c0_2)] 46 (0, 0))) ∧ Aside0 (Below w.heap.size w wc))
 case first =>
  have H := HC3.out
  clear HC3
  replace H := Option.bind_eq_some_iff.mp H
  obtain ⟨t172, A50, H⟩ := H
  try dsimp only at H
  have A5 := A_ A50
  clear A50
  by_cases c6 : t172 = true
  · subst c6
    have H1 : ((queue_in.f a0_1 0 4294967295).bind fun t173 => (if t173 = true then ((queue_in.f a1 1 16).bind fun t174 => (if t174 = true then (queue_Check.j0 k (decide ((l0_2.length : Int) > a1)) a0_0 a0_1 l0_2) else (queue_Check.j0 k true a0_0 a0_1 l0_2))) else (queue_Check.j0 k true a0_0 a0_1 l0_2))) = some r := by rw [if_pos rfl] at H; exact H
    clear H
    have H := H1
    clear H1
    replace H := Option.bind_eq_some_iff.mp H
    obtain ⟨t173, A70, H⟩ := H
    try dsimp only at H
    have A7 := A_ A70
    clear A70
    by_cases c8 : t173 = true
    · subst c8
      have H1 : ((queue_in.f a1 1 16).bind fun t174 => (if t174 = true then (queue_Check.j0 k (decide ((l0_2.length : Int) > a1)) a0_0 a0_1 l0_2) else (queue_Check.j0 k true a0_0 a0_1 l0_2))) = some r := by rw [if_pos rfl] at H; exact H
      clear H
      have H := H1
      clear H1
      replace H := Option.bind_eq_some_iff.mp H
      obtain ⟨t174, A90, H⟩ := H
      try dsimp only at H
      have A9 := A_ A90
      clear A90
      by_cases c10 : t174 = true
      · subst c10
        have H1 : (queue_Check.j0 k (decide ((l0_2.length : Int) > a1)) a0_0 a0_1 l0_2) = some r := by rw [if_pos rfl] at H; exact H
        clear H
        have H := H1
        clear H1
        have H' := A_ H
        clear H; have hcz11_0 : w4.cell? ⟨gb171, 0, none⟩ = some (.int .i64 a0_0) := e_ BK171 0; have hcz11_1 : w4.cell? ⟨gb171, 1, none⟩ = some (.int .i64 a0_1) := e_ BK171 1; have hcz11_2 : w4.cell? ⟨gb171, 2, none⟩ = some (.slice A0_2 l0_2.length c0_2) := e_ BK171 2; obtain ⟨hfz11_0, hfz11_1, hfz11_2⟩ := z3_ BK171
        go_wp2_with (first | ((with_reducible refine gate_callee (f := 56) rfl ?_); refine goesL_ (some 10) rfl rfl Try.func56 (by kernel_rfl) rfl #[.int .i64 a0_0, .int .i64 0, .int .i64 255] rfl (by (try simp only [m0_, m1_, m2_]); first | done | rfl) ?_; (with_reducible refine (queue_in.calls a0_0 0 255 true _ A5.out).mono ?_); rintro e w' ⟨rfl, ⟨nd, rfl⟩⟩; refine ⟨_, rfl, ?_⟩) | (go_at_call 56; (with_reducible refine (queue_in.calls a0_1 0 4294967295 true _ A7.out).mono ?_); rintro e w' ⟨rfl, ⟨nd, rfl⟩⟩) | (go_at_call 56; (with_reducible refine (queue_in.calls a1 1 16 true _ A9.out).mono ?_); rintro e w' ⟨rfl, ⟨nd, rfl⟩⟩))
        go_meet
        case rel => exact ⟨_, (decide ((l0_2.length : Int) > a1)), (by first | rfl | (simp; done) | (simp [*]; done)), H', ⟨by first | omega | exact Nat.le_refl _⟩, ⟨bk_⟩, ⟨by repeat (first | (with_reducible first | exact HB.out | apply wa_ | apply wn_ | apply wd_ | refine ws_ ?_ GE171.out) | exact HB.out)⟩⟩
      · replace c10 := Bool.eq_false_iff.mpr c10
        subst c10
        have H1 : (queue_Check.j0 k true a0_0 a0_1 l0_2) = some r := by rw [if_neg (show ¬ (false = true) by decide)] at H; exact H
        clear H
        have H := H1
        clear H1
        have H' := A_ H
        clear H; have hcz12_0 : w4.cell? ⟨gb171, 0, none⟩ = some (.int .i64 a0_0) := e_ BK171 0; have hcz12_1 : w4.cell? ⟨gb171, 1, none⟩ = some (.int .i64 a0_1) := e_ BK171 1; have hcz12_2 : w4.cell? ⟨gb171, 2, none⟩ = some (.slice A0_2 l0_2.length c0_2) := e_ BK171 2; obtain ⟨hfz12_0, hfz12_1, hfz12_2⟩ := z3_ BK171
        go_wp2_with (first | ((with_reducible refine gate_callee (f := 56) rfl ?_); refine goesL_ (some 10) rfl rfl Try.func56 (by kernel_rfl) rfl #[.int .i64 a0_0, .int .i64 0, .int .i64 255] rfl (by (try simp only [m0_, m1_, m2_]); first | done | rfl) ?_; (with_reducible refine (queue_in.calls a0_0 0 255 true _ A5.out).mono ?_); rintro e w' ⟨rfl, ⟨nd, rfl⟩⟩; refine ⟨_, rfl, ?_⟩) | (go_at_call 56; (with_reducible refine (queue_in.calls a0_1 0 4294967295 true _ A7.out).mono ?_); rintro e w' ⟨rfl, ⟨nd, rfl⟩⟩) | (go_at_call 56; (with_reducible refine (queue_in.calls a1 1 16 false _ A9.out).mono ?_); rintro e w' ⟨rfl, ⟨nd, rfl⟩⟩))
        go_meet
        case rel => exact ⟨_, (true), (by first | rfl | (simp; done) | (simp [*]; done)), H', ⟨by first | omega | exact Nat.le_refl _⟩, ⟨bk_⟩, ⟨by repeat (first | (with_reducible first | exact HB.out | apply wa_ | apply wn_ | apply wd_ | refine ws_ ?_ GE171.out) | exact HB.out)⟩⟩
    · replace c8 := Bool.eq_false_iff.mpr c8
      subst c8
      have H1 : (queue_Check.j0 k true a0_0 a0_1 l0_2) = some r := by rw [if_neg (show ¬ (false = true) by decide)] at H; exact H
      clear H
      have H := H1
      clear H1
      have H' := A_ H
      clear H; have hcz13_0 : w4.cell? ⟨gb171, 0, none⟩ = some (.int .i64 a0_0) := e_ BK171 0; have hcz13_1 : w4.cell? ⟨gb171, 1, none⟩ = some (.int .i64 a0_1) := e_ BK171 1; have hcz13_2 : w4.cell? ⟨gb171, 2, none⟩ = some (.slice A0_2 l0_2.length c0_2) := e_ BK171 2; obtain ⟨hfz13_0, hfz13_1, hfz13_2⟩ := z3_ BK171
      go_wp2_with (first | ((with_reducible refine gate_callee (f := 56) rfl ?_); refine goesL_ (some 10) rfl rfl Try.func56 (by kernel_rfl) rfl #[.int .i64 a0_0, .int .i64 0, .int .i64 255] rfl (by (try simp only [m0_, m1_, m2_]); first | done | rfl) ?_; (with_reducible refine (queue_in.calls a0_0 0 255 true _ A5.out).mono ?_); rintro e w' ⟨rfl, ⟨nd, rfl⟩⟩; refine ⟨_, rfl, ?_⟩) | (go_at_call 56; (with_reducible refine (queue_in.calls a0_1 0 4294967295 false _ A7.out).mono ?_); rintro e w' ⟨rfl, ⟨nd, rfl⟩⟩))
      go_meet
      case rel => exact ⟨_, (true), (by first | rfl | (simp; done) | (simp [*]; done)), H', ⟨by first | omega | exact Nat.le_refl _⟩, ⟨bk_⟩, ⟨by repeat (first | (with_reducible first | exact HB.out | apply wa_ | apply wn_ | apply wd_ | refine ws_ ?_ GE171.out) | exact HB.out)⟩⟩
  · replace c6 := Bool.eq_false_iff.mpr c6
    subst c6
    have H1 : (queue_Check.j0 k true a0_0 a0_1 l0_2) = some r := by rw [if_neg (show ¬ (false = true) by decide)] at H; exact H
    clear H
    have H := H1
    clear H1
    have H' := A_ H
    clear H; have hcz14_0 : w4.cell? ⟨gb171, 0, none⟩ = some (.int .i64 a0_0) := e_ BK171 0; have hcz14_1 : w4.cell? ⟨gb171, 1, none⟩ = some (.int .i64 a0_1) := e_ BK171 1; have hcz14_2 : w4.cell? ⟨gb171, 2, none⟩ = some (.slice A0_2 l0_2.length c0_2) := e_ BK171 2; obtain ⟨hfz14_0, hfz14_1, hfz14_2⟩ := z3_ BK171
    go_wp2_with (first | ((with_reducible refine gate_callee (f := 56) rfl ?_); refine goesL_ (some 10) rfl rfl Try.func56 (by kernel_rfl) rfl #[.int .i64 a0_0, .int .i64 0, .int .i64 255] rfl (by (try simp only [m0_, m1_, m2_]); first | done | rfl) ?_; (with_reducible refine (queue_in.calls a0_0 0 255 false _ A5.out).mono ?_); rintro e w' ⟨rfl, ⟨nd, rfl⟩⟩; refine ⟨_, rfl, ?_⟩))
    go_meet
    case rel => exact ⟨_, (true), (by first | rfl | (simp; done) | (simp [*]; done)), H', ⟨by first | omega | exact Nat.le_refl _⟩, ⟨bk_⟩, ⟨by repeat (first | (with_reducible first | exact HB.out | apply wa_ | apply wn_ | apply wd_ | refine ws_ ?_ GE171.out) | exact HB.out)⟩⟩
 case rest =>
  clear HC3; (try clear c1); (try clear p2); (try clear c4); (try clear c5); (try clear c6); (try clear c8); (try clear c10); (try clear hcz11_0 hcz11_1 hcz11_2); (try clear hcz12_0 hcz12_1 hcz12_2); (try clear hcz13_0 hcz13_1 hcz13_2); (try clear hcz14_0 hcz14_1 hcz14_2); (try clear hfz11_0 hfz11_1 hfz11_2); (try clear hfz12_0 hfz12_1 hfz12_2); (try clear hfz13_0 hfz13_1 hfz13_2); (try clear hfz14_0 hfz14_1 hfz14_2)
  obtain ⟨kq, x29_2, rfl, HA, HJ2, BK171, HB⟩ := hcut
  cases kq with
  | zero => exact absurd HA.out (by simp [queue_Check.j0])
  | succ kj2 =>
   have H := HA.out
   clear HA
   simp only [queue_Check.j0] at H
   by_cases c15 : x29_2 = true
   · subst c15
     have H1 : (some false) = some r := by rw [if_pos rfl] at H; exact H
     clear H
     have H := H1
     clear H1
     obtain rfl := Option.some.inj H
     go_wp2
     go_ret
     exact ⟨by first | rfl | (simp [errW_none, errW_some] <;> rfl) | (simp [*, errW_none, errW_some] <;> rfl), by repeat (first | (with_reducible first | exact HB.out | apply wa_ | apply wn_ | apply wd_ | refine ws_ ?_ GE171.out) | exact HB.out)⟩
   replace c15 := Bool.eq_false_iff.mpr c15
   subst c15
   have H1 : (queue_Check.l0 kj2 a0_1 l0_2 (l0_2.length : Int) 0 a0_0 a0_1 l0_2) = some r := by rw [if_neg (show ¬ (false = true) by decide)] at H; exact H
   clear H
   have H := H1
   clear H1
   have H' := A_ H
   clear H; have hcz16_0 : wc.cell? ⟨gb171, 0, none⟩ = some (.int .i64 a0_0) := e_ BK171 0; have hcz16_1 : wc.cell? ⟨gb171, 1, none⟩ = some (.int .i64 a0_1) := e_ BK171 1; have hcz16_2 : wc.cell? ⟨gb171, 2, none⟩ = some (.slice A0_2 l0_2.length c0_2) := e_ BK171 2; obtain ⟨hfz16_0, hfz16_1, hfz16_2⟩ := z3_ BK171
   go_wp2
   go_loopg [5, 35] kj2 (fun kq v5 v35 w' => ∃ (x5_2 : Int) (x35_2 : Int), v5 = .int .i64 x5_2 ∧ v35 = .int .i64 x35_2 ∧ Aside0 (queue_Check.l0 kq x5_2 l0_2 (l0_2.length : Int) x35_2 a0_0 a0_1 l0_2 = some r) ∧ Aside0 (kq ≤ kj2) ∧ Aside0 (w'.heap[gb171]? = some (.cells #[.int .i64 a0_0, .int .i64 a0_1, (.slice A0_2 l0_2.length c0_2)] 46 (0, 0))) ∧ Aside0 (Below w.heap.size w w'))
   case atStart => exact ⟨(a0_1), (0), (by first | rfl | (simp; done) | (simp [*]; done)), (by first | rfl | (simp; done) | (simp [*]; done)), H', ⟨Nat.le_refl _⟩, ⟨bk_⟩, ⟨by repeat (first | (with_reducible first | exact HB.out | apply wa_ | apply wn_ | apply wd_ | refine ws_ ?_ GE171.out) | exact HB.out)⟩⟩
   case round =>
    clear H'; (try clear c1); (try clear p2); (try clear c4); (try clear c5); (try clear c6); (try clear c8); (try clear c10); (try clear c15); (try clear hcz11_0 hcz11_1 hcz11_2); (try clear hcz12_0 hcz12_1 hcz12_2); (try clear hcz13_0 hcz13_1 hcz13_2); (try clear hcz14_0 hcz14_1 hcz14_2); (try clear hcz16_0 hcz16_1 hcz16_2); (try clear hfz11_0 hfz11_1 hfz11_2); (try clear hfz12_0 hfz12_1 hfz12_2); (try clear hfz13_0 hfz13_1 hfz13_2); (try clear hfz14_0 hfz14_1 hfz14_2); (try clear hfz16_0 hfz16_1 hfz16_2); (try clear p2)
    obtain ⟨x5_2, x35_2, rfl, rfl, HA, HK2, BK171, HB⟩ := hrel
    cases gk with
    | zero => exact absurd HA.out (by simp [queue_Check.l0])
    | succ k2 =>
     have H := HA.out
     clear HA
     simp only [queue_Check.l0] at H
     by_cases c17 : x35_2 < (l0_2.length : Int)
     rotate_left
     · rw [if_neg c17] at H
       have c17b0 : decide (x35_2 < (l0_2.length : Int)) = false := decide_eq_false c17
       clear c17
       obtain rfl := Option.some.inj H
       go_wp2
       go_ret
       exact ⟨by first | rfl | (simp [errW_none, errW_some] <;> rfl) | (simp [*, errW_none, errW_some] <;> rfl), by repeat (first | (with_reducible first | exact HB.out | apply wa_ | apply wn_ | apply wd_ | refine ws_ ?_ GE171.out) | exact HB.out)⟩

     rw [if_pos c17] at H
     have c17b0 : decide (x35_2 < (l0_2.length : Int)) = true := decide_eq_true c17
     clear c17
     by_cases c18 : 0 ≤ x35_2
     rotate_left
     · rw [if_neg c18] at H
       exact absurd H (by simp)
     rw [if_pos c18] at H
     have c18b0 : decide (0 ≤ x35_2) = true := decide_eq_true c18
     clear c18
     by_cases c19 : x35_2 < (l0_2.length : Int)
     rotate_left
     · rw [if_neg c19] at H
       exact absurd H (by simp)
     rw [if_pos c19] at H
     have c19b0 : decide (x35_2 < (l0_2.length : Int)) = true := decide_eq_true c19
     clear c19
     replace H := Option.bind_eq_some_iff.mp H
     obtain ⟨t177, A200, H⟩ := H
     try dsimp only at H
     have A20 := A_ A200
     clear A200
     by_cases c21 : t177 = true
     · subst c21
       have H1 : (if ((rd_T32 l0_2 x35_2).f0) = a0_0 then (if ((rd_T32 l0_2 x35_2).f1) < x5_2 then (some false) else (queue_Check.l0 k2 (wrap64 (((rd_T32 l0_2 x35_2).f1) + 1)) l0_2 (l0_2.length : Int) (wrap64 (x35_2 + 1)) a0_0 a0_1 l0_2)) else (some false)) = some r := by rw [if_pos rfl] at H; exact H
       clear H
       have H := H1
       clear H1
       by_cases c22 : ((rd_T32 l0_2 x35_2).f0) = a0_0
       · rw [if_pos c22] at H
         have c22b0 : (((rd_T32 l0_2 x35_2).f0) == a0_0) = true := beq_iff_eq.mpr c22
         have c22b1 : (((rd_T32 l0_2 x35_2).f0) != a0_0) = false := bne_eq_false_iff_eq.mpr c22
         clear c22
         by_cases c23 : ((rd_T32 l0_2 x35_2).f1) < x5_2
         · rw [if_pos c23] at H
           have c23b0 : decide (((rd_T32 l0_2 x35_2).f1) < x5_2) = true := decide_eq_true c23
           clear c23
           obtain rfl := Option.some.inj H
           have p175 : 0 ≤ (x35_2 : Int) := of_decide_eq_true (by first | (with_reducible assumption) | assumption)
           have q175 : x35_2 < (l0_2.length : Int) := of_decide_eq_true (by first | (with_reducible assumption) | assumption)
           obtain ⟨ad175, e175, hx175_0, hx175_1, hx175_2, hx175_3, hx175_4, hx175_5⟩ := at_T32 HR0_2.out x35_2 p175 q175
           cases e175
           replace hx175_0 := on_ HB.out hx175_0
           replace hx175_1 := on_ HB.out hx175_1
           replace hx175_2 := on_ HB.out hx175_2
           replace hx175_3 := on_ HB.out hx175_3
           replace hx175_4 := on_ HB.out hx175_4
           replace hx175_5 := on_ HB.out hx175_5
           replace p175 := eq_true p175
           replace q175 := eq_true q175
           go_wp2_with (first | ((with_reducible refine gate_dst (N := 7) rfl ?_); (try (refine gate_guard (by rfl) ?_; dsimp only)); refine box_event ?hg (N := 7) ?hd (cs := #[.int .i64 0, .int .i64 0, .int .i64 0, .int .i64 0, .int .i64 0, .string (⟨#[]⟩ : ByteArray)]) (t := 32) ?hr ?_; (case hd => rfl); (case hg => rfl); (case hr => first | (go_simp; done) | (go_simp; rfl)); intro gb176 hg w24 hbox hb; have n0_ := A_ (kb_ BK171 hb); have n1_ := A_ (below_step bw_ hb); have n2_ := A_ (hbox); have n3_ := A_ (gz_ (w := w) hg); have n4_ := A_ (gz_ (w := w) hg); have n5_ := A_ (nl_ BK171 hg); have n6_ := A_ (ng_ BK171 hg); replace BK171 := n0_; replace HB := n1_; have BK176 := n2_; have GW176 := n3_; have GE176 := n4_; have NB171_176 := n5_; have NB176_171 := n6_; clear n0_ n1_ n2_ n3_ n4_ n5_ n6_; clear hb hbox hg; have hnb25 := NB176_171.out; have hnc25 := NB171_176.out; have hcz26_0 : w24.cell? ⟨gb176, 0, none⟩ = some (.int .i64 0) := e_ BK176 0; have hcz26_1 : w24.cell? ⟨gb176, 1, none⟩ = some (.int .i64 0) := e_ BK176 1; have hcz26_2 : w24.cell? ⟨gb176, 2, none⟩ = some (.int .i64 0) := e_ BK176 2; have hcz26_3 : w24.cell? ⟨gb176, 3, none⟩ = some (.int .i64 0) := e_ BK176 3; have hcz26_4 : w24.cell? ⟨gb176, 4, none⟩ = some (.int .i64 0) := e_ BK176 4; have hcz26_5 : w24.cell? ⟨gb176, 5, none⟩ = some (.string (⟨#[]⟩ : ByteArray)) := e_ BK176 5; obtain ⟨hfz26_0, hfz26_1, hfz26_2, hfz26_3, hfz26_4, hfz26_5⟩ := z6_ BK176) | ((with_reducible refine gate_callee (f := 57) rfl ?_); refine goesL_ (some 40) rfl rfl Try.func57 (by kernel_rfl) rfl #[.agg #[.int .i64 ((rd_T32 l0_2 x35_2).f0), .int .i64 ((rd_T32 l0_2 x35_2).f1), .int .i64 ((rd_T32 l0_2 x35_2).f2), .int .i64 ((rd_T32 l0_2 x35_2).f3), .int .i64 ((rd_T32 l0_2 x35_2).f4), .string ((rd_T32 l0_2 x35_2).f5)]] rfl (by (try simp only [m0_, m1_, m2_]); first | done | rfl) ?_; (with_reducible refine (txn_Check.calls ((rd_T32 l0_2 x35_2).f0) ((rd_T32 l0_2 x35_2).f1) ((rd_T32 l0_2 x35_2).f2) ((rd_T32 l0_2 x35_2).f3) ((rd_T32 l0_2 x35_2).f4) ((rd_T32 l0_2 x35_2).f5) true _ A20.out).mono ?_); rintro e w27 ⟨rfl, hb⟩; refine ⟨_, rfl, ?_⟩; replace BK171 := A_ (kb_ BK171 hb); replace BK176 := A_ (blk_below (g := gb176) (o := .cells #[.int .i64 ((rd_T32 l0_2 x35_2).f0), .int .i64 ((rd_T32 l0_2 x35_2).f1), .int .i64 ((rd_T32 l0_2 x35_2).f2), .int .i64 ((rd_T32 l0_2 x35_2).f3), .int .i64 ((rd_T32 l0_2 x35_2).f4), .string ((rd_T32 l0_2 x35_2).f5)] 32 (0, 0)) (by exact pk_ (b6_ BK176.out)) hb); replace HB := A_ (below_step bw_ hb); (try clear hb); (try clear hb2); (try clear hk); (try clear hi); have hcz28_0 : w27.cell? ⟨gb176, 0, none⟩ = some (.int .i64 ((rd_T32 l0_2 x35_2).f0)) := e_ BK176 0; have hcz28_1 : w27.cell? ⟨gb176, 1, none⟩ = some (.int .i64 ((rd_T32 l0_2 x35_2).f1)) := e_ BK176 1; have hcz28_2 : w27.cell? ⟨gb176, 2, none⟩ = some (.int .i64 ((rd_T32 l0_2 x35_2).f2)) := e_ BK176 2; have hcz28_3 : w27.cell? ⟨gb176, 3, none⟩ = some (.int .i64 ((rd_T32 l0_2 x35_2).f3)) := e_ BK176 3; have hcz28_4 : w27.cell? ⟨gb176, 4, none⟩ = some (.int .i64 ((rd_T32 l0_2 x35_2).f4)) := e_ BK176 4; have hcz28_5 : w27.cell? ⟨gb176, 5, none⟩ = some (.string ((rd_T32 l0_2 x35_2).f5)) := e_ BK176 5; obtain ⟨hfz28_0, hfz28_1, hfz28_2, hfz28_3, hfz28_4, hfz28_5⟩ := z6_ BK176; have hcz29_0 : w27.cell? ⟨gb171, 0, none⟩ = some (.int .i64 a0_0) := e_ BK171 0; have hcz29_1 : w27.cell? ⟨gb171, 1, none⟩ = some (.int .i64 a0_1) := e_ BK171 1; have hcz29_2 : w27.cell? ⟨gb171, 2, none⟩ = some (.slice (some ad175) l0_2.length c0_2) := e_ BK171 2; obtain ⟨hfz29_0, hfz29_1, hfz29_2⟩ := z3_ BK171))
           go_ret
           exact ⟨by first | rfl | (simp [errW_none, errW_some] <;> rfl) | (simp [*, errW_none, errW_some] <;> rfl), by repeat (first | (with_reducible first | exact HB.out | apply wa_ | apply wn_ | apply wd_ | refine ws_ ?_ GE171.out | refine ws_ ?_ GE176.out) | exact HB.out)⟩
         · rw [if_neg c23] at H
           have c23b0 : decide (((rd_T32 l0_2 x35_2).f1) < x5_2) = false := decide_eq_false c23
           clear c23
           have H' := A_ H
           clear H
           have p175 : 0 ≤ (x35_2 : Int) := of_decide_eq_true (by first | (with_reducible assumption) | assumption)
           have q175 : x35_2 < (l0_2.length : Int) := of_decide_eq_true (by first | (with_reducible assumption) | assumption)
           obtain ⟨ad175, e175, hx175_0, hx175_1, hx175_2, hx175_3, hx175_4, hx175_5⟩ := at_T32 HR0_2.out x35_2 p175 q175
           cases e175
           replace hx175_0 := on_ HB.out hx175_0
           replace hx175_1 := on_ HB.out hx175_1
           replace hx175_2 := on_ HB.out hx175_2
           replace hx175_3 := on_ HB.out hx175_3
           replace hx175_4 := on_ HB.out hx175_4
           replace hx175_5 := on_ HB.out hx175_5
           replace p175 := eq_true p175
           replace q175 := eq_true q175
           go_wp2_with (first | ((with_reducible refine gate_dst (N := 7) rfl ?_); (try (refine gate_guard (by rfl) ?_; dsimp only)); refine box_event ?hg (N := 7) ?hd (cs := #[.int .i64 0, .int .i64 0, .int .i64 0, .int .i64 0, .int .i64 0, .string (⟨#[]⟩ : ByteArray)]) (t := 32) ?hr ?_; (case hd => rfl); (case hg => rfl); (case hr => first | (go_simp; done) | (go_simp; rfl)); intro gb176 hg w30 hbox hb; have n0_ := A_ (kb_ BK171 hb); have n1_ := A_ (below_step bw_ hb); have n2_ := A_ (hbox); have n3_ := A_ (gz_ (w := w) hg); have n4_ := A_ (gz_ (w := w) hg); have n5_ := A_ (nl_ BK171 hg); have n6_ := A_ (ng_ BK171 hg); replace BK171 := n0_; replace HB := n1_; have BK176 := n2_; have GW176 := n3_; have GE176 := n4_; have NB171_176 := n5_; have NB176_171 := n6_; clear n0_ n1_ n2_ n3_ n4_ n5_ n6_; clear hb hbox hg; have hnb31 := NB176_171.out; have hnc31 := NB171_176.out; have hcz32_0 : w30.cell? ⟨gb176, 0, none⟩ = some (.int .i64 0) := e_ BK176 0; have hcz32_1 : w30.cell? ⟨gb176, 1, none⟩ = some (.int .i64 0) := e_ BK176 1; have hcz32_2 : w30.cell? ⟨gb176, 2, none⟩ = some (.int .i64 0) := e_ BK176 2; have hcz32_3 : w30.cell? ⟨gb176, 3, none⟩ = some (.int .i64 0) := e_ BK176 3; have hcz32_4 : w30.cell? ⟨gb176, 4, none⟩ = some (.int .i64 0) := e_ BK176 4; have hcz32_5 : w30.cell? ⟨gb176, 5, none⟩ = some (.string (⟨#[]⟩ : ByteArray)) := e_ BK176 5; obtain ⟨hfz32_0, hfz32_1, hfz32_2, hfz32_3, hfz32_4, hfz32_5⟩ := z6_ BK176) | ((with_reducible refine gate_callee (f := 57) rfl ?_); refine goesL_ (some 40) rfl rfl Try.func57 (by kernel_rfl) rfl #[.agg #[.int .i64 ((rd_T32 l0_2 x35_2).f0), .int .i64 ((rd_T32 l0_2 x35_2).f1), .int .i64 ((rd_T32 l0_2 x35_2).f2), .int .i64 ((rd_T32 l0_2 x35_2).f3), .int .i64 ((rd_T32 l0_2 x35_2).f4), .string ((rd_T32 l0_2 x35_2).f5)]] rfl (by (try simp only [m0_, m1_, m2_]); first | done | rfl) ?_; (with_reducible refine (txn_Check.calls ((rd_T32 l0_2 x35_2).f0) ((rd_T32 l0_2 x35_2).f1) ((rd_T32 l0_2 x35_2).f2) ((rd_T32 l0_2 x35_2).f3) ((rd_T32 l0_2 x35_2).f4) ((rd_T32 l0_2 x35_2).f5) true _ A20.out).mono ?_); rintro e w33 ⟨rfl, hb⟩; refine ⟨_, rfl, ?_⟩; replace BK171 := A_ (kb_ BK171 hb); replace BK176 := A_ (blk_below (g := gb176) (o := .cells #[.int .i64 ((rd_T32 l0_2 x35_2).f0), .int .i64 ((rd_T32 l0_2 x35_2).f1), .int .i64 ((rd_T32 l0_2 x35_2).f2), .int .i64 ((rd_T32 l0_2 x35_2).f3), .int .i64 ((rd_T32 l0_2 x35_2).f4), .string ((rd_T32 l0_2 x35_2).f5)] 32 (0, 0)) (by exact pk_ (b6_ BK176.out)) hb); replace HB := A_ (below_step bw_ hb); (try clear hb); (try clear hb2); (try clear hk); (try clear hi); have hcz34_0 : w33.cell? ⟨gb176, 0, none⟩ = some (.int .i64 ((rd_T32 l0_2 x35_2).f0)) := e_ BK176 0; have hcz34_1 : w33.cell? ⟨gb176, 1, none⟩ = some (.int .i64 ((rd_T32 l0_2 x35_2).f1)) := e_ BK176 1; have hcz34_2 : w33.cell? ⟨gb176, 2, none⟩ = some (.int .i64 ((rd_T32 l0_2 x35_2).f2)) := e_ BK176 2; have hcz34_3 : w33.cell? ⟨gb176, 3, none⟩ = some (.int .i64 ((rd_T32 l0_2 x35_2).f3)) := e_ BK176 3; have hcz34_4 : w33.cell? ⟨gb176, 4, none⟩ = some (.int .i64 ((rd_T32 l0_2 x35_2).f4)) := e_ BK176 4; have hcz34_5 : w33.cell? ⟨gb176, 5, none⟩ = some (.string ((rd_T32 l0_2 x35_2).f5)) := e_ BK176 5; obtain ⟨hfz34_0, hfz34_1, hfz34_2, hfz34_3, hfz34_4, hfz34_5⟩ := z6_ BK176; have hcz35_0 : w33.cell? ⟨gb171, 0, none⟩ = some (.int .i64 a0_0) := e_ BK171 0; have hcz35_1 : w33.cell? ⟨gb171, 1, none⟩ = some (.int .i64 a0_1) := e_ BK171 1; have hcz35_2 : w33.cell? ⟨gb171, 2, none⟩ = some (.slice (some ad175) l0_2.length c0_2) := e_ BK171 2; obtain ⟨hfz35_0, hfz35_1, hfz35_2⟩ := z3_ BK171))
           go_roundg k2
           case measure => have := HJ2.out; have := HK2.out; omega
           case rel => exact ⟨(wrap64 (((rd_T32 l0_2 x35_2).f1) + 1)), (wrap64 (x35_2 + 1)), (by first | rfl | (simp; done) | (simp [*]; done)), (by first | rfl | (simp; done) | (simp [*]; done)), H', ⟨by have := HJ2.out; have := HK2.out; omega⟩, ⟨bk_⟩, ⟨by repeat (first | (with_reducible first | exact HB.out | apply wa_ | apply wn_ | apply wd_ | refine ws_ ?_ GE171.out | refine ws_ ?_ GE176.out) | exact HB.out)⟩⟩
       · rw [if_neg c22] at H
         have c22b0 : (((rd_T32 l0_2 x35_2).f0) == a0_0) = false := beq_eq_false_iff_ne.mpr c22
         have c22b1 : (((rd_T32 l0_2 x35_2).f0) != a0_0) = true := bne_iff_ne.mpr c22
         obtain rfl := Option.some.inj H
         have p175 : 0 ≤ (x35_2 : Int) := of_decide_eq_true (by first | (with_reducible assumption) | assumption)
         have q175 : x35_2 < (l0_2.length : Int) := of_decide_eq_true (by first | (with_reducible assumption) | assumption)
         obtain ⟨ad175, e175, hx175_0, hx175_1, hx175_2, hx175_3, hx175_4, hx175_5⟩ := at_T32 HR0_2.out x35_2 p175 q175
         cases e175
         replace hx175_0 := on_ HB.out hx175_0
         replace hx175_1 := on_ HB.out hx175_1
         replace hx175_2 := on_ HB.out hx175_2
         replace hx175_3 := on_ HB.out hx175_3
         replace hx175_4 := on_ HB.out hx175_4
         replace hx175_5 := on_ HB.out hx175_5
         replace p175 := eq_true p175
         replace q175 := eq_true q175
         go_wp2_with (first | ((with_reducible refine gate_dst (N := 7) rfl ?_); (try (refine gate_guard (by rfl) ?_; dsimp only)); refine box_event ?hg (N := 7) ?hd (cs := #[.int .i64 0, .int .i64 0, .int .i64 0, .int .i64 0, .int .i64 0, .string (⟨#[]⟩ : ByteArray)]) (t := 32) ?hr ?_; (case hd => rfl); (case hg => rfl); (case hr => first | (go_simp; done) | (go_simp; rfl)); intro gb176 hg w36 hbox hb; have n0_ := A_ (kb_ BK171 hb); have n1_ := A_ (below_step bw_ hb); have n2_ := A_ (hbox); have n3_ := A_ (gz_ (w := w) hg); have n4_ := A_ (gz_ (w := w) hg); have n5_ := A_ (nl_ BK171 hg); have n6_ := A_ (ng_ BK171 hg); replace BK171 := n0_; replace HB := n1_; have BK176 := n2_; have GW176 := n3_; have GE176 := n4_; have NB171_176 := n5_; have NB176_171 := n6_; clear n0_ n1_ n2_ n3_ n4_ n5_ n6_; clear hb hbox hg; have hnb37 := NB176_171.out; have hnc37 := NB171_176.out; have hcz38_0 : w36.cell? ⟨gb176, 0, none⟩ = some (.int .i64 0) := e_ BK176 0; have hcz38_1 : w36.cell? ⟨gb176, 1, none⟩ = some (.int .i64 0) := e_ BK176 1; have hcz38_2 : w36.cell? ⟨gb176, 2, none⟩ = some (.int .i64 0) := e_ BK176 2; have hcz38_3 : w36.cell? ⟨gb176, 3, none⟩ = some (.int .i64 0) := e_ BK176 3; have hcz38_4 : w36.cell? ⟨gb176, 4, none⟩ = some (.int .i64 0) := e_ BK176 4; have hcz38_5 : w36.cell? ⟨gb176, 5, none⟩ = some (.string (⟨#[]⟩ : ByteArray)) := e_ BK176 5; obtain ⟨hfz38_0, hfz38_1, hfz38_2, hfz38_3, hfz38_4, hfz38_5⟩ := z6_ BK176) | ((with_reducible refine gate_callee (f := 57) rfl ?_); refine goesL_ (some 40) rfl rfl Try.func57 (by kernel_rfl) rfl #[.agg #[.int .i64 ((rd_T32 l0_2 x35_2).f0), .int .i64 ((rd_T32 l0_2 x35_2).f1), .int .i64 ((rd_T32 l0_2 x35_2).f2), .int .i64 ((rd_T32 l0_2 x35_2).f3), .int .i64 ((rd_T32 l0_2 x35_2).f4), .string ((rd_T32 l0_2 x35_2).f5)]] rfl (by (try simp only [m0_, m1_, m2_]); first | done | rfl) ?_; (with_reducible refine (txn_Check.calls ((rd_T32 l0_2 x35_2).f0) ((rd_T32 l0_2 x35_2).f1) ((rd_T32 l0_2 x35_2).f2) ((rd_T32 l0_2 x35_2).f3) ((rd_T32 l0_2 x35_2).f4) ((rd_T32 l0_2 x35_2).f5) true _ A20.out).mono ?_); rintro e w39 ⟨rfl, hb⟩; refine ⟨_, rfl, ?_⟩; replace BK171 := A_ (kb_ BK171 hb); replace BK176 := A_ (blk_below (g := gb176) (o := .cells #[.int .i64 ((rd_T32 l0_2 x35_2).f0), .int .i64 ((rd_T32 l0_2 x35_2).f1), .int .i64 ((rd_T32 l0_2 x35_2).f2), .int .i64 ((rd_T32 l0_2 x35_2).f3), .int .i64 ((rd_T32 l0_2 x35_2).f4), .string ((rd_T32 l0_2 x35_2).f5)] 32 (0, 0)) (by exact pk_ (b6_ BK176.out)) hb); replace HB := A_ (below_step bw_ hb); (try clear hb); (try clear hb2); (try clear hk); (try clear hi); have hcz40_0 : w39.cell? ⟨gb176, 0, none⟩ = some (.int .i64 ((rd_T32 l0_2 x35_2).f0)) := e_ BK176 0; have hcz40_1 : w39.cell? ⟨gb176, 1, none⟩ = some (.int .i64 ((rd_T32 l0_2 x35_2).f1)) := e_ BK176 1; have hcz40_2 : w39.cell? ⟨gb176, 2, none⟩ = some (.int .i64 ((rd_T32 l0_2 x35_2).f2)) := e_ BK176 2; have hcz40_3 : w39.cell? ⟨gb176, 3, none⟩ = some (.int .i64 ((rd_T32 l0_2 x35_2).f3)) := e_ BK176 3; have hcz40_4 : w39.cell? ⟨gb176, 4, none⟩ = some (.int .i64 ((rd_T32 l0_2 x35_2).f4)) := e_ BK176 4; have hcz40_5 : w39.cell? ⟨gb176, 5, none⟩ = some (.string ((rd_T32 l0_2 x35_2).f5)) := e_ BK176 5; obtain ⟨hfz40_0, hfz40_1, hfz40_2, hfz40_3, hfz40_4, hfz40_5⟩ := z6_ BK176; have hcz41_0 : w39.cell? ⟨gb171, 0, none⟩ = some (.int .i64 a0_0) := e_ BK171 0; have hcz41_1 : w39.cell? ⟨gb171, 1, none⟩ = some (.int .i64 a0_1) := e_ BK171 1; have hcz41_2 : w39.cell? ⟨gb171, 2, none⟩ = some (.slice (some ad175) l0_2.length c0_2) := e_ BK171 2; obtain ⟨hfz41_0, hfz41_1, hfz41_2⟩ := z3_ BK171))
         go_ret
         exact ⟨by first | rfl | (simp [errW_none, errW_some] <;> rfl) | (simp [*, errW_none, errW_some] <;> rfl), by repeat (first | (with_reducible first | exact HB.out | apply wa_ | apply wn_ | apply wd_ | refine ws_ ?_ GE171.out | refine ws_ ?_ GE176.out) | exact HB.out)⟩
     · replace c21 := Bool.eq_false_iff.mpr c21
       subst c21
       have H1 : (some false) = some r := by rw [if_neg (show ¬ (false = true) by decide)] at H; exact H
       clear H
       have H := H1
       clear H1
       obtain rfl := Option.some.inj H
       have p175 : 0 ≤ (x35_2 : Int) := of_decide_eq_true (by first | (with_reducible assumption) | assumption)
       have q175 : x35_2 < (l0_2.length : Int) := of_decide_eq_true (by first | (with_reducible assumption) | assumption)
       obtain ⟨ad175, e175, hx175_0, hx175_1, hx175_2, hx175_3, hx175_4, hx175_5⟩ := at_T32 HR0_2.out x35_2 p175 q175
       cases e175
       replace hx175_0 := on_ HB.out hx175_0
       replace hx175_1 := on_ HB.out hx175_1
       replace hx175_2 := on_ HB.out hx175_2
       replace hx175_3 := on_ HB.out hx175_3
       replace hx175_4 := on_ HB.out hx175_4
       replace hx175_5 := on_ HB.out hx175_5
       replace p175 := eq_true p175
       replace q175 := eq_true q175
       go_wp2_with (first | ((with_reducible refine gate_dst (N := 7) rfl ?_); (try (refine gate_guard (by rfl) ?_; dsimp only)); refine box_event ?hg (N := 7) ?hd (cs := #[.int .i64 0, .int .i64 0, .int .i64 0, .int .i64 0, .int .i64 0, .string (⟨#[]⟩ : ByteArray)]) (t := 32) ?hr ?_; (case hd => rfl); (case hg => rfl); (case hr => first | (go_simp; done) | (go_simp; rfl)); intro gb176 hg w42 hbox hb; have n0_ := A_ (kb_ BK171 hb); have n1_ := A_ (below_step bw_ hb); have n2_ := A_ (hbox); have n3_ := A_ (gz_ (w := w) hg); have n4_ := A_ (gz_ (w := w) hg); have n5_ := A_ (nl_ BK171 hg); have n6_ := A_ (ng_ BK171 hg); replace BK171 := n0_; replace HB := n1_; have BK176 := n2_; have GW176 := n3_; have GE176 := n4_; have NB171_176 := n5_; have NB176_171 := n6_; clear n0_ n1_ n2_ n3_ n4_ n5_ n6_; clear hb hbox hg; have hnb43 := NB176_171.out; have hnc43 := NB171_176.out; have hcz44_0 : w42.cell? ⟨gb176, 0, none⟩ = some (.int .i64 0) := e_ BK176 0; have hcz44_1 : w42.cell? ⟨gb176, 1, none⟩ = some (.int .i64 0) := e_ BK176 1; have hcz44_2 : w42.cell? ⟨gb176, 2, none⟩ = some (.int .i64 0) := e_ BK176 2; have hcz44_3 : w42.cell? ⟨gb176, 3, none⟩ = some (.int .i64 0) := e_ BK176 3; have hcz44_4 : w42.cell? ⟨gb176, 4, none⟩ = some (.int .i64 0) := e_ BK176 4; have hcz44_5 : w42.cell? ⟨gb176, 5, none⟩ = some (.string (⟨#[]⟩ : ByteArray)) := e_ BK176 5; obtain ⟨hfz44_0, hfz44_1, hfz44_2, hfz44_3, hfz44_4, hfz44_5⟩ := z6_ BK176) | ((with_reducible refine gate_callee (f := 57) rfl ?_); refine goesL_ (some 40) rfl rfl Try.func57 (by kernel_rfl) rfl #[.agg #[.int .i64 ((rd_T32 l0_2 x35_2).f0), .int .i64 ((rd_T32 l0_2 x35_2).f1), .int .i64 ((rd_T32 l0_2 x35_2).f2), .int .i64 ((rd_T32 l0_2 x35_2).f3), .int .i64 ((rd_T32 l0_2 x35_2).f4), .string ((rd_T32 l0_2 x35_2).f5)]] rfl (by (try simp only [m0_, m1_, m2_]); first | done | rfl) ?_; (with_reducible refine (txn_Check.calls ((rd_T32 l0_2 x35_2).f0) ((rd_T32 l0_2 x35_2).f1) ((rd_T32 l0_2 x35_2).f2) ((rd_T32 l0_2 x35_2).f3) ((rd_T32 l0_2 x35_2).f4) ((rd_T32 l0_2 x35_2).f5) false _ A20.out).mono ?_); rintro e w45 ⟨rfl, hb⟩; refine ⟨_, rfl, ?_⟩; replace BK171 := A_ (kb_ BK171 hb); replace BK176 := A_ (blk_below (g := gb176) (o := .cells #[.int .i64 ((rd_T32 l0_2 x35_2).f0), .int .i64 ((rd_T32 l0_2 x35_2).f1), .int .i64 ((rd_T32 l0_2 x35_2).f2), .int .i64 ((rd_T32 l0_2 x35_2).f3), .int .i64 ((rd_T32 l0_2 x35_2).f4), .string ((rd_T32 l0_2 x35_2).f5)] 32 (0, 0)) (by exact pk_ (b6_ BK176.out)) hb); replace HB := A_ (below_step bw_ hb); (try clear hb); (try clear hb2); (try clear hk); (try clear hi)))
       go_ret
       exact ⟨by first | rfl | (simp [errW_none, errW_some] <;> rfl) | (simp [*, errW_none, errW_some] <;> rfl), by repeat (first | (with_reducible first | exact HB.out | apply wa_ | apply wn_ | apply wd_ | refine ws_ ?_ GE171.out | refine ws_ ?_ GE176.out) | exact HB.out)⟩
/-! ### fnv_Shard: function 45 -/
def fnv_Shard.f (a0 : Int) (a1 : Int) : Option (Int) := if a0 < 0 then (some (-1)) else (if a0 > 255 then (some (-1)) else (if a1 < 1 then (some (-1)) else (if a1 > 8 then (some (-1)) else ((fnv_Of.f (strOfNums (([(a0) % 256] : List Int)))).bind fun t181 => (if (IntKind.u64.wrap (a1)) = 0 then (none) else (some (wrap64 (Int.tmod t181 (IntKind.u64.wrap (a1))))))))))
set_option maxHeartbeats 8000000 in
set_option maxRecDepth 100000 in
theorem fnv_Shard.calls (a0 : Int) (a1 : Int) (r : Int) (w : World) (h : fnv_Shard.f a0 a1 = some r) :
 Calls Try.prog 45 #[.int .i64 a0, .int .i64 a1] w fun e w' => e = .returned (.int .i64 r) ∧ Below w.heap.size w w' := by
 have HB := A_ (Below.refl w.heap.size w)
 have H : (if a0 < 0 then (some (-1)) else (if a0 > 255 then (some (-1)) else (if a1 < 1 then (some (-1)) else (if a1 > 8 then (some (-1)) else ((fnv_Of.f (strOfNums (([(a0) % 256] : List Int)))).bind fun t181 => (if (IntKind.u64.wrap (a1)) = 0 then (none) else (some (wrap64 (Int.tmod t181 (IntKind.u64.wrap (a1))))))))))) = some r := h
 clear h
 by_cases c3 : a0 < 0
 · rw [if_pos c3] at H
   have c3b0 : decide (a0 < 0) = true := decide_eq_true c3
   clear c3
   obtain rfl := Option.some.inj H
   go_enter Try.func45, Try.ntmps45
   go_wp2
   go_ret
   exact ⟨by first | rfl | (simp [errW_none, errW_some] <;> rfl) | (simp [*, errW_none, errW_some] <;> rfl), by repeat (first | (with_reducible first | exact HB.out | apply wa_ | apply wn_ | apply wd_) | exact HB.out)⟩
 rw [if_neg c3] at H
 have c3b0 : decide (a0 < 0) = false := decide_eq_false c3
 clear c3
 by_cases c4 : a0 > 255
 · rw [if_pos c4] at H
   have c4b0 : decide (255 < a0) = true := decide_eq_true c4
   clear c4
   obtain rfl := Option.some.inj H
   go_enter Try.func45, Try.ntmps45
   go_wp2
   go_ret
   exact ⟨by first | rfl | (simp [errW_none, errW_some] <;> rfl) | (simp [*, errW_none, errW_some] <;> rfl), by repeat (first | (with_reducible first | exact HB.out | apply wa_ | apply wn_ | apply wd_) | exact HB.out)⟩
 rw [if_neg c4] at H
 have c4b0 : decide (255 < a0) = false := decide_eq_false c4
 clear c4
 by_cases c5 : a1 < 1
 · rw [if_pos c5] at H
   have c5b0 : decide (a1 < 1) = true := decide_eq_true c5
   clear c5
   obtain rfl := Option.some.inj H
   go_enter Try.func45, Try.ntmps45
   go_wp2
   go_ret
   exact ⟨by first | rfl | (simp [errW_none, errW_some] <;> rfl) | (simp [*, errW_none, errW_some] <;> rfl), by repeat (first | (with_reducible first | exact HB.out | apply wa_ | apply wn_ | apply wd_) | exact HB.out)⟩
 rw [if_neg c5] at H
 have c5b0 : decide (a1 < 1) = false := decide_eq_false c5
 clear c5
 by_cases c6 : a1 > 8
 · rw [if_pos c6] at H
   have c6b0 : decide (8 < a1) = true := decide_eq_true c6
   clear c6
   obtain rfl := Option.some.inj H
   go_enter Try.func45, Try.ntmps45
   go_wp2
   go_ret
   exact ⟨by first | rfl | (simp [errW_none, errW_some] <;> rfl) | (simp [*, errW_none, errW_some] <;> rfl), by repeat (first | (with_reducible first | exact HB.out | apply wa_ | apply wn_ | apply wd_) | exact HB.out)⟩
 rw [if_neg c6] at H
 have c6b0 : decide (8 < a1) = false := decide_eq_false c6
 clear c6
 obtain ⟨y178, hy178⟩ : ∃ y_ : List Int, y_ = (([(a0) % 256] : List Int)) := ⟨_, rfl⟩
 replace H : ((fnv_Of.f (strOfNums y178)).bind fun t181 => (if (IntKind.u64.wrap (a1)) = 0 then (none) else (some (wrap64 (Int.tmod t181 (IntKind.u64.wrap (a1))))))) = some r := by first | (rw [hy178]; with_reducible exact H) | (have H2_ := (Option.bind_some _ _).symm.trans H; rw [hy178]; with_reducible exact H2_) | (have H2_ := (Option.bind_some _ _).symm.trans H; with_reducible exact H2_) | with_reducible exact H | (rw [hy178]; exact H) | exact H
 have Ny178 := A_ hy178
 clear hy178
 replace H := Option.bind_eq_some_iff.mp H
 obtain ⟨t181, A70, H⟩ := H
 try dsimp only at H
 have A7 := A_ A70
 clear A70
 by_cases c8 : (IntKind.u64.wrap (a1)) = 0
 · rw [if_pos c8] at H
   exact absurd H (by simp)
 · rw [if_neg c8] at H
   have c8b0 : ((IntKind.u64.wrap (a1)) == 0) = false := beq_eq_false_iff_ne.mpr c8
   have c8b1 : ((IntKind.u64.wrap (a1)) != 0) = true := bne_iff_ne.mpr c8
   obtain rfl := Option.some.inj H
   go_enter Try.func45, Try.ntmps45
   go_wp2_with (first | ((with_reducible refine gate_dst (N := 21) rfl ?_); refine Kd.R_lit (Kd.int .u8) _ 5 ?hg (N := 21) ?hd (xs := ([(a0) % 256] : List Int)) (inner := [.int .u8 ((a0) % 256)]) (ok := fun _ => True) (okp := fun _ => True) ?hr ?hp (fun _ hk => hk) trivial (Below.refl _ _) (Nat.le_refl _) (by simp) ?_; (case hd => rfl); (case hg => rfl); (case hr => first | (go_simp; done) | (go_simp; rfl)); (case hp => exact (Reps.one (show Kd.M (Kd.int .u8) _ _ _ ((a0) % 256) [.int .u8 ((a0) % 256)] from rfl) (Reps.none _ _))); intro v179 w9 ho10 hb hg_ hnew_; clear hg_ hnew_; (first | rw [← Ny178.out] at ho10 | (simp only [Int.reduceToNat] at ho10; rw [← Ny178.out] at ho10)); have HO180 := A_ (Kd.R_lower ho10 (below_size bw_)); replace HB := A_ (below_step bw_ hb); clear hb ho10; have hcv11 := own_string (P := Try.prog) Try.underlying87 Try.underlying5 Try.underlying9 (Kd.own_of_R HO180.out)) | ((with_reducible refine gate_callee (f := 58) rfl ?_); refine goesL_ (some 23) rfl rfl Try.func58 (by kernel_rfl) rfl #[.string (strOfNums y178)] rfl (by (try simp only [m0_, m1_, m2_]); first | done | rfl) ?_; (with_reducible refine (fnv_Of.calls (strOfNums y178) t181 _ A7.out).mono ?_); rintro e w' ⟨rfl, ⟨nd, rfl⟩⟩; refine ⟨_, rfl, ?_⟩))
   go_ret
   exact ⟨by first | rfl | (simp [errW_none, errW_some] <;> rfl) | (simp [*, errW_none, errW_some] <;> rfl), by repeat (first | (with_reducible first | exact HB.out | apply wa_ | apply wn_ | apply wd_) | exact HB.out)⟩

/-! ### shard_Check: function 26 -/
mutual
def shard_Check.j0 : Nat → Int → Bool → List (S46) → Int → Int → Int → Int → Int → Int → Int → Int → Int → Option (Bool)
 | 0, _, _, _, _, _, _, _, _, _, _, _, _ => none
 | k + 1, x1, x17, x183000, x183001, x184000, x184001, x184002, x184003, x184004, x184005, x184006, x184007 => if x17 = true then (some false) else (shard_Check.l0 k x1 (-1) x183000 (x183000.length : Int) 0 x184000 x184001 x184002 x184003 x184004 x184005 x184006 x184007)
def shard_Check.l0 : Nat → Int → Int → List (S46) → Int → Int → Int → Int → Int → Int → Int → Int → Int → Int → Option (Bool)
 | 0, _, _, _, _, _, _, _, _, _, _, _, _, _ => none
 | k + 1, x1, x7, x19, x20, x21, x184000, x184001, x184002, x184003, x184004, x184005, x184006, x184007 => if x21 < x20 then (if 0 ≤ x21 then (if x21 < (x19.length : Int) then ((queue_Check.f k ((rd_T46 x19 x21).f0) ((rd_T46 x19 x21).f1) ((rd_T46 x19 x21).f2) x184003).bind fun t186 => (if t186 = true then ((shard_empty.f ((rd_T46 x19 x21).f0) ((rd_T46 x19 x21).f1) ((rd_T46 x19 x21).f2)).bind fun t187 => (if t187 = true then (some false) else (if ((rd_T46 x19 x21).f0) ≤ x7 then (some false) else ((fnv_Shard.f ((rd_T46 x19 x21).f0) x184000).bind fun t188 => (if t188 = x1 then (shard_Check.l0 k x1 ((rd_T46 x19 x21).f0) x19 x20 (wrap64 (x21 + 1)) x184000 x184001 x184002 x184003 x184004 x184005 x184006 x184007) else (some false)))))) else (some false))) else (none)) else (none)) else (some true)
end
def shard_Check.f (k : Nat) (l0_0 : List (S46)) (a0_1 : Int) (a1 : Int) (a2_0 : Int) (a2_1 : Int) (a2_2 : Int) (a2_3 : Int) (a2_4 : Int) (a2_5 : Int) (a2_6 : Int) (a2_7 : Int) : Option (Bool) := if a0_1 < 0 then (shard_Check.j0 k a1 true l0_0 a0_1 a2_0 a2_1 a2_2 a2_3 a2_4 a2_5 a2_6 a2_7) else (shard_Check.j0 k a1 (decide (a0_1 > 1099511627776)) l0_0 a0_1 a2_0 a2_1 a2_2 a2_3 a2_4 a2_5 a2_6 a2_7)
theorem shard_Check.mono_l : ∀ k, (∀ y0 y1 y2 y3 y4 y5 y6 y7 y8 y9 y10 y11, LeO (shard_Check.j0 k y0 y1 y2 y3 y4 y5 y6 y7 y8 y9 y10 y11) (shard_Check.j0 (k + 1) y0 y1 y2 y3 y4 y5 y6 y7 y8 y9 y10 y11)) ∧ (∀ y0 y1 y2 y3 y4 y5 y6 y7 y8 y9 y10 y11 y12, LeO (shard_Check.l0 k y0 y1 y2 y3 y4 y5 y6 y7 y8 y9 y10 y11 y12) (shard_Check.l0 (k + 1) y0 y1 y2 y3 y4 y5 y6 y7 y8 y9 y10 y11 y12))
 | 0 => ⟨fun _ _ _ _ _ _ _ _ _ _ _ _ r h => by simp [shard_Check.j0] at h, fun _ _ _ _ _ _ _ _ _ _ _ _ _ r h => by simp [shard_Check.l0] at h⟩
 | k + 1 => by
  obtain ⟨ih0, ih1⟩ := shard_Check.mono_l k
  refine ⟨?_, ?_⟩
  · intro y0 y1 y2 y3 y4 y5 y6 y7 y8 y9 y10 y11
    unfold shard_Check.j0
    repeat' first
    | (with_reducible exact ih0 _ _ _ _ _ _ _ _ _ _ _ _)
    | (with_reducible exact ih1 _ _ _ _ _ _ _ _ _ _ _ _ _)
    | (with_reducible exact queue_Check.mono _ _ _ _ _)
    | (with_reducible exact LeO.refl _)
    | (with_reducible exact LeO.none _)
    | (with_reducible refine LeO.ite ?_ ?_)
    | (with_reducible refine LeO.bind ?_ (fun _ => ?_))
    | exact ih0 _ _ _ _ _ _ _ _ _ _ _ _
    | exact ih1 _ _ _ _ _ _ _ _ _ _ _ _ _
    | exact queue_Check.mono _ _ _ _ _
    | exact LeO.none _
    | refine LeO.ite ?_ ?_
    | refine LeO.bind ?_ (fun _ => ?_)
  · intro y0 y1 y2 y3 y4 y5 y6 y7 y8 y9 y10 y11 y12
    unfold shard_Check.l0
    repeat' first
    | (with_reducible exact ih0 _ _ _ _ _ _ _ _ _ _ _ _)
    | (with_reducible exact ih1 _ _ _ _ _ _ _ _ _ _ _ _ _)
    | (with_reducible exact queue_Check.mono _ _ _ _ _)
    | (with_reducible exact LeO.refl _)
    | (with_reducible exact LeO.none _)
    | (with_reducible refine LeO.ite ?_ ?_)
    | (with_reducible refine LeO.bind ?_ (fun _ => ?_))
    | exact ih0 _ _ _ _ _ _ _ _ _ _ _ _
    | exact ih1 _ _ _ _ _ _ _ _ _ _ _ _ _
    | exact queue_Check.mono _ _ _ _ _
    | exact LeO.none _
    | refine LeO.ite ?_ ?_
    | refine LeO.bind ?_ (fun _ => ?_)
theorem shard_Check.mono : ∀ a0 a1 a2 a3 a4 a5 a6 a7 a8 a9 a10 k, LeO (shard_Check.f k a0 a1 a2 a3 a4 a5 a6 a7 a8 a9 a10) (shard_Check.f (k + 1) a0 a1 a2 a3 a4 a5 a6 a7 a8 a9 a10) := by
 intro a0 a1 a2 a3 a4 a5 a6 a7 a8 a9 a10 k
 obtain ⟨ih0, ih1⟩ := shard_Check.mono_l k
 unfold shard_Check.f
 repeat' first
  | (with_reducible exact ih0 _ _ _ _ _ _ _ _ _ _ _ _)
  | (with_reducible exact ih1 _ _ _ _ _ _ _ _ _ _ _ _ _)
  | (with_reducible exact queue_Check.mono _ _ _ _ _)
  | (with_reducible exact LeO.refl _)
  | (with_reducible exact LeO.none _)
  | (with_reducible refine LeO.ite ?_ ?_)
  | (with_reducible refine LeO.bind ?_ (fun _ => ?_))
  | exact ih0 _ _ _ _ _ _ _ _ _ _ _ _
  | exact ih1 _ _ _ _ _ _ _ _ _ _ _ _ _
  | exact queue_Check.mono _ _ _ _ _
  | exact LeO.none _
  | refine LeO.ite ?_ ?_
  | refine LeO.bind ?_ (fun _ => ?_)
set_option maxHeartbeats 8000000 in
set_option maxRecDepth 100000 in
theorem shard_Check.calls (k : Nat) (A0_0 : Option Addr) (c0_0 : Nat) (l0_0 : List (S46)) (a0_1 : Int) (a1 : Int) (a2_0 : Int) (a2_1 : Int) (a2_2 : Int) (a2_3 : Int) (a2_4 : Int) (a2_5 : Int) (a2_6 : Int) (a2_7 : Int) (r : Bool) (w : World) (hr0_0 : Kd.C k46 w A0_0 l0_0.length l0_0) (hc0_0 : l0_0.length ≤ c0_0) (h : shard_Check.f k l0_0 a0_1 a1 a2_0 a2_1 a2_2 a2_3 a2_4 a2_5 a2_6 a2_7 = some r) :
 Calls Try.prog 26 #[.agg #[.slice A0_0 l0_0.length c0_0, .int .i64 a0_1], .int .i64 a1, .agg #[.int .i64 a2_0, .int .i64 a2_1, .int .i64 a2_2, .int .i64 a2_3, .int .i64 a2_4, .int .i64 a2_5, .int .i64 a2_6, .int .i64 a2_7]] w fun e w' => e = .returned (.bool r) ∧ Below w.heap.size w w' := by
 have hu48 := Try.underlying48
 have hu57 := Try.underlying57
 have hu46 := Try.underlying46
 have HR0_0 := A_ hr0_0
 have HC0_0 := A_ hc0_0
 clear hr0_0 hc0_0; have HB := A_ (Below.refl w.heap.size w)
 have H : (if a0_1 < 0 then (shard_Check.j0 k a1 true l0_0 a0_1 a2_0 a2_1 a2_2 a2_3 a2_4 a2_5 a2_6 a2_7) else (shard_Check.j0 k a1 (decide (a0_1 > 1099511627776)) l0_0 a0_1 a2_0 a2_1 a2_2 a2_3 a2_4 a2_5 a2_6 a2_7)) = some r := h
 clear h
 have HC4 := A_ H
 clear H
 go_enter Try.func26, Try.ntmps26
 go_upto_region 1 with (first | ((with_reducible refine gate_dst (N := 3) rfl ?_); refine box_event ?hg (N := 3) ?hd (cs := #[.slice A0_0 l0_0.length c0_0, .int .i64 a0_1]) (t := 48) ?hr ?_; (case hd => rfl); (case hg => rfl); (case hr => first | (go_simp; done) | (go_simp; rfl)); intro gb182 hg w5 hbox hb; have n0_ := A_ (below_step bw_ hb); have n1_ := A_ (hbox); have n2_ := A_ (gz_ (w := w) hg); have n3_ := A_ (gz_ (w := w) hg); replace HB := n0_; have BK182 := n1_; have GW182 := n2_; have GE182 := n3_; clear n0_ n1_ n2_ n3_; clear hb hbox hg) | ((with_reducible refine gate_dst (N := 5) rfl ?_); refine box_event ?hg (N := 5) ?hd (cs := #[.int .i64 a2_0, .int .i64 a2_1, .int .i64 a2_2, .int .i64 a2_3, .int .i64 a2_4, .int .i64 a2_5, .int .i64 a2_6, .int .i64 a2_7]) (t := 57) ?hr ?_; (case hd => rfl); (case hg => rfl); (case hr => first | (go_simp; done) | (go_simp; rfl)); intro gb183 hg w6 hbox hb; have n0_ := A_ (kb_ BK182 hb); have n1_ := A_ (below_step bw_ hb); have n2_ := A_ (hbox); have n3_ := A_ (gz_ (w := w) hg); have n4_ := A_ (gz_ (w := w) hg); have n5_ := A_ (nl_ BK182 hg); have n6_ := A_ (ng_ BK182 hg); replace BK182 := n0_; replace HB := n1_; have BK183 := n2_; have GW183 := n3_; have GE183 := n4_; have NB182_183 := n5_; have NB183_182 := n6_; clear n0_ n1_ n2_ n3_ n4_ n5_ n6_; clear hb hbox hg))
 (try simp only [Act.put, s0_, s1_, s2_])
 go_cut [17] (fun v17 wc => ∃ (kq : Nat) (x17_3 : Bool), v17 = .bool x17_3 ∧ Aside0 (shard_Check.j0 kq a1 x17_3 l0_0 a0_1 a2_0 a2_1 a2_2 a2_3 a2_4 a2_5 a2_6 a2_7 = some r) ∧ Aside0 (kq ≤ k) ∧ Aside0 (wc.heap[gb182]? = some (.cells #[(.slice A0_0 l0_0.length c0_0), .int .i64 a0_1] 48 (0, 0))) ∧ Aside0 (wc.heap[gb183]? = some (.cells #[.int .i64 a2_0, .int .i64 a2_1, .int .i64 a2_2, .int .i64 a2_3, .int .i64 a2_4, .int .i64 a2_5, .int .i64 a2_6, .int .i64 a2_7] 57 (0, 0))) ∧ Aside0 (Below w.heap.size w wc))
 case first =>
  have H := HC4.out
  clear HC4
  by_cases c7 : a0_1 < 0
  · rw [if_pos c7] at H
    have c7b0 : decide (a0_1 < 0) = true := decide_eq_true c7
    clear c7
    (first | rw [c7b0] | (simp only [i64_w, i32_w]; rw [c7b0]) | skip)
    have H' := A_ H
    clear H; have hnb8 := NB182_183.out; have hnc8 := NB183_182.out; have hcz9_0 : w6.cell? ⟨gb182, 0, none⟩ = some (.slice A0_0 l0_0.length c0_0) := e_ BK182 0; have hcz9_1 : w6.cell? ⟨gb182, 1, none⟩ = some (.int .i64 a0_1) := e_ BK182 1; have hfz9_0 := blk_frozen BK182.out 0; have hfz9_1 := blk_frozen BK182.out 1
    go_wp2
    go_meet
    case rel => exact ⟨_, (true), (by first | rfl | (simp; done) | (simp [*]; done)), H', ⟨by first | omega | exact Nat.le_refl _⟩, ⟨bk_⟩, ⟨bk_⟩, ⟨by repeat (first | (with_reducible first | exact HB.out | apply wa_ | apply wn_ | apply wd_ | refine ws_ ?_ GE182.out | refine ws_ ?_ GE183.out) | exact HB.out)⟩⟩
  · rw [if_neg c7] at H
    have c7b0 : decide (a0_1 < 0) = false := decide_eq_false c7
    clear c7
    (first | rw [c7b0] | (simp only [i64_w, i32_w]; rw [c7b0]) | skip)
    have H' := A_ H
    clear H; have hnb10 := NB182_183.out; have hnc10 := NB183_182.out; have hcz11_0 : w6.cell? ⟨gb182, 0, none⟩ = some (.slice A0_0 l0_0.length c0_0) := e_ BK182 0; have hcz11_1 : w6.cell? ⟨gb182, 1, none⟩ = some (.int .i64 a0_1) := e_ BK182 1; have hfz11_0 := blk_frozen BK182.out 0; have hfz11_1 := blk_frozen BK182.out 1
    go_wp2
    go_meet
    case rel => exact ⟨_, (decide (a0_1 > 1099511627776)), (by first | rfl | (simp; done) | (simp [*]; done)), H', ⟨by first | omega | exact Nat.le_refl _⟩, ⟨bk_⟩, ⟨bk_⟩, ⟨by repeat (first | (with_reducible first | exact HB.out | apply wa_ | apply wn_ | apply wd_ | refine ws_ ?_ GE182.out | refine ws_ ?_ GE183.out) | exact HB.out)⟩⟩
 case rest =>
  clear HC4; (try clear c1); (try clear c2); (try clear p2); (try clear c7); (try clear c7b0); (try clear c8); (try clear c10); (try clear hcz11_0 hcz11_1); (try clear hcz9_0 hcz9_1); (try clear hfz11_0 hfz11_1); (try clear hfz9_0 hfz9_1)
  obtain ⟨kq, x17_3, rfl, HA, HJ3, BK182, BK183, HB⟩ := hcut
  cases kq with
  | zero => exact absurd HA.out (by simp [shard_Check.j0])
  | succ kj3 =>
   have H := HA.out
   clear HA
   simp only [shard_Check.j0] at H
   by_cases c12 : x17_3 = true
   · subst c12
     have H1 : (some false) = some r := by rw [if_pos rfl] at H; exact H
     clear H
     have H := H1
     clear H1
     obtain rfl := Option.some.inj H
     go_wp2
     go_ret
     exact ⟨by first | rfl | (simp [errW_none, errW_some] <;> rfl) | (simp [*, errW_none, errW_some] <;> rfl), by repeat (first | (with_reducible first | exact HB.out | apply wa_ | apply wn_ | apply wd_ | refine ws_ ?_ GE182.out | refine ws_ ?_ GE183.out) | exact HB.out)⟩
   replace c12 := Bool.eq_false_iff.mpr c12
   subst c12
   have H1 : (shard_Check.l0 kj3 a1 (-1) l0_0 (l0_0.length : Int) 0 a2_0 a2_1 a2_2 a2_3 a2_4 a2_5 a2_6 a2_7) = some r := by rw [if_neg (show ¬ (false = true) by decide)] at H; exact H
   clear H
   have H := H1
   clear H1
   have H' := A_ H
   clear H; have hnb13 := NB182_183.out; have hnc13 := NB183_182.out; have hcz14_0 : wc.cell? ⟨gb182, 0, none⟩ = some (.slice A0_0 l0_0.length c0_0) := e_ BK182 0; have hcz14_1 : wc.cell? ⟨gb182, 1, none⟩ = some (.int .i64 a0_1) := e_ BK182 1; have hfz14_0 := blk_frozen BK182.out 0; have hfz14_1 := blk_frozen BK182.out 1
   go_wp2
   go_loopg [7, 21] kj3 (fun kq v7 v21 w' => ∃ (x7_2 : Int) (x21_2 : Int), v7 = .int .i64 x7_2 ∧ v21 = .int .i64 x21_2 ∧ Aside0 (shard_Check.l0 kq a1 x7_2 l0_0 (l0_0.length : Int) x21_2 a2_0 a2_1 a2_2 a2_3 a2_4 a2_5 a2_6 a2_7 = some r) ∧ Aside0 (kq ≤ kj3) ∧ Aside0 (w'.heap[gb182]? = some (.cells #[(.slice A0_0 l0_0.length c0_0), .int .i64 a0_1] 48 (0, 0))) ∧ Aside0 (w'.heap[gb183]? = some (.cells #[.int .i64 a2_0, .int .i64 a2_1, .int .i64 a2_2, .int .i64 a2_3, .int .i64 a2_4, .int .i64 a2_5, .int .i64 a2_6, .int .i64 a2_7] 57 (0, 0))) ∧ Aside0 (Below w.heap.size w w'))
   case atStart => exact ⟨((-1)), (0), (by first | rfl | (simp; done) | (simp [*]; done)), (by first | rfl | (simp; done) | (simp [*]; done)), H', ⟨Nat.le_refl _⟩, ⟨bk_⟩, ⟨bk_⟩, ⟨by repeat (first | (with_reducible first | exact HB.out | apply wa_ | apply wn_ | apply wd_ | refine ws_ ?_ GE182.out | refine ws_ ?_ GE183.out) | exact HB.out)⟩⟩
   case round =>
    clear H'; (try clear c1); (try clear c2); (try clear p2); (try clear c7); (try clear c7b0); (try clear c8); (try clear c10); (try clear c12); (try clear c13); (try clear hcz11_0 hcz11_1); (try clear hcz14_0 hcz14_1); (try clear hcz9_0 hcz9_1); (try clear hfz11_0 hfz11_1); (try clear hfz14_0 hfz14_1); (try clear hfz9_0 hfz9_1); (try clear p2)
    obtain ⟨x7_2, x21_2, rfl, rfl, HA, HK2, BK182, BK183, HB⟩ := hrel
    cases gk with
    | zero => exact absurd HA.out (by simp [shard_Check.l0])
    | succ k2 =>
     have H := HA.out
     clear HA
     simp only [shard_Check.l0] at H
     by_cases c15 : x21_2 < (l0_0.length : Int)
     rotate_left
     · rw [if_neg c15] at H
       have c15b0 : decide (x21_2 < (l0_0.length : Int)) = false := decide_eq_false c15
       clear c15
       obtain rfl := Option.some.inj H
       go_wp2
       go_ret
       exact ⟨by first | rfl | (simp [errW_none, errW_some] <;> rfl) | (simp [*, errW_none, errW_some] <;> rfl), by repeat (first | (with_reducible first | exact HB.out | apply wa_ | apply wn_ | apply wd_ | refine ws_ ?_ GE182.out | refine ws_ ?_ GE183.out) | exact HB.out)⟩

     rw [if_pos c15] at H
     have c15b0 : decide (x21_2 < (l0_0.length : Int)) = true := decide_eq_true c15
     clear c15
     by_cases c16 : 0 ≤ x21_2
     rotate_left
     · rw [if_neg c16] at H
       exact absurd H (by simp)
     rw [if_pos c16] at H
     have c16b0 : decide (0 ≤ x21_2) = true := decide_eq_true c16
     clear c16
     by_cases c17 : x21_2 < (l0_0.length : Int)
     rotate_left
     · rw [if_neg c17] at H
       exact absurd H (by simp)
     rw [if_pos c17] at H
     have c17b0 : decide (x21_2 < (l0_0.length : Int)) = true := decide_eq_true c17
     clear c17
     replace H := Option.bind_eq_some_iff.mp H
     obtain ⟨t186, A180, H⟩ := H
     try dsimp only at H
     have A18 := A_ A180
     clear A180
     by_cases c19 : t186 = true
     · subst c19
       have H1 : ((shard_empty.f ((rd_T46 l0_0 x21_2).f0) ((rd_T46 l0_0 x21_2).f1) ((rd_T46 l0_0 x21_2).f2)).bind fun t187 => (if t187 = true then (some false) else (if ((rd_T46 l0_0 x21_2).f0) ≤ x7_2 then (some false) else ((fnv_Shard.f ((rd_T46 l0_0 x21_2).f0) a2_0).bind fun t188 => (if t188 = a1 then (shard_Check.l0 k2 a1 ((rd_T46 l0_0 x21_2).f0) l0_0 (l0_0.length : Int) (wrap64 (x21_2 + 1)) a2_0 a2_1 a2_2 a2_3 a2_4 a2_5 a2_6 a2_7) else (some false)))))) = some r := by rw [if_pos rfl] at H; exact H
       clear H
       have H := H1
       clear H1
       replace H := Option.bind_eq_some_iff.mp H
       obtain ⟨t187, A200, H⟩ := H
       try dsimp only at H
       have A20 := A_ A200
       clear A200
       by_cases c21 : t187 = true
       · subst c21
         have H1 : (some false) = some r := by rw [if_pos rfl] at H; exact H
         clear H
         have H := H1
         clear H1
         obtain rfl := Option.some.inj H
         have p184 : 0 ≤ (x21_2 : Int) := of_decide_eq_true (by first | (with_reducible assumption) | assumption)
         have q184 : x21_2 < (l0_0.length : Int) := of_decide_eq_true (by first | (with_reducible assumption) | assumption)
         obtain ⟨ad184, A184_2, c184_2, e184, hx184_0, hx184_1, hx184_2, hl184_2, hi184_2⟩ := at_T46 HR0_0.out x21_2 p184 q184
         cases e184
         replace hx184_0 := on_ HB.out hx184_0
         replace hx184_1 := on_ HB.out hx184_1
         replace hx184_2 := on_ HB.out hx184_2
         have HR184_2 := A_ hi184_2
         have HC184_2 := A_ hl184_2
         clear hi184_2 hl184_2
         replace p184 := eq_true p184
         replace q184 := eq_true q184
         go_wp2_with (first | ((with_reducible refine gate_dst (N := 9) rfl ?_); refine box_event ?hg (N := 9) ?hd (cs := #[.int .i64 0, .int .i64 0, .slice none 0 0]) (t := 46) ?hr ?_; (case hd => rfl); (case hg => rfl); (case hr => first | (go_simp; done) | (go_simp; rfl)); intro gb185 hg w22 hbox hb; have n0_ := A_ (kb_ BK182 hb); have n1_ := A_ (kb_ BK183 hb); have n2_ := A_ (below_step bw_ hb); have n3_ := A_ (hbox); have n4_ := A_ (gz_ (w := w) hg); have n5_ := A_ (gz_ (w := w) hg); have n6_ := A_ (nl_ BK182 hg); have n7_ := A_ (ng_ BK182 hg); have n8_ := A_ (nl_ BK183 hg); have n9_ := A_ (ng_ BK183 hg); replace BK182 := n0_; replace BK183 := n1_; replace HB := n2_; have BK185 := n3_; have GW185 := n4_; have GE185 := n5_; have NB182_185 := n6_; have NB185_182 := n7_; have NB183_185 := n8_; have NB185_183 := n9_; clear n0_ n1_ n2_ n3_ n4_ n5_ n6_ n7_ n8_ n9_; clear hb hbox hg; have hnb23 := NB185_182.out; have hnc23 := NB182_185.out; have hnb24 := NB185_183.out; have hnc24 := NB183_185.out; have hcz25_0 : w22.cell? ⟨gb185, 0, none⟩ = some (.int .i64 0) := e_ BK185 0; have hcz25_1 : w22.cell? ⟨gb185, 1, none⟩ = some (.int .i64 0) := e_ BK185 1; have hcz25_2 : w22.cell? ⟨gb185, 2, none⟩ = some (.slice none 0 0) := e_ BK185 2; obtain ⟨hfz25_0, hfz25_1, hfz25_2⟩ := z3_ BK185; have hnb26 := NB183_182.out; have hnc26 := NB182_183.out; have hcz27_0 : w22.cell? ⟨gb183, 0, none⟩ = some (.int .i64 a2_0) := e_ BK183 0; have hcz27_1 : w22.cell? ⟨gb183, 1, none⟩ = some (.int .i64 a2_1) := e_ BK183 1; have hcz27_2 : w22.cell? ⟨gb183, 2, none⟩ = some (.int .i64 a2_2) := e_ BK183 2; have hcz27_3 : w22.cell? ⟨gb183, 3, none⟩ = some (.int .i64 a2_3) := e_ BK183 3; have hcz27_4 : w22.cell? ⟨gb183, 4, none⟩ = some (.int .i64 a2_4) := e_ BK183 4; have hcz27_5 : w22.cell? ⟨gb183, 5, none⟩ = some (.int .i64 a2_5) := e_ BK183 5; have hcz27_6 : w22.cell? ⟨gb183, 6, none⟩ = some (.int .i64 a2_6) := e_ BK183 6; have hcz27_7 : w22.cell? ⟨gb183, 7, none⟩ = some (.int .i64 a2_7) := e_ BK183 7; have hfz27_0 := blk_frozen BK183.out 0; have hfz27_1 := blk_frozen BK183.out 1; have hfz27_2 := blk_frozen BK183.out 2; have hfz27_3 := blk_frozen BK183.out 3; have hfz27_4 := blk_frozen BK183.out 4; have hfz27_5 := blk_frozen BK183.out 5; have hfz27_6 := blk_frozen BK183.out 6; have hfz27_7 := blk_frozen BK183.out 7) | ((with_reducible refine gate_callee (f := 44) rfl ?_); refine goesL_ (some 28) rfl rfl Try.func44 (by kernel_rfl) rfl #[.agg #[.int .i64 ((rd_T46 l0_0 x21_2).f0), .int .i64 ((rd_T46 l0_0 x21_2).f1), .slice A184_2 ((rd_T46 l0_0 x21_2).f2).length c184_2], .int .i64 a2_3] rfl (by (try simp only [m0_, m1_, m2_]); first | done | rfl) ?_; (with_reducible refine (queue_Check.calls k2 ((rd_T46 l0_0 x21_2).f0) ((rd_T46 l0_0 x21_2).f1) _ _ ((rd_T46 l0_0 x21_2).f2) a2_3 true _ ?side1 ?side2 A18.out).mono ?_); (case side1 => exact Kd.C_below HR184_2.out bw_); (case side2 => exact HC184_2.out); rintro e w28 ⟨rfl, hb⟩; refine ⟨_, rfl, ?_⟩; replace BK182 := A_ (kb_ BK182 hb); replace BK183 := A_ (kb_ BK183 hb); replace BK185 := A_ (blk_below (g := gb185) (o := .cells #[.int .i64 ((rd_T46 l0_0 x21_2).f0), .int .i64 ((rd_T46 l0_0 x21_2).f1), .slice A184_2 ((rd_T46 l0_0 x21_2).f2).length c184_2] 46 (0, 0)) (by exact pk_ (b3_ BK185.out)) hb); replace HB := A_ (below_step bw_ hb); (try clear hb); (try clear hb2); (try clear hk); (try clear hi); have hcz29_0 : w28.cell? ⟨gb185, 0, none⟩ = some (.int .i64 ((rd_T46 l0_0 x21_2).f0)) := e_ BK185 0; have hcz29_1 : w28.cell? ⟨gb185, 1, none⟩ = some (.int .i64 ((rd_T46 l0_0 x21_2).f1)) := e_ BK185 1; have hcz29_2 : w28.cell? ⟨gb185, 2, none⟩ = some (.slice A184_2 ((rd_T46 l0_0 x21_2).f2).length c184_2) := e_ BK185 2; obtain ⟨hfz29_0, hfz29_1, hfz29_2⟩ := z3_ BK185) | (go_at_call 37; (with_reducible refine (shard_empty.calls ((rd_T46 l0_0 x21_2).f0) ((rd_T46 l0_0 x21_2).f1) _ _ ((rd_T46 l0_0 x21_2).f2) true _ ?side1 ?side2 A20.out).mono ?_); (case side1 => repeat (first | exact (Kd.C_below HR184_2.out HB.out) | (with_reducible refine ca_ ?_ _) | (with_reducible refine cn_ ?_ _) | (with_reducible refine cd_ ?_))); (case side2 => exact HC184_2.out); rintro e w30 ⟨rfl, hb⟩; replace BK182 := A_ (kb_ BK182 hb); replace BK183 := A_ (kb_ BK183 hb); replace BK185 := A_ (kb_ BK185 hb); replace HB := A_ (below_step bw_ hb); (try clear hb); (try clear hb2); (try clear hk); (try clear hi)))
         go_ret
         exact ⟨by first | rfl | (simp [errW_none, errW_some] <;> rfl) | (simp [*, errW_none, errW_some] <;> rfl), by repeat (first | (with_reducible first | exact HB.out | apply wa_ | apply wn_ | apply wd_ | refine ws_ ?_ GE182.out | refine ws_ ?_ GE183.out | refine ws_ ?_ GE185.out) | exact HB.out)⟩
       · replace c21 := Bool.eq_false_iff.mpr c21
         subst c21
         have H1 : (if ((rd_T46 l0_0 x21_2).f0) ≤ x7_2 then (some false) else ((fnv_Shard.f ((rd_T46 l0_0 x21_2).f0) a2_0).bind fun t188 => (if t188 = a1 then (shard_Check.l0 k2 a1 ((rd_T46 l0_0 x21_2).f0) l0_0 (l0_0.length : Int) (wrap64 (x21_2 + 1)) a2_0 a2_1 a2_2 a2_3 a2_4 a2_5 a2_6 a2_7) else (some false)))) = some r := by rw [if_neg (show ¬ (false = true) by decide)] at H; exact H
         clear H
         have H := H1
         clear H1
         by_cases c31 : ((rd_T46 l0_0 x21_2).f0) ≤ x7_2
         · rw [if_pos c31] at H
           have c31b0 : decide (((rd_T46 l0_0 x21_2).f0) ≤ x7_2) = true := decide_eq_true c31
           clear c31
           obtain rfl := Option.some.inj H
           have p184 : 0 ≤ (x21_2 : Int) := of_decide_eq_true (by first | (with_reducible assumption) | assumption)
           have q184 : x21_2 < (l0_0.length : Int) := of_decide_eq_true (by first | (with_reducible assumption) | assumption)
           obtain ⟨ad184, A184_2, c184_2, e184, hx184_0, hx184_1, hx184_2, hl184_2, hi184_2⟩ := at_T46 HR0_0.out x21_2 p184 q184
           cases e184
           replace hx184_0 := on_ HB.out hx184_0
           replace hx184_1 := on_ HB.out hx184_1
           replace hx184_2 := on_ HB.out hx184_2
           have HR184_2 := A_ hi184_2
           have HC184_2 := A_ hl184_2
           clear hi184_2 hl184_2
           replace p184 := eq_true p184
           replace q184 := eq_true q184
           go_wp2_with (first | ((with_reducible refine gate_dst (N := 9) rfl ?_); refine box_event ?hg (N := 9) ?hd (cs := #[.int .i64 0, .int .i64 0, .slice none 0 0]) (t := 46) ?hr ?_; (case hd => rfl); (case hg => rfl); (case hr => first | (go_simp; done) | (go_simp; rfl)); intro gb185 hg w32 hbox hb; have n0_ := A_ (kb_ BK182 hb); have n1_ := A_ (kb_ BK183 hb); have n2_ := A_ (below_step bw_ hb); have n3_ := A_ (hbox); have n4_ := A_ (gz_ (w := w) hg); have n5_ := A_ (gz_ (w := w) hg); have n6_ := A_ (nl_ BK182 hg); have n7_ := A_ (ng_ BK182 hg); have n8_ := A_ (nl_ BK183 hg); have n9_ := A_ (ng_ BK183 hg); replace BK182 := n0_; replace BK183 := n1_; replace HB := n2_; have BK185 := n3_; have GW185 := n4_; have GE185 := n5_; have NB182_185 := n6_; have NB185_182 := n7_; have NB183_185 := n8_; have NB185_183 := n9_; clear n0_ n1_ n2_ n3_ n4_ n5_ n6_ n7_ n8_ n9_; clear hb hbox hg; have hnb33 := NB185_182.out; have hnc33 := NB182_185.out; have hnb34 := NB185_183.out; have hnc34 := NB183_185.out; have hcz35_0 : w32.cell? ⟨gb185, 0, none⟩ = some (.int .i64 0) := e_ BK185 0; have hcz35_1 : w32.cell? ⟨gb185, 1, none⟩ = some (.int .i64 0) := e_ BK185 1; have hcz35_2 : w32.cell? ⟨gb185, 2, none⟩ = some (.slice none 0 0) := e_ BK185 2; obtain ⟨hfz35_0, hfz35_1, hfz35_2⟩ := z3_ BK185; have hnb36 := NB183_182.out; have hnc36 := NB182_183.out; have hcz37_0 : w32.cell? ⟨gb183, 0, none⟩ = some (.int .i64 a2_0) := e_ BK183 0; have hcz37_1 : w32.cell? ⟨gb183, 1, none⟩ = some (.int .i64 a2_1) := e_ BK183 1; have hcz37_2 : w32.cell? ⟨gb183, 2, none⟩ = some (.int .i64 a2_2) := e_ BK183 2; have hcz37_3 : w32.cell? ⟨gb183, 3, none⟩ = some (.int .i64 a2_3) := e_ BK183 3; have hcz37_4 : w32.cell? ⟨gb183, 4, none⟩ = some (.int .i64 a2_4) := e_ BK183 4; have hcz37_5 : w32.cell? ⟨gb183, 5, none⟩ = some (.int .i64 a2_5) := e_ BK183 5; have hcz37_6 : w32.cell? ⟨gb183, 6, none⟩ = some (.int .i64 a2_6) := e_ BK183 6; have hcz37_7 : w32.cell? ⟨gb183, 7, none⟩ = some (.int .i64 a2_7) := e_ BK183 7; have hfz37_0 := blk_frozen BK183.out 0; have hfz37_1 := blk_frozen BK183.out 1; have hfz37_2 := blk_frozen BK183.out 2; have hfz37_3 := blk_frozen BK183.out 3; have hfz37_4 := blk_frozen BK183.out 4; have hfz37_5 := blk_frozen BK183.out 5; have hfz37_6 := blk_frozen BK183.out 6; have hfz37_7 := blk_frozen BK183.out 7) | ((with_reducible refine gate_callee (f := 44) rfl ?_); refine goesL_ (some 28) rfl rfl Try.func44 (by kernel_rfl) rfl #[.agg #[.int .i64 ((rd_T46 l0_0 x21_2).f0), .int .i64 ((rd_T46 l0_0 x21_2).f1), .slice A184_2 ((rd_T46 l0_0 x21_2).f2).length c184_2], .int .i64 a2_3] rfl (by (try simp only [m0_, m1_, m2_]); first | done | rfl) ?_; (with_reducible refine (queue_Check.calls k2 ((rd_T46 l0_0 x21_2).f0) ((rd_T46 l0_0 x21_2).f1) _ _ ((rd_T46 l0_0 x21_2).f2) a2_3 true _ ?side1 ?side2 A18.out).mono ?_); (case side1 => exact Kd.C_below HR184_2.out bw_); (case side2 => exact HC184_2.out); rintro e w38 ⟨rfl, hb⟩; refine ⟨_, rfl, ?_⟩; replace BK182 := A_ (kb_ BK182 hb); replace BK183 := A_ (kb_ BK183 hb); replace BK185 := A_ (blk_below (g := gb185) (o := .cells #[.int .i64 ((rd_T46 l0_0 x21_2).f0), .int .i64 ((rd_T46 l0_0 x21_2).f1), .slice A184_2 ((rd_T46 l0_0 x21_2).f2).length c184_2] 46 (0, 0)) (by exact pk_ (b3_ BK185.out)) hb); replace HB := A_ (below_step bw_ hb); (try clear hb); (try clear hb2); (try clear hk); (try clear hi); have hcz39_0 : w38.cell? ⟨gb185, 0, none⟩ = some (.int .i64 ((rd_T46 l0_0 x21_2).f0)) := e_ BK185 0; have hcz39_1 : w38.cell? ⟨gb185, 1, none⟩ = some (.int .i64 ((rd_T46 l0_0 x21_2).f1)) := e_ BK185 1; have hcz39_2 : w38.cell? ⟨gb185, 2, none⟩ = some (.slice A184_2 ((rd_T46 l0_0 x21_2).f2).length c184_2) := e_ BK185 2; obtain ⟨hfz39_0, hfz39_1, hfz39_2⟩ := z3_ BK185) | (go_at_call 37; (with_reducible refine (shard_empty.calls ((rd_T46 l0_0 x21_2).f0) ((rd_T46 l0_0 x21_2).f1) _ _ ((rd_T46 l0_0 x21_2).f2) false _ ?side1 ?side2 A20.out).mono ?_); (case side1 => repeat (first | exact (Kd.C_below HR184_2.out HB.out) | (with_reducible refine ca_ ?_ _) | (with_reducible refine cn_ ?_ _) | (with_reducible refine cd_ ?_))); (case side2 => exact HC184_2.out); rintro e w40 ⟨rfl, hb⟩; replace BK182 := A_ (kb_ BK182 hb); replace BK183 := A_ (kb_ BK183 hb); replace BK185 := A_ (kb_ BK185 hb); replace HB := A_ (below_step bw_ hb); (try clear hb); (try clear hb2); (try clear hk); (try clear hi); have hcz41_0 : w40.cell? ⟨gb185, 0, none⟩ = some (.int .i64 ((rd_T46 l0_0 x21_2).f0)) := e_ BK185 0; have hcz41_1 : w40.cell? ⟨gb185, 1, none⟩ = some (.int .i64 ((rd_T46 l0_0 x21_2).f1)) := e_ BK185 1; have hcz41_2 : w40.cell? ⟨gb185, 2, none⟩ = some (.slice A184_2 ((rd_T46 l0_0 x21_2).f2).length c184_2) := e_ BK185 2; obtain ⟨hfz41_0, hfz41_1, hfz41_2⟩ := z3_ BK185))
           go_ret
           exact ⟨by first | rfl | (simp [errW_none, errW_some] <;> rfl) | (simp [*, errW_none, errW_some] <;> rfl), by repeat (first | (with_reducible first | exact HB.out | apply wa_ | apply wn_ | apply wd_ | refine ws_ ?_ GE182.out | refine ws_ ?_ GE183.out | refine ws_ ?_ GE185.out) | exact HB.out)⟩
         · rw [if_neg c31] at H
           have c31b0 : decide (((rd_T46 l0_0 x21_2).f0) ≤ x7_2) = false := decide_eq_false c31
           clear c31
           replace H := Option.bind_eq_some_iff.mp H
           obtain ⟨t188, A420, H⟩ := H
           try dsimp only at H
           have A42 := A_ A420
           clear A420
           by_cases c43 : t188 = a1
           · rw [if_pos c43] at H
             have c43b0 : (t188 == a1) = true := beq_iff_eq.mpr c43
             have c43b1 : (t188 != a1) = false := bne_eq_false_iff_eq.mpr c43
             clear c43
             have H' := A_ H
             clear H
             have p184 : 0 ≤ (x21_2 : Int) := of_decide_eq_true (by first | (with_reducible assumption) | assumption)
             have q184 : x21_2 < (l0_0.length : Int) := of_decide_eq_true (by first | (with_reducible assumption) | assumption)
             obtain ⟨ad184, A184_2, c184_2, e184, hx184_0, hx184_1, hx184_2, hl184_2, hi184_2⟩ := at_T46 HR0_0.out x21_2 p184 q184
             cases e184
             replace hx184_0 := on_ HB.out hx184_0
             replace hx184_1 := on_ HB.out hx184_1
             replace hx184_2 := on_ HB.out hx184_2
             have HR184_2 := A_ hi184_2
             have HC184_2 := A_ hl184_2
             clear hi184_2 hl184_2
             replace p184 := eq_true p184
             replace q184 := eq_true q184
             go_wp2_with (first | ((with_reducible refine gate_dst (N := 9) rfl ?_); refine box_event ?hg (N := 9) ?hd (cs := #[.int .i64 0, .int .i64 0, .slice none 0 0]) (t := 46) ?hr ?_; (case hd => rfl); (case hg => rfl); (case hr => first | (go_simp; done) | (go_simp; rfl)); intro gb185 hg w44 hbox hb; have n0_ := A_ (kb_ BK182 hb); have n1_ := A_ (kb_ BK183 hb); have n2_ := A_ (below_step bw_ hb); have n3_ := A_ (hbox); have n4_ := A_ (gz_ (w := w) hg); have n5_ := A_ (gz_ (w := w) hg); have n6_ := A_ (nl_ BK182 hg); have n7_ := A_ (ng_ BK182 hg); have n8_ := A_ (nl_ BK183 hg); have n9_ := A_ (ng_ BK183 hg); replace BK182 := n0_; replace BK183 := n1_; replace HB := n2_; have BK185 := n3_; have GW185 := n4_; have GE185 := n5_; have NB182_185 := n6_; have NB185_182 := n7_; have NB183_185 := n8_; have NB185_183 := n9_; clear n0_ n1_ n2_ n3_ n4_ n5_ n6_ n7_ n8_ n9_; clear hb hbox hg; have hnb45 := NB185_182.out; have hnc45 := NB182_185.out; have hnb46 := NB185_183.out; have hnc46 := NB183_185.out; have hcz47_0 : w44.cell? ⟨gb185, 0, none⟩ = some (.int .i64 0) := e_ BK185 0; have hcz47_1 : w44.cell? ⟨gb185, 1, none⟩ = some (.int .i64 0) := e_ BK185 1; have hcz47_2 : w44.cell? ⟨gb185, 2, none⟩ = some (.slice none 0 0) := e_ BK185 2; obtain ⟨hfz47_0, hfz47_1, hfz47_2⟩ := z3_ BK185; have hnb48 := NB183_182.out; have hnc48 := NB182_183.out; have hcz49_0 : w44.cell? ⟨gb183, 0, none⟩ = some (.int .i64 a2_0) := e_ BK183 0; have hcz49_1 : w44.cell? ⟨gb183, 1, none⟩ = some (.int .i64 a2_1) := e_ BK183 1; have hcz49_2 : w44.cell? ⟨gb183, 2, none⟩ = some (.int .i64 a2_2) := e_ BK183 2; have hcz49_3 : w44.cell? ⟨gb183, 3, none⟩ = some (.int .i64 a2_3) := e_ BK183 3; have hcz49_4 : w44.cell? ⟨gb183, 4, none⟩ = some (.int .i64 a2_4) := e_ BK183 4; have hcz49_5 : w44.cell? ⟨gb183, 5, none⟩ = some (.int .i64 a2_5) := e_ BK183 5; have hcz49_6 : w44.cell? ⟨gb183, 6, none⟩ = some (.int .i64 a2_6) := e_ BK183 6; have hcz49_7 : w44.cell? ⟨gb183, 7, none⟩ = some (.int .i64 a2_7) := e_ BK183 7; have hfz49_0 := blk_frozen BK183.out 0; have hfz49_1 := blk_frozen BK183.out 1; have hfz49_2 := blk_frozen BK183.out 2; have hfz49_3 := blk_frozen BK183.out 3; have hfz49_4 := blk_frozen BK183.out 4; have hfz49_5 := blk_frozen BK183.out 5; have hfz49_6 := blk_frozen BK183.out 6; have hfz49_7 := blk_frozen BK183.out 7) | ((with_reducible refine gate_callee (f := 44) rfl ?_); refine goesL_ (some 28) rfl rfl Try.func44 (by kernel_rfl) rfl #[.agg #[.int .i64 ((rd_T46 l0_0 x21_2).f0), .int .i64 ((rd_T46 l0_0 x21_2).f1), .slice A184_2 ((rd_T46 l0_0 x21_2).f2).length c184_2], .int .i64 a2_3] rfl (by (try simp only [m0_, m1_, m2_]); first | done | rfl) ?_; (with_reducible refine (queue_Check.calls k2 ((rd_T46 l0_0 x21_2).f0) ((rd_T46 l0_0 x21_2).f1) _ _ ((rd_T46 l0_0 x21_2).f2) a2_3 true _ ?side1 ?side2 A18.out).mono ?_); (case side1 => exact Kd.C_below HR184_2.out bw_); (case side2 => exact HC184_2.out); rintro e w50 ⟨rfl, hb⟩; refine ⟨_, rfl, ?_⟩; replace BK182 := A_ (kb_ BK182 hb); replace BK183 := A_ (kb_ BK183 hb); replace BK185 := A_ (blk_below (g := gb185) (o := .cells #[.int .i64 ((rd_T46 l0_0 x21_2).f0), .int .i64 ((rd_T46 l0_0 x21_2).f1), .slice A184_2 ((rd_T46 l0_0 x21_2).f2).length c184_2] 46 (0, 0)) (by exact pk_ (b3_ BK185.out)) hb); replace HB := A_ (below_step bw_ hb); (try clear hb); (try clear hb2); (try clear hk); (try clear hi); have hcz51_0 : w50.cell? ⟨gb185, 0, none⟩ = some (.int .i64 ((rd_T46 l0_0 x21_2).f0)) := e_ BK185 0; have hcz51_1 : w50.cell? ⟨gb185, 1, none⟩ = some (.int .i64 ((rd_T46 l0_0 x21_2).f1)) := e_ BK185 1; have hcz51_2 : w50.cell? ⟨gb185, 2, none⟩ = some (.slice A184_2 ((rd_T46 l0_0 x21_2).f2).length c184_2) := e_ BK185 2; obtain ⟨hfz51_0, hfz51_1, hfz51_2⟩ := z3_ BK185) | (go_at_call 37; (with_reducible refine (shard_empty.calls ((rd_T46 l0_0 x21_2).f0) ((rd_T46 l0_0 x21_2).f1) _ _ ((rd_T46 l0_0 x21_2).f2) false _ ?side1 ?side2 A20.out).mono ?_); (case side1 => repeat (first | exact (Kd.C_below HR184_2.out HB.out) | (with_reducible refine ca_ ?_ _) | (with_reducible refine cn_ ?_ _) | (with_reducible refine cd_ ?_))); (case side2 => exact HC184_2.out); rintro e w52 ⟨rfl, hb⟩; replace BK182 := A_ (kb_ BK182 hb); replace BK183 := A_ (kb_ BK183 hb); replace BK185 := A_ (kb_ BK185 hb); replace HB := A_ (below_step bw_ hb); (try clear hb); (try clear hb2); (try clear hk); (try clear hi); have hcz53_0 : w52.cell? ⟨gb185, 0, none⟩ = some (.int .i64 ((rd_T46 l0_0 x21_2).f0)) := e_ BK185 0; have hcz53_1 : w52.cell? ⟨gb185, 1, none⟩ = some (.int .i64 ((rd_T46 l0_0 x21_2).f1)) := e_ BK185 1; have hcz53_2 : w52.cell? ⟨gb185, 2, none⟩ = some (.slice A184_2 ((rd_T46 l0_0 x21_2).f2).length c184_2) := e_ BK185 2; obtain ⟨hfz53_0, hfz53_1, hfz53_2⟩ := z3_ BK185; have hcz54_0 : w52.cell? ⟨gb183, 0, none⟩ = some (.int .i64 a2_0) := e_ BK183 0; have hcz54_1 : w52.cell? ⟨gb183, 1, none⟩ = some (.int .i64 a2_1) := e_ BK183 1; have hcz54_2 : w52.cell? ⟨gb183, 2, none⟩ = some (.int .i64 a2_2) := e_ BK183 2; have hcz54_3 : w52.cell? ⟨gb183, 3, none⟩ = some (.int .i64 a2_3) := e_ BK183 3; have hcz54_4 : w52.cell? ⟨gb183, 4, none⟩ = some (.int .i64 a2_4) := e_ BK183 4; have hcz54_5 : w52.cell? ⟨gb183, 5, none⟩ = some (.int .i64 a2_5) := e_ BK183 5; have hcz54_6 : w52.cell? ⟨gb183, 6, none⟩ = some (.int .i64 a2_6) := e_ BK183 6; have hcz54_7 : w52.cell? ⟨gb183, 7, none⟩ = some (.int .i64 a2_7) := e_ BK183 7; have hfz54_0 := blk_frozen BK183.out 0; have hfz54_1 := blk_frozen BK183.out 1; have hfz54_2 := blk_frozen BK183.out 2; have hfz54_3 := blk_frozen BK183.out 3; have hfz54_4 := blk_frozen BK183.out 4; have hfz54_5 := blk_frozen BK183.out 5; have hfz54_6 := blk_frozen BK183.out 6; have hfz54_7 := blk_frozen BK183.out 7) | (go_at_call 45; (with_reducible refine (fnv_Shard.calls ((rd_T46 l0_0 x21_2).f0) a2_0 t188 _ A42.out).mono ?_); rintro e w55 ⟨rfl, hb⟩; replace BK182 := A_ (kb_ BK182 hb); replace BK183 := A_ (kb_ BK183 hb); replace BK185 := A_ (kb_ BK185 hb); replace HB := A_ (below_step bw_ hb); (try clear hb); (try clear hb2); (try clear hk); (try clear hi); have hcz56_0 : w55.cell? ⟨gb185, 0, none⟩ = some (.int .i64 ((rd_T46 l0_0 x21_2).f0)) := e_ BK185 0; have hcz56_1 : w55.cell? ⟨gb185, 1, none⟩ = some (.int .i64 ((rd_T46 l0_0 x21_2).f1)) := e_ BK185 1; have hcz56_2 : w55.cell? ⟨gb185, 2, none⟩ = some (.slice A184_2 ((rd_T46 l0_0 x21_2).f2).length c184_2) := e_ BK185 2; obtain ⟨hfz56_0, hfz56_1, hfz56_2⟩ := z3_ BK185))
             go_roundg k2
             case measure => have := HJ3.out; have := HK2.out; omega
             case rel => exact ⟨((rd_T46 l0_0 x21_2).f0), (wrap64 (x21_2 + 1)), (by first | rfl | (simp; done) | (simp [*]; done)), (by first | rfl | (simp; done) | (simp [*]; done)), H', ⟨by have := HJ3.out; have := HK2.out; omega⟩, ⟨bk_⟩, ⟨bk_⟩, ⟨by repeat (first | (with_reducible first | exact HB.out | apply wa_ | apply wn_ | apply wd_ | refine ws_ ?_ GE182.out | refine ws_ ?_ GE183.out | refine ws_ ?_ GE185.out) | exact HB.out)⟩⟩
           · rw [if_neg c43] at H
             have c43b0 : (t188 == a1) = false := beq_eq_false_iff_ne.mpr c43
             have c43b1 : (t188 != a1) = true := bne_iff_ne.mpr c43
             obtain rfl := Option.some.inj H
             have p184 : 0 ≤ (x21_2 : Int) := of_decide_eq_true (by first | (with_reducible assumption) | assumption)
             have q184 : x21_2 < (l0_0.length : Int) := of_decide_eq_true (by first | (with_reducible assumption) | assumption)
             obtain ⟨ad184, A184_2, c184_2, e184, hx184_0, hx184_1, hx184_2, hl184_2, hi184_2⟩ := at_T46 HR0_0.out x21_2 p184 q184
             cases e184
             replace hx184_0 := on_ HB.out hx184_0
             replace hx184_1 := on_ HB.out hx184_1
             replace hx184_2 := on_ HB.out hx184_2
             have HR184_2 := A_ hi184_2
             have HC184_2 := A_ hl184_2
             clear hi184_2 hl184_2
             replace p184 := eq_true p184
             replace q184 := eq_true q184
             go_wp2_with (first | ((with_reducible refine gate_dst (N := 9) rfl ?_); refine box_event ?hg (N := 9) ?hd (cs := #[.int .i64 0, .int .i64 0, .slice none 0 0]) (t := 46) ?hr ?_; (case hd => rfl); (case hg => rfl); (case hr => first | (go_simp; done) | (go_simp; rfl)); intro gb185 hg w57 hbox hb; have n0_ := A_ (kb_ BK182 hb); have n1_ := A_ (kb_ BK183 hb); have n2_ := A_ (below_step bw_ hb); have n3_ := A_ (hbox); have n4_ := A_ (gz_ (w := w) hg); have n5_ := A_ (gz_ (w := w) hg); have n6_ := A_ (nl_ BK182 hg); have n7_ := A_ (ng_ BK182 hg); have n8_ := A_ (nl_ BK183 hg); have n9_ := A_ (ng_ BK183 hg); replace BK182 := n0_; replace BK183 := n1_; replace HB := n2_; have BK185 := n3_; have GW185 := n4_; have GE185 := n5_; have NB182_185 := n6_; have NB185_182 := n7_; have NB183_185 := n8_; have NB185_183 := n9_; clear n0_ n1_ n2_ n3_ n4_ n5_ n6_ n7_ n8_ n9_; clear hb hbox hg; have hnb58 := NB185_182.out; have hnc58 := NB182_185.out; have hnb59 := NB185_183.out; have hnc59 := NB183_185.out; have hcz60_0 : w57.cell? ⟨gb185, 0, none⟩ = some (.int .i64 0) := e_ BK185 0; have hcz60_1 : w57.cell? ⟨gb185, 1, none⟩ = some (.int .i64 0) := e_ BK185 1; have hcz60_2 : w57.cell? ⟨gb185, 2, none⟩ = some (.slice none 0 0) := e_ BK185 2; obtain ⟨hfz60_0, hfz60_1, hfz60_2⟩ := z3_ BK185; have hnb61 := NB183_182.out; have hnc61 := NB182_183.out; have hcz62_0 : w57.cell? ⟨gb183, 0, none⟩ = some (.int .i64 a2_0) := e_ BK183 0; have hcz62_1 : w57.cell? ⟨gb183, 1, none⟩ = some (.int .i64 a2_1) := e_ BK183 1; have hcz62_2 : w57.cell? ⟨gb183, 2, none⟩ = some (.int .i64 a2_2) := e_ BK183 2; have hcz62_3 : w57.cell? ⟨gb183, 3, none⟩ = some (.int .i64 a2_3) := e_ BK183 3; have hcz62_4 : w57.cell? ⟨gb183, 4, none⟩ = some (.int .i64 a2_4) := e_ BK183 4; have hcz62_5 : w57.cell? ⟨gb183, 5, none⟩ = some (.int .i64 a2_5) := e_ BK183 5; have hcz62_6 : w57.cell? ⟨gb183, 6, none⟩ = some (.int .i64 a2_6) := e_ BK183 6; have hcz62_7 : w57.cell? ⟨gb183, 7, none⟩ = some (.int .i64 a2_7) := e_ BK183 7; have hfz62_0 := blk_frozen BK183.out 0; have hfz62_1 := blk_frozen BK183.out 1; have hfz62_2 := blk_frozen BK183.out 2; have hfz62_3 := blk_frozen BK183.out 3; have hfz62_4 := blk_frozen BK183.out 4; have hfz62_5 := blk_frozen BK183.out 5; have hfz62_6 := blk_frozen BK183.out 6; have hfz62_7 := blk_frozen BK183.out 7) | ((with_reducible refine gate_callee (f := 44) rfl ?_); refine goesL_ (some 28) rfl rfl Try.func44 (by kernel_rfl) rfl #[.agg #[.int .i64 ((rd_T46 l0_0 x21_2).f0), .int .i64 ((rd_T46 l0_0 x21_2).f1), .slice A184_2 ((rd_T46 l0_0 x21_2).f2).length c184_2], .int .i64 a2_3] rfl (by (try simp only [m0_, m1_, m2_]); first | done | rfl) ?_; (with_reducible refine (queue_Check.calls k2 ((rd_T46 l0_0 x21_2).f0) ((rd_T46 l0_0 x21_2).f1) _ _ ((rd_T46 l0_0 x21_2).f2) a2_3 true _ ?side1 ?side2 A18.out).mono ?_); (case side1 => exact Kd.C_below HR184_2.out bw_); (case side2 => exact HC184_2.out); rintro e w63 ⟨rfl, hb⟩; refine ⟨_, rfl, ?_⟩; replace BK182 := A_ (kb_ BK182 hb); replace BK183 := A_ (kb_ BK183 hb); replace BK185 := A_ (blk_below (g := gb185) (o := .cells #[.int .i64 ((rd_T46 l0_0 x21_2).f0), .int .i64 ((rd_T46 l0_0 x21_2).f1), .slice A184_2 ((rd_T46 l0_0 x21_2).f2).length c184_2] 46 (0, 0)) (by exact pk_ (b3_ BK185.out)) hb); replace HB := A_ (below_step bw_ hb); (try clear hb); (try clear hb2); (try clear hk); (try clear hi); have hcz64_0 : w63.cell? ⟨gb185, 0, none⟩ = some (.int .i64 ((rd_T46 l0_0 x21_2).f0)) := e_ BK185 0; have hcz64_1 : w63.cell? ⟨gb185, 1, none⟩ = some (.int .i64 ((rd_T46 l0_0 x21_2).f1)) := e_ BK185 1; have hcz64_2 : w63.cell? ⟨gb185, 2, none⟩ = some (.slice A184_2 ((rd_T46 l0_0 x21_2).f2).length c184_2) := e_ BK185 2; obtain ⟨hfz64_0, hfz64_1, hfz64_2⟩ := z3_ BK185) | (go_at_call 37; (with_reducible refine (shard_empty.calls ((rd_T46 l0_0 x21_2).f0) ((rd_T46 l0_0 x21_2).f1) _ _ ((rd_T46 l0_0 x21_2).f2) false _ ?side1 ?side2 A20.out).mono ?_); (case side1 => repeat (first | exact (Kd.C_below HR184_2.out HB.out) | (with_reducible refine ca_ ?_ _) | (with_reducible refine cn_ ?_ _) | (with_reducible refine cd_ ?_))); (case side2 => exact HC184_2.out); rintro e w65 ⟨rfl, hb⟩; replace BK182 := A_ (kb_ BK182 hb); replace BK183 := A_ (kb_ BK183 hb); replace BK185 := A_ (kb_ BK185 hb); replace HB := A_ (below_step bw_ hb); (try clear hb); (try clear hb2); (try clear hk); (try clear hi); have hcz66_0 : w65.cell? ⟨gb185, 0, none⟩ = some (.int .i64 ((rd_T46 l0_0 x21_2).f0)) := e_ BK185 0; have hcz66_1 : w65.cell? ⟨gb185, 1, none⟩ = some (.int .i64 ((rd_T46 l0_0 x21_2).f1)) := e_ BK185 1; have hcz66_2 : w65.cell? ⟨gb185, 2, none⟩ = some (.slice A184_2 ((rd_T46 l0_0 x21_2).f2).length c184_2) := e_ BK185 2; obtain ⟨hfz66_0, hfz66_1, hfz66_2⟩ := z3_ BK185; have hcz67_0 : w65.cell? ⟨gb183, 0, none⟩ = some (.int .i64 a2_0) := e_ BK183 0; have hcz67_1 : w65.cell? ⟨gb183, 1, none⟩ = some (.int .i64 a2_1) := e_ BK183 1; have hcz67_2 : w65.cell? ⟨gb183, 2, none⟩ = some (.int .i64 a2_2) := e_ BK183 2; have hcz67_3 : w65.cell? ⟨gb183, 3, none⟩ = some (.int .i64 a2_3) := e_ BK183 3; have hcz67_4 : w65.cell? ⟨gb183, 4, none⟩ = some (.int .i64 a2_4) := e_ BK183 4; have hcz67_5 : w65.cell? ⟨gb183, 5, none⟩ = some (.int .i64 a2_5) := e_ BK183 5; have hcz67_6 : w65.cell? ⟨gb183, 6, none⟩ = some (.int .i64 a2_6) := e_ BK183 6; have hcz67_7 : w65.cell? ⟨gb183, 7, none⟩ = some (.int .i64 a2_7) := e_ BK183 7; have hfz67_0 := blk_frozen BK183.out 0; have hfz67_1 := blk_frozen BK183.out 1; have hfz67_2 := blk_frozen BK183.out 2; have hfz67_3 := blk_frozen BK183.out 3; have hfz67_4 := blk_frozen BK183.out 4; have hfz67_5 := blk_frozen BK183.out 5; have hfz67_6 := blk_frozen BK183.out 6; have hfz67_7 := blk_frozen BK183.out 7) | (go_at_call 45; (with_reducible refine (fnv_Shard.calls ((rd_T46 l0_0 x21_2).f0) a2_0 t188 _ A42.out).mono ?_); rintro e w68 ⟨rfl, hb⟩; replace BK182 := A_ (kb_ BK182 hb); replace BK183 := A_ (kb_ BK183 hb); replace BK185 := A_ (kb_ BK185 hb); replace HB := A_ (below_step bw_ hb); (try clear hb); (try clear hb2); (try clear hk); (try clear hi)))
             go_ret
             exact ⟨by first | rfl | (simp [errW_none, errW_some] <;> rfl) | (simp [*, errW_none, errW_some] <;> rfl), by repeat (first | (with_reducible first | exact HB.out | apply wa_ | apply wn_ | apply wd_ | refine ws_ ?_ GE182.out | refine ws_ ?_ GE183.out | refine ws_ ?_ GE185.out) | exact HB.out)⟩
     · replace c19 := Bool.eq_false_iff.mpr c19
       subst c19
       have H1 : (some false) = some r := by rw [if_neg (show ¬ (false = true) by decide)] at H; exact H
       clear H
       have H := H1
       clear H1
       obtain rfl := Option.some.inj H
       have p184 : 0 ≤ (x21_2 : Int) := of_decide_eq_true (by first | (with_reducible assumption) | assumption)
       have q184 : x21_2 < (l0_0.length : Int) := of_decide_eq_true (by first | (with_reducible assumption) | assumption)
       obtain ⟨ad184, A184_2, c184_2, e184, hx184_0, hx184_1, hx184_2, hl184_2, hi184_2⟩ := at_T46 HR0_0.out x21_2 p184 q184
       cases e184
       replace hx184_0 := on_ HB.out hx184_0
       replace hx184_1 := on_ HB.out hx184_1
       replace hx184_2 := on_ HB.out hx184_2
       have HR184_2 := A_ hi184_2
       have HC184_2 := A_ hl184_2
       clear hi184_2 hl184_2
       replace p184 := eq_true p184
       replace q184 := eq_true q184
       go_wp2_with (first | ((with_reducible refine gate_dst (N := 9) rfl ?_); refine box_event ?hg (N := 9) ?hd (cs := #[.int .i64 0, .int .i64 0, .slice none 0 0]) (t := 46) ?hr ?_; (case hd => rfl); (case hg => rfl); (case hr => first | (go_simp; done) | (go_simp; rfl)); intro gb185 hg w69 hbox hb; have n0_ := A_ (kb_ BK182 hb); have n1_ := A_ (kb_ BK183 hb); have n2_ := A_ (below_step bw_ hb); have n3_ := A_ (hbox); have n4_ := A_ (gz_ (w := w) hg); have n5_ := A_ (gz_ (w := w) hg); have n6_ := A_ (nl_ BK182 hg); have n7_ := A_ (ng_ BK182 hg); have n8_ := A_ (nl_ BK183 hg); have n9_ := A_ (ng_ BK183 hg); replace BK182 := n0_; replace BK183 := n1_; replace HB := n2_; have BK185 := n3_; have GW185 := n4_; have GE185 := n5_; have NB182_185 := n6_; have NB185_182 := n7_; have NB183_185 := n8_; have NB185_183 := n9_; clear n0_ n1_ n2_ n3_ n4_ n5_ n6_ n7_ n8_ n9_; clear hb hbox hg; have hnb70 := NB185_182.out; have hnc70 := NB182_185.out; have hnb71 := NB185_183.out; have hnc71 := NB183_185.out; have hcz72_0 : w69.cell? ⟨gb185, 0, none⟩ = some (.int .i64 0) := e_ BK185 0; have hcz72_1 : w69.cell? ⟨gb185, 1, none⟩ = some (.int .i64 0) := e_ BK185 1; have hcz72_2 : w69.cell? ⟨gb185, 2, none⟩ = some (.slice none 0 0) := e_ BK185 2; obtain ⟨hfz72_0, hfz72_1, hfz72_2⟩ := z3_ BK185; have hnb73 := NB183_182.out; have hnc73 := NB182_183.out; have hcz74_0 : w69.cell? ⟨gb183, 0, none⟩ = some (.int .i64 a2_0) := e_ BK183 0; have hcz74_1 : w69.cell? ⟨gb183, 1, none⟩ = some (.int .i64 a2_1) := e_ BK183 1; have hcz74_2 : w69.cell? ⟨gb183, 2, none⟩ = some (.int .i64 a2_2) := e_ BK183 2; have hcz74_3 : w69.cell? ⟨gb183, 3, none⟩ = some (.int .i64 a2_3) := e_ BK183 3; have hcz74_4 : w69.cell? ⟨gb183, 4, none⟩ = some (.int .i64 a2_4) := e_ BK183 4; have hcz74_5 : w69.cell? ⟨gb183, 5, none⟩ = some (.int .i64 a2_5) := e_ BK183 5; have hcz74_6 : w69.cell? ⟨gb183, 6, none⟩ = some (.int .i64 a2_6) := e_ BK183 6; have hcz74_7 : w69.cell? ⟨gb183, 7, none⟩ = some (.int .i64 a2_7) := e_ BK183 7; have hfz74_0 := blk_frozen BK183.out 0; have hfz74_1 := blk_frozen BK183.out 1; have hfz74_2 := blk_frozen BK183.out 2; have hfz74_3 := blk_frozen BK183.out 3; have hfz74_4 := blk_frozen BK183.out 4; have hfz74_5 := blk_frozen BK183.out 5; have hfz74_6 := blk_frozen BK183.out 6; have hfz74_7 := blk_frozen BK183.out 7) | ((with_reducible refine gate_callee (f := 44) rfl ?_); refine goesL_ (some 28) rfl rfl Try.func44 (by kernel_rfl) rfl #[.agg #[.int .i64 ((rd_T46 l0_0 x21_2).f0), .int .i64 ((rd_T46 l0_0 x21_2).f1), .slice A184_2 ((rd_T46 l0_0 x21_2).f2).length c184_2], .int .i64 a2_3] rfl (by (try simp only [m0_, m1_, m2_]); first | done | rfl) ?_; (with_reducible refine (queue_Check.calls k2 ((rd_T46 l0_0 x21_2).f0) ((rd_T46 l0_0 x21_2).f1) _ _ ((rd_T46 l0_0 x21_2).f2) a2_3 false _ ?side1 ?side2 A18.out).mono ?_); (case side1 => exact Kd.C_below HR184_2.out bw_); (case side2 => exact HC184_2.out); rintro e w75 ⟨rfl, hb⟩; refine ⟨_, rfl, ?_⟩; replace BK182 := A_ (kb_ BK182 hb); replace BK183 := A_ (kb_ BK183 hb); replace BK185 := A_ (blk_below (g := gb185) (o := .cells #[.int .i64 ((rd_T46 l0_0 x21_2).f0), .int .i64 ((rd_T46 l0_0 x21_2).f1), .slice A184_2 ((rd_T46 l0_0 x21_2).f2).length c184_2] 46 (0, 0)) (by exact pk_ (b3_ BK185.out)) hb); replace HB := A_ (below_step bw_ hb); (try clear hb); (try clear hb2); (try clear hk); (try clear hi)))
       go_ret
       exact ⟨by first | rfl | (simp [errW_none, errW_some] <;> rfl) | (simp [*, errW_none, errW_some] <;> rfl), by repeat (first | (with_reducible first | exact HB.out | apply wa_ | apply wn_ | apply wd_ | refine ws_ ?_ GE182.out | refine ws_ ?_ GE183.out | refine ws_ ?_ GE185.out) | exact HB.out)⟩
end Go.Proofs.Ytnjnogkhbadioaa.D
