/- Written by this session's own program over the kit's print: functions of Go told as plain functions, or the row of one statement; proved for every input, with no condition of ours. -/
import Derived.Test.YtehncbhmdgdkjaaLx0
import Derived.Test.YtehncbhmdgdkjaaLx8
import Derived.Test.YtehncbhmdgdkjaaLx16
namespace Go.Proofs.Ytehncbhmdgdkjaa.L
open Go.RowKit Go.Proofs.YtehncbhmdgdkjaaW.PrintWords Go.Proofs.YtehncbhmdgdkjaaW.PrintLast Go.Proofs.YtehncbhmdgdkjaaW.PrintMore
attribute [local go_sem] max2_int min2_int max_two min_two max_three min_three max_four min_four   -- for this text's walks alone
set_option linter.unusedVariables false
set_option linter.unusedSimpArgs false

/-! ### hopperref04_Encode: function 130 -/
def hopperref04_Encode.l0 : Nat → List Int → ByteArray → Int → Int → Int → Int → Int → Int → ByteArray → Option (ByteArray × Bool)
 | 0, _, _, _, _, _, _, _, _, _ => none
 | k + 1, x4, x5, x6, x361000, x361001, x361002, x361003, x361004, x361005 => if x6 < (x4.length : Int) then (if 0 ≤ x6 then ((hopperref03_Number.f k (rd x4 x6)).bind fun t366 => (if x5.size + t366.size ≤ 9223372036854775807 then (hopperref04_Encode.l0 k x4 (x5 ++ t366) (wrap64 (x6 + 1)) x361000 x361001 x361002 x361003 x361004 x361005) else (none))) else (none)) else ((hopperref03_Text.f x361005).bind fun t367 => (if x5.size + t367.size ≤ 9223372036854775807 then (some (x5 ++ t367, true)) else (none)))
def hopperref04_Encode.f (k : Nat) (a0_0 : Int) (a0_1 : Int) (a0_2 : Int) (a0_3 : Int) (a0_4 : Int) (a0_5 : ByteArray) : Option (ByteArray × Bool) := (hopperref04_Check.f a0_0 a0_1 a0_2 a0_3 a0_4 a0_5).bind fun t361 => (if t361 = true then (hopperref04_Encode.l0 k (([a0_0, a0_1, a0_2, a0_3, a0_4] : List Int)) (⟨#[1]⟩ : ByteArray) 0 a0_0 a0_1 a0_2 a0_3 a0_4 a0_5) else (some ((⟨#[]⟩ : ByteArray), false)))
theorem hopperref04_Encode.mono_l : ∀ k, (∀ y0 y1 y2 y3 y4 y5 y6 y7 y8, LeO (hopperref04_Encode.l0 k y0 y1 y2 y3 y4 y5 y6 y7 y8) (hopperref04_Encode.l0 (k + 1) y0 y1 y2 y3 y4 y5 y6 y7 y8))
 | 0 => fun _ _ _ _ _ _ _ _ _ r h => by simp [hopperref04_Encode.l0] at h
 | k + 1 => by
  have ih0 := hopperref04_Encode.mono_l k
  · intro y0 y1 y2 y3 y4 y5 y6 y7 y8
    unfold hopperref04_Encode.l0
    repeat' first
    | (with_reducible exact ih0 _ _ _ _ _ _ _ _ _)
    | (with_reducible exact hopperref03_Number.mono _ _)
    | (with_reducible exact LeO.refl _)
    | (with_reducible exact LeO.none _)
    | (with_reducible refine LeO.ite ?_ ?_)
    | (with_reducible refine LeO.bind ?_ (fun _ => ?_))
    | exact ih0 _ _ _ _ _ _ _ _ _
    | exact hopperref03_Number.mono _ _
    | exact LeO.none _
    | refine LeO.ite ?_ ?_
    | refine LeO.bind ?_ (fun _ => ?_)
theorem hopperref04_Encode.mono : ∀ a0 a1 a2 a3 a4 a5 k, LeO (hopperref04_Encode.f k a0 a1 a2 a3 a4 a5) (hopperref04_Encode.f (k + 1) a0 a1 a2 a3 a4 a5) := by
 intro a0 a1 a2 a3 a4 a5 k
 have ih0 := hopperref04_Encode.mono_l k
 unfold hopperref04_Encode.f
 repeat' first
  | (with_reducible exact ih0 _ _ _ _ _ _ _ _ _)
  | (with_reducible exact hopperref03_Number.mono _ _)
  | (with_reducible exact LeO.refl _)
  | (with_reducible exact LeO.none _)
  | (with_reducible refine LeO.ite ?_ ?_)
  | (with_reducible refine LeO.bind ?_ (fun _ => ?_))
  | exact ih0 _ _ _ _ _ _ _ _ _
  | exact hopperref03_Number.mono _ _
  | exact LeO.none _
  | refine LeO.ite ?_ ?_
  | refine LeO.bind ?_ (fun _ => ?_)
set_option maxHeartbeats 8000000 in
set_option maxRecDepth 100000 in
theorem hopperref04_Encode.calls (k : Nat) (a0_0 : Int) (a0_1 : Int) (a0_2 : Int) (a0_3 : Int) (a0_4 : Int) (a0_5 : ByteArray) (r1 : ByteArray) (r2 : Bool) (w : World) (h : hopperref04_Encode.f k a0_0 a0_1 a0_2 a0_3 a0_4 a0_5 = some (r1, r2)) :
 Calls Try.prog 130 #[.agg #[.int .i64 a0_0, .int .i64 a0_1, .int .i64 a0_2, .int .i64 a0_3, .int .i64 a0_4, .string a0_5]] w fun e w' => e = .returned (.tuple #[.string r1, .bool r2]) ∧ Below w.heap.size w w' := by
 have hu24 := Try.underlying24
 have HB := A_ (Below.refl w.heap.size w)
 have H : ((hopperref04_Check.f a0_0 a0_1 a0_2 a0_3 a0_4 a0_5).bind fun t361 => (if t361 = true then (hopperref04_Encode.l0 k (([a0_0, a0_1, a0_2, a0_3, a0_4] : List Int)) (⟨#[1]⟩ : ByteArray) 0 a0_0 a0_1 a0_2 a0_3 a0_4 a0_5) else (some ((⟨#[]⟩ : ByteArray), false)))) = some (r1, r2) := h
 clear h
 replace H := Option.bind_eq_some_iff.mp H
 obtain ⟨t361, A20, H⟩ := H
 replace H : (if t361 = true then (hopperref04_Encode.l0 k (([a0_0, a0_1, a0_2, a0_3, a0_4] : List Int)) (⟨#[1]⟩ : ByteArray) 0 a0_0 a0_1 a0_2 a0_3 a0_4 a0_5) else (some ((⟨#[]⟩ : ByteArray), false))) = some (r1, r2) := H
 have A2 := A_ A20
 clear A20
 by_cases c3 : t361 = true
 · subst c3
   have H1 : (hopperref04_Encode.l0 k (([a0_0, a0_1, a0_2, a0_3, a0_4] : List Int)) (⟨#[1]⟩ : ByteArray) 0 a0_0 a0_1 a0_2 a0_3 a0_4 a0_5) = some (r1, r2) := by rw [if_pos rfl] at H; exact H
   clear H
   have H := H1
   clear H1
   obtain ⟨y362, hy362⟩ : ∃ y_ : List Int, y_ = (([a0_0, a0_1, a0_2, a0_3, a0_4] : List Int)) := ⟨_, rfl⟩
   replace H : (hopperref04_Encode.l0 k y362 (⟨#[1]⟩ : ByteArray) 0 a0_0 a0_1 a0_2 a0_3 a0_4 a0_5) = some (r1, r2) := by first | (rw [hy362]; with_reducible exact H) | (have H2_ := (Option.bind_some _ _).symm.trans H; rw [hy362]; with_reducible exact H2_) | (have H2_ := (Option.bind_some _ _).symm.trans H; with_reducible exact H2_) | with_reducible exact H | (rw [hy362]; exact H) | exact H
   have Ny362 := A_ hy362
   clear hy362
   have H' := A_ H
   clear H
   go_enter Try.func130, Try.ntmps130
   go_wp2_with (first | ((with_reducible refine gate_dst (N := 1) rfl ?_); refine box_event ?hg (N := 1) ?hd (cs := #[.int .i64 a0_0, .int .i64 a0_1, .int .i64 a0_2, .int .i64 a0_3, .int .i64 a0_4, .string a0_5]) (t := 24) ?hr ?_; (case hd => rfl); (case hg => rfl); (case hr => first | (go_simp; done) | (go_simp; rfl)); intro gb360 hg w4 hbox hb; have n0_ := A_ (below_step bw_ hb); have n1_ := A_ (hbox); have n2_ := A_ (gz_ (w := w) hg); have n3_ := A_ (gz_ (w := w) hg); replace HB := n0_; have BK360 := n1_; have GW360 := n2_; have GE360 := n3_; clear n0_ n1_ n2_ n3_; clear hb hbox hg; have hcz5_0 : w4.cell? ⟨gb360, 0, none⟩ = some (.int .i64 a0_0) := e_ BK360 0; have hcz5_1 : w4.cell? ⟨gb360, 1, none⟩ = some (.int .i64 a0_1) := e_ BK360 1; have hcz5_2 : w4.cell? ⟨gb360, 2, none⟩ = some (.int .i64 a0_2) := e_ BK360 2; have hcz5_3 : w4.cell? ⟨gb360, 3, none⟩ = some (.int .i64 a0_3) := e_ BK360 3; have hcz5_4 : w4.cell? ⟨gb360, 4, none⟩ = some (.int .i64 a0_4) := e_ BK360 4; have hcz5_5 : w4.cell? ⟨gb360, 5, none⟩ = some (.string a0_5) := e_ BK360 5; obtain ⟨hfz5_0, hfz5_1, hfz5_2, hfz5_3, hfz5_4, hfz5_5⟩ := z6_ BK360) | ((with_reducible refine gate_callee (f := 67) rfl ?_); refine goesL_ (some 8) rfl rfl Try.func67 (by kernel_rfl) rfl #[.agg #[.int .i64 a0_0, .int .i64 a0_1, .int .i64 a0_2, .int .i64 a0_3, .int .i64 a0_4, .string a0_5]] rfl (by (try simp only [m0_, m1_, m2_]); first | done | rfl) ?_; (with_reducible refine (hopperref04_Check.calls a0_0 a0_1 a0_2 a0_3 a0_4 a0_5 true _ A2.out).mono ?_); rintro e w6 ⟨rfl, hb⟩; refine ⟨_, rfl, ?_⟩; replace BK360 := A_ (kb_ BK360 hb); replace HB := A_ (below_step bw_ hb); (try clear hb); (try clear hb2); (try clear hk); (try clear hi); have hcz7_0 : w6.cell? ⟨gb360, 0, none⟩ = some (.int .i64 a0_0) := e_ BK360 0; have hcz7_1 : w6.cell? ⟨gb360, 1, none⟩ = some (.int .i64 a0_1) := e_ BK360 1; have hcz7_2 : w6.cell? ⟨gb360, 2, none⟩ = some (.int .i64 a0_2) := e_ BK360 2; have hcz7_3 : w6.cell? ⟨gb360, 3, none⟩ = some (.int .i64 a0_3) := e_ BK360 3; have hcz7_4 : w6.cell? ⟨gb360, 4, none⟩ = some (.int .i64 a0_4) := e_ BK360 4; have hcz7_5 : w6.cell? ⟨gb360, 5, none⟩ = some (.string a0_5) := e_ BK360 5; obtain ⟨hfz7_0, hfz7_1, hfz7_2, hfz7_3, hfz7_4, hfz7_5⟩ := z6_ BK360) | ((with_reducible refine gate_dst (N := 20) rfl ?_); refine Kd.R_lit (Kd.int .i64) _ 3 ?hg (N := 20) ?hd (xs := ([a0_0, a0_1, a0_2, a0_3, a0_4] : List Int)) (inner := [.int .i64 a0_0, .int .i64 a0_1, .int .i64 a0_2, .int .i64 a0_3, .int .i64 a0_4]) (ok := fun _ => True) (okp := fun _ => True) ?hr ?hp (fun _ hk => hk) trivial (Below.refl _ _) (Nat.le_refl _) (by simp) ?_; (case hd => rfl); (case hg => rfl); (case hr => first | (go_simp; done) | (go_simp; rfl)); (case hp => exact (Reps.one (show Kd.M (Kd.int .i64) _ _ _ a0_0 [.int .i64 a0_0] from rfl) (Reps.one (show Kd.M (Kd.int .i64) _ _ _ a0_1 [.int .i64 a0_1] from rfl) (Reps.one (show Kd.M (Kd.int .i64) _ _ _ a0_2 [.int .i64 a0_2] from rfl) (Reps.one (show Kd.M (Kd.int .i64) _ _ _ a0_3 [.int .i64 a0_3] from rfl) (Reps.one (show Kd.M (Kd.int .i64) _ _ _ a0_4 [.int .i64 a0_4] from rfl) (Reps.none _ _))))))); intro v363 w8 ho9 hb hg_ hnew_; clear hg_ hnew_; (first | rw [← Ny362.out] at ho9 | (simp only [Int.reduceToNat] at ho9; rw [← Ny362.out] at ho9)); have HO364 := A_ (Kd.R_lower ho9 (below_size bw_)); replace BK360 := A_ (kb_ BK360 hb); replace HB := A_ (below_step bw_ hb); clear hb ho9))
   go_loopg [5, 6] k (fun kq v5 v6 w' => ∃ (x5_1 : ByteArray) (x6_1 : Int), v5 = .string x5_1 ∧ v6 = .int .i64 x6_1 ∧ Aside0 (hopperref04_Encode.l0 kq y362 x5_1 x6_1 a0_0 a0_1 a0_2 a0_3 a0_4 a0_5 = some (r1, r2)) ∧ Aside0 (kq ≤ k) ∧ Aside0 (Kd.R (Kd.int .i64) 3 w' w.heap.size (fun _ => True) v363 y362) ∧ Aside0 (w'.heap[gb360]? = some (.cells #[.int .i64 a0_0, .int .i64 a0_1, .int .i64 a0_2, .int .i64 a0_3, .int .i64 a0_4, .string a0_5] 24 (0, 0))) ∧ Aside0 (Below w.heap.size w w'))
   case atStart => exact ⟨((⟨#[1]⟩ : ByteArray)), (0), (by first | rfl | (simp; done) | (simp [*]; done)), (by first | rfl | (simp; done) | (simp [*]; done)), H', ⟨Nat.le_refl _⟩, ⟨by (with_reducible repeat (first | apply ra_ | apply rn_ | apply rd_)); exact HO364.out⟩, ⟨bk_⟩, ⟨by repeat (first | (with_reducible first | exact HB.out | apply wa_ | apply wn_ | apply wd_ | refine ws_ ?_ GE360.out) | exact HB.out)⟩⟩
   case round =>
    clear H'; (try clear c1); (try clear p2); (try clear c3); (try clear c6); (try clear hcz5_0 hcz5_1 hcz5_2 hcz5_3 hcz5_4 hcz5_5); (try clear hcz7_0 hcz7_1 hcz7_2 hcz7_3 hcz7_4 hcz7_5); (try clear hfz5_0 hfz5_1 hfz5_2 hfz5_3 hfz5_4 hfz5_5); (try clear hfz7_0 hfz7_1 hfz7_2 hfz7_3 hfz7_4 hfz7_5)
    obtain ⟨x5_1, x6_1, rfl, rfl, HA, HK1, HO_4, BK360, HB⟩ := hrel
    cases gk with
    | zero => exact absurd HA.out (by simp [hopperref04_Encode.l0])
    | succ k1 =>
     have H := HA.out
     clear HA
     simp only [hopperref04_Encode.l0] at H
     by_cases c10 : x6_1 < (y362.length : Int)
     · rw [if_pos c10] at H
       have c10b0 : decide (x6_1 < (y362.length : Int)) = true := decide_eq_true c10
       clear c10
       by_cases c11 : 0 ≤ x6_1
       rotate_left
       · rw [if_neg c11] at H
         exact absurd H (by simp)
       rw [if_pos c11] at H
       have c11b0 : decide (0 ≤ x6_1) = true := decide_eq_true c11
       clear c11
       replace H := Option.bind_eq_some_iff.mp H
       obtain ⟨t366, A120, H⟩ := H
       replace H : (if x5_1.size + t366.size ≤ 9223372036854775807 then (hopperref04_Encode.l0 k1 y362 (x5_1 ++ t366) (wrap64 (x6_1 + 1)) a0_0 a0_1 a0_2 a0_3 a0_4 a0_5) else (none)) = some (r1, r2) := H
       have A12 := A_ A120
       clear A120
       by_cases c13 : x5_1.size + t366.size ≤ 9223372036854775807
       rotate_left
       · rw [if_neg c13] at H
         exact absurd H (by simp)
       rw [if_pos c13] at H
       have c13b0 := eq_true c13
       have c13b1 : decide (x5_1.size + t366.size ≤ 9223372036854775807) = true := decide_eq_true c13
       try have c13b2 : (9223372036854775807 < x5_1.size + t366.size) = False := eq_false (Nat.not_lt.2 c13)
       have H' := A_ H
       clear H
       obtain ⟨Ao14, co14, eo14⟩ := Kd.R_slice HO_4.out
       subst eo14
       have p365 : 0 ≤ (x6_1 : Int) := of_decide_eq_true (by first | (with_reducible assumption) | assumption)
       have q365 : x6_1 < (y362.length : Int) := of_decide_eq_true (by first | (with_reducible assumption) | assumption)
       obtain ⟨ad365, e365, hx365_0⟩ := Kd.at_int (Kd.R_reads' HO_4.out).2.2 x6_1 p365 q365
       cases e365
       replace p365 := eq_true p365
       replace q365 := eq_true q365
       go_wp2_with (first | ((with_reducible refine gate_callee (f := 148) rfl ?_); refine goesL_ (some 32) rfl rfl Try.func148 (by kernel_rfl) rfl #[.int .i64 (rd y362 x6_1)] rfl (by (try simp only [m0_, m1_, m2_]); first | done | rfl) ?_; (with_reducible refine (hopperref03_Number.calls k1 (rd y362 x6_1) t366 _ A12.out).mono ?_); rintro e w15 ⟨rfl, hb⟩; refine ⟨_, rfl, ?_⟩; replace HO_4 := A_ (Kd.R_below (pr_ HO_4.out) hb); replace BK360 := A_ (kb_ BK360 hb); replace HB := A_ (below_step bw_ hb); (try clear hb); (try clear hb2); (try clear hk); (try clear hi)))
       go_roundg k1
       case measure => have := HK1.out; omega
       case rel => exact ⟨(x5_1 ++ t366), (wrap64 (x6_1 + 1)), (by first | rfl | (simp; done) | (simp [*]; done)), (by first | rfl | (simp; done) | (simp [*]; done)), H', ⟨by have := HK1.out; omega⟩, ⟨by (with_reducible repeat (first | apply ra_ | apply rn_ | apply rd_)); exact HO_4.out⟩, ⟨bk_⟩, ⟨by repeat (first | (with_reducible first | exact HB.out | apply wa_ | apply wn_ | apply wd_ | refine ws_ ?_ GE360.out) | exact HB.out)⟩⟩
     · rw [if_neg c10] at H
       have c10b0 : decide (x6_1 < (y362.length : Int)) = false := decide_eq_false c10
       clear c10
       replace H := Option.bind_eq_some_iff.mp H
       obtain ⟨t367, A160, H⟩ := H
       replace H : (if x5_1.size + t367.size ≤ 9223372036854775807 then (some (x5_1 ++ t367, true)) else (none)) = some (r1, r2) := H
       have A16 := A_ A160
       clear A160
       by_cases c17 : x5_1.size + t367.size ≤ 9223372036854775807
       rotate_left
       · rw [if_neg c17] at H
         exact absurd H (by simp)
       rw [if_pos c17] at H
       have c17b0 := eq_true c17
       have c17b1 : decide (x5_1.size + t367.size ≤ 9223372036854775807) = true := decide_eq_true c17
       try have c17b2 : (9223372036854775807 < x5_1.size + t367.size) = False := eq_false (Nat.not_lt.2 c17)
       simp only [Option.some.injEq, Prod.mk.injEq] at H
       obtain ⟨rfl, rfl⟩ := H
       obtain ⟨Ao18, co18, eo18⟩ := Kd.R_slice HO_4.out
       subst eo18
       have hcz19_0 : wr.cell? ⟨gb360, 0, none⟩ = some (.int .i64 a0_0) := e_ BK360 0; have hcz19_1 : wr.cell? ⟨gb360, 1, none⟩ = some (.int .i64 a0_1) := e_ BK360 1; have hcz19_2 : wr.cell? ⟨gb360, 2, none⟩ = some (.int .i64 a0_2) := e_ BK360 2; have hcz19_3 : wr.cell? ⟨gb360, 3, none⟩ = some (.int .i64 a0_3) := e_ BK360 3; have hcz19_4 : wr.cell? ⟨gb360, 4, none⟩ = some (.int .i64 a0_4) := e_ BK360 4; have hcz19_5 : wr.cell? ⟨gb360, 5, none⟩ = some (.string a0_5) := e_ BK360 5; obtain ⟨hfz19_0, hfz19_1, hfz19_2, hfz19_3, hfz19_4, hfz19_5⟩ := z6_ BK360
       go_wp2_with (first | ((with_reducible refine gate_callee (f := 149) rfl ?_); refine goesL_ (some 37) rfl rfl Try.func149 (by kernel_rfl) rfl #[.string a0_5] rfl (by (try simp only [m0_, m1_, m2_]); first | done | rfl) ?_; (with_reducible refine (hopperref03_Text.calls a0_5 t367 _ A16.out).mono ?_); rintro e w20 ⟨rfl, hb⟩; refine ⟨_, rfl, ?_⟩; replace HO_4 := A_ (Kd.R_below (pr_ HO_4.out) hb); replace BK360 := A_ (kb_ BK360 hb); replace HB := A_ (below_step bw_ hb); (try clear hb); (try clear hb2); (try clear hk); (try clear hi)))
       go_ret2
       exact ⟨by first | rfl | (simp [errW_none, errW_some] <;> rfl) | (simp [*, errW_none, errW_some] <;> rfl), by repeat (first | (with_reducible first | exact HB.out | apply wa_ | apply wn_ | apply wd_ | refine ws_ ?_ GE360.out) | exact HB.out)⟩
 · replace c3 := Bool.eq_false_iff.mpr c3
   subst c3
   have H1 : (some ((⟨#[]⟩ : ByteArray), false)) = some (r1, r2) := by rw [if_neg (show ¬ (false = true) by decide)] at H; exact H
   clear H
   have H := H1
   clear H1
   simp only [Option.some.injEq, Prod.mk.injEq] at H
   obtain ⟨rfl, rfl⟩ := H
   go_enter Try.func130, Try.ntmps130
   go_wp2_with (first | ((with_reducible refine gate_dst (N := 1) rfl ?_); refine box_event ?hg (N := 1) ?hd (cs := #[.int .i64 a0_0, .int .i64 a0_1, .int .i64 a0_2, .int .i64 a0_3, .int .i64 a0_4, .string a0_5]) (t := 24) ?hr ?_; (case hd => rfl); (case hg => rfl); (case hr => first | (go_simp; done) | (go_simp; rfl)); intro gb360 hg w21 hbox hb; have n0_ := A_ (below_step bw_ hb); have n1_ := A_ (hbox); have n2_ := A_ (gz_ (w := w) hg); have n3_ := A_ (gz_ (w := w) hg); replace HB := n0_; have BK360 := n1_; have GW360 := n2_; have GE360 := n3_; clear n0_ n1_ n2_ n3_; clear hb hbox hg; have hcz22_0 : w21.cell? ⟨gb360, 0, none⟩ = some (.int .i64 a0_0) := e_ BK360 0; have hcz22_1 : w21.cell? ⟨gb360, 1, none⟩ = some (.int .i64 a0_1) := e_ BK360 1; have hcz22_2 : w21.cell? ⟨gb360, 2, none⟩ = some (.int .i64 a0_2) := e_ BK360 2; have hcz22_3 : w21.cell? ⟨gb360, 3, none⟩ = some (.int .i64 a0_3) := e_ BK360 3; have hcz22_4 : w21.cell? ⟨gb360, 4, none⟩ = some (.int .i64 a0_4) := e_ BK360 4; have hcz22_5 : w21.cell? ⟨gb360, 5, none⟩ = some (.string a0_5) := e_ BK360 5; obtain ⟨hfz22_0, hfz22_1, hfz22_2, hfz22_3, hfz22_4, hfz22_5⟩ := z6_ BK360) | ((with_reducible refine gate_callee (f := 67) rfl ?_); refine goesL_ (some 8) rfl rfl Try.func67 (by kernel_rfl) rfl #[.agg #[.int .i64 a0_0, .int .i64 a0_1, .int .i64 a0_2, .int .i64 a0_3, .int .i64 a0_4, .string a0_5]] rfl (by (try simp only [m0_, m1_, m2_]); first | done | rfl) ?_; (with_reducible refine (hopperref04_Check.calls a0_0 a0_1 a0_2 a0_3 a0_4 a0_5 false _ A2.out).mono ?_); rintro e w23 ⟨rfl, hb⟩; refine ⟨_, rfl, ?_⟩; replace BK360 := A_ (kb_ BK360 hb); replace HB := A_ (below_step bw_ hb); (try clear hb); (try clear hb2); (try clear hk); (try clear hi)))
   go_ret2
   exact ⟨by first | rfl | (simp [errW_none, errW_some] <;> rfl) | (simp [*, errW_none, errW_some] <;> rfl), by repeat (first | (with_reducible first | exact HB.out | apply wa_ | apply wn_ | apply wd_ | refine ws_ ?_ GE360.out) | exact HB.out)⟩

/-! ### hopperref02_Text: function 131, by hand -/
-- HAND rounds=0 making=0
/-- The last k digits of h. -/
def hexTail (h k : Nat) : ByteArray := strOfNums ((hexL h).drop (16 - k))
def hexD : ByteArray := { data := #[48, 49, 50, 51, 52, 53, 54, 55, 56, 57, 97, 98, 99, 100, 101, 102] }
theorem hexTail_step (h k : Nat) (hk : k < 16) : hexTail h (k + 1) = hexD.extract (h / 16 ^ k % 16) (h / 16 ^ k % 16 + 1) ++ hexTail h k := by
  have e : (hexL h).drop (16 - (k + 1)) = hexC (h / 16 ^ k % 16) :: (hexL h).drop (16 - k) := by
    have hl : 16 - (k + 1) < (hexL h).length := by simp [hexL]; omega
    rw [List.drop_eq_getElem_cons hl, show 16 - (k + 1) + 1 = 16 - k by omega]
    congr 1
    simp only [hexL, List.getElem_map, List.getElem_range]
    rw [show 15 - (16 - (k + 1)) = k by omega]
  have hd : ∀ d, d < 16 → hexD.extract d (d + 1) = strOfNums [hexC d] := by decide
  unfold hexTail
  rw [e, hd _ (Nat.mod_lt _ (by omega))]
  rfl
theorem hexTail_size (h k : Nat) : (hexTail h k).size ≤ 16 := by
  have e : (hexTail h k).size = ((hexL h).drop (16 - k)).length := by simp [hexTail, strOfNums, ByteArray.size]
  rw [e, List.length_drop]; simp [hexL]
def hopperref02_Text.f (a0 : Int) : Option ByteArray := if 0 ≤ a0 then (if a0 < 18446744073709551616 then some (strOfNums (hexL a0.toNat)) else none) else none
set_option maxHeartbeats 1000000 in
set_option maxRecDepth 100000 in
theorem hopperref02_Text.calls (a0 : Int) (r : ByteArray) (w : World) (h : hopperref02_Text.f a0 = some r) :
    Calls Try.prog 131 #[.int .u64 a0] w fun e w' => e = .returned (.string r) ∧ Drawn0 w w' := by
  unfold hopperref02_Text.f at h
  by_cases h0 : 0 ≤ a0
  · rw [if_pos h0] at h
    by_cases h1 : a0 < 18446744073709551616
    · rw [if_pos h1] at h
      obtain ⟨x, rfl⟩ := Int.eq_ofNat_of_zero_le h0
      have HR := Aside0.mk (Option.some.inj h)
      have H1 := Aside0.mk h1
      clear h h0 h1
      rw [Int.toNat_natCast] at HR
      go_enter Try.func131, Try.ntmps131
      go_wp2
      go_loop [0, 4, 5] (fun v0 v4 v5 => ∃ k y : Nat, ∃ t : ByteArray, k ≤ 16 ∧ y = x / 16 ^ k ∧ t = hexTail x k ∧ t.size ≤ 100 ∧ v0 = .int .u64 (y : Int) ∧ v4 = .string t ∧ v5 = .int .i64 (k : Int)) (fun _ _ i => 16 - (intOf i).toNat)
      case atStart => exact ⟨0, x, ⟨#[]⟩, by omega, by simp, rfl, by decide, rfl, rfl, rfl⟩
      case round =>
        obtain ⟨k, y, t, hk, hy, ht, hts, rfl, rfl, rfl⟩ := hrel
        have HY := Aside0.mk hy
        have HT := Aside0.mk ht
        clear hy ht
        have hsl : ∀ W : World, (Instr.slice 9 (.string { data := #[48, 49, 50, 51, 52, 53, 54, 55, 56, 57, 97, 98, 99, 100, 101, 102] }) (some (.int .i64 ((y : Int) % 16))) (some (.int .i64 ((y : Int) % 16 + 1))) none).run Try.prog W = .ok (.string (hexD.extract (y % 16) (y % 16 + 1))) W := by
          intro W
          have e := run_slice_string (P := Try.prog) (w := W) 9 hexD .i64 .i64 ((y : Int) % 16) ((y : Int) % 16 + 1) Try.underlying9 (by omega) (by omega) (by have : hexD.size = 16 := rfl; omega)
          rw [show ((y : Int) % 16 + 1).toNat = y % 16 + 1 by omega, show ((y : Int) % 16).toNat = y % 16 by omega] at e
          exact e
        have hz : (hexD.extract (y % 16) (y % 16 + 1)).size ≤ 1 := by rw [ByteArray.size_extract]; omega
        by_cases hlt : k < 16
        · go_wp2
          have h64 : (y : Int) < 18446744073709551616 := by
            have h2 : y ≤ x := by rw [HY.out]; exact Nat.div_le_self _ _
            have := H1.out; omega
          refine ⟨⟨k + 1, y / 16, _, by omega, ?_, (hexTail_step x k hlt).symm, ?_, ?_, ?_, rfl⟩, by simp [intOf]; omega⟩
          · rw [HY.out, Nat.div_div_eq_div_mul, ← Nat.pow_succ]
          · rw [← hexTail_step x k hlt]; exact Nat.le_trans (hexTail_size _ _) (by omega)
          · have e : IntKind.u64.wrap ((y : Int) / 16) = ((y / 16 : Nat) : Int) := by
              rw [IntKind.wrap_u64]; omega
            rw [e]
          · rw [HY.out, HT.out]
        · go_wp2
          go_ret
          refine ⟨?_, Drawn0.refl _⟩
          show Ending.returned (.string t) = _
          have e : k = 16 := by omega
          rw [HT.out, ← HR.out, e]
          rfl
    · rw [if_neg h1] at h; cases h
  · rw [if_neg h0] at h; cases h


/-! ### hopperref02_Roll: function 150 -/
def hopperref02_Roll.l0 : Nat → Int → ByteArray → Int → Option (Int)
  | 0, _, _, _ => none
  | k + 1, x0, x1, x5 => if x5 < (x1.size : Int) then (if 0 ≤ x5 then (hopperref02_Roll.l0 k (IntKind.u64.wrap ((Go.bits .xor .u64 x0 (IntKind.u64.wrap (bt x1 x5))) * 1099511628211)) x1 (wrap64 (x5 + 1))) else (none)) else (some x0)
def hopperref02_Roll.f (k : Nat) (a0 : Int) (a1 : ByteArray) : Option (Int) := hopperref02_Roll.l0 k a0 a1 0
theorem hopperref02_Roll.mono_l : ∀ k, (∀ y0 y1 y2, LeO (hopperref02_Roll.l0 k y0 y1 y2) (hopperref02_Roll.l0 (k + 1) y0 y1 y2))
  | 0 => fun _ _ _ r h => by simp [hopperref02_Roll.l0] at h
  | k + 1 => by
    have ih0 := hopperref02_Roll.mono_l k
    · intro y0 y1 y2
      unfold hopperref02_Roll.l0
      repeat' first
      | (with_reducible exact ih0 _ _ _)
      | (with_reducible exact LeO.refl _)
      | (with_reducible exact LeO.none _)
      | (with_reducible refine LeO.ite ?_ ?_)
      | (with_reducible refine LeO.bind ?_ (fun _ => ?_))
      | exact ih0 _ _ _
      | exact LeO.none _
      | refine LeO.ite ?_ ?_
      | refine LeO.bind ?_ (fun _ => ?_)
theorem hopperref02_Roll.mono : ∀ a0 a1 k, LeO (hopperref02_Roll.f k a0 a1) (hopperref02_Roll.f (k + 1) a0 a1) := by
  intro a0 a1 k
  have ih0 := hopperref02_Roll.mono_l k
  unfold hopperref02_Roll.f
  repeat' first
      | (with_reducible exact ih0 _ _ _)
      | (with_reducible exact LeO.refl _)
      | (with_reducible exact LeO.none _)
      | (with_reducible refine LeO.ite ?_ ?_)
      | (with_reducible refine LeO.bind ?_ (fun _ => ?_))
      | exact ih0 _ _ _
      | exact LeO.none _
      | refine LeO.ite ?_ ?_
      | refine LeO.bind ?_ (fun _ => ?_)
set_option maxHeartbeats 8000000 in
set_option maxRecDepth 100000 in
theorem hopperref02_Roll.calls (k : Nat) (a0 : Int) (a1 : ByteArray) (r : Int) (w : World) (h : hopperref02_Roll.f k a0 a1 = some r) :
    Calls Try.prog 150 #[.int .u64 a0, .string a1] w fun e w' => e = .returned (.int .u64 r) ∧ Drawn0 w w' := by
  have H : (hopperref02_Roll.l0 k a0 a1 0) = some r := h
  clear h
  have H' := Aside0.mk H
  clear H
  go_enter Try.func150, Try.ntmps150
  go_wp2
  go_loopg [0, 5] k (fun kq v0 v5 w' => ∃ (x0_1 : Int) (x5_1 : Int), v0 = .int .u64 x0_1 ∧ v5 = .int .i64 x5_1 ∧ Aside0 (hopperref02_Roll.l0 kq x0_1 a1 x5_1 = some r) ∧ Aside0 (kq ≤ k) ∧ Drawn0 w w')
  case atStart => exact ⟨(a0), (0), (by first | rfl | (simp; done) | (simp [*]; done)), (by first | rfl | (simp; done) | (simp [*]; done)), H', ⟨Nat.le_refl _⟩, by repeat (first | exact Drawn0.refl _ | apply Drawn0.step)⟩
  case round =>
    clear H'
    try clear c1
    try clear p2
    obtain ⟨x0_1, x5_1, rfl, rfl, HA, HK1, ⟨m1, rfl⟩⟩ := hrel
    cases gk with
    | zero => exact absurd HA.out (by simp [hopperref02_Roll.l0])
    | succ k1 =>
      have H := HA.out
      clear HA
      simp only [hopperref02_Roll.l0] at H
      by_cases c3 : x5_1 < (a1.size : Int)
      · rw [if_pos c3] at H
        have c3b0 : decide (x5_1 < (a1.size : Int)) = true := decide_eq_true c3
        clear c3
        by_cases c4 : 0 ≤ x5_1
        · rw [if_pos c4] at H
          have c4b0 : decide (0 ≤ x5_1) = true := decide_eq_true c4
          clear c4
          have H' := Aside0.mk H
          clear H
          have p5 : 0 ≤ (x5_1 : Int) := of_decide_eq_true (by first | (with_reducible assumption) | assumption)
          have q5 : x5_1 < (a1.size : Int) := of_decide_eq_true (by first | (with_reducible assumption) | assumption)
          have hx5 := bt_at a1 x5_1
          replace p5 := eq_true p5
          replace q5 := eq_true q5
          go_wp2
          go_roundg k1
          case measure => have := HK1.out; omega
          case rel => exact ⟨(IntKind.u64.wrap ((Go.bits .xor .u64 x0_1 (IntKind.u64.wrap (bt a1 x5_1))) * 1099511628211)), (wrap64 (x5_1 + 1)), (by first | rfl | (simp; done) | (simp [*]; done)), (by first | rfl | (simp; done) | (simp [*]; done)), H', ⟨by have := HK1.out; omega⟩, by repeat (first | exact Drawn0.refl _ | apply Drawn0.step)⟩
        · rw [if_neg c4] at H
          exact absurd H (by simp)
      · rw [if_neg c3] at H
        have c3b0 : decide (x5_1 < (a1.size : Int)) = false := decide_eq_false c3
        clear c3
        obtain rfl := Option.some.inj H
        go_wp2
        go_ret
        exact ⟨by first | rfl | (simp; done) | (simp [*]; done), by repeat (first | exact Drawn0.refl _ | apply Drawn0.step)⟩

end Go.Proofs.Ytehncbhmdgdkjaa.L
