/- Written by this session's own program over the kit's print: functions of Go told as plain functions, or the row of one statement; proved for every input, with no condition of ours. -/
import Derived.Test.YtehncbhmdgdkjaaLx0
import Derived.Test.YtehncbhmdgdkjaaLx18
import Derived.Test.YtehncbhmdgdkjaaLx19
namespace Go.Proofs.Ytehncbhmdgdkjaa.L
open Go.RowKit Go.Proofs.YtehncbhmdgdkjaaW.PrintWords Go.Proofs.YtehncbhmdgdkjaaW.PrintLast Go.Proofs.YtehncbhmdgdkjaaW.PrintMore
attribute [local go_sem] max2_int min2_int max_two min_two max_three min_three max_four min_four   -- for this text's walks alone
set_option linter.unusedVariables false
set_option linter.unusedSimpArgs false

/-! ### hopperref06_Pop: function 25 -/
def hopperref06_Pop.l0 : Nat → List (S24) → List (S24) → Int → Int → Int → Int → Int → Int → ByteArray → Option ((List (S24)) × Int × Int × Int × Int × Int × ByteArray × Bool)
 | 0, _, _, _, _, _, _, _, _, _ => none
 | k + 1, x0, x5, x7, x395000, x395001, x395002, x395003, x395004, x395005 => (hopperref06_below.f k x5 x7).bind fun t396 => (if t396 < 0 then (if 0 < (x0.length : Int) then (some (x5, (rd_T24 x0 0).f0, (rd_T24 x0 0).f1, (rd_T24 x0 0).f2, (rd_T24 x0 0).f3, (rd_T24 x0 0).f4, (rd_T24 x0 0).f5, true)) else (none)) else (if 0 ≤ t396 then (if t396 < (x5.length : Int) then ((hopperref04_Better.f k ((rd_T24 x5 t396).f0) ((rd_T24 x5 t396).f1) ((rd_T24 x5 t396).f2) ((rd_T24 x5 t396).f3) ((rd_T24 x5 t396).f4) ((rd_T24 x5 t396).f5) x395000 x395001 x395002 x395003 x395004 x395005).bind fun t399 => (if t399 = true then (if 0 ≤ x7 then (if x7 < (x5.length : Int) then (hopperref06_Pop.l0 k x0 ((x5.set (x7 : Int).toNat (⟨(rd_T24 x5 t396).f0, (rd_T24 x5 t396).f1, (rd_T24 x5 t396).f2, (rd_T24 x5 t396).f3, (rd_T24 x5 t396).f4, (rd_T24 x5 t396).f5⟩ : S24)).set (t396 : Int).toNat (⟨x395000, x395001, x395002, x395003, x395004, x395005⟩ : S24)) t396 x395000 x395001 x395002 x395003 x395004 x395005) else (none)) else (none)) else (if 0 < (x0.length : Int) then (some (x5, (rd_T24 x0 0).f0, (rd_T24 x0 0).f1, (rd_T24 x0 0).f2, (rd_T24 x0 0).f3, (rd_T24 x0 0).f4, (rd_T24 x0 0).f5, true)) else (none)))) else (none)) else (none)))
def hopperref06_Pop.f (k : Nat) (l0 : List (S24)) : Option ((List (S24)) × Int × Int × Int × Int × Int × ByteArray × Bool) := if (l0.length : Int) = 0 then (some (([] : List (S24)), 0, 0, 0, 0, 0, (⟨#[]⟩ : ByteArray), false)) else ((some (([] : List (S24)) : List (S24))).bind fun y382 => (if 0 ≤ (wrap64 ((l0.length : Int) - 1)) then (if (wrap64 ((l0.length : Int) - 1)) ≤ (l0.length : Int) then ((some (l0.take ((wrap64 ((l0.length : Int) - 1)) : Int).toNat : List (S24))).bind fun y385 => (if y382.length + y385.length < 2513169434916 then ((some (y382 ++ y385 : List (S24))).bind fun y389 => (if (y389.length : Int) = 0 then (if 0 < (l0.length : Int) then (some (y389, (rd_T24 l0 0).f0, (rd_T24 l0 0).f1, (rd_T24 l0 0).f2, (rd_T24 l0 0).f3, (rd_T24 l0 0).f4, (rd_T24 l0 0).f5, true)) else (none)) else (if (wrap64 ((l0.length : Int) - 1)) < (l0.length : Int) then (if 0 < (y389.length : Int) then (hopperref06_Pop.l0 k l0 (y389.set (0 : Int).toNat (⟨(rd_T24 l0 (wrap64 ((l0.length : Int) - 1))).f0, (rd_T24 l0 (wrap64 ((l0.length : Int) - 1))).f1, (rd_T24 l0 (wrap64 ((l0.length : Int) - 1))).f2, (rd_T24 l0 (wrap64 ((l0.length : Int) - 1))).f3, (rd_T24 l0 (wrap64 ((l0.length : Int) - 1))).f4, (rd_T24 l0 (wrap64 ((l0.length : Int) - 1))).f5⟩ : S24)) 0 ((rd_T24 l0 (wrap64 ((l0.length : Int) - 1))).f0) ((rd_T24 l0 (wrap64 ((l0.length : Int) - 1))).f1) ((rd_T24 l0 (wrap64 ((l0.length : Int) - 1))).f2) ((rd_T24 l0 (wrap64 ((l0.length : Int) - 1))).f3) ((rd_T24 l0 (wrap64 ((l0.length : Int) - 1))).f4) ((rd_T24 l0 (wrap64 ((l0.length : Int) - 1))).f5)) else (none)) else (none)))) else (none))) else (none)) else (none)))
theorem hopperref06_Pop.mono_l : ∀ k, (∀ y0 y1 y2 y3 y4 y5 y6 y7 y8, LeO (hopperref06_Pop.l0 k y0 y1 y2 y3 y4 y5 y6 y7 y8) (hopperref06_Pop.l0 (k + 1) y0 y1 y2 y3 y4 y5 y6 y7 y8))
 | 0 => fun _ _ _ _ _ _ _ _ _ r h => by simp [hopperref06_Pop.l0] at h
 | k + 1 => by
  have ih0 := hopperref06_Pop.mono_l k
  · intro y0 y1 y2 y3 y4 y5 y6 y7 y8
    unfold hopperref06_Pop.l0
    repeat' first
    | (with_reducible exact ih0 _ _ _ _ _ _ _ _ _)
    | (with_reducible exact hopperref04_Better.mono _ _ _ _ _ _ _ _ _ _ _ _ _)
    | (with_reducible exact hopperref06_below.mono _ _ _)
    | (with_reducible exact LeO.refl _)
    | (with_reducible exact LeO.none _)
    | (with_reducible refine LeO.ite ?_ ?_)
    | (with_reducible refine LeO.bind ?_ (fun _ => ?_))
    | exact ih0 _ _ _ _ _ _ _ _ _
    | exact hopperref04_Better.mono _ _ _ _ _ _ _ _ _ _ _ _ _
    | exact hopperref06_below.mono _ _ _
    | exact LeO.none _
    | refine LeO.ite ?_ ?_
    | refine LeO.bind ?_ (fun _ => ?_)
theorem hopperref06_Pop.mono : ∀ a0 k, LeO (hopperref06_Pop.f k a0) (hopperref06_Pop.f (k + 1) a0) := by
 intro a0 k
 have ih0 := hopperref06_Pop.mono_l k
 unfold hopperref06_Pop.f
 repeat' first
  | (with_reducible exact ih0 _ _ _ _ _ _ _ _ _)
  | (with_reducible exact hopperref04_Better.mono _ _ _ _ _ _ _ _ _ _ _ _ _)
  | (with_reducible exact hopperref06_below.mono _ _ _)
  | (with_reducible exact LeO.refl _)
  | (with_reducible exact LeO.none _)
  | (with_reducible refine LeO.ite ?_ ?_)
  | (with_reducible refine LeO.bind ?_ (fun _ => ?_))
  | exact ih0 _ _ _ _ _ _ _ _ _
  | exact hopperref04_Better.mono _ _ _ _ _ _ _ _ _ _ _ _ _
  | exact hopperref06_below.mono _ _ _
  | exact LeO.none _
  | refine LeO.ite ?_ ?_
  | refine LeO.bind ?_ (fun _ => ?_)
def hopperref06_Pop.T10 : Bool × List (List Nat × List Nat) := (true, [([], []), ([0], [0]), ([1], [1]), ([2], [2]), ([2], [2]), ([3, 4, 2], [2, 3, 4]), ([5, 2], [2, 5]), ([2], [2]), ([6, 7, 2, 2], [2, 6, 7]), ([8, 2], [2, 8]), ([2, 9], [2, 9])])
def hopperref06_Pop.B10 : List Nat := [0, 1, 3, 7, 7, 31, 63, 7, 255, 511, 1023]
theorem hopperref06_Pop.tab10 : rtab .any (opsOf Try.f25 10) = hopperref06_Pop.T10 := by kernel_rfl
theorem hopperref06_Pop.bits10 : waitsOk hopperref06_Pop.T10.2 hopperref06_Pop.B10 = true := by kernel_rfl
set_option maxHeartbeats 8000000 in
set_option maxRecDepth 100000 in
theorem hopperref06_Pop.calls (k : Nat) (A0 : Option Addr) (c0 : Nat) (l0 : List (S24)) (r1 : List (S24)) (r2 : Int) (r3 : Int) (r4 : Int) (r5 : Int) (r6 : Int) (r7 : ByteArray) (r8 : Bool) (w : World) (hr0 : Kd.C k24 w A0 l0.length l0) (hc0 : l0.length ≤ c0) (h : hopperref06_Pop.f k l0 = some (r1, r2, r3, r4, r5, r6, r7, r8)) :
 Calls Try.prog 25 #[.slice A0 l0.length c0] w fun e w' => ∃ v0_ : Value, e = .returned (.tuple #[v0_, .agg #[.int .i64 r2, .int .i64 r3, .int .i64 r4, .int .i64 r5, .int .i64 r6, .string r7], .bool r8]) ∧ Kd.R k24 24 w' w.heap.size (fun _ => True) v0_ r1 ∧ Below w.heap.size w w' := by
 have hu24 := Try.underlying24
 have HR0 := A_ hr0
 have HC0 := A_ hc0
 clear hr0 hc0; have HB := A_ (Below.refl w.heap.size w)
 have H : (if (l0.length : Int) = 0 then (some (([] : List (S24)), 0, 0, 0, 0, 0, (⟨#[]⟩ : ByteArray), false)) else ((some (([] : List (S24)) : List (S24))).bind fun y382 => (if 0 ≤ (wrap64 ((l0.length : Int) - 1)) then (if (wrap64 ((l0.length : Int) - 1)) ≤ (l0.length : Int) then ((some (l0.take ((wrap64 ((l0.length : Int) - 1)) : Int).toNat : List (S24))).bind fun y385 => (if y382.length + y385.length < 2513169434916 then ((some (y382 ++ y385 : List (S24))).bind fun y389 => (if (y389.length : Int) = 0 then (if 0 < (l0.length : Int) then (some (y389, (rd_T24 l0 0).f0, (rd_T24 l0 0).f1, (rd_T24 l0 0).f2, (rd_T24 l0 0).f3, (rd_T24 l0 0).f4, (rd_T24 l0 0).f5, true)) else (none)) else (if (wrap64 ((l0.length : Int) - 1)) < (l0.length : Int) then (if 0 < (y389.length : Int) then (hopperref06_Pop.l0 k l0 (y389.set (0 : Int).toNat (⟨(rd_T24 l0 (wrap64 ((l0.length : Int) - 1))).f0, (rd_T24 l0 (wrap64 ((l0.length : Int) - 1))).f1, (rd_T24 l0 (wrap64 ((l0.length : Int) - 1))).f2, (rd_T24 l0 (wrap64 ((l0.length : Int) - 1))).f3, (rd_T24 l0 (wrap64 ((l0.length : Int) - 1))).f4, (rd_T24 l0 (wrap64 ((l0.length : Int) - 1))).f5⟩ : S24)) 0 ((rd_T24 l0 (wrap64 ((l0.length : Int) - 1))).f0) ((rd_T24 l0 (wrap64 ((l0.length : Int) - 1))).f1) ((rd_T24 l0 (wrap64 ((l0.length : Int) - 1))).f2) ((rd_T24 l0 (wrap64 ((l0.length : Int) - 1))).f3) ((rd_T24 l0 (wrap64 ((l0.length : Int) - 1))).f4) ((rd_T24 l0 (wrap64 ((l0.length : Int) - 1))).f5)) else (none)) else (none)))) else (none))) else (none)) else (none)))) = some (r1, r2, r3, r4, r5, r6, r7, r8) := h
 clear h
 by_cases c2 : (l0.length : Int) = 0
 · rw [if_pos c2] at H
   have c2b0 : ((l0.length : Int) == 0) = true := beq_iff_eq.mpr c2
   have c2b1 : ((l0.length : Int) != 0) = false := bne_eq_false_iff_eq.mpr c2
   clear c2
   simp only [Option.some.injEq, Prod.mk.injEq] at H
   obtain ⟨rfl, rfl, rfl, rfl, rfl, rfl, rfl, rfl⟩ := H
   go_enter Try.func25, Try.ntmps25
   go_wp2_with (first | ((with_reducible refine gate_dst (N := 3) rfl ?_); refine box_event ?hg (N := 3) ?hd (cs := #[.int .i64 0, .int .i64 0, .int .i64 0, .int .i64 0, .int .i64 0, .string (⟨#[]⟩ : ByteArray)]) (t := 24) ?hr ?_; (case hd => rfl); (case hg => rfl); (case hr => first | (go_simp; done) | (go_simp; rfl)); intro gb381 hg w3 hbox hb; have n0_ := A_ (below_step bw_ hb); have n1_ := A_ (hbox); have n2_ := A_ (gz_ (w := w) hg); have n3_ := A_ (gz_ (w := w) hg); replace HB := n0_; have BK381 := n1_; have GW381 := n2_; have GE381 := n3_; clear n0_ n1_ n2_ n3_; clear hb hbox hg; have hcz4_0 : w3.cell? ⟨gb381, 0, none⟩ = some (.int .i64 0) := e_ BK381 0; have hcz4_1 : w3.cell? ⟨gb381, 1, none⟩ = some (.int .i64 0) := e_ BK381 1; have hcz4_2 : w3.cell? ⟨gb381, 2, none⟩ = some (.int .i64 0) := e_ BK381 2; have hcz4_3 : w3.cell? ⟨gb381, 3, none⟩ = some (.int .i64 0) := e_ BK381 3; have hcz4_4 : w3.cell? ⟨gb381, 4, none⟩ = some (.int .i64 0) := e_ BK381 4; have hcz4_5 : w3.cell? ⟨gb381, 5, none⟩ = some (.string (⟨#[]⟩ : ByteArray)) := e_ BK381 5; obtain ⟨hfz4_0, hfz4_1, hfz4_2, hfz4_3, hfz4_4, hfz4_5⟩ := z6_ BK381))
   refine bodyPost_ret (results_list (rs := [.tmp 2, .cell 3 24, .tmp 4]) rfl (by simp) (.tmp (.cell gb381 24 #[.int .i64 0, .int .i64 0, .int .i64 0, .int .i64 0, .int .i64 0, .string (⟨#[]⟩ : ByteArray)] (0, 0) _ rfl (by exact pk_ (b6_ BK381.out)) Try.underlying24 rfl (by kernel_rfl) (.tmp .nil)))) rfl ?_
   exact ⟨_, by first | rfl | (simp [errW_none, errW_some] <;> rfl) | (simp [*, errW_none, errW_some] <;> rfl), by first | exact Kd.R_nil _ _ _ _ _ | exact Kd.N_nil _ _ _ _ _ | exact Kd.V_nil _ _ _ _ _ | exact Kd.Q_nil _ _ _ _ _ | exact Kd.S_nil _ _ _ _ _, by repeat (first | (with_reducible first | exact HB.out | apply wa_ | apply wn_ | apply wd_ | refine ws_ ?_ GE381.out) | exact HB.out)⟩
 rw [if_neg c2] at H
 have c2b0 : ((l0.length : Int) == 0) = false := beq_eq_false_iff_ne.mpr c2
 have c2b1 : ((l0.length : Int) != 0) = true := bne_iff_ne.mpr c2
 have c2b2 : ¬ (l0 = []) := fun h_ => c2 (by rw [h_]; rfl)
 obtain ⟨y382, hy382⟩ : ∃ y_ : List (S24), y_ = (([] : List (S24))) := ⟨_, rfl⟩
 replace H : (if 0 ≤ (wrap64 ((l0.length : Int) - 1)) then (if (wrap64 ((l0.length : Int) - 1)) ≤ (l0.length : Int) then ((some (l0.take ((wrap64 ((l0.length : Int) - 1)) : Int).toNat : List (S24))).bind fun y385 => (if y382.length + y385.length < 2513169434916 then ((some (y382 ++ y385 : List (S24))).bind fun y389 => (if (y389.length : Int) = 0 then (if 0 < (l0.length : Int) then (some (y389, (rd_T24 l0 0).f0, (rd_T24 l0 0).f1, (rd_T24 l0 0).f2, (rd_T24 l0 0).f3, (rd_T24 l0 0).f4, (rd_T24 l0 0).f5, true)) else (none)) else (if (wrap64 ((l0.length : Int) - 1)) < (l0.length : Int) then (if 0 < (y389.length : Int) then (hopperref06_Pop.l0 k l0 (y389.set (0 : Int).toNat (⟨(rd_T24 l0 (wrap64 ((l0.length : Int) - 1))).f0, (rd_T24 l0 (wrap64 ((l0.length : Int) - 1))).f1, (rd_T24 l0 (wrap64 ((l0.length : Int) - 1))).f2, (rd_T24 l0 (wrap64 ((l0.length : Int) - 1))).f3, (rd_T24 l0 (wrap64 ((l0.length : Int) - 1))).f4, (rd_T24 l0 (wrap64 ((l0.length : Int) - 1))).f5⟩ : S24)) 0 ((rd_T24 l0 (wrap64 ((l0.length : Int) - 1))).f0) ((rd_T24 l0 (wrap64 ((l0.length : Int) - 1))).f1) ((rd_T24 l0 (wrap64 ((l0.length : Int) - 1))).f2) ((rd_T24 l0 (wrap64 ((l0.length : Int) - 1))).f3) ((rd_T24 l0 (wrap64 ((l0.length : Int) - 1))).f4) ((rd_T24 l0 (wrap64 ((l0.length : Int) - 1))).f5)) else (none)) else (none)))) else (none))) else (none)) else (none)) = some (r1, r2, r3, r4, r5, r6, r7, r8) := by first | (rw [hy382]; with_reducible exact H) | (have H2_ := (Option.bind_some _ _).symm.trans H; rw [hy382]; with_reducible exact H2_) | (have H2_ := (Option.bind_some _ _).symm.trans H; with_reducible exact H2_) | with_reducible exact H | (rw [hy382]; exact H) | exact H
 have Ny382 := A_ hy382
 clear hy382
 obtain ⟨ji5, hji5⟩ : ∃ j_ : Int, (wrap64 ((l0.length : Int) - 1)) = j_ := ⟨_, rfl⟩
 replace H : (if 0 ≤ (ji5) then (if (ji5) ≤ (l0.length : Int) then ((some (l0.take ((ji5) : Int).toNat : List (S24))).bind fun y385 => (if y382.length + y385.length < 2513169434916 then ((some (y382 ++ y385 : List (S24))).bind fun y389 => (if (y389.length : Int) = 0 then (if 0 < (l0.length : Int) then (some (y389, (rd_T24 l0 0).f0, (rd_T24 l0 0).f1, (rd_T24 l0 0).f2, (rd_T24 l0 0).f3, (rd_T24 l0 0).f4, (rd_T24 l0 0).f5, true)) else (none)) else (if (ji5) < (l0.length : Int) then (if 0 < (y389.length : Int) then (hopperref06_Pop.l0 k l0 (y389.set (0 : Int).toNat (⟨(rd_T24 l0 (ji5)).f0, (rd_T24 l0 (ji5)).f1, (rd_T24 l0 (ji5)).f2, (rd_T24 l0 (ji5)).f3, (rd_T24 l0 (ji5)).f4, (rd_T24 l0 (ji5)).f5⟩ : S24)) 0 ((rd_T24 l0 (ji5)).f0) ((rd_T24 l0 (ji5)).f1) ((rd_T24 l0 (ji5)).f2) ((rd_T24 l0 (ji5)).f3) ((rd_T24 l0 (ji5)).f4) ((rd_T24 l0 (ji5)).f5)) else (none)) else (none)))) else (none))) else (none)) else (none)) = some (r1, r2, r3, r4, r5, r6, r7, r8) := by first | (rw [hji5] at H; exact H) | (simp only [hji5] at H ⊢; exact H)
 have hji5w : (IntKind.i64.wrap ((l0.length : Int) - 1)) = ji5 := (i64_w _).trans hji5
 by_cases c6 : 0 ≤ (ji5)
 rotate_left
 · rw [if_neg c6] at H
   exact absurd H (by simp)

 rw [if_pos c6] at H
 have c6b0 := eq_true c6
 have c6b1 : decide (0 ≤ (ji5)) = true := decide_eq_true c6
 clear c6
 by_cases c7 : (ji5) ≤ (l0.length : Int)
 rotate_left
 · rw [if_neg c7] at H
   exact absurd H (by simp)
 rw [if_pos c7] at H
 have c7b0 := eq_true c7
 have c7b1 : decide ((ji5) ≤ (l0.length : Int)) = true := decide_eq_true c7
 clear c7
 obtain ⟨y385, hy385⟩ : ∃ y_ : List (S24), y_ = (l0.take ((ji5) : Int).toNat) := ⟨_, rfl⟩
 replace H : (if y382.length + y385.length < 2513169434916 then ((some (y382 ++ y385 : List (S24))).bind fun y389 => (if (y389.length : Int) = 0 then (if 0 < (l0.length : Int) then (some (y389, (rd_T24 l0 0).f0, (rd_T24 l0 0).f1, (rd_T24 l0 0).f2, (rd_T24 l0 0).f3, (rd_T24 l0 0).f4, (rd_T24 l0 0).f5, true)) else (none)) else (if (ji5) < (l0.length : Int) then (if 0 < (y389.length : Int) then (hopperref06_Pop.l0 k l0 (y389.set (0 : Int).toNat (⟨(rd_T24 l0 (ji5)).f0, (rd_T24 l0 (ji5)).f1, (rd_T24 l0 (ji5)).f2, (rd_T24 l0 (ji5)).f3, (rd_T24 l0 (ji5)).f4, (rd_T24 l0 (ji5)).f5⟩ : S24)) 0 ((rd_T24 l0 (ji5)).f0) ((rd_T24 l0 (ji5)).f1) ((rd_T24 l0 (ji5)).f2) ((rd_T24 l0 (ji5)).f3) ((rd_T24 l0 (ji5)).f4) ((rd_T24 l0 (ji5)).f5)) else (none)) else (none)))) else (none)) = some (r1, r2, r3, r4, r5, r6, r7, r8) := by first | (rw [hy385]; with_reducible exact H) | (have H2_ := (Option.bind_some _ _).symm.trans H; rw [hy385]; with_reducible exact H2_) | (have H2_ := (Option.bind_some _ _).symm.trans H; with_reducible exact H2_) | with_reducible exact H | (rw [hy385]; exact H) | exact H
 have Ny385 := A_ hy385
 clear hy385
 by_cases c8 : y382.length + y385.length < 2513169434916
 rotate_left
 · rw [if_neg c8] at H
   exact absurd H (by simp)
 rw [if_pos c8] at H
 have LMc8 := A_ c8
 clear c8
 obtain ⟨y389, hy389⟩ : ∃ y_ : List (S24), y_ = (y382 ++ y385) := ⟨_, rfl⟩
 replace H : (if (y389.length : Int) = 0 then (if 0 < (l0.length : Int) then (some (y389, (rd_T24 l0 0).f0, (rd_T24 l0 0).f1, (rd_T24 l0 0).f2, (rd_T24 l0 0).f3, (rd_T24 l0 0).f4, (rd_T24 l0 0).f5, true)) else (none)) else (if (ji5) < (l0.length : Int) then (if 0 < (y389.length : Int) then (hopperref06_Pop.l0 k l0 (y389.set (0 : Int).toNat (⟨(rd_T24 l0 (ji5)).f0, (rd_T24 l0 (ji5)).f1, (rd_T24 l0 (ji5)).f2, (rd_T24 l0 (ji5)).f3, (rd_T24 l0 (ji5)).f4, (rd_T24 l0 (ji5)).f5⟩ : S24)) 0 ((rd_T24 l0 (ji5)).f0) ((rd_T24 l0 (ji5)).f1) ((rd_T24 l0 (ji5)).f2) ((rd_T24 l0 (ji5)).f3) ((rd_T24 l0 (ji5)).f4) ((rd_T24 l0 (ji5)).f5)) else (none)) else (none))) = some (r1, r2, r3, r4, r5, r6, r7, r8) := by first | (rw [hy389]; with_reducible exact H) | (have H2_ := (Option.bind_some _ _).symm.trans H; rw [hy389]; with_reducible exact H2_) | (have H2_ := (Option.bind_some _ _).symm.trans H; with_reducible exact H2_) | with_reducible exact H | (rw [hy389]; exact H) | exact H
 have Ny389 := A_ hy389
 clear hy389
 by_cases c9 : (y389.length : Int) = 0
 · rw [if_pos c9] at H
   have c9b0 : ((y389.length : Int) == 0) = true := beq_iff_eq.mpr c9
   have c9b1 : ((y389.length : Int) != 0) = false := bne_eq_false_iff_eq.mpr c9
   clear c9
   by_cases c10 : 0 < (l0.length : Int)
   rotate_left
   · rw [if_neg c10] at H
     exact absurd H (by simp)
   rw [if_pos c10] at H
   have c10b0 : decide (0 < (l0.length : Int)) = true := decide_eq_true c10
   have c10b1 : decide (0 < l0.length) = true := decide_eq_true (by omega)
   clear c10
   simp only [Option.some.injEq, Prod.mk.injEq] at H
   obtain ⟨rfl, rfl, rfl, rfl, rfl, rfl, rfl, rfl⟩ := H
   go_enter Try.func25, Try.ntmps25
   try go_wp2_with (first | ((with_reducible refine gate_dst (N := 3) rfl ?_); refine box_event ?hg (N := 3) ?hd (cs := #[.int .i64 0, .int .i64 0, .int .i64 0, .int .i64 0, .int .i64 0, .string (⟨#[]⟩ : ByteArray)]) (t := 24) ?hr ?_; (case hd => rfl); (case hg => rfl); (case hr => first | (go_simp; done) | (go_simp; rfl)); intro gb381 hg w11 hbox hb; have n0_ := A_ (below_step bw_ hb); have n1_ := A_ (hbox); have n2_ := A_ (gz_ (w := w) hg); have n3_ := A_ (gz_ (w := w) hg); replace HB := n0_; have BK381 := n1_; have GW381 := n2_; have GE381 := n3_; clear n0_ n1_ n2_ n3_; clear hb hbox hg) | ((with_reducible refine gate_dst (N := 13) rfl ?_); refine Kd.R_lit k24 _ 24 ?hg (N := 13) ?hd (xs := ([] : List (S24))) (inner := []) (ok := fun _ => True) (okp := fun _ => True) ?hr ?hp (fun _ hk => hk) trivial (Below.refl _ _) (Nat.le_refl _) (by simp) ?_; (case hd => rfl); (case hg => rfl); (case hr => first | (go_simp; done) | (go_simp; rfl)); (case hp => exact (Reps.none _ _)); intro v383 w12 ho13 hb hg_ hnew_; clear hg_ hnew_; (first | rw [← Ny382.out] at ho13 | (simp only [Int.reduceToNat] at ho13; rw [← Ny382.out] at ho13)); have HO384 := A_ (Kd.R_lower (Kd.R_newB ho13 (g := gb381) (o := .cells #[.int .i64 0, .int .i64 0, .int .i64 0, .int .i64 0, .int .i64 0, .string (⟨#[]⟩ : ByteArray)] 24 (0, 0)) (by (with_reducible repeat (first | refine bn_ ?_ _ | refine bd_ ?_ | refine ba_ ?_ _)); exact BK381.out)) (below_size bw_)); replace BK381 := A_ (kb_ BK381 hb); replace HB := A_ (below_step bw_ hb); clear hb ho13; have q14 : ((ji5) : Int) ≤ ((l0.length : Int) : Int) := of_decide_eq_true (by first | (with_reducible assumption) | assumption); obtain ⟨i014, hi014, _, hsz14, _⟩ := info_parts info24; have hroom14 : l0.length ≤ c0 := HC0.out; have hC14 : Kd.C k24 _ A0 l0.length l0 := HR0.out; have hcut14 := cut_to (P := Try.prog) 22 24 .i64 Try.underlying22 hi014 A0 l0.length c0 (ji5) (of_decide_eq_true (by first | (with_reducible assumption) | assumption)) q14 hroom14; have hr14 := Kd.C_take (m := ((ji5) : Int).toNat) hC14 (by omega); have hy14 : y385.length = ((ji5) : Int).toNat := (by rw [Ny385.out, List.length_take]; omega); rw [← Ny385.out] at hr14; rw [← hy14] at hcut14; have HR388 := A_ hr14; have HC388 := A_ (show y385.length ≤ c0 from by omega); clear hr14 hC14 hroom14 hi014 hsz14; have KY14 := A_ hy14; clear hy14; replace q14 := eq_true q14) | ((with_reducible refine gate_builtin (b := .append) (xs := #[.tmp 13, .tmp 18]) rfl ?_); at_builtin; refine Kd.R_append_rows k24 (w0 := w) w.heap.size rfl (.tmp 13) (.tmp 18) 22 24 (.agg #[(.int .i64 0), (.int .i64 0), (.int .i64 0), (.int .i64 0), (.int .i64 0), (.string ⟨#[]⟩)]) 56 rfl Try.underlying22 info24 rfl (by decide) (by omega) v383 y382 y385 _ _ _ (fun k_ => k_ ≠ gb381) (fun _ => False) rfl rfl ?aO ?aR (fun _ _ h => h) (fun _ h => h.elim) ?aF ?aB ?aS ?aL ?_; (case aR => repeat (first | exact (Kd.C_below HR388.out HB.out) | (with_reducible refine ca_ ?_ _) | (with_reducible refine cn_ ?_ _) | (with_reducible refine cd_ ?_))); (case aB => exact bw_); (case aF => exact (fun k_ hk => Kd.freshB (g := gb381) (o := .cells #[.int .i64 0, .int .i64 0, .int .i64 0, .int .i64 0, .int .i64 0, .string (⟨#[]⟩ : ByteArray)] 24 (0, 0)) (by (with_reducible repeat (first | refine bn_ ?_ _ | refine bd_ ?_ | refine ba_ ?_ _)); exact BK381.out) k_ hk)); (case aO => exact (by (with_reducible repeat (first | apply ra_ | apply rn_ | apply rd_)); exact Kd.R_mono HO384.out (fun _ hk => hk.2))); (case aS => exact (below_size bw_)); (case aL => have := LMc8.out; omega); intro v390 w15 ho hb hg hat; rw [← Ny389.out] at ho; replace BK381 := A_ (blk_grown (g := gb381) (o := .cells #[.int .i64 0, .int .i64 0, .int .i64 0, .int .i64 0, .int .i64 0, .string (⟨#[]⟩ : ByteArray)] 24 (0, 0)) (by (with_reducible repeat (first | refine bn_ ?_ _ | refine bd_ ?_ | refine ba_ ?_ _)); exact BK381.out) hg (Kd.R_away HO384.out (fun _ hk => hk.2))); replace HB := A_ (hb); have HO391 := A_ (ho); clear HO384; clear ho hb hg hat; obtain ⟨Ao16, co16, eo16⟩ := Kd.R_slice HO391.out; subst eo16))
   have n0_ := A_ (rd_ HO391.out); have n1_ := A_ (bd_ BK381.out); have n2_ := A_ (wd_ HB.out); replace HO391 := n0_; replace BK381 := n1_; replace HB := n2_; clear n0_ n1_ n2_
   have p392 : 0 ≤ (0 : Int) := (by omega)
   have q392 : 0 < (l0.length : Int) := of_decide_eq_true (by first | (with_reducible assumption) | assumption)
   obtain ⟨ad392, e392, hx392_0, hx392_1, hx392_2, hx392_3, hx392_4, hx392_5⟩ := at_T24 HR0.out 0 p392 q392
   have hw392_5 := hx392_5
   (try rw [show ((0 : Int)).toNat = 0 from rfl] at hw392_5)
   (try rw [show 0 * 6 = 0 from rfl] at hw392_5)
   (try rw [Addr.add_zero'] at hw392_5)
   have hw392_4 := hx392_4
   (try rw [show ((0 : Int)).toNat = 0 from rfl] at hw392_4)
   (try rw [show 0 * 6 = 0 from rfl] at hw392_4)
   (try rw [Addr.add_zero'] at hw392_4)
   have hw392_3 := hx392_3
   (try rw [show ((0 : Int)).toNat = 0 from rfl] at hw392_3)
   (try rw [show 0 * 6 = 0 from rfl] at hw392_3)
   (try rw [Addr.add_zero'] at hw392_3)
   have hw392_2 := hx392_2
   (try rw [show ((0 : Int)).toNat = 0 from rfl] at hw392_2)
   (try rw [show 0 * 6 = 0 from rfl] at hw392_2)
   (try rw [Addr.add_zero'] at hw392_2)
   have hw392_1 := hx392_1
   (try rw [show ((0 : Int)).toNat = 0 from rfl] at hw392_1)
   (try rw [show 0 * 6 = 0 from rfl] at hw392_1)
   (try rw [Addr.add_zero'] at hw392_1)
   have hw392_0 := hx392_0
   (try rw [show ((0 : Int)).toNat = 0 from rfl] at hw392_0)
   (try rw [show 0 * 6 = 0 from rfl] at hw392_0)
   (try rw [Addr.add_zero'] at hw392_0)
   cases e392
   have qi392 : (0 < l0.length) = True := eq_true (by omega)
   (try rw [show ((0 : Int)).toNat = 0 from rfl] at hx392_0)
   (try rw [show 0 * 6 = 0 from rfl] at hx392_0)
   (try rw [Addr.add_zero'] at hx392_0)
   (try rw [show ((0 : Int)).toNat = 0 from rfl] at hx392_1)
   (try rw [show 0 * 6 = 0 from rfl] at hx392_1)
   (try rw [Addr.add_zero'] at hx392_1)
   (try rw [show ((0 : Int)).toNat = 0 from rfl] at hx392_2)
   (try rw [show 0 * 6 = 0 from rfl] at hx392_2)
   (try rw [Addr.add_zero'] at hx392_2)
   (try rw [show ((0 : Int)).toNat = 0 from rfl] at hx392_3)
   (try rw [show 0 * 6 = 0 from rfl] at hx392_3)
   (try rw [Addr.add_zero'] at hx392_3)
   (try rw [show ((0 : Int)).toNat = 0 from rfl] at hx392_4)
   (try rw [show 0 * 6 = 0 from rfl] at hx392_4)
   (try rw [Addr.add_zero'] at hx392_4)
   (try rw [show ((0 : Int)).toNat = 0 from rfl] at hx392_5)
   (try rw [show 0 * 6 = 0 from rfl] at hx392_5)
   (try rw [Addr.add_zero'] at hx392_5)
   replace hx392_0 := on_ HB.out hx392_0
   replace hx392_1 := on_ HB.out hx392_1
   replace hx392_2 := on_ HB.out hx392_2
   replace hx392_3 := on_ HB.out hx392_3
   replace hx392_4 := on_ HB.out hx392_4
   replace hx392_5 := on_ HB.out hx392_5
   replace p392 := eq_true p392
   replace q392 := eq_true q392
   refine start_ (n := 7) (S := fun w' => w'.cell? ad392 = some (.int .i64 ((rd_T24 l0 0).f0)) ∧ w'.cell? ⟨ad392.block, ad392.off + 1, none⟩ = some (.int .i64 ((rd_T24 l0 0).f1)) ∧ w'.cell? ⟨ad392.block, ad392.off + 2, none⟩ = some (.int .i64 ((rd_T24 l0 0).f2)) ∧ w'.cell? ⟨ad392.block, ad392.off + 3, none⟩ = some (.int .i64 ((rd_T24 l0 0).f3)) ∧ w'.cell? ⟨ad392.block, ad392.off + 4, none⟩ = some (.int .i64 ((rd_T24 l0 0).f4)) ∧ w'.cell? ⟨ad392.block, ad392.off + 5, none⟩ = some (.string ((rd_T24 l0 0).f5))) (ds := []) #[false, false, false, false, false, false, false] (by kernel_rfl) rfl rfl ⟨((HB.out.cell (World.block_lt_of_cell? w _ hw392_0)).trans hw392_0), ((HB.out.cell (World.block_lt_of_cell? w _ hw392_1)).trans hw392_1), ((HB.out.cell (World.block_lt_of_cell? w _ hw392_2)).trans hw392_2), ((HB.out.cell (World.block_lt_of_cell? w _ hw392_3)).trans hw392_3), ((HB.out.cell (World.block_lt_of_cell? w _ hw392_4)).trans hw392_4), ((HB.out.cell (World.block_lt_of_cell? w _ hw392_5)).trans hw392_5)⟩ (fun hHeld => ?_)
   generalize w15.drew = w17 at HO391 BK381 HB hx392_0 hx392_1 hx392_2 hx392_3 hx392_4 hx392_5 hHeld ⊢
   refine pure_ (i := 0) (N := some 23) (v := ?_) (a' := ?_) #[true, false, false, false, false, false, false] rfl rfl (by kernel_rfl) (fun _ _ _ h => h) (Or.inl ⟨by rfl, ?_⟩) ?_ ?_
   rotate_left
   · intro w'
     go_simp
     with_reducible rfl
   rotate_left
   · simp only [Act.put, s0_, s1_, s2_, i64_w, i32_w]
     rfl
   refine pure_ (i := 1) (N := some 24) (v := ?_) (a' := ?_) #[true, true, false, false, false, false, false] rfl rfl (by kernel_rfl) (fun _ _ _ h => h) (Or.inl ⟨by rfl, ?_⟩) ?_ ?_
   rotate_left
   · intro w'
     go_simp
     with_reducible rfl
   rotate_left
   · simp only [Act.put, s0_, s1_, s2_, i64_w, i32_w]
     rfl
   refine pure_ (i := 2) (N := some 25) (v := ?_) (a' := ?_) #[true, true, true, false, false, false, false] rfl rfl (by kernel_rfl) (fun _ _ _ h => h) (Or.inl ⟨by rfl, ?_⟩) ?_ ?_
   rotate_left
   · intro w'
     go_simp
     with_reducible rfl
   rotate_left
   · simp only [Act.put, s0_, s1_, s2_, i64_w, i32_w]
     rfl
   refine pure_ (i := 4) (N := some 2) (v := ?_) (a' := ?_) #[true, true, true, false, true, false, false] rfl rfl (by kernel_rfl) (fun _ _ _ h => h) (Or.inl ⟨by rfl, ?_⟩) ?_ ?_
   rotate_left
   · intro w'
     go_simp
     with_reducible rfl
   rotate_left
   · simp only [Act.put, s0_, s1_, s2_, i64_w, i32_w]
     rfl
   refine take_ (i := 3) (N := some 26) (v := ?_) (a' := ?_) #[true, true, true, true, true, false, false] rfl rfl (by kernel_rfl) (fun _ _ _ h => h) (Or.inl ⟨by rfl, ?_⟩) hHeld ?_ ?_
   rotate_left
   · rintro w' ⟨s0, s1, s2, s3, s4, s5⟩
     go_simp
     with_reducible rfl
   rotate_left
   · simp only [Act.put, s0_, s1_, s2_, i64_w, i32_w]
     rfl
   refine one_ (i := 5) (N := none) #[true, true, true, true, true, true, false] rfl rfl (by kernel_rfl) (by decide) (fun K hK => ?_)
   have hs18 : w17.cell? ⟨gb381, 0, none⟩ = some (.int .i64 0) := e_ BK381 0
   have hfs18 := blk_frozen BK381.out 0
   have hs19 : w17.cell? ⟨gb381, 1, none⟩ = some (.int .i64 0) := e_ BK381 1
   have hfs19 := blk_frozen BK381.out 1
   have hs20 : w17.cell? ⟨gb381, 2, none⟩ = some (.int .i64 0) := e_ BK381 2
   have hfs20 := blk_frozen BK381.out 2
   have hs21 : w17.cell? ⟨gb381, 3, none⟩ = some (.int .i64 0) := e_ BK381 3
   have hfs21 := blk_frozen BK381.out 3
   have hs22 : w17.cell? ⟨gb381, 4, none⟩ = some (.int .i64 0) := e_ BK381 4
   have hfs22 := blk_frozen BK381.out 4
   have hs23 : w17.cell? ⟨gb381, 5, none⟩ = some (.string (⟨#[]⟩ : ByteArray)) := e_ BK381 5
   have hfs23 := blk_frozen BK381.out 5
   refine skip_ (w1 := ?_) (by rfl) rfl ?_ ?_
   rotate_left
   · go_simp
     rfl
   refine hK.out _ _ ⟨(cf_ hw392_0 GW381.out ((cf_ hw392_0 GW381.out ((cf_ hw392_0 GW381.out ((cf_ hw392_0 GW381.out ((cf_ hw392_0 GW381.out ((cf_ hw392_0 GW381.out (hHeld.1)))))))))))), (cf_ hw392_1 GW381.out ((cf_ hw392_1 GW381.out ((cf_ hw392_1 GW381.out ((cf_ hw392_1 GW381.out ((cf_ hw392_1 GW381.out ((cf_ hw392_1 GW381.out (hHeld.2.1)))))))))))), (cf_ hw392_2 GW381.out ((cf_ hw392_2 GW381.out ((cf_ hw392_2 GW381.out ((cf_ hw392_2 GW381.out ((cf_ hw392_2 GW381.out ((cf_ hw392_2 GW381.out (hHeld.2.2.1)))))))))))), (cf_ hw392_3 GW381.out ((cf_ hw392_3 GW381.out ((cf_ hw392_3 GW381.out ((cf_ hw392_3 GW381.out ((cf_ hw392_3 GW381.out ((cf_ hw392_3 GW381.out (hHeld.2.2.2.1)))))))))))), (cf_ hw392_4 GW381.out ((cf_ hw392_4 GW381.out ((cf_ hw392_4 GW381.out ((cf_ hw392_4 GW381.out ((cf_ hw392_4 GW381.out ((cf_ hw392_4 GW381.out (hHeld.2.2.2.2.1)))))))))))), (cf_ hw392_5 GW381.out ((cf_ hw392_5 GW381.out ((cf_ hw392_5 GW381.out ((cf_ hw392_5 GW381.out ((cf_ hw392_5 GW381.out ((cf_ hw392_5 GW381.out (hHeld.2.2.2.2.2))))))))))))⟩ (fun hHeld => ?_)
   clear hK K
   refine pure_ (i := 6) (N := some 4) (v := ?_) (a' := ?_) #[true, true, true, true, true, true, true] rfl rfl (by kernel_rfl) (fun _ _ _ h => h) (Or.inl ⟨by rfl, ?_⟩) ?_ ?_
   rotate_left
   · intro w'
     go_simp
     with_reducible rfl
   rotate_left
   · simp only [Act.put, s0_, s1_, s2_, i64_w, i32_w]
     rfl
   refine done_ (by kernel_rfl) ?_
   try go_wp2
   refine bodyPost_ret (results_list (rs := [.tmp 2, .cell 3 24, .tmp 4]) rfl (by simp) (.tmp (.cell gb381 24 #[.int .i64 ((rd_T24 l0 0).f0), .int .i64 ((rd_T24 l0 0).f1), .int .i64 ((rd_T24 l0 0).f2), .int .i64 ((rd_T24 l0 0).f3), .int .i64 ((rd_T24 l0 0).f4), .string ((rd_T24 l0 0).f5)] (0, 0) _ rfl (by exact pk_ (b6_ BK381.out)) Try.underlying24 rfl (by kernel_rfl) (.tmp .nil)))) rfl ?_
   exact ⟨_, by first | rfl | (simp [errW_none, errW_some] <;> rfl) | (simp only [← hji5]; first | rfl | (simp [errW_none, errW_some] <;> rfl)) | (simp [*, errW_none, errW_some] <;> rfl), by (with_reducible repeat (first | apply ra_ | apply rn_ | apply rd_)); exact Kd.R_mono (f6_ (g := gb381) (Kd.R_mono HO391.out (fun k_ hk => (⟨hk, hk⟩ : _ ∧ k_ ≠ gb381))) (fun _ hk => hk.2) (.int .i64 ((rd_T24 l0 0).f0)) (.int .i64 ((rd_T24 l0 0).f1)) (.int .i64 ((rd_T24 l0 0).f2)) (.int .i64 ((rd_T24 l0 0).f3)) (.int .i64 ((rd_T24 l0 0).f4)) (.string ((rd_T24 l0 0).f5))) (fun _ hk => trivial), by repeat (first | (with_reducible first | exact HB.out | apply wa_ | apply wn_ | apply wd_ | refine ws_ ?_ GE381.out) | exact HB.out)⟩
 · rw [if_neg c9] at H
   have c9b0 : ((y389.length : Int) == 0) = false := beq_eq_false_iff_ne.mpr c9
   have c9b1 : ((y389.length : Int) != 0) = true := bne_iff_ne.mpr c9
   have c9b2 : ¬ (y389 = []) := fun h_ => c9 (by rw [h_]; rfl)
   by_cases c24 : (ji5) < (l0.length : Int)
   rotate_left
   · rw [if_neg c24] at H
     exact absurd H (by simp)
   rw [if_pos c24] at H
   have c24b0 : decide ((ji5) < (l0.length : Int)) = true := decide_eq_true c24
   clear c24
   by_cases c25 : 0 < (y389.length : Int)
   rotate_left
   · rw [if_neg c25] at H
     exact absurd H (by simp)
   rw [if_pos c25] at H
   have c25b0 : decide (0 < (y389.length : Int)) = true := decide_eq_true c25
   have c25b1 : decide (0 < y389.length) = true := decide_eq_true (by omega)
   clear c25
   obtain ⟨y395, hy395⟩ : ∃ y_ : List (S24), y_ = (y389.set (0 : Int).toNat (⟨(rd_T24 l0 (ji5)).f0, (rd_T24 l0 (ji5)).f1, (rd_T24 l0 (ji5)).f2, (rd_T24 l0 (ji5)).f3, (rd_T24 l0 (ji5)).f4, (rd_T24 l0 (ji5)).f5⟩ : S24)) := ⟨_, rfl⟩
   replace H : (hopperref06_Pop.l0 k l0 y395 0 ((rd_T24 l0 (ji5)).f0) ((rd_T24 l0 (ji5)).f1) ((rd_T24 l0 (ji5)).f2) ((rd_T24 l0 (ji5)).f3) ((rd_T24 l0 (ji5)).f4) ((rd_T24 l0 (ji5)).f5)) = some (r1, r2, r3, r4, r5, r6, r7, r8) := by first | (rw [hy395]; with_reducible exact H) | (have H2_ := (Option.bind_some _ _).symm.trans H; rw [hy395]; with_reducible exact H2_) | (have H2_ := (Option.bind_some _ _).symm.trans H; with_reducible exact H2_) | with_reducible exact H | (rw [hy395]; exact H) | exact H
   have Ny395 := A_ hy395
   clear hy395
   have H' := A_ H
   clear H
   go_enter Try.func25, Try.ntmps25
   go_wp2_with (first | ((with_reducible refine gate_dst (N := 3) rfl ?_); refine box_event ?hg (N := 3) ?hd (cs := #[.int .i64 0, .int .i64 0, .int .i64 0, .int .i64 0, .int .i64 0, .string (⟨#[]⟩ : ByteArray)]) (t := 24) ?hr ?_; (case hd => rfl); (case hg => rfl); (case hr => first | (go_simp; done) | (go_simp; rfl)); intro gb381 hg w27 hbox hb; have n0_ := A_ (below_step bw_ hb); have n1_ := A_ (hbox); have n2_ := A_ (gz_ (w := w) hg); have n3_ := A_ (gz_ (w := w) hg); replace HB := n0_; have BK381 := n1_; have GW381 := n2_; have GE381 := n3_; clear n0_ n1_ n2_ n3_; clear hb hbox hg) | ((with_reducible refine gate_dst (N := 13) rfl ?_); refine Kd.R_lit k24 _ 24 ?hg (N := 13) ?hd (xs := ([] : List (S24))) (inner := []) (ok := fun _ => True) (okp := fun _ => True) ?hr ?hp (fun _ hk => hk) trivial (Below.refl _ _) (Nat.le_refl _) (by simp) ?_; (case hd => rfl); (case hg => rfl); (case hr => first | (go_simp; done) | (go_simp; rfl)); (case hp => exact (Reps.none _ _)); intro v383 w28 ho29 hb hg_ hnew_; clear hg_ hnew_; (first | rw [← Ny382.out] at ho29 | (simp only [Int.reduceToNat] at ho29; rw [← Ny382.out] at ho29)); have HO384 := A_ (Kd.R_lower (Kd.R_newB ho29 (g := gb381) (o := .cells #[.int .i64 0, .int .i64 0, .int .i64 0, .int .i64 0, .int .i64 0, .string (⟨#[]⟩ : ByteArray)] 24 (0, 0)) (by (with_reducible repeat (first | refine bn_ ?_ _ | refine bd_ ?_ | refine ba_ ?_ _)); exact BK381.out)) (below_size bw_)); replace BK381 := A_ (kb_ BK381 hb); replace HB := A_ (below_step bw_ hb); clear hb ho29; have q30 : ((ji5) : Int) ≤ ((l0.length : Int) : Int) := of_decide_eq_true (by first | (with_reducible assumption) | assumption); obtain ⟨i030, hi030, _, hsz30, _⟩ := info_parts info24; have hroom30 : l0.length ≤ c0 := HC0.out; have hC30 : Kd.C k24 _ A0 l0.length l0 := HR0.out; have hcut30 := cut_to (P := Try.prog) 22 24 .i64 Try.underlying22 hi030 A0 l0.length c0 (ji5) (of_decide_eq_true (by first | (with_reducible assumption) | assumption)) q30 hroom30; have hr30 := Kd.C_take (m := ((ji5) : Int).toNat) hC30 (by omega); have hy30 : y385.length = ((ji5) : Int).toNat := (by rw [Ny385.out, List.length_take]; omega); rw [← Ny385.out] at hr30; rw [← hy30] at hcut30; have HR388 := A_ hr30; have HC388 := A_ (show y385.length ≤ c0 from by omega); clear hr30 hC30 hroom30 hi030 hsz30; have KY30 := A_ hy30; clear hy30; replace q30 := eq_true q30) | ((with_reducible refine gate_builtin (b := .append) (xs := #[.tmp 13, .tmp 18]) rfl ?_); at_builtin; refine Kd.R_append_rows k24 (w0 := w) w.heap.size rfl (.tmp 13) (.tmp 18) 22 24 (.agg #[(.int .i64 0), (.int .i64 0), (.int .i64 0), (.int .i64 0), (.int .i64 0), (.string ⟨#[]⟩)]) 56 rfl Try.underlying22 info24 rfl (by decide) (by omega) v383 y382 y385 _ _ _ (fun k_ => k_ ≠ gb381) (fun _ => False) rfl rfl ?aO ?aR (fun _ _ h => h) (fun _ h => h.elim) ?aF ?aB ?aS ?aL ?_; (case aR => repeat (first | exact (Kd.C_below HR388.out HB.out) | (with_reducible refine ca_ ?_ _) | (with_reducible refine cn_ ?_ _) | (with_reducible refine cd_ ?_))); (case aB => exact bw_); (case aF => exact (fun k_ hk => Kd.freshB (g := gb381) (o := .cells #[.int .i64 0, .int .i64 0, .int .i64 0, .int .i64 0, .int .i64 0, .string (⟨#[]⟩ : ByteArray)] 24 (0, 0)) (by (with_reducible repeat (first | refine bn_ ?_ _ | refine bd_ ?_ | refine ba_ ?_ _)); exact BK381.out) k_ hk)); (case aO => exact (by (with_reducible repeat (first | apply ra_ | apply rn_ | apply rd_)); exact Kd.R_mono HO384.out (fun _ hk => hk.2))); (case aS => exact (below_size bw_)); (case aL => have := LMc8.out; omega); intro v390 w31 ho hb hg hat; rw [← Ny389.out] at ho; replace BK381 := A_ (blk_grown (g := gb381) (o := .cells #[.int .i64 0, .int .i64 0, .int .i64 0, .int .i64 0, .int .i64 0, .string (⟨#[]⟩ : ByteArray)] 24 (0, 0)) (by (with_reducible repeat (first | refine bn_ ?_ _ | refine bd_ ?_ | refine ba_ ?_ _)); exact BK381.out) hg (Kd.R_away HO384.out (fun _ hk => hk.2))); replace HB := A_ (hb); have HO391 := A_ (ho); clear HO384; clear ho hb hg hat; obtain ⟨Ao32, co32, eo32⟩ := Kd.R_slice HO391.out; subst eo32; have p393 : 0 ≤ ((ji5) : Int) := of_decide_eq_true (by first | (with_reducible assumption) | assumption); have q393 : (ji5) < (l0.length : Int) := of_decide_eq_true (by first | (with_reducible assumption) | assumption); obtain ⟨ad393, e393, hx393_0, hx393_1, hx393_2, hx393_3, hx393_4, hx393_5⟩ := at_T24 HR0.out (ji5) p393 q393; cases e393; replace hx393_0 := on_ HB.out hx393_0; replace hx393_1 := on_ HB.out hx393_1; replace hx393_2 := on_ HB.out hx393_2; replace hx393_3 := on_ HB.out hx393_3; replace hx393_4 := on_ HB.out hx393_4; replace hx393_5 := on_ HB.out hx393_5; replace p393 := eq_true p393; replace q393 := eq_true q393) | ((with_reducible refine gate_dst (N := 6) rfl ?_); refine box_event ?hg (N := 6) ?hd (cs := #[.int .i64 0, .int .i64 0, .int .i64 0, .int .i64 0, .int .i64 0, .string (⟨#[]⟩ : ByteArray)]) (t := 24) ?hr ?_; (case hd => rfl); (case hg => rfl); (case hr => first | (go_simp; done) | (go_simp; rfl)); intro gb394 hg w33 hbox hb; have n0_ := A_ (Kd.R_below (Kd.R_elderB (pr_ HO391.out) gb394 (Nat.le_of_eq hg.symm)) hb); have n1_ := A_ (kb_ BK381 hb); have n2_ := A_ (below_step bw_ hb); have n3_ := A_ (hbox); have n4_ := A_ (gz_ (w := w) hg); have n5_ := A_ (gz_ (w := w) hg); have n6_ := A_ (nl_ BK381 hg); have n7_ := A_ (ng_ BK381 hg); replace HO391 := n0_; replace BK381 := n1_; replace HB := n2_; have BK394 := n3_; have GW394 := n4_; have GE394 := n5_; have NB381_394 := n6_; have NB394_381 := n7_; clear n0_ n1_ n2_ n3_ n4_ n5_ n6_ n7_; clear hb hbox hg; have hnb34 := NB394_381.out; have hnc34 := NB381_394.out; have hcz35_0 : w33.cell? ⟨gb394, 0, none⟩ = some (.int .i64 0) := e_ BK394 0; have hcz35_1 : w33.cell? ⟨gb394, 1, none⟩ = some (.int .i64 0) := e_ BK394 1; have hcz35_2 : w33.cell? ⟨gb394, 2, none⟩ = some (.int .i64 0) := e_ BK394 2; have hcz35_3 : w33.cell? ⟨gb394, 3, none⟩ = some (.int .i64 0) := e_ BK394 3; have hcz35_4 : w33.cell? ⟨gb394, 4, none⟩ = some (.int .i64 0) := e_ BK394 4; have hcz35_5 : w33.cell? ⟨gb394, 5, none⟩ = some (.string (⟨#[]⟩ : ByteArray)) := e_ BK394 5; obtain ⟨hfz35_0, hfz35_1, hfz35_2, hfz35_3, hfz35_4, hfz35_5⟩ := z6_ BK394) | ((with_reducible refine gate_store (t := 24) (p := 6) rfl ?_); refine store_event (t := 24) (p := 6) (v := ?vo_w36) (w1 := ((((((w33.setCell ⟨gb394, 0, none⟩ (.int .i64 ((rd_T24 l0 (ji5)).f0))).setCell ⟨gb394, 1, none⟩ (.int .i64 ((rd_T24 l0 (ji5)).f1))).setCell ⟨gb394, 2, none⟩ (.int .i64 ((rd_T24 l0 (ji5)).f2))).setCell ⟨gb394, 3, none⟩ (.int .i64 ((rd_T24 l0 (ji5)).f3))).setCell ⟨gb394, 4, none⟩ (.int .i64 ((rd_T24 l0 (ji5)).f4))).setCell ⟨gb394, 5, none⟩ (.string ((rd_T24 l0 (ji5)).f5)))) ?hg ?ho ?hn ?hr ?_; (case ho => rfl); (case hg => rfl); (case hn => rfl); (case hr => first | (go_simp; done) | (go_simp; rfl)); intro w36 hw; have n0_ : Aside0 (Kd.R k24 24 w36 w.heap.size (fun k_ => k_ ≠ gb381 ∧ k_ ≠ gb394) (.slice Ao32 y389.length co32) y389) := ⟨(by rw [hw]; exact (by (with_reducible repeat (first | apply ra_ | apply rn_ | apply rd_)); exact Kd.R_mono (f6_ (g := gb394) (Kd.R_mono HO391.out (fun k_ hk => (⟨hk, hk.2⟩ : _ ∧ k_ ≠ gb394))) (fun _ hk => hk.2) (.int .i64 ((rd_T24 l0 (ji5)).f0)) (.int .i64 ((rd_T24 l0 (ji5)).f1)) (.int .i64 ((rd_T24 l0 (ji5)).f2)) (.int .i64 ((rd_T24 l0 (ji5)).f3)) (.int .i64 ((rd_T24 l0 (ji5)).f4)) (.string ((rd_T24 l0 (ji5)).f5))) (fun _ hk => ⟨hk.1.1, hk.1.2⟩)))⟩; have n1_ : Aside0 (w36.heap[gb381]? = some (.cells #[.int .i64 0, .int .i64 0, .int .i64 0, .int .i64 0, .int .i64 0, .string (⟨#[]⟩ : ByteArray)] 24 (0, 0))) := ⟨(by rw [hw]; exact bk_)⟩; have n2_ : Aside0 (w36.heap[gb394]? = some (.cells #[.int .i64 ((rd_T24 l0 (ji5)).f0), .int .i64 ((rd_T24 l0 (ji5)).f1), .int .i64 ((rd_T24 l0 (ji5)).f2), .int .i64 ((rd_T24 l0 (ji5)).f3), .int .i64 ((rd_T24 l0 (ji5)).f4), .string ((rd_T24 l0 (ji5)).f5)] 24 (0, 0))) := ⟨(by rw [hw]; exact (by exact pk_ (b6_ BK394.out)))⟩; have n3_ : Aside0 (Below w.heap.size w w36) := ⟨(by rw [hw]; exact bw_)⟩; clear hw; replace HO391 := n0_; replace BK381 := n1_; replace BK394 := n2_; replace HB := n3_; clear n0_ n1_ n2_ n3_; have hcz37_0 : w36.cell? ⟨gb394, 0, none⟩ = some (.int .i64 ((rd_T24 l0 (ji5)).f0)) := e_ BK394 0; have hcz37_1 : w36.cell? ⟨gb394, 1, none⟩ = some (.int .i64 ((rd_T24 l0 (ji5)).f1)) := e_ BK394 1; have hcz37_2 : w36.cell? ⟨gb394, 2, none⟩ = some (.int .i64 ((rd_T24 l0 (ji5)).f2)) := e_ BK394 2; have hcz37_3 : w36.cell? ⟨gb394, 3, none⟩ = some (.int .i64 ((rd_T24 l0 (ji5)).f3)) := e_ BK394 3; have hcz37_4 : w36.cell? ⟨gb394, 4, none⟩ = some (.int .i64 ((rd_T24 l0 (ji5)).f4)) := e_ BK394 4; have hcz37_5 : w36.cell? ⟨gb394, 5, none⟩ = some (.string ((rd_T24 l0 (ji5)).f5)) := e_ BK394 5; obtain ⟨hfz37_0, hfz37_1, hfz37_2, hfz37_3, hfz37_4, hfz37_5⟩ := z6_ BK394; have p26 : 0 ≤ (0 : Int) := (by omega); have q26 : (0 : Int) < ((y389.length : Int) : Int) := of_decide_eq_true (by first | (with_reducible assumption) | assumption); have qi26 : (0 < y389.length) = True := eq_true (by omega); obtain ⟨go26, co26, eo26, gb26, gl26, cl26, HG26⟩ := Kd.R_form HO391.out (by omega); (first | cases eo26 | (injection eo26 with ea_ en_ ec_; (first | subst ea_ | (injection ea_ with ea_; subst ea_)); subst ec_; clear en_)); have GB26 := A_ gb26; have GG26 := A_ HG26; clear gb26 gl26 HG26; obtain ⟨ce26, hcl26, hM26, hcc26, hfr26⟩ := Kd.R_elem HO391.out z24 (0 : Int) p26 q26; obtain rfl := k24_openM hM26; have hx26_0 : w36.cell? ⟨go26, (0 : Int).toNat * 6, none⟩ = some (.int .i64 ((rd_T24 y389 0).f0)) := hcc26 0 _ rfl; have hx26_1 : w36.cell? ⟨go26, (0 : Int).toNat * 6 + 1, none⟩ = some (.int .i64 ((rd_T24 y389 0).f1)) := hcc26 1 _ rfl; have hx26_2 : w36.cell? ⟨go26, (0 : Int).toNat * 6 + 2, none⟩ = some (.int .i64 ((rd_T24 y389 0).f2)) := hcc26 2 _ rfl; have hx26_3 : w36.cell? ⟨go26, (0 : Int).toNat * 6 + 3, none⟩ = some (.int .i64 ((rd_T24 y389 0).f3)) := hcc26 3 _ rfl; have hx26_4 : w36.cell? ⟨go26, (0 : Int).toNat * 6 + 4, none⟩ = some (.int .i64 ((rd_T24 y389 0).f4)) := hcc26 4 _ rfl; have hx26_5 : w36.cell? ⟨go26, (0 : Int).toNat * 6 + 5, none⟩ = some (.string ((rd_T24 y389 0).f5)) := hcc26 5 _ rfl; have hf26_0 : w36.frozen? ⟨go26, (0 : Int).toNat * 6, none⟩ = false := hfr26 0; have hf26_1 : w36.frozen? ⟨go26, (0 : Int).toNat * 6 + 1, none⟩ = false := hfr26 1; have hf26_2 : w36.frozen? ⟨go26, (0 : Int).toNat * 6 + 2, none⟩ = false := hfr26 2; have hf26_3 : w36.frozen? ⟨go26, (0 : Int).toNat * 6 + 3, none⟩ = false := hfr26 3; have hf26_4 : w36.frozen? ⟨go26, (0 : Int).toNat * 6 + 4, none⟩ = false := hfr26 4; have hf26_5 : w36.frozen? ⟨go26, (0 : Int).toNat * 6 + 5, none⟩ = false := hfr26 5; clear hcl26 hcc26 hfr26 hM26; (try rw [show ((0 : Int)).toNat = 0 from rfl] at hx26_0); (try simp only [Nat.reduceMul, Nat.zero_mul, Nat.zero_add, Nat.reduceAdd] at hx26_0); (try rw [show ((0 : Int)).toNat = 0 from rfl] at hf26_0); (try simp only [Nat.reduceMul, Nat.zero_mul, Nat.zero_add, Nat.reduceAdd] at hf26_0); (try rw [show ((0 : Int)).toNat = 0 from rfl] at hx26_1); (try simp only [Nat.reduceMul, Nat.zero_mul, Nat.zero_add, Nat.reduceAdd] at hx26_1); (try rw [show ((0 : Int)).toNat = 0 from rfl] at hf26_1); (try simp only [Nat.reduceMul, Nat.zero_mul, Nat.zero_add, Nat.reduceAdd] at hf26_1); (try rw [show ((0 : Int)).toNat = 0 from rfl] at hx26_2); (try simp only [Nat.reduceMul, Nat.zero_mul, Nat.zero_add, Nat.reduceAdd] at hx26_2); (try rw [show ((0 : Int)).toNat = 0 from rfl] at hf26_2); (try simp only [Nat.reduceMul, Nat.zero_mul, Nat.zero_add, Nat.reduceAdd] at hf26_2); (try rw [show ((0 : Int)).toNat = 0 from rfl] at hx26_3); (try simp only [Nat.reduceMul, Nat.zero_mul, Nat.zero_add, Nat.reduceAdd] at hx26_3); (try rw [show ((0 : Int)).toNat = 0 from rfl] at hf26_3); (try simp only [Nat.reduceMul, Nat.zero_mul, Nat.zero_add, Nat.reduceAdd] at hf26_3); (try rw [show ((0 : Int)).toNat = 0 from rfl] at hx26_4); (try simp only [Nat.reduceMul, Nat.zero_mul, Nat.zero_add, Nat.reduceAdd] at hx26_4); (try rw [show ((0 : Int)).toNat = 0 from rfl] at hf26_4); (try simp only [Nat.reduceMul, Nat.zero_mul, Nat.zero_add, Nat.reduceAdd] at hf26_4); (try rw [show ((0 : Int)).toNat = 0 from rfl] at hx26_5); (try simp only [Nat.reduceMul, Nat.zero_mul, Nat.zero_add, Nat.reduceAdd] at hx26_5); (try rw [show ((0 : Int)).toNat = 0 from rfl] at hf26_5); (try simp only [Nat.reduceMul, Nat.zero_mul, Nat.zero_add, Nat.reduceAdd] at hf26_5); replace p26 := eq_true p26; replace q26 := eq_true q26; have HX38 := A_ (show Kd.R k24 24 w36 w.heap.size (fun k_ => k_ ≠ gb381 ∧ k_ ≠ gb394) (.slice (some ⟨go26, 0, none⟩) y389.length co32) y389 from (pr_ HO391.out)); obtain ⟨ce38, hcl38, hM38, hcc38, hfr38⟩ := Kd.R_elem HX38.out z24 (0 : Int) (by omega) (by have h_ : (0 : Int) < ((y389.length : Int) : Int) := of_decide_eq_true (by first | (with_reducible assumption) | assumption); first | exact h_ | (have e_ := (Kd.R_reads' HO391.out).1; omega) | simpa using h_); obtain rfl := k24_openM hM38; have HP38 := Kd.R_seg HX38.out (0 : Int) (by omega) (by have h_ : (0 : Int) < ((y389.length : Int) : Int) := of_decide_eq_true (by first | (with_reducible assumption) | assumption); first | exact h_ | (have e_ := (Kd.R_reads' HO391.out).1; omega) | simpa using h_) (seg := [.int .i64 ((rd_T24 l0 (ji5)).f0), .int .i64 ((rd_T24 l0 (ji5)).f1), .int .i64 ((rd_T24 l0 (ji5)).f2), .int .i64 ((rd_T24 l0 (ji5)).f3), .int .i64 ((rd_T24 l0 (ji5)).f4), .string ((rd_T24 l0 (ji5)).f5)]) (j := 0) hcl38 hcc38 (show 6 ≤ 6 from by decide) (x' := (⟨(rd_T24 l0 (ji5)).f0, (rd_T24 l0 (ji5)).f1, (rd_T24 l0 (ji5)).f2, (rd_T24 l0 (ji5)).f3, (rd_T24 l0 (ji5)).f4, (rd_T24 l0 (ji5)).f5⟩ : S24)) (k24_mkM _ _ _ (⟨(rd_T24 l0 (ji5)).f0, (rd_T24 l0 (ji5)).f1, (rd_T24 l0 (ji5)).f2, (rd_T24 l0 (ji5)).f3, (rd_T24 l0 (ji5)).f4, (rd_T24 l0 (ji5)).f5⟩ : S24) ) (fun _ hk => hk); have hx38_0 := hcc38 0 _ rfl; (try simp only [show (k24).sz = 6 from rfl, Nat.mul_one, Nat.add_zero] at hx38_0); (try rw [show ((0 : Int)).toNat = 0 from rfl] at hx38_0); (try simp only [Nat.reduceMul, Nat.zero_mul, Nat.zero_add, Nat.reduceAdd] at hx38_0); have hf38_0 := hfr38 0; (try simp only [show (k24).sz = 6 from rfl, Nat.mul_one, Nat.add_zero] at hf38_0); (try rw [show ((0 : Int)).toNat = 0 from rfl] at hf38_0); (try simp only [Nat.reduceMul, Nat.zero_mul, Nat.zero_add, Nat.reduceAdd] at hf38_0); have hx38_1 := hcc38 1 _ rfl; (try simp only [show (k24).sz = 6 from rfl, Nat.mul_one, Nat.add_zero] at hx38_1); (try rw [show ((0 : Int)).toNat = 0 from rfl] at hx38_1); (try simp only [Nat.reduceMul, Nat.zero_mul, Nat.zero_add, Nat.reduceAdd] at hx38_1); have hf38_1 := hfr38 1; (try simp only [show (k24).sz = 6 from rfl, Nat.mul_one, Nat.add_zero] at hf38_1); (try rw [show ((0 : Int)).toNat = 0 from rfl] at hf38_1); (try simp only [Nat.reduceMul, Nat.zero_mul, Nat.zero_add, Nat.reduceAdd] at hf38_1); have hx38_2 := hcc38 2 _ rfl; (try simp only [show (k24).sz = 6 from rfl, Nat.mul_one, Nat.add_zero] at hx38_2); (try rw [show ((0 : Int)).toNat = 0 from rfl] at hx38_2); (try simp only [Nat.reduceMul, Nat.zero_mul, Nat.zero_add, Nat.reduceAdd] at hx38_2); have hf38_2 := hfr38 2; (try simp only [show (k24).sz = 6 from rfl, Nat.mul_one, Nat.add_zero] at hf38_2); (try rw [show ((0 : Int)).toNat = 0 from rfl] at hf38_2); (try simp only [Nat.reduceMul, Nat.zero_mul, Nat.zero_add, Nat.reduceAdd] at hf38_2); have hx38_3 := hcc38 3 _ rfl; (try simp only [show (k24).sz = 6 from rfl, Nat.mul_one, Nat.add_zero] at hx38_3); (try rw [show ((0 : Int)).toNat = 0 from rfl] at hx38_3); (try simp only [Nat.reduceMul, Nat.zero_mul, Nat.zero_add, Nat.reduceAdd] at hx38_3); have hf38_3 := hfr38 3; (try simp only [show (k24).sz = 6 from rfl, Nat.mul_one, Nat.add_zero] at hf38_3); (try rw [show ((0 : Int)).toNat = 0 from rfl] at hf38_3); (try simp only [Nat.reduceMul, Nat.zero_mul, Nat.zero_add, Nat.reduceAdd] at hf38_3); have hx38_4 := hcc38 4 _ rfl; (try simp only [show (k24).sz = 6 from rfl, Nat.mul_one, Nat.add_zero] at hx38_4); (try rw [show ((0 : Int)).toNat = 0 from rfl] at hx38_4); (try simp only [Nat.reduceMul, Nat.zero_mul, Nat.zero_add, Nat.reduceAdd] at hx38_4); have hf38_4 := hfr38 4; (try simp only [show (k24).sz = 6 from rfl, Nat.mul_one, Nat.add_zero] at hf38_4); (try rw [show ((0 : Int)).toNat = 0 from rfl] at hf38_4); (try simp only [Nat.reduceMul, Nat.zero_mul, Nat.zero_add, Nat.reduceAdd] at hf38_4); have hx38_5 := hcc38 5 _ rfl; (try simp only [show (k24).sz = 6 from rfl, Nat.mul_one, Nat.add_zero] at hx38_5); (try rw [show ((0 : Int)).toNat = 0 from rfl] at hx38_5); (try simp only [Nat.reduceMul, Nat.zero_mul, Nat.zero_add, Nat.reduceAdd] at hx38_5); have hf38_5 := hfr38 5; (try simp only [show (k24).sz = 6 from rfl, Nat.mul_one, Nat.add_zero] at hf38_5); (try rw [show ((0 : Int)).toNat = 0 from rfl] at hf38_5); (try simp only [Nat.reduceMul, Nat.zero_mul, Nat.zero_add, Nat.reduceAdd] at hf38_5); clear hcl38 hcc38 hfr38 hM38) | ((with_reducible refine gate_store (t := 24) (p := 35) rfl ?_); refine store_event (t := 24) (p := 35) (v := ?vo_w39) (w1 := ((((((w36.setCell ⟨go26, 0, none⟩ (.int .i64 ((rd_T24 l0 (ji5)).f0))).setCell ⟨go26, 1, none⟩ (.int .i64 ((rd_T24 l0 (ji5)).f1))).setCell ⟨go26, 2, none⟩ (.int .i64 ((rd_T24 l0 (ji5)).f2))).setCell ⟨go26, 3, none⟩ (.int .i64 ((rd_T24 l0 (ji5)).f3))).setCell ⟨go26, 4, none⟩ (.int .i64 ((rd_T24 l0 (ji5)).f4))).setCell ⟨go26, 5, none⟩ (.string ((rd_T24 l0 (ji5)).f5)))) ?hg ?ho ?hn ?hr ?_; (case ho => rfl); (case hg => rfl); (case hn => rfl); (case hr => first | (go_simp; done) | (go_simp; rfl)); intro w39 hw; have hg : w36.grownBy w39 (some go26) := (by rw [hw]; exact HP38.2); have hp_ : Kd.R k24 24 w39 w.heap.size (fun k_ => k_ ≠ gb381 ∧ k_ ≠ gb394) (.slice (some ⟨go26, 0, none⟩) y389.length co32) y395 := (by rw [hw, Ny395.out]; exact HP38.1); clear HP38; have n0_ := A_ (blk_grown (g := gb381) (o := .cells #[.int .i64 0, .int .i64 0, .int .i64 0, .int .i64 0, .int .i64 0, .string (⟨#[]⟩ : ByteArray)] 24 (0, 0)) (by (with_reducible repeat (first | refine bn_ ?_ _ | refine bd_ ?_ | refine ba_ ?_ _)); exact BK381.out) hg (Kd.R_away HO391.out (fun _ hk => hk.1))); have n1_ := A_ (hp_); have n2_ := A_ (blk_grown (g := gb394) (o := .cells #[.int .i64 ((rd_T24 l0 (ji5)).f0), .int .i64 ((rd_T24 l0 (ji5)).f1), .int .i64 ((rd_T24 l0 (ji5)).f2), .int .i64 ((rd_T24 l0 (ji5)).f3), .int .i64 ((rd_T24 l0 (ji5)).f4), .string ((rd_T24 l0 (ji5)).f5)] 24 (0, 0)) (by (with_reducible repeat (first | refine bn_ ?_ _ | refine bd_ ?_ | refine ba_ ?_ _)); exact BK394.out) hg (Kd.R_away HO391.out (fun _ hk => hk.2))); have n3_ := A_ ((by rw [hw]; exact ws_ (ws_ (ws_ (ws_ (ws_ (ws_ (HB.out) GB26.out) GB26.out) GB26.out) GB26.out) GB26.out) GB26.out : Below w.heap.size w w39)); replace BK381 := n0_; replace HO391 := n1_; replace BK394 := n2_; replace HB := n3_; clear n0_ n1_ n2_ n3_; clear hg hw hp_))
   go_loopg [7] k (fun kq v7 w' => ∃ (x5_1 : List (S24)) (x7_1 : Int) (x382000_1 : Int) (x382001_1 : Int) (x382002_1 : Int) (x382003_1 : Int) (x382004_1 : Int) (x382005_1 : ByteArray) (x395000_1 : Int) (x395001_1 : Int) (x395002_1 : Int) (x395003_1 : Int) (x395004_1 : Int) (x395005_1 : ByteArray), v7 = .int .i64 x7_1 ∧ Aside0 (hopperref06_Pop.l0 kq l0 x5_1 x7_1 x395000_1 x395001_1 x395002_1 x395003_1 x395004_1 x395005_1 = some (r1, r2, r3, r4, r5, r6, r7, r8)) ∧ Aside0 (kq ≤ k) ∧ Aside0 (Kd.R k24 24 w' w.heap.size (fun k_ => k_ ≠ gb381 ∧ k_ ≠ gb394) (.slice (some ⟨go26, 0, none⟩) y389.length co32) x5_1) ∧ Aside0 (w'.heap[gb381]? = some (.cells #[.int .i64 x382000_1, .int .i64 x382001_1, .int .i64 x382002_1, .int .i64 x382003_1, .int .i64 x382004_1, .string x382005_1] 24 (0, 0))) ∧ Aside0 (w'.heap[gb394]? = some (.cells #[.int .i64 x395000_1, .int .i64 x395001_1, .int .i64 x395002_1, .int .i64 x395003_1, .int .i64 x395004_1, .string x395005_1] 24 (0, 0))) ∧ Aside0 (Below w.heap.size w w'))
   case atStart => exact ⟨(y395), (0), (0), (0), (0), (0), (0), ((⟨#[]⟩ : ByteArray)), ((rd_T24 l0 (ji5)).f0), ((rd_T24 l0 (ji5)).f1), ((rd_T24 l0 (ji5)).f2), ((rd_T24 l0 (ji5)).f3), ((rd_T24 l0 (ji5)).f4), ((rd_T24 l0 (ji5)).f5), (by first | rfl | (simp; done) | (simp [*]; done)), H', ⟨Nat.le_refl _⟩, ⟨by (with_reducible repeat (first | apply ra_ | apply rn_ | apply rd_)); exact HO391.out⟩, ⟨bk_⟩, ⟨bk_⟩, ⟨by repeat (first | (with_reducible first | exact HB.out | apply wa_ | apply wn_ | apply wd_ | refine ws_ ?_ GE381.out | refine ws_ ?_ GE394.out) | exact HB.out)⟩⟩
   case round =>
    clear H'; (try clear c1); (try clear q1); (try clear c2); (try clear c2b0); (try clear c2b1); (try clear c2b2); (try clear p2); (try clear q2); (try clear hx2); (try clear qi2); (try clear hf2); (try clear c3); (try clear p3); (try clear q3); (try clear hx3); (try clear qi3); (try clear hf3); (try clear c6); (try clear c6b0); (try clear c6b1); (try clear p6); (try clear c7); (try clear c7b0); (try clear c7b1); (try clear c8); (try clear c9); (try clear c9b0); (try clear c9b1); (try clear c9b2); (try clear c10); (try clear c10b0); (try clear c10b1); (try clear q14); (try clear c24); (try clear c24b0); (try clear c25); (try clear c25b0); (try clear c25b1); (try clear c26); (try clear p26); (try clear q26); (try clear hx26); (try clear qi26); (try clear hf26); (try clear q30); (try clear c34); (try clear c38); (try clear hx38); (try clear hf38); (try clear p39); (try clear q39); (try clear hx39); (try clear qi39); (try clear hcz35_0 hcz35_1 hcz35_2 hcz35_3 hcz35_4 hcz35_5); (try clear hcz37_0 hcz37_1 hcz37_2 hcz37_3 hcz37_4 hcz37_5); (try clear hcz4_0 hcz4_1 hcz4_2 hcz4_3 hcz4_4 hcz4_5); (try clear hfz35_0 hfz35_1 hfz35_2 hfz35_3 hfz35_4 hfz35_5); (try clear hfz37_0 hfz37_1 hfz37_2 hfz37_3 hfz37_4 hfz37_5); (try clear hfz4_0 hfz4_1 hfz4_2 hfz4_3 hfz4_4 hfz4_5); (try clear hx26_0); (try clear hx26_1); (try clear hx26_2); (try clear hx26_3); (try clear hx26_4); (try clear hx26_5); (try clear hx38_0); (try clear hx38_1); (try clear hx38_2); (try clear hx38_3); (try clear hx38_4); (try clear hx38_5); (try clear hx392_0); (try clear hx392_1); (try clear hx392_2); (try clear hx392_3); (try clear hx392_4); (try clear hx392_5); (try clear hx393_0); (try clear hx393_1); (try clear hx393_2); (try clear hx393_3); (try clear hx393_4); (try clear hx393_5); (try clear p26); (try clear p392); (try clear p393); (try clear q14); (try clear q26); (try clear q30); (try clear q392); (try clear q393)
    obtain ⟨x5_1, x7_1, x382000_1, x382001_1, x382002_1, x382003_1, x382004_1, x382005_1, x395000_1, x395001_1, x395002_1, x395003_1, x395004_1, x395005_1, rfl, HA, HK1, HO_5, BK381, BK394, HB⟩ := hrel
    have hl5_1 := (Kd.R_reads' HO_5.out).1
    rw [hl5_1] at HO_5
    (try simp only [hl5_1])
    (try simp only [hl5_1] at BK381)
    (try simp only [hl5_1] at BK394)
    cases gk with
    | zero => exact absurd HA.out (by simp [hopperref06_Pop.l0])
    | succ k1 =>
     have H := HA.out
     clear HA
     simp only [hopperref06_Pop.l0] at H
     replace H := Option.bind_eq_some_iff.mp H
     obtain ⟨t396, A400, H⟩ := H
     replace H : (if t396 < 0 then (if 0 < (l0.length : Int) then (some (x5_1, (rd_T24 l0 0).f0, (rd_T24 l0 0).f1, (rd_T24 l0 0).f2, (rd_T24 l0 0).f3, (rd_T24 l0 0).f4, (rd_T24 l0 0).f5, true)) else (none)) else (if 0 ≤ t396 then (if t396 < (x5_1.length : Int) then ((hopperref04_Better.f k1 ((rd_T24 x5_1 t396).f0) ((rd_T24 x5_1 t396).f1) ((rd_T24 x5_1 t396).f2) ((rd_T24 x5_1 t396).f3) ((rd_T24 x5_1 t396).f4) ((rd_T24 x5_1 t396).f5) x395000_1 x395001_1 x395002_1 x395003_1 x395004_1 x395005_1).bind fun t399 => (if t399 = true then (if 0 ≤ x7_1 then (if x7_1 < (x5_1.length : Int) then (hopperref06_Pop.l0 k1 l0 ((x5_1.set (x7_1 : Int).toNat (⟨(rd_T24 x5_1 t396).f0, (rd_T24 x5_1 t396).f1, (rd_T24 x5_1 t396).f2, (rd_T24 x5_1 t396).f3, (rd_T24 x5_1 t396).f4, (rd_T24 x5_1 t396).f5⟩ : S24)).set (t396 : Int).toNat (⟨x395000_1, x395001_1, x395002_1, x395003_1, x395004_1, x395005_1⟩ : S24)) t396 x395000_1 x395001_1 x395002_1 x395003_1 x395004_1 x395005_1) else (none)) else (none)) else (if 0 < (l0.length : Int) then (some (x5_1, (rd_T24 l0 0).f0, (rd_T24 l0 0).f1, (rd_T24 l0 0).f2, (rd_T24 l0 0).f3, (rd_T24 l0 0).f4, (rd_T24 l0 0).f5, true)) else (none)))) else (none)) else (none))) = some (r1, r2, r3, r4, r5, r6, r7, r8) := H
     have A40 := A_ A400
     clear A400
     by_cases c41 : t396 < 0
     · rw [if_pos c41] at H
       have c41b0 : decide (t396 < 0) = true := decide_eq_true c41
       clear c41
       by_cases c42 : 0 < (l0.length : Int)
       rotate_left
       · rw [if_neg c42] at H
         exact absurd H (by simp)
       rw [if_pos c42] at H
       have c42b0 : decide (0 < (l0.length : Int)) = true := decide_eq_true c42
       have c42b1 : decide (0 < l0.length) = true := decide_eq_true (by omega)
       clear c42
       simp only [Option.some.injEq, Prod.mk.injEq] at H
       obtain ⟨rfl, rfl, rfl, rfl, rfl, rfl, rfl, rfl⟩ := H
       try go_wp2_with (first | ((with_reducible refine gate_callee (f := 83) rfl ?_); refine goesL_ (some 38) rfl rfl Try.func83 (by kernel_rfl) rfl #[.slice (some ⟨go26, 0, none⟩) x5_1.length co32, .int .i64 x7_1] rfl (by (try simp only [m0_, m1_, m2_]); first | done | rfl) ?_; (with_reducible refine (hopperref06_below.calls k1 _ _ x5_1 x7_1 t396 _ ?side1 ?side2 A40.out).mono ?_); (case side1 => repeat (first | exact (Kd.R_reads' HO_5.out).2.2 | (with_reducible refine ca_ ?_ _) | (with_reducible refine cn_ ?_ _) | (with_reducible refine cd_ ?_))); (case side2 => exact (Kd.R_reads' HO_5.out).2.1); rintro e w43 ⟨rfl, hb⟩; refine ⟨_, rfl, ?_⟩; replace HO_5 := A_ (Kd.R_below (pr_ HO_5.out) hb); replace BK381 := A_ (kb_ BK381 hb); replace BK394 := A_ (kb_ BK394 hb); replace HB := A_ (below_step bw_ hb); (try clear hb); (try clear hb2); (try clear hk); (try clear hi)))
       have n0_ := A_ (rd_ HO_5.out); have n1_ := A_ (bd_ BK381.out); have n2_ := A_ (bd_ BK394.out); have n3_ := A_ (wd_ HB.out); replace HO_5 := n0_; replace BK381 := n1_; replace BK394 := n2_; replace HB := n3_; clear n0_ n1_ n2_ n3_
       refine start_ (n := 11) (S := fun w' => True) (ds := []) #[F,F,F,F,F,F,F,F,F,F,F] (by kernel_rfl) rfl rfl trivial (fun hHeld => ?_); refine with_tabW hopperref06_Pop.tab10 hopperref06_Pop.bits10 (fun HT_ HW_ => ?_)
       generalize w43.drew = w44 at HO_5 BK381 BK394 HB hHeld ⊢
       refine pq_ 0 39 HT_ ?_
       refine pq_ 1 40 HT_ ?_
       refine pq_ 2 41 HT_ ?_
       refine pu_ 3 42 HT_ ?_
       refine pu_ 4 43 HT_ ?_
       refine pu_ 5 44 HT_ ?_
       refine pu_ 6 45 HT_ ?_
       refine pu_ 7 46 HT_ ?_
       refine pu_ 8 47 HT_ ?_
       refine pu_ 9 48 HT_ ?_
       refine pq_ 10 49 HT_ ?_
       refine done_ (done_of HT_.out (by kernel_rfl)) ?_
       try go_wp2
       have n0_ := A_ (rd_ HO_5.out); have n1_ := A_ (bd_ BK381.out); have n2_ := A_ (bd_ BK394.out); have n3_ := A_ (wd_ HB.out); replace HO_5 := n0_; replace BK381 := n1_; replace BK394 := n2_; replace HB := n3_; clear n0_ n1_ n2_ n3_
       have p397 : 0 ≤ (0 : Int) := (by omega)
       have q397 : 0 < (l0.length : Int) := of_decide_eq_true (by first | (with_reducible assumption) | assumption)
       obtain ⟨ad397, e397, hx397_0, hx397_1, hx397_2, hx397_3, hx397_4, hx397_5⟩ := at_T24 HR0.out 0 p397 q397
       have hw397_5 := hx397_5
       (try rw [show ((0 : Int)).toNat = 0 from rfl] at hw397_5)
       (try rw [show 0 * 6 = 0 from rfl] at hw397_5)
       (try rw [Addr.add_zero'] at hw397_5)
       have hw397_4 := hx397_4
       (try rw [show ((0 : Int)).toNat = 0 from rfl] at hw397_4)
       (try rw [show 0 * 6 = 0 from rfl] at hw397_4)
       (try rw [Addr.add_zero'] at hw397_4)
       have hw397_3 := hx397_3
       (try rw [show ((0 : Int)).toNat = 0 from rfl] at hw397_3)
       (try rw [show 0 * 6 = 0 from rfl] at hw397_3)
       (try rw [Addr.add_zero'] at hw397_3)
       have hw397_2 := hx397_2
       (try rw [show ((0 : Int)).toNat = 0 from rfl] at hw397_2)
       (try rw [show 0 * 6 = 0 from rfl] at hw397_2)
       (try rw [Addr.add_zero'] at hw397_2)
       have hw397_1 := hx397_1
       (try rw [show ((0 : Int)).toNat = 0 from rfl] at hw397_1)
       (try rw [show 0 * 6 = 0 from rfl] at hw397_1)
       (try rw [Addr.add_zero'] at hw397_1)
       have hw397_0 := hx397_0
       (try rw [show ((0 : Int)).toNat = 0 from rfl] at hw397_0)
       (try rw [show 0 * 6 = 0 from rfl] at hw397_0)
       (try rw [Addr.add_zero'] at hw397_0)
       obtain rfl : ad393 = ad397 := (by injection e397)
       have qi397 : (0 < l0.length) = True := eq_true (by omega)
       (try rw [show ((0 : Int)).toNat = 0 from rfl] at hx397_0)
       (try rw [show 0 * 6 = 0 from rfl] at hx397_0)
       (try rw [Addr.add_zero'] at hx397_0)
       (try rw [show ((0 : Int)).toNat = 0 from rfl] at hx397_1)
       (try rw [show 0 * 6 = 0 from rfl] at hx397_1)
       (try rw [Addr.add_zero'] at hx397_1)
       (try rw [show ((0 : Int)).toNat = 0 from rfl] at hx397_2)
       (try rw [show 0 * 6 = 0 from rfl] at hx397_2)
       (try rw [Addr.add_zero'] at hx397_2)
       (try rw [show ((0 : Int)).toNat = 0 from rfl] at hx397_3)
       (try rw [show 0 * 6 = 0 from rfl] at hx397_3)
       (try rw [Addr.add_zero'] at hx397_3)
       (try rw [show ((0 : Int)).toNat = 0 from rfl] at hx397_4)
       (try rw [show 0 * 6 = 0 from rfl] at hx397_4)
       (try rw [Addr.add_zero'] at hx397_4)
       (try rw [show ((0 : Int)).toNat = 0 from rfl] at hx397_5)
       (try rw [show 0 * 6 = 0 from rfl] at hx397_5)
       (try rw [Addr.add_zero'] at hx397_5)
       replace hx397_0 := on_ HB.out hx397_0
       replace hx397_1 := on_ HB.out hx397_1
       replace hx397_2 := on_ HB.out hx397_2
       replace hx397_3 := on_ HB.out hx397_3
       replace hx397_4 := on_ HB.out hx397_4
       replace hx397_5 := on_ HB.out hx397_5
       replace p397 := eq_true p397
       replace q397 := eq_true q397
       refine start_ (n := 7) (S := fun w' => w'.cell? ad393 = some (.int .i64 ((rd_T24 l0 0).f0)) ∧ w'.cell? ⟨ad393.block, ad393.off + 1, none⟩ = some (.int .i64 ((rd_T24 l0 0).f1)) ∧ w'.cell? ⟨ad393.block, ad393.off + 2, none⟩ = some (.int .i64 ((rd_T24 l0 0).f2)) ∧ w'.cell? ⟨ad393.block, ad393.off + 3, none⟩ = some (.int .i64 ((rd_T24 l0 0).f3)) ∧ w'.cell? ⟨ad393.block, ad393.off + 4, none⟩ = some (.int .i64 ((rd_T24 l0 0).f4)) ∧ w'.cell? ⟨ad393.block, ad393.off + 5, none⟩ = some (.string ((rd_T24 l0 0).f5))) (ds := []) #[false, false, false, false, false, false, false] (by kernel_rfl) rfl rfl ⟨((HB.out.cell (World.block_lt_of_cell? w _ hw397_0)).trans hw397_0), ((HB.out.cell (World.block_lt_of_cell? w _ hw397_1)).trans hw397_1), ((HB.out.cell (World.block_lt_of_cell? w _ hw397_2)).trans hw397_2), ((HB.out.cell (World.block_lt_of_cell? w _ hw397_3)).trans hw397_3), ((HB.out.cell (World.block_lt_of_cell? w _ hw397_4)).trans hw397_4), ((HB.out.cell (World.block_lt_of_cell? w _ hw397_5)).trans hw397_5)⟩ (fun hHeld => ?_)
       generalize w44.drew = w45 at HO_5 BK381 BK394 HB hx397_0 hx397_1 hx397_2 hx397_3 hx397_4 hx397_5 hHeld ⊢
       refine pure_ (i := 0) (N := some 50) (v := ?_) (a' := ?_) #[true, false, false, false, false, false, false] rfl rfl (by kernel_rfl) (fun _ _ _ h => h) (Or.inl ⟨by rfl, ?_⟩) ?_ ?_
       rotate_left
       · intro w'
         go_simp
         with_reducible rfl
       rotate_left
       · simp only [Act.put, s0_, s1_, s2_, i64_w, i32_w]
         rfl
       refine pure_ (i := 1) (N := some 51) (v := ?_) (a' := ?_) #[true, true, false, false, false, false, false] rfl rfl (by kernel_rfl) (fun _ _ _ h => h) (Or.inl ⟨by rfl, ?_⟩) ?_ ?_
       rotate_left
       · intro w'
         go_simp
         with_reducible rfl
       rotate_left
       · simp only [Act.put, s0_, s1_, s2_, i64_w, i32_w]
         rfl
       refine pure_ (i := 2) (N := some 52) (v := ?_) (a' := ?_) #[true, true, true, false, false, false, false] rfl rfl (by kernel_rfl) (fun _ _ _ h => h) (Or.inl ⟨by rfl, ?_⟩) ?_ ?_
       rotate_left
       · intro w'
         go_simp
         with_reducible rfl
       rotate_left
       · simp only [Act.put, s0_, s1_, s2_, i64_w, i32_w]
         rfl
       refine pure_ (i := 4) (N := some 2) (v := ?_) (a' := ?_) #[true, true, true, false, true, false, false] rfl rfl (by kernel_rfl) (fun _ _ _ h => h) (Or.inl ⟨by rfl, ?_⟩) ?_ ?_
       rotate_left
       · intro w'
         go_simp
         with_reducible rfl
       rotate_left
       · simp only [Act.put, s0_, s1_, s2_, i64_w, i32_w]
         rfl
       refine take_ (i := 3) (N := some 53) (v := ?_) (a' := ?_) #[true, true, true, true, true, false, false] rfl rfl (by kernel_rfl) (fun _ _ _ h => h) (Or.inl ⟨by rfl, ?_⟩) hHeld ?_ ?_
       rotate_left
       · rintro w' ⟨s0, s1, s2, s3, s4, s5⟩
         go_simp
         with_reducible rfl
       rotate_left
       · simp only [Act.put, s0_, s1_, s2_, i64_w, i32_w]
         rfl
       refine one_ (i := 5) (N := none) #[true, true, true, true, true, true, false] rfl rfl (by kernel_rfl) (by decide) (fun K hK => ?_)
       have hs46 : w45.cell? ⟨gb381, 0, none⟩ = some (.int .i64 x382000_1) := e_ BK381 0
       have hfs46 := blk_frozen BK381.out 0
       have hns46_1 := NB394_381.out
       have hms46_1 := NB381_394.out
       have hs47 : w45.cell? ⟨gb381, 1, none⟩ = some (.int .i64 x382001_1) := e_ BK381 1
       have hfs47 := blk_frozen BK381.out 1
       have hns47_1 := NB394_381.out
       have hms47_1 := NB381_394.out
       have hs48 : w45.cell? ⟨gb381, 2, none⟩ = some (.int .i64 x382002_1) := e_ BK381 2
       have hfs48 := blk_frozen BK381.out 2
       have hns48_1 := NB394_381.out
       have hms48_1 := NB381_394.out
       have hs49 : w45.cell? ⟨gb381, 3, none⟩ = some (.int .i64 x382003_1) := e_ BK381 3
       have hfs49 := blk_frozen BK381.out 3
       have hns49_1 := NB394_381.out
       have hms49_1 := NB381_394.out
       have hs50 : w45.cell? ⟨gb381, 4, none⟩ = some (.int .i64 x382004_1) := e_ BK381 4
       have hfs50 := blk_frozen BK381.out 4
       have hns50_1 := NB394_381.out
       have hms50_1 := NB381_394.out
       have hs51 : w45.cell? ⟨gb381, 5, none⟩ = some (.string x382005_1) := e_ BK381 5
       have hfs51 := blk_frozen BK381.out 5
       have hns51_1 := NB394_381.out
       have hms51_1 := NB381_394.out
       refine skip_ (w1 := ?_) (by rfl) rfl ?_ ?_
       rotate_left
       · go_simp
         rfl
       refine hK.out _ _ ⟨(cf_ hw397_0 GW381.out ((cf_ hw397_0 GW381.out ((cf_ hw397_0 GW381.out ((cf_ hw397_0 GW381.out ((cf_ hw397_0 GW381.out ((cf_ hw397_0 GW381.out (hHeld.1)))))))))))), (cf_ hw397_1 GW381.out ((cf_ hw397_1 GW381.out ((cf_ hw397_1 GW381.out ((cf_ hw397_1 GW381.out ((cf_ hw397_1 GW381.out ((cf_ hw397_1 GW381.out (hHeld.2.1)))))))))))), (cf_ hw397_2 GW381.out ((cf_ hw397_2 GW381.out ((cf_ hw397_2 GW381.out ((cf_ hw397_2 GW381.out ((cf_ hw397_2 GW381.out ((cf_ hw397_2 GW381.out (hHeld.2.2.1)))))))))))), (cf_ hw397_3 GW381.out ((cf_ hw397_3 GW381.out ((cf_ hw397_3 GW381.out ((cf_ hw397_3 GW381.out ((cf_ hw397_3 GW381.out ((cf_ hw397_3 GW381.out (hHeld.2.2.2.1)))))))))))), (cf_ hw397_4 GW381.out ((cf_ hw397_4 GW381.out ((cf_ hw397_4 GW381.out ((cf_ hw397_4 GW381.out ((cf_ hw397_4 GW381.out ((cf_ hw397_4 GW381.out (hHeld.2.2.2.2.1)))))))))))), (cf_ hw397_5 GW381.out ((cf_ hw397_5 GW381.out ((cf_ hw397_5 GW381.out ((cf_ hw397_5 GW381.out ((cf_ hw397_5 GW381.out ((cf_ hw397_5 GW381.out (hHeld.2.2.2.2.2))))))))))))⟩ (fun hHeld => ?_)
       clear hK K
       refine pure_ (i := 6) (N := some 4) (v := ?_) (a' := ?_) #[true, true, true, true, true, true, true] rfl rfl (by kernel_rfl) (fun _ _ _ h => h) (Or.inl ⟨by rfl, ?_⟩) ?_ ?_
       rotate_left
       · intro w'
         go_simp
         with_reducible rfl
       rotate_left
       · simp only [Act.put, s0_, s1_, s2_, i64_w, i32_w]
         rfl
       refine done_ (by kernel_rfl) ?_
       try go_wp2
       refine bodyPost_ret (results_list (rs := [.tmp 2, .cell 3 24, .tmp 4]) rfl (by simp) (.tmp (.cell gb381 24 #[.int .i64 ((rd_T24 l0 0).f0), .int .i64 ((rd_T24 l0 0).f1), .int .i64 ((rd_T24 l0 0).f2), .int .i64 ((rd_T24 l0 0).f3), .int .i64 ((rd_T24 l0 0).f4), .string ((rd_T24 l0 0).f5)] (0, 0) _ rfl (by exact pk_ (b6_ BK381.out)) Try.underlying24 rfl (by kernel_rfl) (.tmp .nil)))) rfl ?_
       exact ⟨_, by first | rfl | (simp [errW_none, errW_some] <;> rfl) | (simp only [← hji5]; first | rfl | (simp [errW_none, errW_some] <;> rfl)) | (simp [*, errW_none, errW_some] <;> rfl), by (with_reducible repeat (first | apply ra_ | apply rn_ | apply rd_)); exact Kd.R_mono (f6_ (g := gb381) (Kd.R_mono HO_5.out (fun k_ hk => (⟨hk, hk.1⟩ : _ ∧ k_ ≠ gb381))) (fun _ hk => hk.2) (.int .i64 ((rd_T24 l0 0).f0)) (.int .i64 ((rd_T24 l0 0).f1)) (.int .i64 ((rd_T24 l0 0).f2)) (.int .i64 ((rd_T24 l0 0).f3)) (.int .i64 ((rd_T24 l0 0).f4)) (.string ((rd_T24 l0 0).f5))) (fun _ hk => trivial), by repeat (first | (with_reducible first | exact HB.out | apply wa_ | apply wn_ | apply wd_ | refine ws_ ?_ GE381.out | refine ws_ ?_ GE394.out) | exact HB.out)⟩
     · rw [if_neg c41] at H
       have c41b0 : decide (t396 < 0) = false := decide_eq_false c41
       clear c41
       by_cases c52 : 0 ≤ t396
       rotate_left
       · rw [if_neg c52] at H
         exact absurd H (by simp)
       rw [if_pos c52] at H
       have c52b0 : decide (0 ≤ t396) = true := decide_eq_true c52
       clear c52
       by_cases c53 : t396 < (x5_1.length : Int)
       rotate_left
       · rw [if_neg c53] at H
         exact absurd H (by simp)
       rw [if_pos c53] at H
       have c53b0 : decide (t396 < (x5_1.length : Int)) = true := decide_eq_true c53
       clear c53
       replace H := Option.bind_eq_some_iff.mp H
       obtain ⟨t399, A540, H⟩ := H
       replace H : (if t399 = true then (if 0 ≤ x7_1 then (if x7_1 < (x5_1.length : Int) then (hopperref06_Pop.l0 k1 l0 ((x5_1.set (x7_1 : Int).toNat (⟨(rd_T24 x5_1 t396).f0, (rd_T24 x5_1 t396).f1, (rd_T24 x5_1 t396).f2, (rd_T24 x5_1 t396).f3, (rd_T24 x5_1 t396).f4, (rd_T24 x5_1 t396).f5⟩ : S24)).set (t396 : Int).toNat (⟨x395000_1, x395001_1, x395002_1, x395003_1, x395004_1, x395005_1⟩ : S24)) t396 x395000_1 x395001_1 x395002_1 x395003_1 x395004_1 x395005_1) else (none)) else (none)) else (if 0 < (l0.length : Int) then (some (x5_1, (rd_T24 l0 0).f0, (rd_T24 l0 0).f1, (rd_T24 l0 0).f2, (rd_T24 l0 0).f3, (rd_T24 l0 0).f4, (rd_T24 l0 0).f5, true)) else (none))) = some (r1, r2, r3, r4, r5, r6, r7, r8) := H
       have A54 := A_ A540
       clear A540
       by_cases c55 : t399 = true
       · subst c55
         have H1 : (if 0 ≤ x7_1 then (if x7_1 < (x5_1.length : Int) then (hopperref06_Pop.l0 k1 l0 ((x5_1.set (x7_1 : Int).toNat (⟨(rd_T24 x5_1 t396).f0, (rd_T24 x5_1 t396).f1, (rd_T24 x5_1 t396).f2, (rd_T24 x5_1 t396).f3, (rd_T24 x5_1 t396).f4, (rd_T24 x5_1 t396).f5⟩ : S24)).set (t396 : Int).toNat (⟨x395000_1, x395001_1, x395002_1, x395003_1, x395004_1, x395005_1⟩ : S24)) t396 x395000_1 x395001_1 x395002_1 x395003_1 x395004_1 x395005_1) else (none)) else (none)) = some (r1, r2, r3, r4, r5, r6, r7, r8) := by rw [if_pos rfl] at H; exact H
         clear H
         have H := H1
         clear H1
         by_cases c56 : 0 ≤ x7_1
         rotate_left
         · rw [if_neg c56] at H
           exact absurd H (by simp)
         rw [if_pos c56] at H
         have c56b0 : decide (0 ≤ x7_1) = true := decide_eq_true c56
         clear c56
         by_cases c57 : x7_1 < (x5_1.length : Int)
         rotate_left
         · rw [if_neg c57] at H
           exact absurd H (by simp)
         rw [if_pos c57] at H
         have c57b0 : decide (x7_1 < (x5_1.length : Int)) = true := decide_eq_true c57
         clear c57
         obtain ⟨y401, hy401⟩ : ∃ y_ : List (S24), y_ = (x5_1.set (x7_1 : Int).toNat (⟨(rd_T24 x5_1 t396).f0, (rd_T24 x5_1 t396).f1, (rd_T24 x5_1 t396).f2, (rd_T24 x5_1 t396).f3, (rd_T24 x5_1 t396).f4, (rd_T24 x5_1 t396).f5⟩ : S24)) := ⟨_, rfl⟩
         replace H : (hopperref06_Pop.l0 k1 l0 (y401.set (t396 : Int).toNat (⟨x395000_1, x395001_1, x395002_1, x395003_1, x395004_1, x395005_1⟩ : S24)) t396 x395000_1 x395001_1 x395002_1 x395003_1 x395004_1 x395005_1) = some (r1, r2, r3, r4, r5, r6, r7, r8) := by first | (rw [hy401]; with_reducible exact H) | (have H2_ := (Option.bind_some _ _).symm.trans H; rw [hy401]; with_reducible exact H2_) | (have H2_ := (Option.bind_some _ _).symm.trans H; with_reducible exact H2_) | with_reducible exact H | (rw [hy401]; exact H) | exact H
         have Ny401 := A_ hy401
         clear hy401
         obtain ⟨y402, hy402⟩ : ∃ y_ : List (S24), y_ = (y401.set (t396 : Int).toNat (⟨x395000_1, x395001_1, x395002_1, x395003_1, x395004_1, x395005_1⟩ : S24)) := ⟨_, rfl⟩
         replace H : (hopperref06_Pop.l0 k1 l0 y402 t396 x395000_1 x395001_1 x395002_1 x395003_1 x395004_1 x395005_1) = some (r1, r2, r3, r4, r5, r6, r7, r8) := by first | (rw [hy402]; with_reducible exact H) | (have H2_ := (Option.bind_some _ _).symm.trans H; rw [hy402]; with_reducible exact H2_) | (have H2_ := (Option.bind_some _ _).symm.trans H; with_reducible exact H2_) | with_reducible exact H | (rw [hy402]; exact H) | exact H
         have Ny402 := A_ hy402
         clear hy402
         have H' := A_ H
         clear H
         try go_wp2_with (first | ((with_reducible refine gate_callee (f := 83) rfl ?_); refine goesL_ (some 38) rfl rfl Try.func83 (by kernel_rfl) rfl #[.slice (some ⟨go26, 0, none⟩) x5_1.length co32, .int .i64 x7_1] rfl (by (try simp only [m0_, m1_, m2_]); first | done | rfl) ?_; (with_reducible refine (hopperref06_below.calls k1 _ _ x5_1 x7_1 t396 _ ?side1 ?side2 A40.out).mono ?_); (case side1 => repeat (first | exact (Kd.R_reads' HO_5.out).2.2 | (with_reducible refine ca_ ?_ _) | (with_reducible refine cn_ ?_ _) | (with_reducible refine cd_ ?_))); (case side2 => exact (Kd.R_reads' HO_5.out).2.1); rintro e w60 ⟨rfl, hb⟩; refine ⟨_, rfl, ?_⟩; replace HO_5 := A_ (Kd.R_below (pr_ HO_5.out) hb); replace BK381 := A_ (kb_ BK381 hb); replace BK394 := A_ (kb_ BK394 hb); replace HB := A_ (below_step bw_ hb); (try clear hb); (try clear hb2); (try clear hk); (try clear hi)))
         have n0_ := A_ (rd_ HO_5.out); have n1_ := A_ (bd_ BK381.out); have n2_ := A_ (bd_ BK394.out); have n3_ := A_ (wd_ HB.out); replace HO_5 := n0_; replace BK381 := n1_; replace BK394 := n2_; replace HB := n3_; clear n0_ n1_ n2_ n3_
         have p398 : 0 ≤ (t396 : Int) := of_decide_eq_true (by first | (with_reducible assumption) | assumption)
         have q398 : t396 < (x5_1.length : Int) := of_decide_eq_true (by first | (with_reducible assumption) | assumption)
         obtain ⟨ad398, e398, hx398_0, hx398_1, hx398_2, hx398_3, hx398_4, hx398_5⟩ := at_T24 (Kd.R_reads' HO_5.out).2.2 t396 p398 q398
         obtain rfl : (⟨go26, 0, none⟩ : Addr) = ad398 := (by injection e398)
         (first | simp only [add_plain] at hx398_0 | simp only [add_at] at hx398_0 | simp only [Addr.add, Nat.zero_add] at hx398_0 | skip)
         (first | simp only [add_plain] at hx398_1 | simp only [add_at] at hx398_1 | simp only [Addr.add, Nat.zero_add] at hx398_1 | skip)
         (first | simp only [add_plain] at hx398_2 | simp only [add_at] at hx398_2 | simp only [Addr.add, Nat.zero_add] at hx398_2 | skip)
         (first | simp only [add_plain] at hx398_3 | simp only [add_at] at hx398_3 | simp only [Addr.add, Nat.zero_add] at hx398_3 | skip)
         (first | simp only [add_plain] at hx398_4 | simp only [add_at] at hx398_4 | simp only [Addr.add, Nat.zero_add] at hx398_4 | skip)
         (first | simp only [add_plain] at hx398_5 | simp only [add_at] at hx398_5 | simp only [Addr.add, Nat.zero_add] at hx398_5 | skip)
         replace p398 := eq_true p398
         replace q398 := eq_true q398
         refine start_ (n := 11) (S := fun w' => w'.cell? ⟨gb394, 0, none⟩ = some (.int .i64 x395000_1) ∧ w'.cell? ⟨gb394, 1, none⟩ = some (.int .i64 x395001_1) ∧ w'.cell? ⟨gb394, 2, none⟩ = some (.int .i64 x395002_1) ∧ w'.cell? ⟨gb394, 3, none⟩ = some (.int .i64 x395003_1) ∧ w'.cell? ⟨gb394, 4, none⟩ = some (.int .i64 x395004_1) ∧ w'.cell? ⟨gb394, 5, none⟩ = some (.string x395005_1) ∧ w'.cell? ⟨go26, (t396).toNat * 6, none⟩ = some (.int .i64 ((rd_T24 x5_1 t396).f0)) ∧ w'.cell? ⟨go26, (t396).toNat * 6 + 1, none⟩ = some (.int .i64 ((rd_T24 x5_1 t396).f1)) ∧ w'.cell? ⟨go26, (t396).toNat * 6 + 2, none⟩ = some (.int .i64 ((rd_T24 x5_1 t396).f2)) ∧ w'.cell? ⟨go26, (t396).toNat * 6 + 3, none⟩ = some (.int .i64 ((rd_T24 x5_1 t396).f3)) ∧ w'.cell? ⟨go26, (t396).toNat * 6 + 4, none⟩ = some (.int .i64 ((rd_T24 x5_1 t396).f4)) ∧ w'.cell? ⟨go26, (t396).toNat * 6 + 5, none⟩ = some (.string ((rd_T24 x5_1 t396).f5))) (ds := []) #[F,F,F,F,F,F,F,F,F,F,F] (by kernel_rfl) rfl rfl ⟨e_ BK394 0, e_ BK394 1, e_ BK394 2, e_ BK394 3, e_ BK394 4, e_ BK394 5, hx398_0, hx398_1, hx398_2, hx398_3, hx398_4, hx398_5⟩ (fun hHeld => ?_); refine with_tabW hopperref06_Pop.tab10 hopperref06_Pop.bits10 (fun HT_ HW_ => ?_)
         generalize w60.drew = w61 at HO_5 BK381 BK394 HB hx398_0 hx398_1 hx398_2 hx398_3 hx398_4 hx398_5 hHeld ⊢
         refine pq_ 0 39 HT_ ?_
         refine pq_ 1 40 HT_ ?_
         refine pq_ 2 41 HT_ ?_
         refine pq_ 3 42 HT_ ?_
         refine pq_ 4 43 HT_ ?_
         refine pq_ 5 44 HT_ ?_
         refine tk_ 6 45 HT_ HW_ hHeld ?_
         refine tk_ 7 46 HT_ HW_ hHeld ?_
         refine one_ (i := 8) (N := some 47) #[T,T,T,T,T,T,T,T,T,F,F] rfl rfl (one_of HT_.out (by kernel_rfl)) (by decide) (fun K hK => ?_)
         refine goes_ Try.func49 (by kernel_rfl) rfl #[.agg #[.int .i64 ((rd_T24 x5_1 t396).f0), .int .i64 ((rd_T24 x5_1 t396).f1), .int .i64 ((rd_T24 x5_1 t396).f2), .int .i64 ((rd_T24 x5_1 t396).f3), .int .i64 ((rd_T24 x5_1 t396).f4), .string ((rd_T24 x5_1 t396).f5)], .agg #[.int .i64 x395000_1, .int .i64 x395001_1, .int .i64 x395002_1, .int .i64 x395003_1, .int .i64 x395004_1, .string x395005_1]] (by rfl) rfl rfl (by (try simp only [m0_, m1_, m2_]); first | done | rfl) ?_
         with_reducible refine (hopperref04_Better.calls k1 ((rd_T24 x5_1 t396).f0) ((rd_T24 x5_1 t396).f1) ((rd_T24 x5_1 t396).f2) ((rd_T24 x5_1 t396).f3) ((rd_T24 x5_1 t396).f4) ((rd_T24 x5_1 t396).f5) x395000_1 x395001_1 x395002_1 x395003_1 x395004_1 x395005_1 true _ A54.out).mono ?_
         rintro e w62 ⟨rfl, hb⟩
         obtain ⟨_, _, _, _, _, _, h6_, h7_, h8_, h9_, h10_, h11_⟩ := hHeld
         have o_ := fun (p_ : Addr) (v_ : Value) => @on_ _ _ p_ v_ hb
         refine ⟨_, rfl, ?_⟩
         have n0_ := A_ (Kd.R_below (pr_ HO_5.out) hb); have n1_ := A_ (kb_ BK381 hb); have n2_ := A_ (kb_ BK394 hb); have n3_ := A_ (below_step bw_ hb); replace HO_5 := n0_; replace BK381 := n1_; replace BK394 := n2_; replace HB := n3_; clear n0_ n1_ n2_ n3_
         (try clear hb)
         (try clear hb2)
         (try clear hk)
         (try clear hi)
         refine hK.out _ _ ⟨e_ BK394 0, e_ BK394 1, e_ BK394 2, e_ BK394 3, e_ BK394 4, e_ BK394 5, o_ _ _ h6_, o_ _ _ h7_, o_ _ _ h8_, o_ _ _ h9_, o_ _ _ h10_, o_ _ _ h11_⟩ (fun hHeld => ?_)
         clear hK K
         refine norm_ (a' := ?_) ?_ ?_
         rotate_left
         · show Act.put _ (some 47) _ = _
           simp only [Act.put, s0_, s1_, s2_, i64_w, i32_w]
           rfl
         refine pq_ 9 48 HT_ ?_
         refine pq_ 10 49 HT_ ?_
         refine done_ (done_of HT_.out (by kernel_rfl)) ?_
         have p400 : 0 ≤ (t396 : Int) := of_decide_eq_true (by first | (with_reducible assumption) | assumption)
         have q400 : t396 < (x5_1.length : Int) := of_decide_eq_true (by first | (with_reducible assumption) | assumption)
         obtain ⟨ad400, e400, hx400_0, hx400_1, hx400_2, hx400_3, hx400_4, hx400_5⟩ := at_T24 (Kd.R_reads' HO_5.out).2.2 t396 p400 q400
         obtain rfl : (⟨go26, 0, none⟩ : Addr) = ad400 := (by injection e400)
         (first | simp only [add_plain] at hx400_0 | simp only [add_at] at hx400_0 | simp only [Addr.add, Nat.zero_add] at hx400_0 | skip)
         (first | simp only [add_plain] at hx400_1 | simp only [add_at] at hx400_1 | simp only [Addr.add, Nat.zero_add] at hx400_1 | skip)
         (first | simp only [add_plain] at hx400_2 | simp only [add_at] at hx400_2 | simp only [Addr.add, Nat.zero_add] at hx400_2 | skip)
         (first | simp only [add_plain] at hx400_3 | simp only [add_at] at hx400_3 | simp only [Addr.add, Nat.zero_add] at hx400_3 | skip)
         (first | simp only [add_plain] at hx400_4 | simp only [add_at] at hx400_4 | simp only [Addr.add, Nat.zero_add] at hx400_4 | skip)
         (first | simp only [add_plain] at hx400_5 | simp only [add_at] at hx400_5 | simp only [Addr.add, Nat.zero_add] at hx400_5 | skip)
         replace p400 := eq_true p400
         replace q400 := eq_true q400
         have p58 : 0 ≤ (x7_1 : Int) := of_decide_eq_true (by first | (with_reducible assumption) | assumption)
         have q58 : (x7_1 : Int) < ((x5_1.length : Int) : Int) := of_decide_eq_true (by first | (with_reducible assumption) | assumption)
         obtain ⟨ce58, hcl58, hM58, hcc58, hfr58⟩ := Kd.R_elem HO_5.out z24 (x7_1 : Int) p58 q58
         obtain rfl := k24_openM hM58
         have hx58_0 : w62.cell? ⟨go26, (x7_1 : Int).toNat * 6, none⟩ = some (.int .i64 ((rd_T24 x5_1 x7_1).f0)) := hcc58 0 _ rfl
         have hx58_1 : w62.cell? ⟨go26, (x7_1 : Int).toNat * 6 + 1, none⟩ = some (.int .i64 ((rd_T24 x5_1 x7_1).f1)) := hcc58 1 _ rfl
         have hx58_2 : w62.cell? ⟨go26, (x7_1 : Int).toNat * 6 + 2, none⟩ = some (.int .i64 ((rd_T24 x5_1 x7_1).f2)) := hcc58 2 _ rfl
         have hx58_3 : w62.cell? ⟨go26, (x7_1 : Int).toNat * 6 + 3, none⟩ = some (.int .i64 ((rd_T24 x5_1 x7_1).f3)) := hcc58 3 _ rfl
         have hx58_4 : w62.cell? ⟨go26, (x7_1 : Int).toNat * 6 + 4, none⟩ = some (.int .i64 ((rd_T24 x5_1 x7_1).f4)) := hcc58 4 _ rfl
         have hx58_5 : w62.cell? ⟨go26, (x7_1 : Int).toNat * 6 + 5, none⟩ = some (.string ((rd_T24 x5_1 x7_1).f5)) := hcc58 5 _ rfl
         have hf58_0 : w62.frozen? ⟨go26, (x7_1 : Int).toNat * 6, none⟩ = false := hfr58 0
         have hf58_1 : w62.frozen? ⟨go26, (x7_1 : Int).toNat * 6 + 1, none⟩ = false := hfr58 1
         have hf58_2 : w62.frozen? ⟨go26, (x7_1 : Int).toNat * 6 + 2, none⟩ = false := hfr58 2
         have hf58_3 : w62.frozen? ⟨go26, (x7_1 : Int).toNat * 6 + 3, none⟩ = false := hfr58 3
         have hf58_4 : w62.frozen? ⟨go26, (x7_1 : Int).toNat * 6 + 4, none⟩ = false := hfr58 4
         have hf58_5 : w62.frozen? ⟨go26, (x7_1 : Int).toNat * 6 + 5, none⟩ = false := hfr58 5
         clear hcl58 hcc58 hfr58 hM58
         replace p58 := eq_true p58
         replace q58 := eq_true q58
         have HX63 := A_ (show Kd.R k24 24 w62 w.heap.size (fun k_ => k_ ≠ gb381 ∧ k_ ≠ gb394) (.slice (some ⟨go26, 0, none⟩) x5_1.length co32) x5_1 from (pr_ HO_5.out))
         obtain ⟨ce63, hcl63, hM63, hcc63, hfr63⟩ := Kd.R_elem HX63.out z24 (x7_1 : Int) (of_decide_eq_true (by first | (with_reducible assumption) | assumption)) (by have h_ : (x7_1 : Int) < ((x5_1.length : Int) : Int) := of_decide_eq_true (by first | (with_reducible assumption) | assumption); first | exact h_ | (have e_ := (Kd.R_reads' HO_5.out).1; omega) | simpa using h_)
         obtain rfl := k24_openM hM63
         have HP63 := Kd.R_seg HX63.out (x7_1 : Int) (of_decide_eq_true (by first | (with_reducible assumption) | assumption)) (by have h_ : (x7_1 : Int) < ((x5_1.length : Int) : Int) := of_decide_eq_true (by first | (with_reducible assumption) | assumption); first | exact h_ | (have e_ := (Kd.R_reads' HO_5.out).1; omega) | simpa using h_) (seg := [.int .i64 ((rd_T24 x5_1 t396).f0), .int .i64 ((rd_T24 x5_1 t396).f1), .int .i64 ((rd_T24 x5_1 t396).f2), .int .i64 ((rd_T24 x5_1 t396).f3), .int .i64 ((rd_T24 x5_1 t396).f4), .string ((rd_T24 x5_1 t396).f5)]) (j := 0) hcl63 hcc63 (show 6 ≤ 6 from by decide) (x' := (⟨(rd_T24 x5_1 t396).f0, (rd_T24 x5_1 t396).f1, (rd_T24 x5_1 t396).f2, (rd_T24 x5_1 t396).f3, (rd_T24 x5_1 t396).f4, (rd_T24 x5_1 t396).f5⟩ : S24)) (k24_mkM _ _ _ (⟨(rd_T24 x5_1 t396).f0, (rd_T24 x5_1 t396).f1, (rd_T24 x5_1 t396).f2, (rd_T24 x5_1 t396).f3, (rd_T24 x5_1 t396).f4, (rd_T24 x5_1 t396).f5⟩ : S24) ) (fun _ hk => hk)
         have hx63_0 := hcc63 0 _ rfl
         (try simp only [show (k24).sz = 6 from rfl, Nat.mul_one, Nat.add_zero] at hx63_0)
         have hf63_0 := hfr63 0
         (try simp only [show (k24).sz = 6 from rfl, Nat.mul_one, Nat.add_zero] at hf63_0)
         have hx63_1 := hcc63 1 _ rfl
         (try simp only [show (k24).sz = 6 from rfl, Nat.mul_one, Nat.add_zero] at hx63_1)
         have hf63_1 := hfr63 1
         (try simp only [show (k24).sz = 6 from rfl, Nat.mul_one, Nat.add_zero] at hf63_1)
         have hx63_2 := hcc63 2 _ rfl
         (try simp only [show (k24).sz = 6 from rfl, Nat.mul_one, Nat.add_zero] at hx63_2)
         have hf63_2 := hfr63 2
         (try simp only [show (k24).sz = 6 from rfl, Nat.mul_one, Nat.add_zero] at hf63_2)
         have hx63_3 := hcc63 3 _ rfl
         (try simp only [show (k24).sz = 6 from rfl, Nat.mul_one, Nat.add_zero] at hx63_3)
         have hf63_3 := hfr63 3
         (try simp only [show (k24).sz = 6 from rfl, Nat.mul_one, Nat.add_zero] at hf63_3)
         have hx63_4 := hcc63 4 _ rfl
         (try simp only [show (k24).sz = 6 from rfl, Nat.mul_one, Nat.add_zero] at hx63_4)
         have hf63_4 := hfr63 4
         (try simp only [show (k24).sz = 6 from rfl, Nat.mul_one, Nat.add_zero] at hf63_4)
         have hx63_5 := hcc63 5 _ rfl
         (try simp only [show (k24).sz = 6 from rfl, Nat.mul_one, Nat.add_zero] at hx63_5)
         have hf63_5 := hfr63 5
         (try simp only [show (k24).sz = 6 from rfl, Nat.mul_one, Nat.add_zero] at hf63_5)
         clear hcl63 hcc63 hfr63 hM63
         try go_wp2_with (first | ((with_reducible refine gate_store (t := 24) (p := 60) rfl ?_); refine store_event (t := 24) (p := 60) (v := ?vo_w64) (w1 := ((((((w62.setCell ⟨go26, (x7_1 : Int).toNat * 6, none⟩ (.int .i64 ((rd_T24 x5_1 t396).f0))).setCell ⟨go26, (x7_1 : Int).toNat * 6 + 1, none⟩ (.int .i64 ((rd_T24 x5_1 t396).f1))).setCell ⟨go26, (x7_1 : Int).toNat * 6 + 2, none⟩ (.int .i64 ((rd_T24 x5_1 t396).f2))).setCell ⟨go26, (x7_1 : Int).toNat * 6 + 3, none⟩ (.int .i64 ((rd_T24 x5_1 t396).f3))).setCell ⟨go26, (x7_1 : Int).toNat * 6 + 4, none⟩ (.int .i64 ((rd_T24 x5_1 t396).f4))).setCell ⟨go26, (x7_1 : Int).toNat * 6 + 5, none⟩ (.string ((rd_T24 x5_1 t396).f5)))) ?hg ?ho ?hn ?hr ?_; (case ho => rfl); (case hg => rfl); (case hn => rfl); (case hr => first | (go_simp; done) | (go_simp; rfl)); intro w64 hw; have hg : w62.grownBy w64 (some go26) := (by rw [hw]; exact HP63.2); have hp_ : Kd.R k24 24 w64 w.heap.size (fun k_ => k_ ≠ gb381 ∧ k_ ≠ gb394) (.slice (some ⟨go26, 0, none⟩) x5_1.length co32) y401 := (by rw [hw, Ny401.out]; exact HP63.1); clear HP63; have n0_ := A_ (hp_); have n1_ := A_ (blk_grown (g := gb381) (o := .cells #[.int .i64 x382000_1, .int .i64 x382001_1, .int .i64 x382002_1, .int .i64 x382003_1, .int .i64 x382004_1, .string x382005_1] 24 (0, 0)) (by (with_reducible repeat (first | refine bn_ ?_ _ | refine bd_ ?_ | refine ba_ ?_ _)); exact BK381.out) hg (Kd.R_away HO_5.out (fun _ hk => hk.1))); have n2_ := A_ (blk_grown (g := gb394) (o := .cells #[.int .i64 x395000_1, .int .i64 x395001_1, .int .i64 x395002_1, .int .i64 x395003_1, .int .i64 x395004_1, .string x395005_1] 24 (0, 0)) (by (with_reducible repeat (first | refine bn_ ?_ _ | refine bd_ ?_ | refine ba_ ?_ _)); exact BK394.out) hg (Kd.R_away HO_5.out (fun _ hk => hk.2))); have n3_ := A_ ((by rw [hw]; exact ws_ (ws_ (ws_ (ws_ (ws_ (ws_ (HB.out) GB26.out) GB26.out) GB26.out) GB26.out) GB26.out) GB26.out : Below w.heap.size w w64)); replace HO_5 := n0_; replace BK381 := n1_; replace BK394 := n2_; replace HB := n3_; clear n0_ n1_ n2_ n3_; clear hg hw hp_; have hnb65 := NB394_381.out; have hnc65 := NB381_394.out; have hcz66_0 : w64.cell? ⟨gb394, 0, none⟩ = some (.int .i64 x395000_1) := e_ BK394 0; have hcz66_1 : w64.cell? ⟨gb394, 1, none⟩ = some (.int .i64 x395001_1) := e_ BK394 1; have hcz66_2 : w64.cell? ⟨gb394, 2, none⟩ = some (.int .i64 x395002_1) := e_ BK394 2; have hcz66_3 : w64.cell? ⟨gb394, 3, none⟩ = some (.int .i64 x395003_1) := e_ BK394 3; have hcz66_4 : w64.cell? ⟨gb394, 4, none⟩ = some (.int .i64 x395004_1) := e_ BK394 4; have hcz66_5 : w64.cell? ⟨gb394, 5, none⟩ = some (.string x395005_1) := e_ BK394 5; obtain ⟨hfz66_0, hfz66_1, hfz66_2, hfz66_3, hfz66_4, hfz66_5⟩ := z6_ BK394; have p59 : 0 ≤ (t396 : Int) := of_decide_eq_true (by first | (with_reducible assumption) | assumption); have q59 : (t396 : Int) < ((x5_1.length : Int) : Int) := of_decide_eq_true (by first | (with_reducible assumption) | assumption); obtain ⟨ce59, hcl59, hM59, hcc59, hfr59⟩ := Kd.R_elem HO_5.out z24 (t396 : Int) p59 q59; obtain rfl := k24_openM hM59; have hx59_0 : w64.cell? ⟨go26, (t396 : Int).toNat * 6, none⟩ = some (.int .i64 ((rd_T24 y401 t396).f0)) := hcc59 0 _ rfl; have hx59_1 : w64.cell? ⟨go26, (t396 : Int).toNat * 6 + 1, none⟩ = some (.int .i64 ((rd_T24 y401 t396).f1)) := hcc59 1 _ rfl; have hx59_2 : w64.cell? ⟨go26, (t396 : Int).toNat * 6 + 2, none⟩ = some (.int .i64 ((rd_T24 y401 t396).f2)) := hcc59 2 _ rfl; have hx59_3 : w64.cell? ⟨go26, (t396 : Int).toNat * 6 + 3, none⟩ = some (.int .i64 ((rd_T24 y401 t396).f3)) := hcc59 3 _ rfl; have hx59_4 : w64.cell? ⟨go26, (t396 : Int).toNat * 6 + 4, none⟩ = some (.int .i64 ((rd_T24 y401 t396).f4)) := hcc59 4 _ rfl; have hx59_5 : w64.cell? ⟨go26, (t396 : Int).toNat * 6 + 5, none⟩ = some (.string ((rd_T24 y401 t396).f5)) := hcc59 5 _ rfl; have hf59_0 : w64.frozen? ⟨go26, (t396 : Int).toNat * 6, none⟩ = false := hfr59 0; have hf59_1 : w64.frozen? ⟨go26, (t396 : Int).toNat * 6 + 1, none⟩ = false := hfr59 1; have hf59_2 : w64.frozen? ⟨go26, (t396 : Int).toNat * 6 + 2, none⟩ = false := hfr59 2; have hf59_3 : w64.frozen? ⟨go26, (t396 : Int).toNat * 6 + 3, none⟩ = false := hfr59 3; have hf59_4 : w64.frozen? ⟨go26, (t396 : Int).toNat * 6 + 4, none⟩ = false := hfr59 4; have hf59_5 : w64.frozen? ⟨go26, (t396 : Int).toNat * 6 + 5, none⟩ = false := hfr59 5; clear hcl59 hcc59 hfr59 hM59; replace p59 := eq_true p59; replace q59 := eq_true q59; have HX67 := A_ (show Kd.R k24 24 w64 w.heap.size (fun k_ => k_ ≠ gb381 ∧ k_ ≠ gb394) (.slice (some ⟨go26, 0, none⟩) x5_1.length co32) y401 from (pr_ HO_5.out)); obtain ⟨ce67, hcl67, hM67, hcc67, hfr67⟩ := Kd.R_elem HX67.out z24 (t396 : Int) (of_decide_eq_true (by first | (with_reducible assumption) | assumption)) (by have h_ : (t396 : Int) < ((x5_1.length : Int) : Int) := of_decide_eq_true (by first | (with_reducible assumption) | assumption); first | exact h_ | (have e_ := (Kd.R_reads' HO_5.out).1; omega) | simpa using h_); obtain rfl := k24_openM hM67; have HP67 := Kd.R_seg HX67.out (t396 : Int) (of_decide_eq_true (by first | (with_reducible assumption) | assumption)) (by have h_ : (t396 : Int) < ((x5_1.length : Int) : Int) := of_decide_eq_true (by first | (with_reducible assumption) | assumption); first | exact h_ | (have e_ := (Kd.R_reads' HO_5.out).1; omega) | simpa using h_) (seg := [.int .i64 x395000_1, .int .i64 x395001_1, .int .i64 x395002_1, .int .i64 x395003_1, .int .i64 x395004_1, .string x395005_1]) (j := 0) hcl67 hcc67 (show 6 ≤ 6 from by decide) (x' := (⟨x395000_1, x395001_1, x395002_1, x395003_1, x395004_1, x395005_1⟩ : S24)) (k24_mkM _ _ _ (⟨x395000_1, x395001_1, x395002_1, x395003_1, x395004_1, x395005_1⟩ : S24) ) (fun _ hk => hk); have hx67_0 := hcc67 0 _ rfl; (try simp only [show (k24).sz = 6 from rfl, Nat.mul_one, Nat.add_zero] at hx67_0); have hf67_0 := hfr67 0; (try simp only [show (k24).sz = 6 from rfl, Nat.mul_one, Nat.add_zero] at hf67_0); have hx67_1 := hcc67 1 _ rfl; (try simp only [show (k24).sz = 6 from rfl, Nat.mul_one, Nat.add_zero] at hx67_1); have hf67_1 := hfr67 1; (try simp only [show (k24).sz = 6 from rfl, Nat.mul_one, Nat.add_zero] at hf67_1); have hx67_2 := hcc67 2 _ rfl; (try simp only [show (k24).sz = 6 from rfl, Nat.mul_one, Nat.add_zero] at hx67_2); have hf67_2 := hfr67 2; (try simp only [show (k24).sz = 6 from rfl, Nat.mul_one, Nat.add_zero] at hf67_2); have hx67_3 := hcc67 3 _ rfl; (try simp only [show (k24).sz = 6 from rfl, Nat.mul_one, Nat.add_zero] at hx67_3); have hf67_3 := hfr67 3; (try simp only [show (k24).sz = 6 from rfl, Nat.mul_one, Nat.add_zero] at hf67_3); have hx67_4 := hcc67 4 _ rfl; (try simp only [show (k24).sz = 6 from rfl, Nat.mul_one, Nat.add_zero] at hx67_4); have hf67_4 := hfr67 4; (try simp only [show (k24).sz = 6 from rfl, Nat.mul_one, Nat.add_zero] at hf67_4); have hx67_5 := hcc67 5 _ rfl; (try simp only [show (k24).sz = 6 from rfl, Nat.mul_one, Nat.add_zero] at hx67_5); have hf67_5 := hfr67 5; (try simp only [show (k24).sz = 6 from rfl, Nat.mul_one, Nat.add_zero] at hf67_5); clear hcl67 hcc67 hfr67 hM67) | ((with_reducible refine gate_store (t := 24) (p := 64) rfl ?_); refine store_event (t := 24) (p := 64) (v := ?vo_w68) (w1 := ((((((w64.setCell ⟨go26, (t396 : Int).toNat * 6, none⟩ (.int .i64 x395000_1)).setCell ⟨go26, (t396 : Int).toNat * 6 + 1, none⟩ (.int .i64 x395001_1)).setCell ⟨go26, (t396 : Int).toNat * 6 + 2, none⟩ (.int .i64 x395002_1)).setCell ⟨go26, (t396 : Int).toNat * 6 + 3, none⟩ (.int .i64 x395003_1)).setCell ⟨go26, (t396 : Int).toNat * 6 + 4, none⟩ (.int .i64 x395004_1)).setCell ⟨go26, (t396 : Int).toNat * 6 + 5, none⟩ (.string x395005_1))) ?hg ?ho ?hn ?hr ?_; (case ho => rfl); (case hg => rfl); (case hn => rfl); (case hr => first | (go_simp; done) | (go_simp; rfl)); intro w68 hw; have hg : w64.grownBy w68 (some go26) := (by rw [hw]; exact HP67.2); have hp_ : Kd.R k24 24 w68 w.heap.size (fun k_ => k_ ≠ gb381 ∧ k_ ≠ gb394) (.slice (some ⟨go26, 0, none⟩) x5_1.length co32) y402 := (by rw [hw, Ny402.out]; exact HP67.1); clear HP67; have n0_ := A_ (hp_); have n1_ := A_ (blk_grown (g := gb381) (o := .cells #[.int .i64 x382000_1, .int .i64 x382001_1, .int .i64 x382002_1, .int .i64 x382003_1, .int .i64 x382004_1, .string x382005_1] 24 (0, 0)) (by (with_reducible repeat (first | refine bn_ ?_ _ | refine bd_ ?_ | refine ba_ ?_ _)); exact BK381.out) hg (Kd.R_away HO_5.out (fun _ hk => hk.1))); have n2_ := A_ (blk_grown (g := gb394) (o := .cells #[.int .i64 x395000_1, .int .i64 x395001_1, .int .i64 x395002_1, .int .i64 x395003_1, .int .i64 x395004_1, .string x395005_1] 24 (0, 0)) (by (with_reducible repeat (first | refine bn_ ?_ _ | refine bd_ ?_ | refine ba_ ?_ _)); exact BK394.out) hg (Kd.R_away HO_5.out (fun _ hk => hk.2))); have n3_ := A_ ((by rw [hw]; exact ws_ (ws_ (ws_ (ws_ (ws_ (ws_ (HB.out) GB26.out) GB26.out) GB26.out) GB26.out) GB26.out) GB26.out : Below w.heap.size w w68)); replace HO_5 := n0_; replace BK381 := n1_; replace BK394 := n2_; replace HB := n3_; clear n0_ n1_ n2_ n3_; clear hg hw hp_))
         (try simp only [← hl5_1])
         go_roundg k1
         case measure => have := HK1.out; omega
         case rel => exact ⟨(y402), (t396), (x382000_1), (x382001_1), (x382002_1), (x382003_1), (x382004_1), (x382005_1), (x395000_1), (x395001_1), (x395002_1), (x395003_1), (x395004_1), (x395005_1), (by first | rfl | (simp; done) | (simp [*]; done)), H', ⟨by have := HK1.out; omega⟩, ⟨by (try simp only [hl5_1]); (with_reducible repeat (first | apply ra_ | apply rn_ | apply rd_)); exact HO_5.out⟩, ⟨by (try simp only [hl5_1]); (with_reducible repeat (first | refine bn_ ?_ _ | refine bd_ ?_ | refine ba_ ?_ _)); exact BK381.out⟩, ⟨by (try simp only [hl5_1]); (with_reducible repeat (first | refine bn_ ?_ _ | refine bd_ ?_ | refine ba_ ?_ _)); exact BK394.out⟩, ⟨by repeat (first | (with_reducible first | exact HB.out | apply wa_ | apply wn_ | apply wd_ | refine ws_ ?_ GE381.out | refine ws_ ?_ GE394.out) | exact HB.out)⟩⟩
       · replace c55 := Bool.eq_false_iff.mpr c55
         subst c55
         have H1 : (if 0 < (l0.length : Int) then (some (x5_1, (rd_T24 l0 0).f0, (rd_T24 l0 0).f1, (rd_T24 l0 0).f2, (rd_T24 l0 0).f3, (rd_T24 l0 0).f4, (rd_T24 l0 0).f5, true)) else (none)) = some (r1, r2, r3, r4, r5, r6, r7, r8) := by rw [if_neg (show ¬ (false = true) by decide)] at H; exact H
         clear H
         have H := H1
         clear H1
         by_cases c69 : 0 < (l0.length : Int)
         rotate_left
         · rw [if_neg c69] at H
           exact absurd H (by simp)
         rw [if_pos c69] at H
         have c69b0 : decide (0 < (l0.length : Int)) = true := decide_eq_true c69
         have c69b1 : decide (0 < l0.length) = true := decide_eq_true (by omega)
         clear c69
         simp only [Option.some.injEq, Prod.mk.injEq] at H
         obtain ⟨rfl, rfl, rfl, rfl, rfl, rfl, rfl, rfl⟩ := H
         try go_wp2_with (first | ((with_reducible refine gate_callee (f := 83) rfl ?_); refine goesL_ (some 38) rfl rfl Try.func83 (by kernel_rfl) rfl #[.slice (some ⟨go26, 0, none⟩) x5_1.length co32, .int .i64 x7_1] rfl (by (try simp only [m0_, m1_, m2_]); first | done | rfl) ?_; (with_reducible refine (hopperref06_below.calls k1 _ _ x5_1 x7_1 t396 _ ?side1 ?side2 A40.out).mono ?_); (case side1 => repeat (first | exact (Kd.R_reads' HO_5.out).2.2 | (with_reducible refine ca_ ?_ _) | (with_reducible refine cn_ ?_ _) | (with_reducible refine cd_ ?_))); (case side2 => exact (Kd.R_reads' HO_5.out).2.1); rintro e w70 ⟨rfl, hb⟩; refine ⟨_, rfl, ?_⟩; replace HO_5 := A_ (Kd.R_below (pr_ HO_5.out) hb); replace BK381 := A_ (kb_ BK381 hb); replace BK394 := A_ (kb_ BK394 hb); replace HB := A_ (below_step bw_ hb); (try clear hb); (try clear hb2); (try clear hk); (try clear hi)))
         have n0_ := A_ (rd_ HO_5.out); have n1_ := A_ (bd_ BK381.out); have n2_ := A_ (bd_ BK394.out); have n3_ := A_ (wd_ HB.out); replace HO_5 := n0_; replace BK381 := n1_; replace BK394 := n2_; replace HB := n3_; clear n0_ n1_ n2_ n3_
         have p398 : 0 ≤ (t396 : Int) := of_decide_eq_true (by first | (with_reducible assumption) | assumption)
         have q398 : t396 < (x5_1.length : Int) := of_decide_eq_true (by first | (with_reducible assumption) | assumption)
         obtain ⟨ad398, e398, hx398_0, hx398_1, hx398_2, hx398_3, hx398_4, hx398_5⟩ := at_T24 (Kd.R_reads' HO_5.out).2.2 t396 p398 q398
         obtain rfl : (⟨go26, 0, none⟩ : Addr) = ad398 := (by injection e398)
         (first | simp only [add_plain] at hx398_0 | simp only [add_at] at hx398_0 | simp only [Addr.add, Nat.zero_add] at hx398_0 | skip)
         (first | simp only [add_plain] at hx398_1 | simp only [add_at] at hx398_1 | simp only [Addr.add, Nat.zero_add] at hx398_1 | skip)
         (first | simp only [add_plain] at hx398_2 | simp only [add_at] at hx398_2 | simp only [Addr.add, Nat.zero_add] at hx398_2 | skip)
         (first | simp only [add_plain] at hx398_3 | simp only [add_at] at hx398_3 | simp only [Addr.add, Nat.zero_add] at hx398_3 | skip)
         (first | simp only [add_plain] at hx398_4 | simp only [add_at] at hx398_4 | simp only [Addr.add, Nat.zero_add] at hx398_4 | skip)
         (first | simp only [add_plain] at hx398_5 | simp only [add_at] at hx398_5 | simp only [Addr.add, Nat.zero_add] at hx398_5 | skip)
         replace p398 := eq_true p398
         replace q398 := eq_true q398
         refine start_ (n := 11) (S := fun w' => w'.cell? ⟨gb394, 0, none⟩ = some (.int .i64 x395000_1) ∧ w'.cell? ⟨gb394, 1, none⟩ = some (.int .i64 x395001_1) ∧ w'.cell? ⟨gb394, 2, none⟩ = some (.int .i64 x395002_1) ∧ w'.cell? ⟨gb394, 3, none⟩ = some (.int .i64 x395003_1) ∧ w'.cell? ⟨gb394, 4, none⟩ = some (.int .i64 x395004_1) ∧ w'.cell? ⟨gb394, 5, none⟩ = some (.string x395005_1) ∧ w'.cell? ⟨go26, (t396).toNat * 6, none⟩ = some (.int .i64 ((rd_T24 x5_1 t396).f0)) ∧ w'.cell? ⟨go26, (t396).toNat * 6 + 1, none⟩ = some (.int .i64 ((rd_T24 x5_1 t396).f1)) ∧ w'.cell? ⟨go26, (t396).toNat * 6 + 2, none⟩ = some (.int .i64 ((rd_T24 x5_1 t396).f2)) ∧ w'.cell? ⟨go26, (t396).toNat * 6 + 3, none⟩ = some (.int .i64 ((rd_T24 x5_1 t396).f3)) ∧ w'.cell? ⟨go26, (t396).toNat * 6 + 4, none⟩ = some (.int .i64 ((rd_T24 x5_1 t396).f4)) ∧ w'.cell? ⟨go26, (t396).toNat * 6 + 5, none⟩ = some (.string ((rd_T24 x5_1 t396).f5))) (ds := []) #[F,F,F,F,F,F,F,F,F,F,F] (by kernel_rfl) rfl rfl ⟨e_ BK394 0, e_ BK394 1, e_ BK394 2, e_ BK394 3, e_ BK394 4, e_ BK394 5, hx398_0, hx398_1, hx398_2, hx398_3, hx398_4, hx398_5⟩ (fun hHeld => ?_); refine with_tabW hopperref06_Pop.tab10 hopperref06_Pop.bits10 (fun HT_ HW_ => ?_)
         generalize w70.drew = w71 at HO_5 BK381 BK394 HB hx398_0 hx398_1 hx398_2 hx398_3 hx398_4 hx398_5 hHeld ⊢
         refine pq_ 0 39 HT_ ?_
         refine pq_ 1 40 HT_ ?_
         refine pq_ 2 41 HT_ ?_
         refine pq_ 3 42 HT_ ?_
         refine pq_ 4 43 HT_ ?_
         refine pq_ 5 44 HT_ ?_
         refine tk_ 6 45 HT_ HW_ hHeld ?_
         refine tk_ 7 46 HT_ HW_ hHeld ?_
         refine one_ (i := 8) (N := some 47) #[T,T,T,T,T,T,T,T,T,F,F] rfl rfl (one_of HT_.out (by kernel_rfl)) (by decide) (fun K hK => ?_)
         refine goes_ Try.func49 (by kernel_rfl) rfl #[.agg #[.int .i64 ((rd_T24 x5_1 t396).f0), .int .i64 ((rd_T24 x5_1 t396).f1), .int .i64 ((rd_T24 x5_1 t396).f2), .int .i64 ((rd_T24 x5_1 t396).f3), .int .i64 ((rd_T24 x5_1 t396).f4), .string ((rd_T24 x5_1 t396).f5)], .agg #[.int .i64 x395000_1, .int .i64 x395001_1, .int .i64 x395002_1, .int .i64 x395003_1, .int .i64 x395004_1, .string x395005_1]] (by rfl) rfl rfl (by (try simp only [m0_, m1_, m2_]); first | done | rfl) ?_
         with_reducible refine (hopperref04_Better.calls k1 ((rd_T24 x5_1 t396).f0) ((rd_T24 x5_1 t396).f1) ((rd_T24 x5_1 t396).f2) ((rd_T24 x5_1 t396).f3) ((rd_T24 x5_1 t396).f4) ((rd_T24 x5_1 t396).f5) x395000_1 x395001_1 x395002_1 x395003_1 x395004_1 x395005_1 false _ A54.out).mono ?_
         rintro e w72 ⟨rfl, hb⟩
         obtain ⟨_, _, _, _, _, _, h6_, h7_, h8_, h9_, h10_, h11_⟩ := hHeld
         have o_ := fun (p_ : Addr) (v_ : Value) => @on_ _ _ p_ v_ hb
         refine ⟨_, rfl, ?_⟩
         have n0_ := A_ (Kd.R_below (pr_ HO_5.out) hb); have n1_ := A_ (kb_ BK381 hb); have n2_ := A_ (kb_ BK394 hb); have n3_ := A_ (below_step bw_ hb); replace HO_5 := n0_; replace BK381 := n1_; replace BK394 := n2_; replace HB := n3_; clear n0_ n1_ n2_ n3_
         (try clear hb)
         (try clear hb2)
         (try clear hk)
         (try clear hi)
         refine hK.out _ _ ⟨e_ BK394 0, e_ BK394 1, e_ BK394 2, e_ BK394 3, e_ BK394 4, e_ BK394 5, o_ _ _ h6_, o_ _ _ h7_, o_ _ _ h8_, o_ _ _ h9_, o_ _ _ h10_, o_ _ _ h11_⟩ (fun hHeld => ?_)
         clear hK K
         refine norm_ (a' := ?_) ?_ ?_
         rotate_left
         · show Act.put _ (some 47) _ = _
           simp only [Act.put, s0_, s1_, s2_, i64_w, i32_w]
           rfl
         refine pq_ 9 48 HT_ ?_
         refine pq_ 10 49 HT_ ?_
         refine done_ (done_of HT_.out (by kernel_rfl)) ?_
         try go_wp2
         have n0_ := A_ (rd_ HO_5.out); have n1_ := A_ (bd_ BK381.out); have n2_ := A_ (bd_ BK394.out); have n3_ := A_ (wd_ HB.out); replace HO_5 := n0_; replace BK381 := n1_; replace BK394 := n2_; replace HB := n3_; clear n0_ n1_ n2_ n3_
         have p403 : 0 ≤ (0 : Int) := (by omega)
         have q403 : 0 < (l0.length : Int) := of_decide_eq_true (by first | (with_reducible assumption) | assumption)
         obtain ⟨ad403, e403, hx403_0, hx403_1, hx403_2, hx403_3, hx403_4, hx403_5⟩ := at_T24 HR0.out 0 p403 q403
         have hw403_5 := hx403_5
         (try rw [show ((0 : Int)).toNat = 0 from rfl] at hw403_5)
         (try rw [show 0 * 6 = 0 from rfl] at hw403_5)
         (try rw [Addr.add_zero'] at hw403_5)
         have hw403_4 := hx403_4
         (try rw [show ((0 : Int)).toNat = 0 from rfl] at hw403_4)
         (try rw [show 0 * 6 = 0 from rfl] at hw403_4)
         (try rw [Addr.add_zero'] at hw403_4)
         have hw403_3 := hx403_3
         (try rw [show ((0 : Int)).toNat = 0 from rfl] at hw403_3)
         (try rw [show 0 * 6 = 0 from rfl] at hw403_3)
         (try rw [Addr.add_zero'] at hw403_3)
         have hw403_2 := hx403_2
         (try rw [show ((0 : Int)).toNat = 0 from rfl] at hw403_2)
         (try rw [show 0 * 6 = 0 from rfl] at hw403_2)
         (try rw [Addr.add_zero'] at hw403_2)
         have hw403_1 := hx403_1
         (try rw [show ((0 : Int)).toNat = 0 from rfl] at hw403_1)
         (try rw [show 0 * 6 = 0 from rfl] at hw403_1)
         (try rw [Addr.add_zero'] at hw403_1)
         have hw403_0 := hx403_0
         (try rw [show ((0 : Int)).toNat = 0 from rfl] at hw403_0)
         (try rw [show 0 * 6 = 0 from rfl] at hw403_0)
         (try rw [Addr.add_zero'] at hw403_0)
         obtain rfl : ad393 = ad403 := (by injection e403)
         have qi403 : (0 < l0.length) = True := eq_true (by omega)
         (try rw [show ((0 : Int)).toNat = 0 from rfl] at hx403_0)
         (try rw [show 0 * 6 = 0 from rfl] at hx403_0)
         (try rw [Addr.add_zero'] at hx403_0)
         (try rw [show ((0 : Int)).toNat = 0 from rfl] at hx403_1)
         (try rw [show 0 * 6 = 0 from rfl] at hx403_1)
         (try rw [Addr.add_zero'] at hx403_1)
         (try rw [show ((0 : Int)).toNat = 0 from rfl] at hx403_2)
         (try rw [show 0 * 6 = 0 from rfl] at hx403_2)
         (try rw [Addr.add_zero'] at hx403_2)
         (try rw [show ((0 : Int)).toNat = 0 from rfl] at hx403_3)
         (try rw [show 0 * 6 = 0 from rfl] at hx403_3)
         (try rw [Addr.add_zero'] at hx403_3)
         (try rw [show ((0 : Int)).toNat = 0 from rfl] at hx403_4)
         (try rw [show 0 * 6 = 0 from rfl] at hx403_4)
         (try rw [Addr.add_zero'] at hx403_4)
         (try rw [show ((0 : Int)).toNat = 0 from rfl] at hx403_5)
         (try rw [show 0 * 6 = 0 from rfl] at hx403_5)
         (try rw [Addr.add_zero'] at hx403_5)
         replace hx403_0 := on_ HB.out hx403_0
         replace hx403_1 := on_ HB.out hx403_1
         replace hx403_2 := on_ HB.out hx403_2
         replace hx403_3 := on_ HB.out hx403_3
         replace hx403_4 := on_ HB.out hx403_4
         replace hx403_5 := on_ HB.out hx403_5
         replace p403 := eq_true p403
         replace q403 := eq_true q403
         refine start_ (n := 7) (S := fun w' => w'.cell? ad393 = some (.int .i64 ((rd_T24 l0 0).f0)) ∧ w'.cell? ⟨ad393.block, ad393.off + 1, none⟩ = some (.int .i64 ((rd_T24 l0 0).f1)) ∧ w'.cell? ⟨ad393.block, ad393.off + 2, none⟩ = some (.int .i64 ((rd_T24 l0 0).f2)) ∧ w'.cell? ⟨ad393.block, ad393.off + 3, none⟩ = some (.int .i64 ((rd_T24 l0 0).f3)) ∧ w'.cell? ⟨ad393.block, ad393.off + 4, none⟩ = some (.int .i64 ((rd_T24 l0 0).f4)) ∧ w'.cell? ⟨ad393.block, ad393.off + 5, none⟩ = some (.string ((rd_T24 l0 0).f5))) (ds := []) #[false, false, false, false, false, false, false] (by kernel_rfl) rfl rfl ⟨((HB.out.cell (World.block_lt_of_cell? w _ hw403_0)).trans hw403_0), ((HB.out.cell (World.block_lt_of_cell? w _ hw403_1)).trans hw403_1), ((HB.out.cell (World.block_lt_of_cell? w _ hw403_2)).trans hw403_2), ((HB.out.cell (World.block_lt_of_cell? w _ hw403_3)).trans hw403_3), ((HB.out.cell (World.block_lt_of_cell? w _ hw403_4)).trans hw403_4), ((HB.out.cell (World.block_lt_of_cell? w _ hw403_5)).trans hw403_5)⟩ (fun hHeld => ?_)
         generalize w72.drew = w73 at HO_5 BK381 BK394 HB hx403_0 hx403_1 hx403_2 hx403_3 hx403_4 hx403_5 hHeld ⊢
         refine pure_ (i := 0) (N := some 50) (v := ?_) (a' := ?_) #[true, false, false, false, false, false, false] rfl rfl (by kernel_rfl) (fun _ _ _ h => h) (Or.inl ⟨by rfl, ?_⟩) ?_ ?_
         rotate_left
         · intro w'
           go_simp
           with_reducible rfl
         rotate_left
         · simp only [Act.put, s0_, s1_, s2_, i64_w, i32_w]
           rfl
         refine pure_ (i := 1) (N := some 51) (v := ?_) (a' := ?_) #[true, true, false, false, false, false, false] rfl rfl (by kernel_rfl) (fun _ _ _ h => h) (Or.inl ⟨by rfl, ?_⟩) ?_ ?_
         rotate_left
         · intro w'
           go_simp
           with_reducible rfl
         rotate_left
         · simp only [Act.put, s0_, s1_, s2_, i64_w, i32_w]
           rfl
         refine pure_ (i := 2) (N := some 52) (v := ?_) (a' := ?_) #[true, true, true, false, false, false, false] rfl rfl (by kernel_rfl) (fun _ _ _ h => h) (Or.inl ⟨by rfl, ?_⟩) ?_ ?_
         rotate_left
         · intro w'
           go_simp
           with_reducible rfl
         rotate_left
         · simp only [Act.put, s0_, s1_, s2_, i64_w, i32_w]
           rfl
         refine pure_ (i := 4) (N := some 2) (v := ?_) (a' := ?_) #[true, true, true, false, true, false, false] rfl rfl (by kernel_rfl) (fun _ _ _ h => h) (Or.inl ⟨by rfl, ?_⟩) ?_ ?_
         rotate_left
         · intro w'
           go_simp
           with_reducible rfl
         rotate_left
         · simp only [Act.put, s0_, s1_, s2_, i64_w, i32_w]
           rfl
         refine take_ (i := 3) (N := some 53) (v := ?_) (a' := ?_) #[true, true, true, true, true, false, false] rfl rfl (by kernel_rfl) (fun _ _ _ h => h) (Or.inl ⟨by rfl, ?_⟩) hHeld ?_ ?_
         rotate_left
         · rintro w' ⟨s0, s1, s2, s3, s4, s5⟩
           go_simp
           with_reducible rfl
         rotate_left
         · simp only [Act.put, s0_, s1_, s2_, i64_w, i32_w]
           rfl
         refine one_ (i := 5) (N := none) #[true, true, true, true, true, true, false] rfl rfl (by kernel_rfl) (by decide) (fun K hK => ?_)
         have hs74 : w73.cell? ⟨gb381, 0, none⟩ = some (.int .i64 x382000_1) := e_ BK381 0
         have hfs74 := blk_frozen BK381.out 0
         have hns74_1 := NB394_381.out
         have hms74_1 := NB381_394.out
         have hs75 : w73.cell? ⟨gb381, 1, none⟩ = some (.int .i64 x382001_1) := e_ BK381 1
         have hfs75 := blk_frozen BK381.out 1
         have hns75_1 := NB394_381.out
         have hms75_1 := NB381_394.out
         have hs76 : w73.cell? ⟨gb381, 2, none⟩ = some (.int .i64 x382002_1) := e_ BK381 2
         have hfs76 := blk_frozen BK381.out 2
         have hns76_1 := NB394_381.out
         have hms76_1 := NB381_394.out
         have hs77 : w73.cell? ⟨gb381, 3, none⟩ = some (.int .i64 x382003_1) := e_ BK381 3
         have hfs77 := blk_frozen BK381.out 3
         have hns77_1 := NB394_381.out
         have hms77_1 := NB381_394.out
         have hs78 : w73.cell? ⟨gb381, 4, none⟩ = some (.int .i64 x382004_1) := e_ BK381 4
         have hfs78 := blk_frozen BK381.out 4
         have hns78_1 := NB394_381.out
         have hms78_1 := NB381_394.out
         have hs79 : w73.cell? ⟨gb381, 5, none⟩ = some (.string x382005_1) := e_ BK381 5
         have hfs79 := blk_frozen BK381.out 5
         have hns79_1 := NB394_381.out
         have hms79_1 := NB381_394.out
         refine skip_ (w1 := ?_) (by rfl) rfl ?_ ?_
         rotate_left
         · go_simp
           rfl
         refine hK.out _ _ ⟨(cf_ hw403_0 GW381.out ((cf_ hw403_0 GW381.out ((cf_ hw403_0 GW381.out ((cf_ hw403_0 GW381.out ((cf_ hw403_0 GW381.out ((cf_ hw403_0 GW381.out (hHeld.1)))))))))))), (cf_ hw403_1 GW381.out ((cf_ hw403_1 GW381.out ((cf_ hw403_1 GW381.out ((cf_ hw403_1 GW381.out ((cf_ hw403_1 GW381.out ((cf_ hw403_1 GW381.out (hHeld.2.1)))))))))))), (cf_ hw403_2 GW381.out ((cf_ hw403_2 GW381.out ((cf_ hw403_2 GW381.out ((cf_ hw403_2 GW381.out ((cf_ hw403_2 GW381.out ((cf_ hw403_2 GW381.out (hHeld.2.2.1)))))))))))), (cf_ hw403_3 GW381.out ((cf_ hw403_3 GW381.out ((cf_ hw403_3 GW381.out ((cf_ hw403_3 GW381.out ((cf_ hw403_3 GW381.out ((cf_ hw403_3 GW381.out (hHeld.2.2.2.1)))))))))))), (cf_ hw403_4 GW381.out ((cf_ hw403_4 GW381.out ((cf_ hw403_4 GW381.out ((cf_ hw403_4 GW381.out ((cf_ hw403_4 GW381.out ((cf_ hw403_4 GW381.out (hHeld.2.2.2.2.1)))))))))))), (cf_ hw403_5 GW381.out ((cf_ hw403_5 GW381.out ((cf_ hw403_5 GW381.out ((cf_ hw403_5 GW381.out ((cf_ hw403_5 GW381.out ((cf_ hw403_5 GW381.out (hHeld.2.2.2.2.2))))))))))))⟩ (fun hHeld => ?_)
         clear hK K
         refine pure_ (i := 6) (N := some 4) (v := ?_) (a' := ?_) #[true, true, true, true, true, true, true] rfl rfl (by kernel_rfl) (fun _ _ _ h => h) (Or.inl ⟨by rfl, ?_⟩) ?_ ?_
         rotate_left
         · intro w'
           go_simp
           with_reducible rfl
         rotate_left
         · simp only [Act.put, s0_, s1_, s2_, i64_w, i32_w]
           rfl
         refine done_ (by kernel_rfl) ?_
         try go_wp2
         refine bodyPost_ret (results_list (rs := [.tmp 2, .cell 3 24, .tmp 4]) rfl (by simp) (.tmp (.cell gb381 24 #[.int .i64 ((rd_T24 l0 0).f0), .int .i64 ((rd_T24 l0 0).f1), .int .i64 ((rd_T24 l0 0).f2), .int .i64 ((rd_T24 l0 0).f3), .int .i64 ((rd_T24 l0 0).f4), .string ((rd_T24 l0 0).f5)] (0, 0) _ rfl (by exact pk_ (b6_ BK381.out)) Try.underlying24 rfl (by kernel_rfl) (.tmp .nil)))) rfl ?_
         exact ⟨_, by first | rfl | (simp [errW_none, errW_some] <;> rfl) | (simp only [← hji5]; first | rfl | (simp [errW_none, errW_some] <;> rfl)) | (simp [*, errW_none, errW_some] <;> rfl), by (with_reducible repeat (first | apply ra_ | apply rn_ | apply rd_)); exact Kd.R_mono (f6_ (g := gb381) (Kd.R_mono HO_5.out (fun k_ hk => (⟨hk, hk.1⟩ : _ ∧ k_ ≠ gb381))) (fun _ hk => hk.2) (.int .i64 ((rd_T24 l0 0).f0)) (.int .i64 ((rd_T24 l0 0).f1)) (.int .i64 ((rd_T24 l0 0).f2)) (.int .i64 ((rd_T24 l0 0).f3)) (.int .i64 ((rd_T24 l0 0).f4)) (.string ((rd_T24 l0 0).f5))) (fun _ hk => trivial), by repeat (first | (with_reducible first | exact HB.out | apply wa_ | apply wn_ | apply wd_ | refine ws_ ?_ GE381.out | refine ws_ ?_ GE394.out) | exact HB.out)⟩
end Go.Proofs.Ytehncbhmdgdkjaa.L
