/- Written by this session's own program over the kit's print: functions of Go told as plain functions, or the row of one statement; proved for every input, with no condition of ours. -/
import Derived.Test.YtehncbhmdgdkjaaLx0
import Derived.Test.YtehncbhmdgdkjaaLx18
namespace Go.Proofs.Ytehncbhmdgdkjaa.L
open Go.RowKit Go.Proofs.YtehncbhmdgdkjaaW.PrintWords Go.Proofs.YtehncbhmdgdkjaaW.PrintLast Go.Proofs.YtehncbhmdgdkjaaW.PrintMore
attribute [local go_sem] max2_int min2_int max_two min_two max_three min_three max_four min_four   -- for this text's walks alone
set_option linter.unusedVariables false
set_option linter.unusedSimpArgs false

/-! ### hopperref06_Push: function 32 -/
def hopperref06_Push.l0 : Nat → List (S24) → Int → Int → Int → Int → Int → Int → ByteArray → Option ((List (S24)))
 | 0, _, _, _, _, _, _, _, _ => none
 | k + 1, x5, x6, x413000, x413001, x413002, x413003, x413004, x413005 => if x6 > 0 then (if 0 ≤ (wrap64 (Int.tdiv (wrap64 (x6 - 1)) 2)) then (if (wrap64 (Int.tdiv (wrap64 (x6 - 1)) 2)) < (x5.length : Int) then ((hopperref04_Better.f k x413000 x413001 x413002 x413003 x413004 x413005 ((rd_T24 x5 (wrap64 (Int.tdiv (wrap64 (x6 - 1)) 2))).f0) ((rd_T24 x5 (wrap64 (Int.tdiv (wrap64 (x6 - 1)) 2))).f1) ((rd_T24 x5 (wrap64 (Int.tdiv (wrap64 (x6 - 1)) 2))).f2) ((rd_T24 x5 (wrap64 (Int.tdiv (wrap64 (x6 - 1)) 2))).f3) ((rd_T24 x5 (wrap64 (Int.tdiv (wrap64 (x6 - 1)) 2))).f4) ((rd_T24 x5 (wrap64 (Int.tdiv (wrap64 (x6 - 1)) 2))).f5)).bind fun t423 => (if t423 = true then (if 0 ≤ x6 then (if x6 < (x5.length : Int) then (hopperref06_Push.l0 k ((x5.set (x6 : Int).toNat (⟨(rd_T24 x5 (wrap64 (Int.tdiv (wrap64 (x6 - 1)) 2))).f0, (rd_T24 x5 (wrap64 (Int.tdiv (wrap64 (x6 - 1)) 2))).f1, (rd_T24 x5 (wrap64 (Int.tdiv (wrap64 (x6 - 1)) 2))).f2, (rd_T24 x5 (wrap64 (Int.tdiv (wrap64 (x6 - 1)) 2))).f3, (rd_T24 x5 (wrap64 (Int.tdiv (wrap64 (x6 - 1)) 2))).f4, (rd_T24 x5 (wrap64 (Int.tdiv (wrap64 (x6 - 1)) 2))).f5⟩ : S24)).set ((wrap64 (Int.tdiv (wrap64 (x6 - 1)) 2)) : Int).toNat (⟨x413000, x413001, x413002, x413003, x413004, x413005⟩ : S24)) (wrap64 (Int.tdiv (wrap64 (x6 - 1)) 2)) x413000 x413001 x413002 x413003 x413004 x413005) else (none)) else (none)) else (some x5))) else (none)) else (none)) else (some x5)
def hopperref06_Push.f (k : Nat) (l0 : List (S24)) (a1_0 : Int) (a1_1 : Int) (a1_2 : Int) (a1_3 : Int) (a1_4 : Int) (a1_5 : ByteArray) : Option ((List (S24))) := (some (([] : List (S24)) : List (S24))).bind fun y413 => (if y413.length + l0.length < 2513169434916 then ((some (y413 ++ l0 : List (S24))).bind fun y416 => (if y416.length < 2513169434916 then ((some (y416 ++ [(⟨a1_0, a1_1, a1_2, a1_3, a1_4, a1_5⟩ : S24)] : List (S24))).bind fun y419 => (hopperref06_Push.l0 k y419 (wrap64 ((y419.length : Int) - 1)) a1_0 a1_1 a1_2 a1_3 a1_4 a1_5)) else (none))) else (none))
theorem hopperref06_Push.mono_l : ∀ k, (∀ y0 y1 y2 y3 y4 y5 y6 y7, LeO (hopperref06_Push.l0 k y0 y1 y2 y3 y4 y5 y6 y7) (hopperref06_Push.l0 (k + 1) y0 y1 y2 y3 y4 y5 y6 y7))
 | 0 => fun _ _ _ _ _ _ _ _ r h => by simp [hopperref06_Push.l0] at h
 | k + 1 => by
  have ih0 := hopperref06_Push.mono_l k
  · intro y0 y1 y2 y3 y4 y5 y6 y7
    unfold hopperref06_Push.l0
    repeat' first
    | (with_reducible exact ih0 _ _ _ _ _ _ _ _)
    | (with_reducible exact hopperref04_Better.mono _ _ _ _ _ _ _ _ _ _ _ _ _)
    | (with_reducible exact LeO.refl _)
    | (with_reducible exact LeO.none _)
    | (with_reducible refine LeO.ite ?_ ?_)
    | (with_reducible refine LeO.bind ?_ (fun _ => ?_))
    | exact ih0 _ _ _ _ _ _ _ _
    | exact hopperref04_Better.mono _ _ _ _ _ _ _ _ _ _ _ _ _
    | exact LeO.none _
    | refine LeO.ite ?_ ?_
    | refine LeO.bind ?_ (fun _ => ?_)
theorem hopperref06_Push.mono : ∀ a0 a1 a2 a3 a4 a5 a6 k, LeO (hopperref06_Push.f k a0 a1 a2 a3 a4 a5 a6) (hopperref06_Push.f (k + 1) a0 a1 a2 a3 a4 a5 a6) := by
 intro a0 a1 a2 a3 a4 a5 a6 k
 have ih0 := hopperref06_Push.mono_l k
 unfold hopperref06_Push.f
 repeat' first
  | (with_reducible exact ih0 _ _ _ _ _ _ _ _)
  | (with_reducible exact hopperref04_Better.mono _ _ _ _ _ _ _ _ _ _ _ _ _)
  | (with_reducible exact LeO.refl _)
  | (with_reducible exact LeO.none _)
  | (with_reducible refine LeO.ite ?_ ?_)
  | (with_reducible refine LeO.bind ?_ (fun _ => ?_))
  | exact ih0 _ _ _ _ _ _ _ _
  | exact hopperref04_Better.mono _ _ _ _ _ _ _ _ _ _ _ _ _
  | exact LeO.none _
  | refine LeO.ite ?_ ?_
  | refine LeO.bind ?_ (fun _ => ?_)
def hopperref06_Push.T4 : Bool × List (List Nat × List Nat) := (true, [([], []), ([0], [0]), ([1], [1]), ([2], [2]), ([2], [2]), ([2], [2]), ([5, 2], [2, 5]), ([6, 2], [2, 6]), ([4, 7, 2], [2, 4, 7]), ([8, 2], [2, 8]), ([3, 9, 2, 2], [2, 3, 9]), ([2, 10], [2, 10])])
def hopperref06_Push.B4 : List Nat := [0, 1, 3, 7, 7, 7, 39, 103, 247, 503, 1023, 2047]
theorem hopperref06_Push.tab4 : rtab .any (opsOf Try.f32 4) = hopperref06_Push.T4 := by kernel_rfl
theorem hopperref06_Push.bits4 : waitsOk hopperref06_Push.T4.2 hopperref06_Push.B4 = true := by kernel_rfl
set_option maxHeartbeats 8000000 in
set_option maxRecDepth 100000 in
theorem hopperref06_Push.calls (k : Nat) (A0 : Option Addr) (c0 : Nat) (l0 : List (S24)) (a1_0 : Int) (a1_1 : Int) (a1_2 : Int) (a1_3 : Int) (a1_4 : Int) (a1_5 : ByteArray) (r : List (S24)) (w : World) (hr0 : Kd.C k24 w A0 l0.length l0) (hc0 : l0.length ≤ c0) (h : hopperref06_Push.f k l0 a1_0 a1_1 a1_2 a1_3 a1_4 a1_5 = some r) :
 Calls Try.prog 32 #[.slice A0 l0.length c0, .agg #[.int .i64 a1_0, .int .i64 a1_1, .int .i64 a1_2, .int .i64 a1_3, .int .i64 a1_4, .string a1_5]] w fun e w' => ∃ v0_ : Value, e = .returned (v0_) ∧ Kd.R k24 24 w' w.heap.size (fun _ => True) v0_ r ∧ Below w.heap.size w w' := by
 have hu24 := Try.underlying24
 have HR0 := A_ hr0
 have HC0 := A_ hc0
 clear hr0 hc0; have HB := A_ (Below.refl w.heap.size w)
 have H : ((some (([] : List (S24)) : List (S24))).bind fun y413 => (if y413.length + l0.length < 2513169434916 then ((some (y413 ++ l0 : List (S24))).bind fun y416 => (if y416.length < 2513169434916 then ((some (y416 ++ [(⟨a1_0, a1_1, a1_2, a1_3, a1_4, a1_5⟩ : S24)] : List (S24))).bind fun y419 => (hopperref06_Push.l0 k y419 (wrap64 ((y419.length : Int) - 1)) a1_0 a1_1 a1_2 a1_3 a1_4 a1_5)) else (none))) else (none))) = some r := h
 clear h
 obtain ⟨y413, hy413⟩ : ∃ y_ : List (S24), y_ = (([] : List (S24))) := ⟨_, rfl⟩
 replace H : (if y413.length + l0.length < 2513169434916 then ((some (y413 ++ l0 : List (S24))).bind fun y416 => (if y416.length < 2513169434916 then ((some (y416 ++ [(⟨a1_0, a1_1, a1_2, a1_3, a1_4, a1_5⟩ : S24)] : List (S24))).bind fun y419 => (hopperref06_Push.l0 k y419 (wrap64 ((y419.length : Int) - 1)) a1_0 a1_1 a1_2 a1_3 a1_4 a1_5)) else (none))) else (none)) = some r := by first | (rw [hy413]; with_reducible exact H) | (have H2_ := (Option.bind_some _ _).symm.trans H; rw [hy413]; with_reducible exact H2_) | (have H2_ := (Option.bind_some _ _).symm.trans H; with_reducible exact H2_) | with_reducible exact H | (rw [hy413]; exact H) | exact H
 have Ny413 := A_ hy413
 clear hy413
 by_cases c3 : y413.length + l0.length < 2513169434916
 rotate_left
 · rw [if_neg c3] at H
   exact absurd H (by simp)

 rw [if_pos c3] at H
 have LMc3 := A_ c3
 clear c3
 obtain ⟨y416, hy416⟩ : ∃ y_ : List (S24), y_ = (y413 ++ l0) := ⟨_, rfl⟩
 replace H : (if y416.length < 2513169434916 then ((some (y416 ++ [(⟨a1_0, a1_1, a1_2, a1_3, a1_4, a1_5⟩ : S24)] : List (S24))).bind fun y419 => (hopperref06_Push.l0 k y419 (wrap64 ((y419.length : Int) - 1)) a1_0 a1_1 a1_2 a1_3 a1_4 a1_5)) else (none)) = some r := by first | (rw [hy416]; with_reducible exact H) | (have H2_ := (Option.bind_some _ _).symm.trans H; rw [hy416]; with_reducible exact H2_) | (have H2_ := (Option.bind_some _ _).symm.trans H; with_reducible exact H2_) | with_reducible exact H | (rw [hy416]; exact H) | exact H
 have Ny416 := A_ hy416
 clear hy416
 by_cases c4 : y416.length < 2513169434916
 rotate_left
 · rw [if_neg c4] at H
   exact absurd H (by simp)
 rw [if_pos c4] at H
 have LMc4 := A_ c4
 clear c4
 obtain ⟨y419, hy419⟩ : ∃ y_ : List (S24), y_ = (y416 ++ [(⟨a1_0, a1_1, a1_2, a1_3, a1_4, a1_5⟩ : S24)]) := ⟨_, rfl⟩
 replace H : (hopperref06_Push.l0 k y419 (wrap64 ((y419.length : Int) - 1)) a1_0 a1_1 a1_2 a1_3 a1_4 a1_5) = some r := by first | (rw [hy419]; with_reducible exact H) | (have H2_ := (Option.bind_some _ _).symm.trans H; rw [hy419]; with_reducible exact H2_) | (have H2_ := (Option.bind_some _ _).symm.trans H; with_reducible exact H2_) | with_reducible exact H | (rw [hy419]; exact H) | exact H
 have Ny419 := A_ hy419
 clear hy419
 have H' := A_ H
 clear H
 go_enter Try.func32, Try.ntmps32
 go_wp2_with (first | ((with_reducible refine gate_dst (N := 3) rfl ?_); refine box_event ?hg (N := 3) ?hd (cs := #[.int .i64 a1_0, .int .i64 a1_1, .int .i64 a1_2, .int .i64 a1_3, .int .i64 a1_4, .string a1_5]) (t := 24) ?hr ?_; (case hd => rfl); (case hg => rfl); (case hr => first | (go_simp; done) | (go_simp; rfl)); intro gb412 hg w5 hbox hb; have n0_ := A_ (below_step bw_ hb); have n1_ := A_ (hbox); have n2_ := A_ (gz_ (w := w) hg); have n3_ := A_ (gz_ (w := w) hg); replace HB := n0_; have BK412 := n1_; have GW412 := n2_; have GE412 := n3_; clear n0_ n1_ n2_ n3_; clear hb hbox hg) | ((with_reducible refine gate_dst (N := 7) rfl ?_); refine Kd.R_lit k24 _ 24 ?hg (N := 7) ?hd (xs := ([] : List (S24))) (inner := []) (ok := fun _ => True) (okp := fun _ => True) ?hr ?hp (fun _ hk => hk) trivial (Below.refl _ _) (Nat.le_refl _) (by simp) ?_; (case hd => rfl); (case hg => rfl); (case hr => first | (go_simp; done) | (go_simp; rfl)); (case hp => exact (Reps.none _ _)); intro v414 w6 ho7 hb hg_ hnew_; clear hg_ hnew_; (first | rw [← Ny413.out] at ho7 | (simp only [Int.reduceToNat] at ho7; rw [← Ny413.out] at ho7)); have HO415 := A_ (Kd.R_lower (Kd.R_newB ho7 (g := gb412) (o := .cells #[.int .i64 a1_0, .int .i64 a1_1, .int .i64 a1_2, .int .i64 a1_3, .int .i64 a1_4, .string a1_5] 24 (0, 0)) (by (with_reducible repeat (first | refine bn_ ?_ _ | refine bd_ ?_ | refine ba_ ?_ _)); exact BK412.out)) (below_size bw_)); replace BK412 := A_ (kb_ BK412 hb); replace HB := A_ (below_step bw_ hb); clear hb ho7) | ((with_reducible refine gate_builtin (b := .append) (xs := #[.tmp 7, .tmp 8]) rfl ?_); at_builtin; refine Kd.R_append_rows k24 (w0 := w) w.heap.size rfl (.tmp 7) (.tmp 8) 22 24 (.agg #[(.int .i64 0), (.int .i64 0), (.int .i64 0), (.int .i64 0), (.int .i64 0), (.string ⟨#[]⟩)]) 56 rfl Try.underlying22 info24 rfl (by decide) (by omega) v414 y413 l0 _ _ _ (fun k_ => k_ ≠ gb412) (fun _ => False) rfl rfl ?aO ?aR (fun _ _ h => h) (fun _ h => h.elim) ?aF ?aB ?aS ?aL ?_; (case aR => repeat (first | exact (Kd.C_below HR0.out HB.out) | (with_reducible refine ca_ ?_ _) | (with_reducible refine cn_ ?_ _) | (with_reducible refine cd_ ?_))); (case aB => exact bw_); (case aF => exact (fun k_ hk => Kd.freshB (g := gb412) (o := .cells #[.int .i64 a1_0, .int .i64 a1_1, .int .i64 a1_2, .int .i64 a1_3, .int .i64 a1_4, .string a1_5] 24 (0, 0)) (by (with_reducible repeat (first | refine bn_ ?_ _ | refine bd_ ?_ | refine ba_ ?_ _)); exact BK412.out) k_ hk)); (case aO => exact (by (with_reducible repeat (first | apply ra_ | apply rn_ | apply rd_)); exact Kd.R_mono HO415.out (fun _ hk => hk.2))); (case aS => exact (below_size bw_)); (case aL => have := LMc3.out; omega); intro v417 w8 ho hb hg hat; rw [← Ny416.out] at ho; replace BK412 := A_ (blk_grown (g := gb412) (o := .cells #[.int .i64 a1_0, .int .i64 a1_1, .int .i64 a1_2, .int .i64 a1_3, .int .i64 a1_4, .string a1_5] 24 (0, 0)) (by (with_reducible repeat (first | refine bn_ ?_ _ | refine bd_ ?_ | refine ba_ ?_ _)); exact BK412.out) hg (Kd.R_away HO415.out (fun _ hk => hk.2))); replace HB := A_ (hb); have HO418 := A_ (ho); clear HO415; clear ho hb hg hat; have hcz9_0 : w8.cell? ⟨gb412, 0, none⟩ = some (.int .i64 a1_0) := e_ BK412 0; have hcz9_1 : w8.cell? ⟨gb412, 1, none⟩ = some (.int .i64 a1_1) := e_ BK412 1; have hcz9_2 : w8.cell? ⟨gb412, 2, none⟩ = some (.int .i64 a1_2) := e_ BK412 2; have hcz9_3 : w8.cell? ⟨gb412, 3, none⟩ = some (.int .i64 a1_3) := e_ BK412 3; have hcz9_4 : w8.cell? ⟨gb412, 4, none⟩ = some (.int .i64 a1_4) := e_ BK412 4; have hcz9_5 : w8.cell? ⟨gb412, 5, none⟩ = some (.string a1_5) := e_ BK412 5; obtain ⟨hfz9_0, hfz9_1, hfz9_2, hfz9_3, hfz9_4, hfz9_5⟩ := z6_ BK412) | ((with_reducible refine gate_builtin (b := .append) (xs := #[.tmp 10, .tmp 12]) rfl ?_); at_builtin; refine Kd.R_append k24 (w0 := w) w.heap.size rfl (.tmp 10) (.tmp 12) 22 24 (.agg #[(.int .i64 0), (.int .i64 0), (.int .i64 0), (.int .i64 0), (.int .i64 0), (.string ⟨#[]⟩)]) 56 rfl Try.underlying22 info24 rfl (by decide) (by omega) v417 y416 (⟨a1_0, a1_1, a1_2, a1_3, a1_4, a1_5⟩ : S24) [.int .i64 a1_0, .int .i64 a1_1, .int .i64 a1_2, .int .i64 a1_3, .int .i64 a1_4, .string a1_5] (fun k_ => k_ ≠ gb412) (fun _ => False) rfl rfl ?aP (fun _ hk => hk.elim) ?aF ?aO ?aB ?aS ?aL ?_; (case aP => exact k24_mkM _ _ _ (⟨a1_0, a1_1, a1_2, a1_3, a1_4, a1_5⟩ : S24)); (case aB => exact bw_); (case aF => exact (fun k_ hk => Kd.freshB (g := gb412) (o := .cells #[.int .i64 a1_0, .int .i64 a1_1, .int .i64 a1_2, .int .i64 a1_3, .int .i64 a1_4, .string a1_5] 24 (0, 0)) (by (with_reducible repeat (first | refine bn_ ?_ _ | refine bd_ ?_ | refine ba_ ?_ _)); exact BK412.out) k_ hk)); (case aO => exact (pr_ HO418.out)); (case aS => exact (below_size bw_)); (case aL => have := LMc4.out; omega); intro v420 w10 ho hb hg hat; rw [← Ny419.out] at ho; replace BK412 := A_ (blk_grown (g := gb412) (o := .cells #[.int .i64 a1_0, .int .i64 a1_1, .int .i64 a1_2, .int .i64 a1_3, .int .i64 a1_4, .string a1_5] 24 (0, 0)) (by (with_reducible repeat (first | refine bn_ ?_ _ | refine bd_ ?_ | refine ba_ ?_ _)); exact BK412.out) hg (Kd.R_away HO418.out (fun _ hk => hk))); replace HB := A_ (hb); have HO421 := A_ (ho); clear HO418; clear ho hb hg hat; obtain ⟨Ao11, co11, eo11⟩ := Kd.R_slice HO421.out; subst eo11))
 go_loopg [6] k (fun kq v6 w' => ∃ (x5_1 : List (S24)) (x6_1 : Int) (x413000_1 : Int) (x413001_1 : Int) (x413002_1 : Int) (x413003_1 : Int) (x413004_1 : Int) (x413005_1 : ByteArray), v6 = .int .i64 x6_1 ∧ Aside0 (hopperref06_Push.l0 kq x5_1 x6_1 x413000_1 x413001_1 x413002_1 x413003_1 x413004_1 x413005_1 = some r) ∧ Aside0 (kq ≤ k) ∧ Aside0 (Kd.R k24 24 w' w.heap.size (fun k_ => k_ ≠ gb412) (.slice Ao11 y419.length co11) x5_1) ∧ Aside0 (w'.heap[gb412]? = some (.cells #[.int .i64 x413000_1, .int .i64 x413001_1, .int .i64 x413002_1, .int .i64 x413003_1, .int .i64 x413004_1, .string x413005_1] 24 (0, 0))) ∧ Aside0 (Below w.heap.size w w'))
 case atStart => exact ⟨(y419), (wrap64 ((y419.length : Int) - 1)), (a1_0), (a1_1), (a1_2), (a1_3), (a1_4), (a1_5), (by first | rfl | (simp; done) | (simp [*]; done)), H', ⟨Nat.le_refl _⟩, ⟨by (with_reducible repeat (first | apply ra_ | apply rn_ | apply rd_)); exact HO421.out⟩, ⟨bk_⟩, ⟨by repeat (first | (with_reducible first | exact HB.out | apply wa_ | apply wn_ | apply wd_ | refine ws_ ?_ GE412.out) | exact HB.out)⟩⟩
 case round =>
  clear H'; (try clear p2); (try clear c3); (try clear c4); (try clear p6); (try clear hcz9_0 hcz9_1 hcz9_2 hcz9_3 hcz9_4 hcz9_5); (try clear hfz9_0 hfz9_1 hfz9_2 hfz9_3 hfz9_4 hfz9_5)
  obtain ⟨x5_1, x6_1, x413000_1, x413001_1, x413002_1, x413003_1, x413004_1, x413005_1, rfl, HA, HK1, HO_5, BK412, HB⟩ := hrel
  have hl5_1 := (Kd.R_reads' HO_5.out).1
  rw [hl5_1] at HO_5
  (try simp only [hl5_1])
  (try simp only [hl5_1] at BK412)
  cases gk with
  | zero => exact absurd HA.out (by simp [hopperref06_Push.l0])
  | succ k1 =>
   have H := HA.out
   clear HA
   simp only [hopperref06_Push.l0] at H
   by_cases c12 : x6_1 > 0
   · rw [if_pos c12] at H
     have c12b0 : decide (0 < x6_1) = true := decide_eq_true c12
     clear c12
     obtain ⟨ji13, hji13⟩ : ∃ j_ : Int, (wrap64 (Int.tdiv (wrap64 (x6_1 - 1)) 2)) = j_ := ⟨_, rfl⟩
     replace H : (if 0 ≤ (ji13) then (if (ji13) < (x5_1.length : Int) then ((hopperref04_Better.f k1 x413000_1 x413001_1 x413002_1 x413003_1 x413004_1 x413005_1 ((rd_T24 x5_1 (ji13)).f0) ((rd_T24 x5_1 (ji13)).f1) ((rd_T24 x5_1 (ji13)).f2) ((rd_T24 x5_1 (ji13)).f3) ((rd_T24 x5_1 (ji13)).f4) ((rd_T24 x5_1 (ji13)).f5)).bind fun t423 => (if t423 = true then (if 0 ≤ x6_1 then (if x6_1 < (x5_1.length : Int) then (hopperref06_Push.l0 k1 ((x5_1.set (x6_1 : Int).toNat (⟨(rd_T24 x5_1 (ji13)).f0, (rd_T24 x5_1 (ji13)).f1, (rd_T24 x5_1 (ji13)).f2, (rd_T24 x5_1 (ji13)).f3, (rd_T24 x5_1 (ji13)).f4, (rd_T24 x5_1 (ji13)).f5⟩ : S24)).set ((ji13) : Int).toNat (⟨x413000_1, x413001_1, x413002_1, x413003_1, x413004_1, x413005_1⟩ : S24)) ji13 x413000_1 x413001_1 x413002_1 x413003_1 x413004_1 x413005_1) else (none)) else (none)) else (some x5_1))) else (none)) else (none)) = some r := by first | (rw [hji13] at H; exact H) | (simp only [hji13] at H ⊢; exact H)
     have hji13w : (IntKind.i64.wrap (Int.tdiv (wrap64 (x6_1 - 1)) 2)) = ji13 := (i64_w _).trans hji13
     by_cases c14 : 0 ≤ (ji13)
     rotate_left
     · rw [if_neg c14] at H
       exact absurd H (by simp)
     rw [if_pos c14] at H
     have c14b0 : decide (0 ≤ (ji13)) = true := decide_eq_true c14
     clear c14
     by_cases c15 : (ji13) < (x5_1.length : Int)
     rotate_left
     · rw [if_neg c15] at H
       exact absurd H (by simp)
     rw [if_pos c15] at H
     have c15b0 : decide ((ji13) < (x5_1.length : Int)) = true := decide_eq_true c15
     clear c15
     replace H := Option.bind_eq_some_iff.mp H
     obtain ⟨t423, A160, H⟩ := H
     try dsimp only at H
     have A16 := A_ A160
     clear A160
     by_cases c17 : t423 = true
     · subst c17
       have H1 : (if 0 ≤ x6_1 then (if x6_1 < (x5_1.length : Int) then (hopperref06_Push.l0 k1 ((x5_1.set (x6_1 : Int).toNat (⟨(rd_T24 x5_1 (ji13)).f0, (rd_T24 x5_1 (ji13)).f1, (rd_T24 x5_1 (ji13)).f2, (rd_T24 x5_1 (ji13)).f3, (rd_T24 x5_1 (ji13)).f4, (rd_T24 x5_1 (ji13)).f5⟩ : S24)).set ((ji13) : Int).toNat (⟨x413000_1, x413001_1, x413002_1, x413003_1, x413004_1, x413005_1⟩ : S24)) ji13 x413000_1 x413001_1 x413002_1 x413003_1 x413004_1 x413005_1) else (none)) else (none)) = some r := by rw [if_pos rfl] at H; exact H
       clear H
       have H := H1
       clear H1
       by_cases c18 : 0 ≤ x6_1
       rotate_left
       · rw [if_neg c18] at H
         exact absurd H (by simp)
       rw [if_pos c18] at H
       have c18b0 : decide (0 ≤ x6_1) = true := decide_eq_true c18
       clear c18
       by_cases c19 : x6_1 < (x5_1.length : Int)
       rotate_left
       · rw [if_neg c19] at H
         exact absurd H (by simp)
       rw [if_pos c19] at H
       have c19b0 : decide (x6_1 < (x5_1.length : Int)) = true := decide_eq_true c19
       clear c19
       obtain ⟨y425, hy425⟩ : ∃ y_ : List (S24), y_ = (x5_1.set (x6_1 : Int).toNat (⟨(rd_T24 x5_1 (ji13)).f0, (rd_T24 x5_1 (ji13)).f1, (rd_T24 x5_1 (ji13)).f2, (rd_T24 x5_1 (ji13)).f3, (rd_T24 x5_1 (ji13)).f4, (rd_T24 x5_1 (ji13)).f5⟩ : S24)) := ⟨_, rfl⟩
       replace H : (hopperref06_Push.l0 k1 (y425.set ((ji13) : Int).toNat (⟨x413000_1, x413001_1, x413002_1, x413003_1, x413004_1, x413005_1⟩ : S24)) ji13 x413000_1 x413001_1 x413002_1 x413003_1 x413004_1 x413005_1) = some r := by first | (rw [hy425]; with_reducible exact H) | (have H2_ := (Option.bind_some _ _).symm.trans H; rw [hy425]; with_reducible exact H2_) | (have H2_ := (Option.bind_some _ _).symm.trans H; with_reducible exact H2_) | with_reducible exact H | (rw [hy425]; exact H) | exact H
       have Ny425 := A_ hy425
       clear hy425
       obtain ⟨y426, hy426⟩ : ∃ y_ : List (S24), y_ = (y425.set ((ji13) : Int).toNat (⟨x413000_1, x413001_1, x413002_1, x413003_1, x413004_1, x413005_1⟩ : S24)) := ⟨_, rfl⟩
       replace H : (hopperref06_Push.l0 k1 y426 ji13 x413000_1 x413001_1 x413002_1 x413003_1 x413004_1 x413005_1) = some r := by first | (rw [hy426]; with_reducible exact H) | (have H2_ := (Option.bind_some _ _).symm.trans H; rw [hy426]; with_reducible exact H2_) | (have H2_ := (Option.bind_some _ _).symm.trans H; with_reducible exact H2_) | with_reducible exact H | (rw [hy426]; exact H) | exact H
       have Ny426 := A_ hy426
       clear hy426
       have H' := A_ H
       clear H
       try go_wp2
       have n0_ := A_ (rd_ HO_5.out); have n1_ := A_ (bd_ BK412.out); have n2_ := A_ (wd_ HB.out); replace HO_5 := n0_; replace BK412 := n1_; replace HB := n2_; clear n0_ n1_ n2_
       have p422 : 0 ≤ ((ji13) : Int) := of_decide_eq_true (by first | (with_reducible assumption) | assumption)
       have q422 : (ji13) < (x5_1.length : Int) := of_decide_eq_true (by first | (with_reducible assumption) | assumption)
       obtain ⟨ad422, e422, hx422_0, hx422_1, hx422_2, hx422_3, hx422_4, hx422_5⟩ := at_T24 (Kd.R_reads' HO_5.out).2.2 (ji13) p422 q422
       cases e422
       replace p422 := eq_true p422
       replace q422 := eq_true q422
       refine start_ (n := 12) (S := fun w' => w'.cell? ⟨gb412, 0, none⟩ = some (.int .i64 x413000_1) ∧ w'.cell? ⟨gb412, 1, none⟩ = some (.int .i64 x413001_1) ∧ w'.cell? ⟨gb412, 2, none⟩ = some (.int .i64 x413002_1) ∧ w'.cell? ⟨gb412, 3, none⟩ = some (.int .i64 x413003_1) ∧ w'.cell? ⟨gb412, 4, none⟩ = some (.int .i64 x413004_1) ∧ w'.cell? ⟨gb412, 5, none⟩ = some (.string x413005_1) ∧ w'.cell? (ad422.add (((ji13)).toNat * 6)) = some (.int .i64 ((rd_T24 x5_1 (ji13)).f0)) ∧ w'.cell? ⟨(ad422.add (((ji13)).toNat * 6)).block, (ad422.add (((ji13)).toNat * 6)).off + 1, none⟩ = some (.int .i64 ((rd_T24 x5_1 (ji13)).f1)) ∧ w'.cell? ⟨(ad422.add (((ji13)).toNat * 6)).block, (ad422.add (((ji13)).toNat * 6)).off + 2, none⟩ = some (.int .i64 ((rd_T24 x5_1 (ji13)).f2)) ∧ w'.cell? ⟨(ad422.add (((ji13)).toNat * 6)).block, (ad422.add (((ji13)).toNat * 6)).off + 3, none⟩ = some (.int .i64 ((rd_T24 x5_1 (ji13)).f3)) ∧ w'.cell? ⟨(ad422.add (((ji13)).toNat * 6)).block, (ad422.add (((ji13)).toNat * 6)).off + 4, none⟩ = some (.int .i64 ((rd_T24 x5_1 (ji13)).f4)) ∧ w'.cell? ⟨(ad422.add (((ji13)).toNat * 6)).block, (ad422.add (((ji13)).toNat * 6)).off + 5, none⟩ = some (.string ((rd_T24 x5_1 (ji13)).f5))) (ds := []) #[F,F,F,F,F,F,F,F,F,F,F,F] (by kernel_rfl) rfl rfl ⟨e_ BK412 0, e_ BK412 1, e_ BK412 2, e_ BK412 3, e_ BK412 4, e_ BK412 5, hx422_0, hx422_1, hx422_2, hx422_3, hx422_4, hx422_5⟩ (fun hHeld => ?_); refine with_tabW hopperref06_Push.tab4 hopperref06_Push.bits4 (fun HT_ HW_ => ?_)
       generalize wr.drew = w22 at HO_5 BK412 HB hx422_0 hx422_1 hx422_2 hx422_3 hx422_4 hx422_5 hHeld ⊢
       refine pq_ 0 17 HT_ ?_
       refine pq_ 1 18 HT_ ?_
       refine pq_ 2 19 HT_ ?_
       refine pq_ 4 21 HT_ ?_
       refine pq_ 5 22 HT_ ?_
       refine pq_ 6 23 HT_ ?_
       refine pq_ 7 24 HT_ ?_
       refine pq_ 8 25 HT_ ?_
       refine tk_ 3 20 HT_ HW_ hHeld ?_
       refine tk_ 9 26 HT_ HW_ hHeld ?_
       refine one_ (i := 10) (N := some 27) #[T,T,T,T,T,T,T,T,T,T,T,F] rfl rfl (one_of HT_.out (by kernel_rfl)) (by decide) (fun K hK => ?_)
       refine goes_ Try.func49 (by kernel_rfl) rfl #[.agg #[.int .i64 x413000_1, .int .i64 x413001_1, .int .i64 x413002_1, .int .i64 x413003_1, .int .i64 x413004_1, .string x413005_1], .agg #[.int .i64 ((rd_T24 x5_1 (ji13)).f0), .int .i64 ((rd_T24 x5_1 (ji13)).f1), .int .i64 ((rd_T24 x5_1 (ji13)).f2), .int .i64 ((rd_T24 x5_1 (ji13)).f3), .int .i64 ((rd_T24 x5_1 (ji13)).f4), .string ((rd_T24 x5_1 (ji13)).f5)]] (by rfl) rfl rfl (by (try simp only [m0_, m1_, m2_]); first | done | (simp only [hji13]; rfl) | rfl | (simp only [List.length_drop, List.length_take]; rfl)) ?_
       with_reducible refine (hopperref04_Better.calls k1 x413000_1 x413001_1 x413002_1 x413003_1 x413004_1 x413005_1 ((rd_T24 x5_1 (ji13)).f0) ((rd_T24 x5_1 (ji13)).f1) ((rd_T24 x5_1 (ji13)).f2) ((rd_T24 x5_1 (ji13)).f3) ((rd_T24 x5_1 (ji13)).f4) ((rd_T24 x5_1 (ji13)).f5) true _ A16.out).mono ?_
       rintro e w23 ⟨rfl, hb⟩
       obtain ⟨_, _, _, _, _, _, h6_, h7_, h8_, h9_, h10_, h11_⟩ := hHeld
       have o_ := fun (p_ : Addr) (v_ : Value) => @on_ _ _ p_ v_ hb
       refine ⟨_, rfl, ?_⟩
       have n0_ := A_ (Kd.R_below (pr_ HO_5.out) hb); have n1_ := A_ (kb_ BK412 hb); have n2_ := A_ (below_step bw_ hb); replace HO_5 := n0_; replace BK412 := n1_; replace HB := n2_; clear n0_ n1_ n2_
       (try clear hb)
       (try clear hb2)
       (try clear hk)
       (try clear hi)
       refine hK.out _ _ ⟨e_ BK412 0, e_ BK412 1, e_ BK412 2, e_ BK412 3, e_ BK412 4, e_ BK412 5, o_ _ _ h6_, o_ _ _ h7_, o_ _ _ h8_, o_ _ _ h9_, o_ _ _ h10_, o_ _ _ h11_⟩ (fun hHeld => ?_)
       clear hK K
       refine norm_ (a' := ?_) ?_ ?_
       rotate_left
       · show Act.put _ (some 27) _ = _
         simp only [Act.put, s0_, s1_, s2_, i64_w, i32_w]
         rfl
       refine pq_ 11 28 HT_ ?_
       refine done_ (done_of HT_.out (by kernel_rfl)) ?_
       have p424 : 0 ≤ ((ji13) : Int) := of_decide_eq_true (by first | (with_reducible assumption) | assumption)
       have q424 : (ji13) < (x5_1.length : Int) := of_decide_eq_true (by first | (with_reducible assumption) | assumption)
       obtain ⟨ad424, e424, hx424_0, hx424_1, hx424_2, hx424_3, hx424_4, hx424_5⟩ := at_T24 (Kd.R_reads' HO_5.out).2.2 (ji13) p424 q424
       obtain rfl : ad422 = ad424 := (by injection e424)
       replace p424 := eq_true p424
       replace q424 := eq_true q424
       have p20 : 0 ≤ (x6_1 : Int) := of_decide_eq_true (by first | (with_reducible assumption) | assumption)
       have q20 : (x6_1 : Int) < ((x5_1.length : Int) : Int) := of_decide_eq_true (by first | (with_reducible assumption) | assumption)
       obtain ⟨go20, co20, eo20, gb20, gl20, cl20, HG20⟩ := Kd.R_form HO_5.out (by omega)
       (first | cases eo20 | (injection eo20 with ea_ en_ ec_; (first | subst ea_ | (injection ea_ with ea_; subst ea_)); subst ec_; clear en_))
       have GB20 := A_ gb20
       have GG20 := A_ HG20
       clear gb20 gl20 HG20
       (first | simp only [add_plain] at hx422_0 | skip)
       (first | simp only [add_plain] at hx422_1 | skip)
       (first | simp only [add_plain] at hx422_2 | skip)
       (first | simp only [add_plain] at hx422_3 | skip)
       (first | simp only [add_plain] at hx422_4 | skip)
       (first | simp only [add_plain] at hx422_5 | skip)
       (first | simp only [add_plain] at hx424_0 | skip)
       (first | simp only [add_plain] at hx424_1 | skip)
       (first | simp only [add_plain] at hx424_2 | skip)
       (first | simp only [add_plain] at hx424_3 | skip)
       (first | simp only [add_plain] at hx424_4 | skip)
       (first | simp only [add_plain] at hx424_5 | skip)
       obtain ⟨ce20, hcl20, hM20, hcc20, hfr20⟩ := Kd.R_elem HO_5.out z24 (x6_1 : Int) p20 q20
       obtain rfl := k24_openM hM20
       have hx20_0 : w23.cell? ⟨go20, (x6_1 : Int).toNat * 6, none⟩ = some (.int .i64 ((rd_T24 x5_1 x6_1).f0)) := hcc20 0 _ rfl
       have hx20_1 : w23.cell? ⟨go20, (x6_1 : Int).toNat * 6 + 1, none⟩ = some (.int .i64 ((rd_T24 x5_1 x6_1).f1)) := hcc20 1 _ rfl
       have hx20_2 : w23.cell? ⟨go20, (x6_1 : Int).toNat * 6 + 2, none⟩ = some (.int .i64 ((rd_T24 x5_1 x6_1).f2)) := hcc20 2 _ rfl
       have hx20_3 : w23.cell? ⟨go20, (x6_1 : Int).toNat * 6 + 3, none⟩ = some (.int .i64 ((rd_T24 x5_1 x6_1).f3)) := hcc20 3 _ rfl
       have hx20_4 : w23.cell? ⟨go20, (x6_1 : Int).toNat * 6 + 4, none⟩ = some (.int .i64 ((rd_T24 x5_1 x6_1).f4)) := hcc20 4 _ rfl
       have hx20_5 : w23.cell? ⟨go20, (x6_1 : Int).toNat * 6 + 5, none⟩ = some (.string ((rd_T24 x5_1 x6_1).f5)) := hcc20 5 _ rfl
       have hf20_0 : w23.frozen? ⟨go20, (x6_1 : Int).toNat * 6, none⟩ = false := hfr20 0
       have hf20_1 : w23.frozen? ⟨go20, (x6_1 : Int).toNat * 6 + 1, none⟩ = false := hfr20 1
       have hf20_2 : w23.frozen? ⟨go20, (x6_1 : Int).toNat * 6 + 2, none⟩ = false := hfr20 2
       have hf20_3 : w23.frozen? ⟨go20, (x6_1 : Int).toNat * 6 + 3, none⟩ = false := hfr20 3
       have hf20_4 : w23.frozen? ⟨go20, (x6_1 : Int).toNat * 6 + 4, none⟩ = false := hfr20 4
       have hf20_5 : w23.frozen? ⟨go20, (x6_1 : Int).toNat * 6 + 5, none⟩ = false := hfr20 5
       clear hcl20 hcc20 hfr20 hM20
       replace p20 := eq_true p20
       replace q20 := eq_true q20
       have HX24 := A_ (show Kd.R k24 24 w23 w.heap.size (fun k_ => k_ ≠ gb412) (.slice (some ⟨go20, 0, none⟩) x5_1.length co11) x5_1 from (pr_ HO_5.out))
       obtain ⟨ce24, hcl24, hM24, hcc24, hfr24⟩ := Kd.R_elem HX24.out z24 (x6_1 : Int) (of_decide_eq_true (by first | (with_reducible assumption) | assumption)) (by have h_ : (x6_1 : Int) < ((x5_1.length : Int) : Int) := of_decide_eq_true (by first | (with_reducible assumption) | assumption); first | exact h_ | (have e_ := (Kd.R_reads' HO_5.out).1; omega) | simpa using h_)
       obtain rfl := k24_openM hM24
       have HP24 := Kd.R_seg HX24.out (x6_1 : Int) (of_decide_eq_true (by first | (with_reducible assumption) | assumption)) (by have h_ : (x6_1 : Int) < ((x5_1.length : Int) : Int) := of_decide_eq_true (by first | (with_reducible assumption) | assumption); first | exact h_ | (have e_ := (Kd.R_reads' HO_5.out).1; omega) | simpa using h_) (seg := [.int .i64 ((rd_T24 x5_1 (ji13)).f0), .int .i64 ((rd_T24 x5_1 (ji13)).f1), .int .i64 ((rd_T24 x5_1 (ji13)).f2), .int .i64 ((rd_T24 x5_1 (ji13)).f3), .int .i64 ((rd_T24 x5_1 (ji13)).f4), .string ((rd_T24 x5_1 (ji13)).f5)]) (j := 0) hcl24 hcc24 (show 6 ≤ 6 from by decide) (x' := (⟨(rd_T24 x5_1 (ji13)).f0, (rd_T24 x5_1 (ji13)).f1, (rd_T24 x5_1 (ji13)).f2, (rd_T24 x5_1 (ji13)).f3, (rd_T24 x5_1 (ji13)).f4, (rd_T24 x5_1 (ji13)).f5⟩ : S24)) (k24_mkM _ _ _ (⟨(rd_T24 x5_1 (ji13)).f0, (rd_T24 x5_1 (ji13)).f1, (rd_T24 x5_1 (ji13)).f2, (rd_T24 x5_1 (ji13)).f3, (rd_T24 x5_1 (ji13)).f4, (rd_T24 x5_1 (ji13)).f5⟩ : S24) ) (fun _ hk => hk)
       have hx24_0 := hcc24 0 _ rfl
       (try simp only [show (k24).sz = 6 from rfl, Nat.mul_one, Nat.add_zero] at hx24_0)
       have hf24_0 := hfr24 0
       (try simp only [show (k24).sz = 6 from rfl, Nat.mul_one, Nat.add_zero] at hf24_0)
       have hx24_1 := hcc24 1 _ rfl
       (try simp only [show (k24).sz = 6 from rfl, Nat.mul_one, Nat.add_zero] at hx24_1)
       have hf24_1 := hfr24 1
       (try simp only [show (k24).sz = 6 from rfl, Nat.mul_one, Nat.add_zero] at hf24_1)
       have hx24_2 := hcc24 2 _ rfl
       (try simp only [show (k24).sz = 6 from rfl, Nat.mul_one, Nat.add_zero] at hx24_2)
       have hf24_2 := hfr24 2
       (try simp only [show (k24).sz = 6 from rfl, Nat.mul_one, Nat.add_zero] at hf24_2)
       have hx24_3 := hcc24 3 _ rfl
       (try simp only [show (k24).sz = 6 from rfl, Nat.mul_one, Nat.add_zero] at hx24_3)
       have hf24_3 := hfr24 3
       (try simp only [show (k24).sz = 6 from rfl, Nat.mul_one, Nat.add_zero] at hf24_3)
       have hx24_4 := hcc24 4 _ rfl
       (try simp only [show (k24).sz = 6 from rfl, Nat.mul_one, Nat.add_zero] at hx24_4)
       have hf24_4 := hfr24 4
       (try simp only [show (k24).sz = 6 from rfl, Nat.mul_one, Nat.add_zero] at hf24_4)
       have hx24_5 := hcc24 5 _ rfl
       (try simp only [show (k24).sz = 6 from rfl, Nat.mul_one, Nat.add_zero] at hx24_5)
       have hf24_5 := hfr24 5
       (try simp only [show (k24).sz = 6 from rfl, Nat.mul_one, Nat.add_zero] at hf24_5)
       clear hcl24 hcc24 hfr24 hM24
       try go_wp2_with (first | ((with_reducible refine gate_store (t := 24) (p := 37) rfl ?_); refine store_event (t := 24) (p := 37) (v := ?vo_w25) (w1 := ((((((w23.setCell ⟨go20, (x6_1 : Int).toNat * 6, none⟩ (.int .i64 ((rd_T24 x5_1 (ji13)).f0))).setCell ⟨go20, (x6_1 : Int).toNat * 6 + 1, none⟩ (.int .i64 ((rd_T24 x5_1 (ji13)).f1))).setCell ⟨go20, (x6_1 : Int).toNat * 6 + 2, none⟩ (.int .i64 ((rd_T24 x5_1 (ji13)).f2))).setCell ⟨go20, (x6_1 : Int).toNat * 6 + 3, none⟩ (.int .i64 ((rd_T24 x5_1 (ji13)).f3))).setCell ⟨go20, (x6_1 : Int).toNat * 6 + 4, none⟩ (.int .i64 ((rd_T24 x5_1 (ji13)).f4))).setCell ⟨go20, (x6_1 : Int).toNat * 6 + 5, none⟩ (.string ((rd_T24 x5_1 (ji13)).f5)))) ?hg ?ho ?hn ?hr ?_; (case ho => rfl); (case hg => rfl); (case hn => rfl); (case hr => first | (go_simp; done) | (go_simp; rfl)); intro w25 hw; have hg : w23.grownBy w25 (some go20) := (by rw [hw]; exact HP24.2); have hp_ : Kd.R k24 24 w25 w.heap.size (fun k_ => k_ ≠ gb412) (.slice (some ⟨go20, 0, none⟩) x5_1.length co11) y425 := (by rw [hw, Ny425.out]; exact HP24.1); clear HP24; have n0_ := A_ (hp_); have n1_ := A_ (blk_grown (g := gb412) (o := .cells #[.int .i64 x413000_1, .int .i64 x413001_1, .int .i64 x413002_1, .int .i64 x413003_1, .int .i64 x413004_1, .string x413005_1] 24 (0, 0)) (by (with_reducible repeat (first | refine bn_ ?_ _ | refine bd_ ?_ | refine ba_ ?_ _)); exact BK412.out) hg (Kd.R_away HO_5.out (fun _ hk => hk))); have n2_ := A_ ((by rw [hw]; exact ws_ (ws_ (ws_ (ws_ (ws_ (ws_ (HB.out) GB20.out) GB20.out) GB20.out) GB20.out) GB20.out) GB20.out : Below w.heap.size w w25)); replace HO_5 := n0_; replace BK412 := n1_; replace HB := n2_; clear n0_ n1_ n2_; clear hg hw hp_; have hcz26_0 : w25.cell? ⟨gb412, 0, none⟩ = some (.int .i64 x413000_1) := e_ BK412 0; have hcz26_1 : w25.cell? ⟨gb412, 1, none⟩ = some (.int .i64 x413001_1) := e_ BK412 1; have hcz26_2 : w25.cell? ⟨gb412, 2, none⟩ = some (.int .i64 x413002_1) := e_ BK412 2; have hcz26_3 : w25.cell? ⟨gb412, 3, none⟩ = some (.int .i64 x413003_1) := e_ BK412 3; have hcz26_4 : w25.cell? ⟨gb412, 4, none⟩ = some (.int .i64 x413004_1) := e_ BK412 4; have hcz26_5 : w25.cell? ⟨gb412, 5, none⟩ = some (.string x413005_1) := e_ BK412 5; obtain ⟨hfz26_0, hfz26_1, hfz26_2, hfz26_3, hfz26_4, hfz26_5⟩ := z6_ BK412; have p21 : 0 ≤ ((ji13) : Int) := of_decide_eq_true (by first | (with_reducible assumption) | assumption); have q21 : ((ji13) : Int) < ((x5_1.length : Int) : Int) := of_decide_eq_true (by first | (with_reducible assumption) | assumption); obtain ⟨ce21, hcl21, hM21, hcc21, hfr21⟩ := Kd.R_elem HO_5.out z24 ((ji13) : Int) p21 q21; obtain rfl := k24_openM hM21; have hx21_0 : w25.cell? ⟨go20, ((ji13) : Int).toNat * 6, none⟩ = some (.int .i64 ((rd_T24 y425 (ji13)).f0)) := hcc21 0 _ rfl; have hx21_1 : w25.cell? ⟨go20, ((ji13) : Int).toNat * 6 + 1, none⟩ = some (.int .i64 ((rd_T24 y425 (ji13)).f1)) := hcc21 1 _ rfl; have hx21_2 : w25.cell? ⟨go20, ((ji13) : Int).toNat * 6 + 2, none⟩ = some (.int .i64 ((rd_T24 y425 (ji13)).f2)) := hcc21 2 _ rfl; have hx21_3 : w25.cell? ⟨go20, ((ji13) : Int).toNat * 6 + 3, none⟩ = some (.int .i64 ((rd_T24 y425 (ji13)).f3)) := hcc21 3 _ rfl; have hx21_4 : w25.cell? ⟨go20, ((ji13) : Int).toNat * 6 + 4, none⟩ = some (.int .i64 ((rd_T24 y425 (ji13)).f4)) := hcc21 4 _ rfl; have hx21_5 : w25.cell? ⟨go20, ((ji13) : Int).toNat * 6 + 5, none⟩ = some (.string ((rd_T24 y425 (ji13)).f5)) := hcc21 5 _ rfl; have hf21_0 : w25.frozen? ⟨go20, ((ji13) : Int).toNat * 6, none⟩ = false := hfr21 0; have hf21_1 : w25.frozen? ⟨go20, ((ji13) : Int).toNat * 6 + 1, none⟩ = false := hfr21 1; have hf21_2 : w25.frozen? ⟨go20, ((ji13) : Int).toNat * 6 + 2, none⟩ = false := hfr21 2; have hf21_3 : w25.frozen? ⟨go20, ((ji13) : Int).toNat * 6 + 3, none⟩ = false := hfr21 3; have hf21_4 : w25.frozen? ⟨go20, ((ji13) : Int).toNat * 6 + 4, none⟩ = false := hfr21 4; have hf21_5 : w25.frozen? ⟨go20, ((ji13) : Int).toNat * 6 + 5, none⟩ = false := hfr21 5; clear hcl21 hcc21 hfr21 hM21; replace p21 := eq_true p21; replace q21 := eq_true q21; have HX27 := A_ (show Kd.R k24 24 w25 w.heap.size (fun k_ => k_ ≠ gb412) (.slice (some ⟨go20, 0, none⟩) x5_1.length co11) y425 from (pr_ HO_5.out)); obtain ⟨ce27, hcl27, hM27, hcc27, hfr27⟩ := Kd.R_elem HX27.out z24 ((ji13) : Int) (of_decide_eq_true (by first | (with_reducible assumption) | assumption)) (by have h_ : ((ji13) : Int) < ((x5_1.length : Int) : Int) := of_decide_eq_true (by first | (with_reducible assumption) | assumption); first | exact h_ | (have e_ := (Kd.R_reads' HO_5.out).1; omega) | simpa using h_); obtain rfl := k24_openM hM27; have HP27 := Kd.R_seg HX27.out ((ji13) : Int) (of_decide_eq_true (by first | (with_reducible assumption) | assumption)) (by have h_ : ((ji13) : Int) < ((x5_1.length : Int) : Int) := of_decide_eq_true (by first | (with_reducible assumption) | assumption); first | exact h_ | (have e_ := (Kd.R_reads' HO_5.out).1; omega) | simpa using h_) (seg := [.int .i64 x413000_1, .int .i64 x413001_1, .int .i64 x413002_1, .int .i64 x413003_1, .int .i64 x413004_1, .string x413005_1]) (j := 0) hcl27 hcc27 (show 6 ≤ 6 from by decide) (x' := (⟨x413000_1, x413001_1, x413002_1, x413003_1, x413004_1, x413005_1⟩ : S24)) (k24_mkM _ _ _ (⟨x413000_1, x413001_1, x413002_1, x413003_1, x413004_1, x413005_1⟩ : S24) ) (fun _ hk => hk); have hx27_0 := hcc27 0 _ rfl; (try simp only [show (k24).sz = 6 from rfl, Nat.mul_one, Nat.add_zero] at hx27_0); have hf27_0 := hfr27 0; (try simp only [show (k24).sz = 6 from rfl, Nat.mul_one, Nat.add_zero] at hf27_0); have hx27_1 := hcc27 1 _ rfl; (try simp only [show (k24).sz = 6 from rfl, Nat.mul_one, Nat.add_zero] at hx27_1); have hf27_1 := hfr27 1; (try simp only [show (k24).sz = 6 from rfl, Nat.mul_one, Nat.add_zero] at hf27_1); have hx27_2 := hcc27 2 _ rfl; (try simp only [show (k24).sz = 6 from rfl, Nat.mul_one, Nat.add_zero] at hx27_2); have hf27_2 := hfr27 2; (try simp only [show (k24).sz = 6 from rfl, Nat.mul_one, Nat.add_zero] at hf27_2); have hx27_3 := hcc27 3 _ rfl; (try simp only [show (k24).sz = 6 from rfl, Nat.mul_one, Nat.add_zero] at hx27_3); have hf27_3 := hfr27 3; (try simp only [show (k24).sz = 6 from rfl, Nat.mul_one, Nat.add_zero] at hf27_3); have hx27_4 := hcc27 4 _ rfl; (try simp only [show (k24).sz = 6 from rfl, Nat.mul_one, Nat.add_zero] at hx27_4); have hf27_4 := hfr27 4; (try simp only [show (k24).sz = 6 from rfl, Nat.mul_one, Nat.add_zero] at hf27_4); have hx27_5 := hcc27 5 _ rfl; (try simp only [show (k24).sz = 6 from rfl, Nat.mul_one, Nat.add_zero] at hx27_5); have hf27_5 := hfr27 5; (try simp only [show (k24).sz = 6 from rfl, Nat.mul_one, Nat.add_zero] at hf27_5); clear hcl27 hcc27 hfr27 hM27) | ((with_reducible refine gate_store (t := 24) (p := 43) rfl ?_); refine store_event (t := 24) (p := 43) (v := ?vo_w28) (w1 := ((((((w25.setCell ⟨go20, ((ji13) : Int).toNat * 6, none⟩ (.int .i64 x413000_1)).setCell ⟨go20, ((ji13) : Int).toNat * 6 + 1, none⟩ (.int .i64 x413001_1)).setCell ⟨go20, ((ji13) : Int).toNat * 6 + 2, none⟩ (.int .i64 x413002_1)).setCell ⟨go20, ((ji13) : Int).toNat * 6 + 3, none⟩ (.int .i64 x413003_1)).setCell ⟨go20, ((ji13) : Int).toNat * 6 + 4, none⟩ (.int .i64 x413004_1)).setCell ⟨go20, ((ji13) : Int).toNat * 6 + 5, none⟩ (.string x413005_1))) ?hg ?ho ?hn ?hr ?_; (case ho => rfl); (case hg => rfl); (case hn => rfl); (case hr => first | (go_simp; done) | (go_simp; rfl)); intro w28 hw; have hg : w25.grownBy w28 (some go20) := (by rw [hw]; exact HP27.2); have hp_ : Kd.R k24 24 w28 w.heap.size (fun k_ => k_ ≠ gb412) (.slice (some ⟨go20, 0, none⟩) x5_1.length co11) y426 := (by rw [hw, Ny426.out]; exact HP27.1); clear HP27; have n0_ := A_ (hp_); have n1_ := A_ (blk_grown (g := gb412) (o := .cells #[.int .i64 x413000_1, .int .i64 x413001_1, .int .i64 x413002_1, .int .i64 x413003_1, .int .i64 x413004_1, .string x413005_1] 24 (0, 0)) (by (with_reducible repeat (first | refine bn_ ?_ _ | refine bd_ ?_ | refine ba_ ?_ _)); exact BK412.out) hg (Kd.R_away HO_5.out (fun _ hk => hk))); have n2_ := A_ ((by rw [hw]; exact ws_ (ws_ (ws_ (ws_ (ws_ (ws_ (HB.out) GB20.out) GB20.out) GB20.out) GB20.out) GB20.out) GB20.out : Below w.heap.size w w28)); replace HO_5 := n0_; replace BK412 := n1_; replace HB := n2_; clear n0_ n1_ n2_; clear hg hw hp_))
       (try simp only [← hl5_1])
       go_roundg k1
       case measure => have := HK1.out; omega
       case rel => exact ⟨(y426), (ji13), (x413000_1), (x413001_1), (x413002_1), (x413003_1), (x413004_1), (x413005_1), (by first | rfl | (simp; done) | (simp only [← hji13] <;> (first | rfl | simp)) | (simp [*]; done)), H', ⟨by have := HK1.out; omega⟩, ⟨by (try simp only [hl5_1]); (with_reducible repeat (first | apply ra_ | apply rn_ | apply rd_)); exact HO_5.out⟩, ⟨by (try simp only [hl5_1]); (with_reducible repeat (first | refine bn_ ?_ _ | refine bd_ ?_ | refine ba_ ?_ _)); exact BK412.out⟩, ⟨by repeat (first | (with_reducible first | exact HB.out | apply wa_ | apply wn_ | apply wd_ | refine ws_ ?_ GE412.out) | exact HB.out)⟩⟩
     · replace c17 := Bool.eq_false_iff.mpr c17
       subst c17
       have H1 : (some x5_1) = some r := by rw [if_neg (show ¬ (false = true) by decide)] at H; exact H
       clear H
       have H := H1
       clear H1
       obtain rfl := Option.some.inj H
       try go_wp2
       have n0_ := A_ (rd_ HO_5.out); have n1_ := A_ (bd_ BK412.out); have n2_ := A_ (wd_ HB.out); replace HO_5 := n0_; replace BK412 := n1_; replace HB := n2_; clear n0_ n1_ n2_
       have p422 : 0 ≤ ((ji13) : Int) := of_decide_eq_true (by first | (with_reducible assumption) | assumption)
       have q422 : (ji13) < (x5_1.length : Int) := of_decide_eq_true (by first | (with_reducible assumption) | assumption)
       obtain ⟨ad422, e422, hx422_0, hx422_1, hx422_2, hx422_3, hx422_4, hx422_5⟩ := at_T24 (Kd.R_reads' HO_5.out).2.2 (ji13) p422 q422
       cases e422
       replace p422 := eq_true p422
       replace q422 := eq_true q422
       refine start_ (n := 12) (S := fun w' => w'.cell? ⟨gb412, 0, none⟩ = some (.int .i64 x413000_1) ∧ w'.cell? ⟨gb412, 1, none⟩ = some (.int .i64 x413001_1) ∧ w'.cell? ⟨gb412, 2, none⟩ = some (.int .i64 x413002_1) ∧ w'.cell? ⟨gb412, 3, none⟩ = some (.int .i64 x413003_1) ∧ w'.cell? ⟨gb412, 4, none⟩ = some (.int .i64 x413004_1) ∧ w'.cell? ⟨gb412, 5, none⟩ = some (.string x413005_1) ∧ w'.cell? (ad422.add (((ji13)).toNat * 6)) = some (.int .i64 ((rd_T24 x5_1 (ji13)).f0)) ∧ w'.cell? ⟨(ad422.add (((ji13)).toNat * 6)).block, (ad422.add (((ji13)).toNat * 6)).off + 1, none⟩ = some (.int .i64 ((rd_T24 x5_1 (ji13)).f1)) ∧ w'.cell? ⟨(ad422.add (((ji13)).toNat * 6)).block, (ad422.add (((ji13)).toNat * 6)).off + 2, none⟩ = some (.int .i64 ((rd_T24 x5_1 (ji13)).f2)) ∧ w'.cell? ⟨(ad422.add (((ji13)).toNat * 6)).block, (ad422.add (((ji13)).toNat * 6)).off + 3, none⟩ = some (.int .i64 ((rd_T24 x5_1 (ji13)).f3)) ∧ w'.cell? ⟨(ad422.add (((ji13)).toNat * 6)).block, (ad422.add (((ji13)).toNat * 6)).off + 4, none⟩ = some (.int .i64 ((rd_T24 x5_1 (ji13)).f4)) ∧ w'.cell? ⟨(ad422.add (((ji13)).toNat * 6)).block, (ad422.add (((ji13)).toNat * 6)).off + 5, none⟩ = some (.string ((rd_T24 x5_1 (ji13)).f5))) (ds := []) #[F,F,F,F,F,F,F,F,F,F,F,F] (by kernel_rfl) rfl rfl ⟨e_ BK412 0, e_ BK412 1, e_ BK412 2, e_ BK412 3, e_ BK412 4, e_ BK412 5, hx422_0, hx422_1, hx422_2, hx422_3, hx422_4, hx422_5⟩ (fun hHeld => ?_); refine with_tabW hopperref06_Push.tab4 hopperref06_Push.bits4 (fun HT_ HW_ => ?_)
       generalize wr.drew = w29 at HO_5 BK412 HB hx422_0 hx422_1 hx422_2 hx422_3 hx422_4 hx422_5 hHeld ⊢
       refine pq_ 0 17 HT_ ?_
       refine pq_ 1 18 HT_ ?_
       refine pq_ 2 19 HT_ ?_
       refine pq_ 4 21 HT_ ?_
       refine pq_ 5 22 HT_ ?_
       refine pq_ 6 23 HT_ ?_
       refine pq_ 7 24 HT_ ?_
       refine pq_ 8 25 HT_ ?_
       refine tk_ 3 20 HT_ HW_ hHeld ?_
       refine tk_ 9 26 HT_ HW_ hHeld ?_
       refine one_ (i := 10) (N := some 27) #[T,T,T,T,T,T,T,T,T,T,T,F] rfl rfl (one_of HT_.out (by kernel_rfl)) (by decide) (fun K hK => ?_)
       refine goes_ Try.func49 (by kernel_rfl) rfl #[.agg #[.int .i64 x413000_1, .int .i64 x413001_1, .int .i64 x413002_1, .int .i64 x413003_1, .int .i64 x413004_1, .string x413005_1], .agg #[.int .i64 ((rd_T24 x5_1 (ji13)).f0), .int .i64 ((rd_T24 x5_1 (ji13)).f1), .int .i64 ((rd_T24 x5_1 (ji13)).f2), .int .i64 ((rd_T24 x5_1 (ji13)).f3), .int .i64 ((rd_T24 x5_1 (ji13)).f4), .string ((rd_T24 x5_1 (ji13)).f5)]] (by rfl) rfl rfl (by (try simp only [m0_, m1_, m2_]); first | done | (simp only [hji13]; rfl) | rfl | (simp only [List.length_drop, List.length_take]; rfl)) ?_
       with_reducible refine (hopperref04_Better.calls k1 x413000_1 x413001_1 x413002_1 x413003_1 x413004_1 x413005_1 ((rd_T24 x5_1 (ji13)).f0) ((rd_T24 x5_1 (ji13)).f1) ((rd_T24 x5_1 (ji13)).f2) ((rd_T24 x5_1 (ji13)).f3) ((rd_T24 x5_1 (ji13)).f4) ((rd_T24 x5_1 (ji13)).f5) false _ A16.out).mono ?_
       rintro e w30 ⟨rfl, hb⟩
       obtain ⟨_, _, _, _, _, _, h6_, h7_, h8_, h9_, h10_, h11_⟩ := hHeld
       have o_ := fun (p_ : Addr) (v_ : Value) => @on_ _ _ p_ v_ hb
       refine ⟨_, rfl, ?_⟩
       have n0_ := A_ (Kd.R_below (pr_ HO_5.out) hb); have n1_ := A_ (kb_ BK412 hb); have n2_ := A_ (below_step bw_ hb); replace HO_5 := n0_; replace BK412 := n1_; replace HB := n2_; clear n0_ n1_ n2_
       (try clear hb)
       (try clear hb2)
       (try clear hk)
       (try clear hi)
       refine hK.out _ _ ⟨e_ BK412 0, e_ BK412 1, e_ BK412 2, e_ BK412 3, e_ BK412 4, e_ BK412 5, o_ _ _ h6_, o_ _ _ h7_, o_ _ _ h8_, o_ _ _ h9_, o_ _ _ h10_, o_ _ _ h11_⟩ (fun hHeld => ?_)
       clear hK K
       refine norm_ (a' := ?_) ?_ ?_
       rotate_left
       · show Act.put _ (some 27) _ = _
         simp only [Act.put, s0_, s1_, s2_, i64_w, i32_w]
         rfl
       refine pq_ 11 28 HT_ ?_
       refine done_ (done_of HT_.out (by kernel_rfl)) ?_
       try go_wp2
       go_ret
       exact ⟨_, by first | rfl | (simp [errW_none, errW_some] <;> rfl) | (simp only [← hji13]; first | rfl | (simp [errW_none, errW_some] <;> rfl)) | (simp [*, errW_none, errW_some] <;> rfl), by (with_reducible repeat (first | apply ra_ | apply rn_ | apply rd_)); exact Kd.R_mono HO_5.out (fun _ hk => trivial), by repeat (first | (with_reducible first | exact HB.out | apply wa_ | apply wn_ | apply wd_ | refine ws_ ?_ GE412.out) | exact HB.out)⟩
   · rw [if_neg c12] at H
     have c12b0 : decide (0 < x6_1) = false := decide_eq_false c12
     clear c12
     obtain rfl := Option.some.inj H
     try go_wp2
     have n0_ := A_ (rd_ HO_5.out); have n1_ := A_ (bd_ BK412.out); have n2_ := A_ (wd_ HB.out); replace HO_5 := n0_; replace BK412 := n1_; replace HB := n2_; clear n0_ n1_ n2_
     refine start_ (n := 12) (S := fun w' => True) (ds := []) #[F,F,F,F,F,F,F,F,F,F,F,F] (by kernel_rfl) rfl rfl trivial (fun hHeld => ?_); refine with_tabW hopperref06_Push.tab4 hopperref06_Push.bits4 (fun HT_ HW_ => ?_)
     generalize wr.drew = w31 at HO_5 BK412 HB hHeld ⊢
     refine pq_ 0 17 HT_ ?_
     refine pq_ 1 18 HT_ ?_
     refine pq_ 2 19 HT_ ?_
     refine pu_ 3 20 HT_ ?_
     refine pu_ 4 21 HT_ ?_
     refine pu_ 5 22 HT_ ?_
     refine pu_ 6 23 HT_ ?_
     refine pu_ 7 24 HT_ ?_
     refine pu_ 8 25 HT_ ?_
     refine pu_ 9 26 HT_ ?_
     refine pu_ 10 27 HT_ ?_
     refine pq_ 11 28 HT_ ?_
     refine done_ (done_of HT_.out (by kernel_rfl)) ?_
     try go_wp2
     go_ret
     exact ⟨_, by first | rfl | (simp [errW_none, errW_some] <;> rfl) | (simp [*, errW_none, errW_some] <;> rfl), by (with_reducible repeat (first | apply ra_ | apply rn_ | apply rd_)); exact Kd.R_mono HO_5.out (fun _ hk => trivial), by repeat (first | (with_reducible first | exact HB.out | apply wa_ | apply wn_ | apply wd_ | refine ws_ ?_ GE412.out) | exact HB.out)⟩
end Go.Proofs.Ytehncbhmdgdkjaa.L
