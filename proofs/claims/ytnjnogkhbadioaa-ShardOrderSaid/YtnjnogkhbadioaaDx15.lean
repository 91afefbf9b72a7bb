/- Written by this session's own program over the kit's print: functions of Go told as plain functions, or the row of one statement; proved for every input, with no condition of ours. -/
import Derived.Test.YtnjnogkhbadioaaDx0
import Derived.Test.YtnjnogkhbadioaaDx2
import Derived.Test.YtnjnogkhbadioaaDx7
import Derived.Test.YtnjnogkhbadioaaDx10
import Derived.Test.YtnjnogkhbadioaaDx13
import Derived.Test.YtnjnogkhbadioaaDx14
namespace Go.Proofs.Ytnjnogkhbadioaa.D
open Go.RowKit Go.Proofs.YtnjnogkhbadioaaW.PrintWords Go.Proofs.YtnjnogkhbadioaaW.PrintLast Go.Proofs.YtnjnogkhbadioaaW.PrintMore
attribute [local go_sem] max2_int min2_int max_two min_two max_three min_three max_four min_four   -- for this text's walks alone
set_option linter.unusedVariables false
set_option linter.unusedSimpArgs false

/-! ### hopperlaw11_ShardOrder: function 5 -/
mutual
def hopperlaw11_ShardOrder.j0 : Nat → Bool → List (S46) → Int → Int → Int → List (S32) → Int → Int → List (S32) → Option (Bool)
 | 0, _, _, _, _, _, _, _, _, _ => none
 | k + 1, x36, x256000, x256001, x257000, x257001, x257002, x258000, x258001, x258002 => if x36 = true then ((hopperlaw11_live.f).bind fun t261 => (some t261)) else (hopperlaw11_ShardOrder.l0 k 1 x256000 x256001 x257000 x257001 x257002 x258000 x258001 x258002)
def hopperlaw11_ShardOrder.l0 : Nat → Int → List (S46) → Int → Int → Int → List (S32) → Int → Int → List (S32) → Option (Bool)
 | 0, _, _, _, _, _, _, _, _, _ => none
 | k + 1, x7, x256000, x256001, x257000, x257001, x257002, x258000, x258001, x258002 => if x7 < (x256000.length : Int) then (if 0 ≤ (wrap64 (x7 - 1)) then (if (wrap64 (x7 - 1)) < (x256000.length : Int) then (if 0 ≤ x7 then (if ((rd_T46 x256000 (wrap64 (x7 - 1))).f0) ≥ ((rd_T46 x256000 x7).f0) then ((hopperlaw11_live.f).bind fun t264 => (some t264)) else (hopperlaw11_ShardOrder.l0 k (wrap64 (x7 + 1)) x256000 x256001 x257000 x257001 x257002 x258000 x258001 x258002)) else (none)) else (none)) else (none)) else ((shard_Set.f x256000 x256001 x257000 x257001 x257002).bind fun bt266 => ((shard_Set.f bt266.1 bt266.2 x258000 x258001 x258002).bind fun bt270 => ((shard_Set.f x256000 x256001 x258000 x258001 x258002).bind fun bt275 => ((shard_Set.f bt275.1 bt275.2 x257000 x257001 x257002).bind fun bt279 => ((shard_Set.f bt270.1 bt270.2 x257000 0 ([] : List (S32))).bind fun bt284 => (hopperlaw11_ShardOrder.l1 k 0 x256000 x256001 x257000 x257001 x257002 x258000 x258001 x258002 bt270.1 bt270.2 bt279.1 bt279.2 bt284.1 bt284.2))))))
def hopperlaw11_ShardOrder.l1 : Nat → Int → List (S46) → Int → Int → Int → List (S32) → Int → Int → List (S32) → List (S46) → Int → List (S46) → Int → List (S46) → Int → Option (Bool)
 | 0, _, _, _, _, _, _, _, _, _, _, _, _, _, _, _ => none
 | k + 1, x12, x256000, x256001, x257000, x257001, x257002, x258000, x258001, x258002, x275000, x275001, x284000, x284001, x289000, x289001 => if x12 < (x289000.length : Int) then (if 0 ≤ x12 then (if ((rd_T46 x289000 x12).f0) = x257000 then (none) else (hopperlaw11_ShardOrder.l1 k (wrap64 (x12 + 1)) x256000 x256001 x257000 x257001 x257002 x258000 x258001 x258002 x275000 x275001 x284000 x284001 x289000 x289001)) else (none)) else (if x257000 = x258000 then (if x275001 = (wrap64 (x256001 + 2)) then ((hopperlaw11_live.f).bind fun t290 => (some t290)) else (none)) else ((hopperref11_Same.f k x275000 x275001 x284000 x284001).bind fun t291 => (if t291 = true then (if x275001 = (wrap64 (x256001 + 2)) then ((hopperlaw11_live.f).bind fun t292 => (some t292)) else (none)) else (none))))
end
def hopperlaw11_ShardOrder.f (k : Nat) (l0_0 : List (S46)) (a0_1 : Int) (a1_0 : Int) (a1_1 : Int) (l1_2 : List (S32)) (a2_0 : Int) (a2_1 : Int) (l2_2 : List (S32)) : Option (Bool) := (hopperref11_Few.f k l0_0 20).bind fun t258 => (if t258 = true then ((hopperref05_Small.f k a1_0 a1_1 l1_2).bind fun t259 => (if t259 = true then ((hopperref05_Small.f k a2_0 a2_1 l2_2).bind fun t260 => (if t260 = true then (if a0_1 < 0 then (hopperlaw11_ShardOrder.j0 k true l0_0 a0_1 a1_0 a1_1 l1_2 a2_0 a2_1 l2_2) else (hopperlaw11_ShardOrder.j0 k (decide (a0_1 > 1099511627773)) l0_0 a0_1 a1_0 a1_1 l1_2 a2_0 a2_1 l2_2)) else (hopperlaw11_ShardOrder.j0 k true l0_0 a0_1 a1_0 a1_1 l1_2 a2_0 a2_1 l2_2))) else (hopperlaw11_ShardOrder.j0 k true l0_0 a0_1 a1_0 a1_1 l1_2 a2_0 a2_1 l2_2))) else (hopperlaw11_ShardOrder.j0 k true l0_0 a0_1 a1_0 a1_1 l1_2 a2_0 a2_1 l2_2))
theorem hopperlaw11_ShardOrder.mono_l : ∀ k, (∀ y0 y1 y2 y3 y4 y5 y6 y7 y8, LeO (hopperlaw11_ShardOrder.j0 k y0 y1 y2 y3 y4 y5 y6 y7 y8) (hopperlaw11_ShardOrder.j0 (k + 1) y0 y1 y2 y3 y4 y5 y6 y7 y8)) ∧ (∀ y0 y1 y2 y3 y4 y5 y6 y7 y8, LeO (hopperlaw11_ShardOrder.l0 k y0 y1 y2 y3 y4 y5 y6 y7 y8) (hopperlaw11_ShardOrder.l0 (k + 1) y0 y1 y2 y3 y4 y5 y6 y7 y8)) ∧ (∀ y0 y1 y2 y3 y4 y5 y6 y7 y8 y9 y10 y11 y12 y13 y14, LeO (hopperlaw11_ShardOrder.l1 k y0 y1 y2 y3 y4 y5 y6 y7 y8 y9 y10 y11 y12 y13 y14) (hopperlaw11_ShardOrder.l1 (k + 1) y0 y1 y2 y3 y4 y5 y6 y7 y8 y9 y10 y11 y12 y13 y14))
 | 0 => ⟨fun _ _ _ _ _ _ _ _ _ r h => by simp [hopperlaw11_ShardOrder.j0] at h, fun _ _ _ _ _ _ _ _ _ r h => by simp [hopperlaw11_ShardOrder.l0] at h, fun _ _ _ _ _ _ _ _ _ _ _ _ _ _ _ r h => by simp [hopperlaw11_ShardOrder.l1] at h⟩
 | k + 1 => by
  obtain ⟨ih0, ih1, ih2⟩ := hopperlaw11_ShardOrder.mono_l k
  refine ⟨?_, ?_, ?_⟩
  · intro y0 y1 y2 y3 y4 y5 y6 y7 y8
    unfold hopperlaw11_ShardOrder.j0
    repeat' first
    | (with_reducible exact ih0 _ _ _ _ _ _ _ _ _)
    | (with_reducible exact ih1 _ _ _ _ _ _ _ _ _)
    | (with_reducible exact ih2 _ _ _ _ _ _ _ _ _ _ _ _ _ _ _)
    | (with_reducible exact hopperref05_Small.mono _ _ _ _)
    | (with_reducible exact hopperref11_Few.mono _ _ _)
    | (with_reducible exact hopperref11_Same.mono _ _ _ _ _)
    | (with_reducible exact LeO.refl _)
    | (with_reducible exact LeO.none _)
    | (with_reducible refine LeO.ite ?_ ?_)
    | (with_reducible refine LeO.bind ?_ (fun _ => ?_))
    | exact ih0 _ _ _ _ _ _ _ _ _
    | exact ih1 _ _ _ _ _ _ _ _ _
    | exact ih2 _ _ _ _ _ _ _ _ _ _ _ _ _ _ _
    | exact hopperref05_Small.mono _ _ _ _
    | exact hopperref11_Few.mono _ _ _
    | exact hopperref11_Same.mono _ _ _ _ _
    | exact LeO.none _
    | refine LeO.ite ?_ ?_
    | refine LeO.bind ?_ (fun _ => ?_)
  · intro y0 y1 y2 y3 y4 y5 y6 y7 y8
    unfold hopperlaw11_ShardOrder.l0
    repeat' first
    | (with_reducible exact ih0 _ _ _ _ _ _ _ _ _)
    | (with_reducible exact ih1 _ _ _ _ _ _ _ _ _)
    | (with_reducible exact ih2 _ _ _ _ _ _ _ _ _ _ _ _ _ _ _)
    | (with_reducible exact hopperref05_Small.mono _ _ _ _)
    | (with_reducible exact hopperref11_Few.mono _ _ _)
    | (with_reducible exact hopperref11_Same.mono _ _ _ _ _)
    | (with_reducible exact LeO.refl _)
    | (with_reducible exact LeO.none _)
    | (with_reducible refine LeO.ite ?_ ?_)
    | (with_reducible refine LeO.bind ?_ (fun _ => ?_))
    | exact ih0 _ _ _ _ _ _ _ _ _
    | exact ih1 _ _ _ _ _ _ _ _ _
    | exact ih2 _ _ _ _ _ _ _ _ _ _ _ _ _ _ _
    | exact hopperref05_Small.mono _ _ _ _
    | exact hopperref11_Few.mono _ _ _
    | exact hopperref11_Same.mono _ _ _ _ _
    | exact LeO.none _
    | refine LeO.ite ?_ ?_
    | refine LeO.bind ?_ (fun _ => ?_)
  · intro y0 y1 y2 y3 y4 y5 y6 y7 y8 y9 y10 y11 y12 y13 y14
    unfold hopperlaw11_ShardOrder.l1
    repeat' first
    | (with_reducible exact ih0 _ _ _ _ _ _ _ _ _)
    | (with_reducible exact ih1 _ _ _ _ _ _ _ _ _)
    | (with_reducible exact ih2 _ _ _ _ _ _ _ _ _ _ _ _ _ _ _)
    | (with_reducible exact hopperref05_Small.mono _ _ _ _)
    | (with_reducible exact hopperref11_Few.mono _ _ _)
    | (with_reducible exact hopperref11_Same.mono _ _ _ _ _)
    | (with_reducible exact LeO.refl _)
    | (with_reducible exact LeO.none _)
    | (with_reducible refine LeO.ite ?_ ?_)
    | (with_reducible refine LeO.bind ?_ (fun _ => ?_))
    | exact ih0 _ _ _ _ _ _ _ _ _
    | exact ih1 _ _ _ _ _ _ _ _ _
    | exact ih2 _ _ _ _ _ _ _ _ _ _ _ _ _ _ _
    | exact hopperref05_Small.mono _ _ _ _
    | exact hopperref11_Few.mono _ _ _
    | exact hopperref11_Same.mono _ _ _ _ _
    | exact LeO.none _
    | refine LeO.ite ?_ ?_
    | refine LeO.bind ?_ (fun _ => ?_)
theorem hopperlaw11_ShardOrder.mono : ∀ a0 a1 a2 a3 a4 a5 a6 a7 k, LeO (hopperlaw11_ShardOrder.f k a0 a1 a2 a3 a4 a5 a6 a7) (hopperlaw11_ShardOrder.f (k + 1) a0 a1 a2 a3 a4 a5 a6 a7) := by
 intro a0 a1 a2 a3 a4 a5 a6 a7 k
 obtain ⟨ih0, ih1, ih2⟩ := hopperlaw11_ShardOrder.mono_l k
 unfold hopperlaw11_ShardOrder.f
 repeat' first
  | (with_reducible exact ih0 _ _ _ _ _ _ _ _ _)
  | (with_reducible exact ih1 _ _ _ _ _ _ _ _ _)
  | (with_reducible exact ih2 _ _ _ _ _ _ _ _ _ _ _ _ _ _ _)
  | (with_reducible exact hopperref05_Small.mono _ _ _ _)
  | (with_reducible exact hopperref11_Few.mono _ _ _)
  | (with_reducible exact hopperref11_Same.mono _ _ _ _ _)
  | (with_reducible exact LeO.refl _)
  | (with_reducible exact LeO.none _)
  | (with_reducible refine LeO.ite ?_ ?_)
  | (with_reducible refine LeO.bind ?_ (fun _ => ?_))
  | exact ih0 _ _ _ _ _ _ _ _ _
  | exact ih1 _ _ _ _ _ _ _ _ _
  | exact ih2 _ _ _ _ _ _ _ _ _ _ _ _ _ _ _
  | exact hopperref05_Small.mono _ _ _ _
  | exact hopperref11_Few.mono _ _ _
  | exact hopperref11_Same.mono _ _ _ _ _
  | exact LeO.none _
  | refine LeO.ite ?_ ?_
  | refine LeO.bind ?_ (fun _ => ?_)
def hopperlaw11_ShardOrder.T6 : Bool × List (List Nat × List Nat) := (true, [([], []), ([0], [0]), ([], []), ([2], [2]), ([1, 3], [1, 3]), ([4], [4]), ([5], [5]), ([], []), ([7], [7]), ([], []), ([8, 9], [8, 9]), ([10], [10]), ([11], [11]), ([6, 12], [6, 12])])
def hopperlaw11_ShardOrder.B6 : List Nat := [0, 1, 0, 4, 15, 31, 63, 0, 128, 0, 896, 1920, 3968, 8191]
theorem hopperlaw11_ShardOrder.tab6 : rtab .any (opsOf Try.f5 6) = hopperlaw11_ShardOrder.T6 := by kernel_rfl
theorem hopperlaw11_ShardOrder.bits6 : waitsOk hopperlaw11_ShardOrder.T6.2 hopperlaw11_ShardOrder.B6 = true := by kernel_rfl
def hopperlaw11_ShardOrder.T15 : Bool × List (List Nat × List Nat) := (true, [([], []), ([0], [0]), ([], []), ([1, 2], [1, 2]), ([3], [3]), ([4], [4]), ([], []), ([6], [6]), ([5, 7], [5, 7])])
def hopperlaw11_ShardOrder.B15 : List Nat := [0, 1, 0, 7, 15, 31, 0, 64, 255]
theorem hopperlaw11_ShardOrder.tab15 : rtab .any (opsOf Try.f5 15) = hopperlaw11_ShardOrder.T15 := by kernel_rfl
theorem hopperlaw11_ShardOrder.bits15 : waitsOk hopperlaw11_ShardOrder.T15.2 hopperlaw11_ShardOrder.B15 = true := by kernel_rfl
set_option maxHeartbeats 8000000 in
set_option maxRecDepth 100000 in
theorem hopperlaw11_ShardOrder.calls (k : Nat) (A0_0 : Option Addr) (c0_0 : Nat) (l0_0 : List (S46)) (a0_1 : Int) (a1_0 : Int) (a1_1 : Int) (A1_2 : Option Addr) (c1_2 : Nat) (l1_2 : List (S32)) (a2_0 : Int) (a2_1 : Int) (A2_2 : Option Addr) (c2_2 : Nat) (l2_2 : List (S32)) (r : Bool) (w : World) (hr0_0 : Kd.C k46 w A0_0 l0_0.length l0_0) (hc0_0 : l0_0.length ≤ c0_0) (hr1_2 : Kd.C k32 w A1_2 l1_2.length l1_2) (hc1_2 : l1_2.length ≤ c1_2) (hr2_2 : Kd.C k32 w A2_2 l2_2.length l2_2) (hc2_2 : l2_2.length ≤ c2_2) (h : hopperlaw11_ShardOrder.f k l0_0 a0_1 a1_0 a1_1 l1_2 a2_0 a2_1 l2_2 = some r) :
 Calls Try.prog 5 #[.agg #[.slice A0_0 l0_0.length c0_0, .int .i64 a0_1], .agg #[.int .i64 a1_0, .int .i64 a1_1, .slice A1_2 l1_2.length c1_2], .agg #[.int .i64 a2_0, .int .i64 a2_1, .slice A2_2 l2_2.length c2_2]] w fun e w' => e = .returned (.bool r) ∧ Below w.heap.size w w' := by
 have hu26 := Try.underlying26
 have hu46 := Try.underlying46
 have hu48 := Try.underlying48
 have HR0_0 := A_ hr0_0
 have HC0_0 := A_ hc0_0
 clear hr0_0 hc0_0
 have HR1_2 := A_ hr1_2
 have HC1_2 := A_ hc1_2
 clear hr1_2 hc1_2
 have HR2_2 := A_ hr2_2
 have HC2_2 := A_ hc2_2
 clear hr2_2 hc2_2; have HB := A_ (Below.refl w.heap.size w)
 have H : ((hopperref11_Few.f k l0_0 20).bind fun t258 => (if t258 = true then ((hopperref05_Small.f k a1_0 a1_1 l1_2).bind fun t259 => (if t259 = true then ((hopperref05_Small.f k a2_0 a2_1 l2_2).bind fun t260 => (if t260 = true then (if a0_1 < 0 then (hopperlaw11_ShardOrder.j0 k true l0_0 a0_1 a1_0 a1_1 l1_2 a2_0 a2_1 l2_2) else (hopperlaw11_ShardOrder.j0 k (decide (a0_1 > 1099511627773)) l0_0 a0_1 a1_0 a1_1 l1_2 a2_0 a2_1 l2_2)) else (hopperlaw11_ShardOrder.j0 k true l0_0 a0_1 a1_0 a1_1 l1_2 a2_0 a2_1 l2_2))) else (hopperlaw11_ShardOrder.j0 k true l0_0 a0_1 a1_0 a1_1 l1_2 a2_0 a2_1 l2_2))) else (hopperlaw11_ShardOrder.j0 k true l0_0 a0_1 a1_0 a1_1 l1_2 a2_0 a2_1 l2_2))) = some r := h
 clear h
 have HC4 := A_ H
 clear H
 go_enter Try.func5, Try.ntmps5
 go_upto_region 1 with (first | ((with_reducible refine gate_dst (N := 3) rfl ?_); refine box_event ?hg (N := 3) ?hd (cs := #[.slice A0_0 l0_0.length c0_0, .int .i64 a0_1]) (t := 26) ?hr ?_; (case hd => rfl); (case hg => rfl); (case hr => first | (go_simp; done) | (go_simp; rfl)); intro gb255 hg w5 hbox hb; have n0_ := A_ (below_step bw_ hb); have n1_ := A_ (hbox); have n2_ := A_ (gz_ (w := w) hg); have n3_ := A_ (gz_ (w := w) hg); replace HB := n0_; have BK255 := n1_; have GW255 := n2_; have GE255 := n3_; clear n0_ n1_ n2_ n3_; clear hb hbox hg) | ((with_reducible refine gate_dst (N := 4) rfl ?_); refine box_event ?hg (N := 4) ?hd (cs := #[.int .i64 a1_0, .int .i64 a1_1, .slice A1_2 l1_2.length c1_2]) (t := 46) ?hr ?_; (case hd => rfl); (case hg => rfl); (case hr => first | (go_simp; done) | (go_simp; rfl)); intro gb256 hg w6 hbox hb; have n0_ := A_ (kb_ BK255 hb); have n1_ := A_ (below_step bw_ hb); have n2_ := A_ (hbox); have n3_ := A_ (gz_ (w := w) hg); have n4_ := A_ (gz_ (w := w) hg); have n5_ := A_ (nl_ BK255 hg); have n6_ := A_ (ng_ BK255 hg); replace BK255 := n0_; replace HB := n1_; have BK256 := n2_; have GW256 := n3_; have GE256 := n4_; have NB255_256 := n5_; have NB256_255 := n6_; clear n0_ n1_ n2_ n3_ n4_ n5_ n6_; clear hb hbox hg) | ((with_reducible refine gate_dst (N := 5) rfl ?_); refine box_event ?hg (N := 5) ?hd (cs := #[.int .i64 a2_0, .int .i64 a2_1, .slice A2_2 l2_2.length c2_2]) (t := 46) ?hr ?_; (case hd => rfl); (case hg => rfl); (case hr => first | (go_simp; done) | (go_simp; rfl)); intro gb257 hg w7 hbox hb; have n0_ := A_ (kb_ BK255 hb); have n1_ := A_ (kb_ BK256 hb); have n2_ := A_ (below_step bw_ hb); have n3_ := A_ (hbox); have n4_ := A_ (gz_ (w := w) hg); have n5_ := A_ (gz_ (w := w) hg); have n6_ := A_ (nl_ BK255 hg); have n7_ := A_ (ng_ BK255 hg); have n8_ := A_ (nl_ BK256 hg); have n9_ := A_ (ng_ BK256 hg); replace BK255 := n0_; replace BK256 := n1_; replace HB := n2_; have BK257 := n3_; have GW257 := n4_; have GE257 := n5_; have NB255_257 := n6_; have NB257_255 := n7_; have NB256_257 := n8_; have NB257_256 := n9_; clear n0_ n1_ n2_ n3_ n4_ n5_ n6_ n7_ n8_ n9_; clear hb hbox hg))
 (try simp only [Act.put, s0_, s1_, s2_])
 go_cut [36] (fun v36 wc => ∃ (kq : Nat) (x36_3 : Bool), v36 = .bool x36_3 ∧ Aside0 (hopperlaw11_ShardOrder.j0 kq x36_3 l0_0 a0_1 a1_0 a1_1 l1_2 a2_0 a2_1 l2_2 = some r) ∧ Aside0 (kq ≤ k) ∧ Aside0 (wc.heap[gb255]? = some (.cells #[(.slice A0_0 l0_0.length c0_0), .int .i64 a0_1] 26 (0, 0))) ∧ Aside0 (wc.heap[gb256]? = some (.cells #[.int .i64 a1_0, .int .i64 a1_1, (.slice A1_2 l1_2.length c1_2)] 46 (0, 0))) ∧ Aside0 (wc.heap[gb257]? = some (.cells #[.int .i64 a2_0, .int .i64 a2_1, (.slice A2_2 l2_2.length c2_2)] 46 (0, 0))) ∧ Aside0 (Below w.heap.size w wc))
 case first =>
  have H := HC4.out
  clear HC4
  replace H := Option.bind_eq_some_iff.mp H
  obtain ⟨t258, A80, H⟩ := H
  try dsimp only at H
  have A8 := A_ A80
  clear A80
  by_cases c9 : t258 = true
  · subst c9
    have H1 : ((hopperref05_Small.f k a1_0 a1_1 l1_2).bind fun t259 => (if t259 = true then ((hopperref05_Small.f k a2_0 a2_1 l2_2).bind fun t260 => (if t260 = true then (if a0_1 < 0 then (hopperlaw11_ShardOrder.j0 k true l0_0 a0_1 a1_0 a1_1 l1_2 a2_0 a2_1 l2_2) else (hopperlaw11_ShardOrder.j0 k (decide (a0_1 > 1099511627773)) l0_0 a0_1 a1_0 a1_1 l1_2 a2_0 a2_1 l2_2)) else (hopperlaw11_ShardOrder.j0 k true l0_0 a0_1 a1_0 a1_1 l1_2 a2_0 a2_1 l2_2))) else (hopperlaw11_ShardOrder.j0 k true l0_0 a0_1 a1_0 a1_1 l1_2 a2_0 a2_1 l2_2))) = some r := by rw [if_pos rfl] at H; exact H
    clear H
    have H := H1
    clear H1
    replace H := Option.bind_eq_some_iff.mp H
    obtain ⟨t259, A100, H⟩ := H
    try dsimp only at H
    have A10 := A_ A100
    clear A100
    by_cases c11 : t259 = true
    · subst c11
      have H1 : ((hopperref05_Small.f k a2_0 a2_1 l2_2).bind fun t260 => (if t260 = true then (if a0_1 < 0 then (hopperlaw11_ShardOrder.j0 k true l0_0 a0_1 a1_0 a1_1 l1_2 a2_0 a2_1 l2_2) else (hopperlaw11_ShardOrder.j0 k (decide (a0_1 > 1099511627773)) l0_0 a0_1 a1_0 a1_1 l1_2 a2_0 a2_1 l2_2)) else (hopperlaw11_ShardOrder.j0 k true l0_0 a0_1 a1_0 a1_1 l1_2 a2_0 a2_1 l2_2))) = some r := by rw [if_pos rfl] at H; exact H
      clear H
      have H := H1
      clear H1
      replace H := Option.bind_eq_some_iff.mp H
      obtain ⟨t260, A120, H⟩ := H
      try dsimp only at H
      have A12 := A_ A120
      clear A120
      by_cases c13 : t260 = true
      · subst c13
        have H1 : (if a0_1 < 0 then (hopperlaw11_ShardOrder.j0 k true l0_0 a0_1 a1_0 a1_1 l1_2 a2_0 a2_1 l2_2) else (hopperlaw11_ShardOrder.j0 k (decide (a0_1 > 1099511627773)) l0_0 a0_1 a1_0 a1_1 l1_2 a2_0 a2_1 l2_2)) = some r := by rw [if_pos rfl] at H; exact H
        clear H
        have H := H1
        clear H1
        by_cases c14 : a0_1 < 0
        · rw [if_pos c14] at H
          have c14b0 : decide (a0_1 < 0) = true := decide_eq_true c14
          clear c14
          (first | rw [c14b0] | (simp only [i64_w, i32_w]; rw [c14b0]) | skip)
          have H' := A_ H
          clear H; have hnb15 := NB255_256.out; have hnc15 := NB256_255.out; have hnb16 := NB255_257.out; have hnc16 := NB257_255.out; have hcz17_0 : w7.cell? ⟨gb255, 0, none⟩ = some (.slice A0_0 l0_0.length c0_0) := e_ BK255 0; have hcz17_1 : w7.cell? ⟨gb255, 1, none⟩ = some (.int .i64 a0_1) := e_ BK255 1; have hfz17_0 := blk_frozen BK255.out 0; have hfz17_1 := blk_frozen BK255.out 1
          go_wp2_with (first | ((with_reducible refine gate_callee (f := 7) rfl ?_); refine goesL_ (some 15) rfl rfl Try.func7 (by kernel_rfl) rfl #[.slice A0_0 l0_0.length c0_0, .int .i64 20] rfl (by (try simp only [m0_, m1_, m2_]); first | done | rfl) ?_; (with_reducible refine (hopperref11_Few.calls k _ _ l0_0 20 true _ ?side1 ?side2 A8.out).mono ?_); (case side1 => repeat (first | exact (Kd.C_below HR0_0.out HB.out) | (with_reducible refine ca_ ?_ _) | (with_reducible refine cn_ ?_ _) | (with_reducible refine cd_ ?_))); (case side2 => exact HC0_0.out); rintro e w18 ⟨rfl, hb⟩; refine ⟨_, rfl, ?_⟩; replace BK255 := A_ (kb_ BK255 hb); replace BK256 := A_ (kb_ BK256 hb); replace BK257 := A_ (kb_ BK257 hb); replace HB := A_ (below_step bw_ hb); (try clear hb); (try clear hb2); (try clear hk); (try clear hi); have hnb19 := NB256_257.out; have hnc19 := NB257_256.out; have hcz20_0 : w18.cell? ⟨gb256, 0, none⟩ = some (.int .i64 a1_0) := e_ BK256 0; have hcz20_1 : w18.cell? ⟨gb256, 1, none⟩ = some (.int .i64 a1_1) := e_ BK256 1; have hcz20_2 : w18.cell? ⟨gb256, 2, none⟩ = some (.slice A1_2 l1_2.length c1_2) := e_ BK256 2; obtain ⟨hfz20_0, hfz20_1, hfz20_2⟩ := z3_ BK256) | (go_at_call 20; (with_reducible refine (hopperref05_Small.calls k a1_0 a1_1 _ _ l1_2 true _ ?side1 ?side2 A10.out).mono ?_); (case side1 => repeat (first | exact (Kd.C_below HR1_2.out HB.out) | (with_reducible refine ca_ ?_ _) | (with_reducible refine cn_ ?_ _) | (with_reducible refine cd_ ?_))); (case side2 => exact HC1_2.out); rintro e w21 ⟨rfl, hb⟩; replace BK255 := A_ (kb_ BK255 hb); replace BK256 := A_ (kb_ BK256 hb); replace BK257 := A_ (kb_ BK257 hb); replace HB := A_ (below_step bw_ hb); (try clear hb); (try clear hb2); (try clear hk); (try clear hi); have hcz22_0 : w21.cell? ⟨gb257, 0, none⟩ = some (.int .i64 a2_0) := e_ BK257 0; have hcz22_1 : w21.cell? ⟨gb257, 1, none⟩ = some (.int .i64 a2_1) := e_ BK257 1; have hcz22_2 : w21.cell? ⟨gb257, 2, none⟩ = some (.slice A2_2 l2_2.length c2_2) := e_ BK257 2; obtain ⟨hfz22_0, hfz22_1, hfz22_2⟩ := z3_ BK257) | (go_at_call 20; (with_reducible refine (hopperref05_Small.calls k a2_0 a2_1 _ _ l2_2 true _ ?side1 ?side2 A12.out).mono ?_); (case side1 => repeat (first | exact (Kd.C_below HR2_2.out HB.out) | (with_reducible refine ca_ ?_ _) | (with_reducible refine cn_ ?_ _) | (with_reducible refine cd_ ?_))); (case side2 => exact HC2_2.out); rintro e w23 ⟨rfl, hb⟩; replace BK255 := A_ (kb_ BK255 hb); replace BK256 := A_ (kb_ BK256 hb); replace BK257 := A_ (kb_ BK257 hb); replace HB := A_ (below_step bw_ hb); (try clear hb); (try clear hb2); (try clear hk); (try clear hi); have hcz24_0 : w23.cell? ⟨gb255, 0, none⟩ = some (.slice A0_0 l0_0.length c0_0) := e_ BK255 0; have hcz24_1 : w23.cell? ⟨gb255, 1, none⟩ = some (.int .i64 a0_1) := e_ BK255 1; have hfz24_0 := blk_frozen BK255.out 0; have hfz24_1 := blk_frozen BK255.out 1))
          go_meet
          case rel => exact ⟨_, (true), (by first | rfl | (simp; done) | (simp [*]; done)), H', ⟨by first | omega | exact Nat.le_refl _⟩, ⟨bk_⟩, ⟨bk_⟩, ⟨bk_⟩, ⟨by repeat (first | (with_reducible first | exact HB.out | apply wa_ | apply wn_ | apply wd_ | refine ws_ ?_ GE255.out | refine ws_ ?_ GE256.out | refine ws_ ?_ GE257.out) | exact HB.out)⟩⟩
        · rw [if_neg c14] at H
          have c14b0 : decide (a0_1 < 0) = false := decide_eq_false c14
          clear c14
          (first | rw [c14b0] | (simp only [i64_w, i32_w]; rw [c14b0]) | skip)
          have H' := A_ H
          clear H; have hnb25 := NB255_256.out; have hnc25 := NB256_255.out; have hnb26 := NB255_257.out; have hnc26 := NB257_255.out; have hcz27_0 : w7.cell? ⟨gb255, 0, none⟩ = some (.slice A0_0 l0_0.length c0_0) := e_ BK255 0; have hcz27_1 : w7.cell? ⟨gb255, 1, none⟩ = some (.int .i64 a0_1) := e_ BK255 1; have hfz27_0 := blk_frozen BK255.out 0; have hfz27_1 := blk_frozen BK255.out 1
          go_wp2_with (first | ((with_reducible refine gate_callee (f := 7) rfl ?_); refine goesL_ (some 15) rfl rfl Try.func7 (by kernel_rfl) rfl #[.slice A0_0 l0_0.length c0_0, .int .i64 20] rfl (by (try simp only [m0_, m1_, m2_]); first | done | rfl) ?_; (with_reducible refine (hopperref11_Few.calls k _ _ l0_0 20 true _ ?side1 ?side2 A8.out).mono ?_); (case side1 => repeat (first | exact (Kd.C_below HR0_0.out HB.out) | (with_reducible refine ca_ ?_ _) | (with_reducible refine cn_ ?_ _) | (with_reducible refine cd_ ?_))); (case side2 => exact HC0_0.out); rintro e w28 ⟨rfl, hb⟩; refine ⟨_, rfl, ?_⟩; replace BK255 := A_ (kb_ BK255 hb); replace BK256 := A_ (kb_ BK256 hb); replace BK257 := A_ (kb_ BK257 hb); replace HB := A_ (below_step bw_ hb); (try clear hb); (try clear hb2); (try clear hk); (try clear hi); have hnb29 := NB256_257.out; have hnc29 := NB257_256.out; have hcz30_0 : w28.cell? ⟨gb256, 0, none⟩ = some (.int .i64 a1_0) := e_ BK256 0; have hcz30_1 : w28.cell? ⟨gb256, 1, none⟩ = some (.int .i64 a1_1) := e_ BK256 1; have hcz30_2 : w28.cell? ⟨gb256, 2, none⟩ = some (.slice A1_2 l1_2.length c1_2) := e_ BK256 2; obtain ⟨hfz30_0, hfz30_1, hfz30_2⟩ := z3_ BK256) | (go_at_call 20; (with_reducible refine (hopperref05_Small.calls k a1_0 a1_1 _ _ l1_2 true _ ?side1 ?side2 A10.out).mono ?_); (case side1 => repeat (first | exact (Kd.C_below HR1_2.out HB.out) | (with_reducible refine ca_ ?_ _) | (with_reducible refine cn_ ?_ _) | (with_reducible refine cd_ ?_))); (case side2 => exact HC1_2.out); rintro e w31 ⟨rfl, hb⟩; replace BK255 := A_ (kb_ BK255 hb); replace BK256 := A_ (kb_ BK256 hb); replace BK257 := A_ (kb_ BK257 hb); replace HB := A_ (below_step bw_ hb); (try clear hb); (try clear hb2); (try clear hk); (try clear hi); have hcz32_0 : w31.cell? ⟨gb257, 0, none⟩ = some (.int .i64 a2_0) := e_ BK257 0; have hcz32_1 : w31.cell? ⟨gb257, 1, none⟩ = some (.int .i64 a2_1) := e_ BK257 1; have hcz32_2 : w31.cell? ⟨gb257, 2, none⟩ = some (.slice A2_2 l2_2.length c2_2) := e_ BK257 2; obtain ⟨hfz32_0, hfz32_1, hfz32_2⟩ := z3_ BK257) | (go_at_call 20; (with_reducible refine (hopperref05_Small.calls k a2_0 a2_1 _ _ l2_2 true _ ?side1 ?side2 A12.out).mono ?_); (case side1 => repeat (first | exact (Kd.C_below HR2_2.out HB.out) | (with_reducible refine ca_ ?_ _) | (with_reducible refine cn_ ?_ _) | (with_reducible refine cd_ ?_))); (case side2 => exact HC2_2.out); rintro e w33 ⟨rfl, hb⟩; replace BK255 := A_ (kb_ BK255 hb); replace BK256 := A_ (kb_ BK256 hb); replace BK257 := A_ (kb_ BK257 hb); replace HB := A_ (below_step bw_ hb); (try clear hb); (try clear hb2); (try clear hk); (try clear hi); have hcz34_0 : w33.cell? ⟨gb255, 0, none⟩ = some (.slice A0_0 l0_0.length c0_0) := e_ BK255 0; have hcz34_1 : w33.cell? ⟨gb255, 1, none⟩ = some (.int .i64 a0_1) := e_ BK255 1; have hfz34_0 := blk_frozen BK255.out 0; have hfz34_1 := blk_frozen BK255.out 1))
          go_meet
          case rel => exact ⟨_, (decide (a0_1 > 1099511627773)), (by first | rfl | (simp; done) | (simp [*]; done)), H', ⟨by first | omega | exact Nat.le_refl _⟩, ⟨bk_⟩, ⟨bk_⟩, ⟨bk_⟩, ⟨by repeat (first | (with_reducible first | exact HB.out | apply wa_ | apply wn_ | apply wd_ | refine ws_ ?_ GE255.out | refine ws_ ?_ GE256.out | refine ws_ ?_ GE257.out) | exact HB.out)⟩⟩
      · replace c13 := Bool.eq_false_iff.mpr c13
        subst c13
        have H1 : (hopperlaw11_ShardOrder.j0 k true l0_0 a0_1 a1_0 a1_1 l1_2 a2_0 a2_1 l2_2) = some r := by rw [if_neg (show ¬ (false = true) by decide)] at H; exact H
        clear H
        have H := H1
        clear H1
        have H' := A_ H
        clear H; have hnb35 := NB255_256.out; have hnc35 := NB256_255.out; have hnb36 := NB255_257.out; have hnc36 := NB257_255.out; have hcz37_0 : w7.cell? ⟨gb255, 0, none⟩ = some (.slice A0_0 l0_0.length c0_0) := e_ BK255 0; have hcz37_1 : w7.cell? ⟨gb255, 1, none⟩ = some (.int .i64 a0_1) := e_ BK255 1; have hfz37_0 := blk_frozen BK255.out 0; have hfz37_1 := blk_frozen BK255.out 1
        go_wp2_with (first | ((with_reducible refine gate_callee (f := 7) rfl ?_); refine goesL_ (some 15) rfl rfl Try.func7 (by kernel_rfl) rfl #[.slice A0_0 l0_0.length c0_0, .int .i64 20] rfl (by (try simp only [m0_, m1_, m2_]); first | done | rfl) ?_; (with_reducible refine (hopperref11_Few.calls k _ _ l0_0 20 true _ ?side1 ?side2 A8.out).mono ?_); (case side1 => repeat (first | exact (Kd.C_below HR0_0.out HB.out) | (with_reducible refine ca_ ?_ _) | (with_reducible refine cn_ ?_ _) | (with_reducible refine cd_ ?_))); (case side2 => exact HC0_0.out); rintro e w38 ⟨rfl, hb⟩; refine ⟨_, rfl, ?_⟩; replace BK255 := A_ (kb_ BK255 hb); replace BK256 := A_ (kb_ BK256 hb); replace BK257 := A_ (kb_ BK257 hb); replace HB := A_ (below_step bw_ hb); (try clear hb); (try clear hb2); (try clear hk); (try clear hi); have hnb39 := NB256_257.out; have hnc39 := NB257_256.out; have hcz40_0 : w38.cell? ⟨gb256, 0, none⟩ = some (.int .i64 a1_0) := e_ BK256 0; have hcz40_1 : w38.cell? ⟨gb256, 1, none⟩ = some (.int .i64 a1_1) := e_ BK256 1; have hcz40_2 : w38.cell? ⟨gb256, 2, none⟩ = some (.slice A1_2 l1_2.length c1_2) := e_ BK256 2; obtain ⟨hfz40_0, hfz40_1, hfz40_2⟩ := z3_ BK256) | (go_at_call 20; (with_reducible refine (hopperref05_Small.calls k a1_0 a1_1 _ _ l1_2 true _ ?side1 ?side2 A10.out).mono ?_); (case side1 => repeat (first | exact (Kd.C_below HR1_2.out HB.out) | (with_reducible refine ca_ ?_ _) | (with_reducible refine cn_ ?_ _) | (with_reducible refine cd_ ?_))); (case side2 => exact HC1_2.out); rintro e w41 ⟨rfl, hb⟩; replace BK255 := A_ (kb_ BK255 hb); replace BK256 := A_ (kb_ BK256 hb); replace BK257 := A_ (kb_ BK257 hb); replace HB := A_ (below_step bw_ hb); (try clear hb); (try clear hb2); (try clear hk); (try clear hi); have hcz42_0 : w41.cell? ⟨gb257, 0, none⟩ = some (.int .i64 a2_0) := e_ BK257 0; have hcz42_1 : w41.cell? ⟨gb257, 1, none⟩ = some (.int .i64 a2_1) := e_ BK257 1; have hcz42_2 : w41.cell? ⟨gb257, 2, none⟩ = some (.slice A2_2 l2_2.length c2_2) := e_ BK257 2; obtain ⟨hfz42_0, hfz42_1, hfz42_2⟩ := z3_ BK257) | (go_at_call 20; (with_reducible refine (hopperref05_Small.calls k a2_0 a2_1 _ _ l2_2 false _ ?side1 ?side2 A12.out).mono ?_); (case side1 => repeat (first | exact (Kd.C_below HR2_2.out HB.out) | (with_reducible refine ca_ ?_ _) | (with_reducible refine cn_ ?_ _) | (with_reducible refine cd_ ?_))); (case side2 => exact HC2_2.out); rintro e w43 ⟨rfl, hb⟩; replace BK255 := A_ (kb_ BK255 hb); replace BK256 := A_ (kb_ BK256 hb); replace BK257 := A_ (kb_ BK257 hb); replace HB := A_ (below_step bw_ hb); (try clear hb); (try clear hb2); (try clear hk); (try clear hi)))
        go_meet
        case rel => exact ⟨_, (true), (by first | rfl | (simp; done) | (simp [*]; done)), H', ⟨by first | omega | exact Nat.le_refl _⟩, ⟨bk_⟩, ⟨bk_⟩, ⟨bk_⟩, ⟨by repeat (first | (with_reducible first | exact HB.out | apply wa_ | apply wn_ | apply wd_ | refine ws_ ?_ GE255.out | refine ws_ ?_ GE256.out | refine ws_ ?_ GE257.out) | exact HB.out)⟩⟩
    · replace c11 := Bool.eq_false_iff.mpr c11
      subst c11
      have H1 : (hopperlaw11_ShardOrder.j0 k true l0_0 a0_1 a1_0 a1_1 l1_2 a2_0 a2_1 l2_2) = some r := by rw [if_neg (show ¬ (false = true) by decide)] at H; exact H
      clear H
      have H := H1
      clear H1
      have H' := A_ H
      clear H; have hnb44 := NB255_256.out; have hnc44 := NB256_255.out; have hnb45 := NB255_257.out; have hnc45 := NB257_255.out; have hcz46_0 : w7.cell? ⟨gb255, 0, none⟩ = some (.slice A0_0 l0_0.length c0_0) := e_ BK255 0; have hcz46_1 : w7.cell? ⟨gb255, 1, none⟩ = some (.int .i64 a0_1) := e_ BK255 1; have hfz46_0 := blk_frozen BK255.out 0; have hfz46_1 := blk_frozen BK255.out 1
      go_wp2_with (first | ((with_reducible refine gate_callee (f := 7) rfl ?_); refine goesL_ (some 15) rfl rfl Try.func7 (by kernel_rfl) rfl #[.slice A0_0 l0_0.length c0_0, .int .i64 20] rfl (by (try simp only [m0_, m1_, m2_]); first | done | rfl) ?_; (with_reducible refine (hopperref11_Few.calls k _ _ l0_0 20 true _ ?side1 ?side2 A8.out).mono ?_); (case side1 => repeat (first | exact (Kd.C_below HR0_0.out HB.out) | (with_reducible refine ca_ ?_ _) | (with_reducible refine cn_ ?_ _) | (with_reducible refine cd_ ?_))); (case side2 => exact HC0_0.out); rintro e w47 ⟨rfl, hb⟩; refine ⟨_, rfl, ?_⟩; replace BK255 := A_ (kb_ BK255 hb); replace BK256 := A_ (kb_ BK256 hb); replace BK257 := A_ (kb_ BK257 hb); replace HB := A_ (below_step bw_ hb); (try clear hb); (try clear hb2); (try clear hk); (try clear hi); have hnb48 := NB256_257.out; have hnc48 := NB257_256.out; have hcz49_0 : w47.cell? ⟨gb256, 0, none⟩ = some (.int .i64 a1_0) := e_ BK256 0; have hcz49_1 : w47.cell? ⟨gb256, 1, none⟩ = some (.int .i64 a1_1) := e_ BK256 1; have hcz49_2 : w47.cell? ⟨gb256, 2, none⟩ = some (.slice A1_2 l1_2.length c1_2) := e_ BK256 2; obtain ⟨hfz49_0, hfz49_1, hfz49_2⟩ := z3_ BK256) | (go_at_call 20; (with_reducible refine (hopperref05_Small.calls k a1_0 a1_1 _ _ l1_2 false _ ?side1 ?side2 A10.out).mono ?_); (case side1 => repeat (first | exact (Kd.C_below HR1_2.out HB.out) | (with_reducible refine ca_ ?_ _) | (with_reducible refine cn_ ?_ _) | (with_reducible refine cd_ ?_))); (case side2 => exact HC1_2.out); rintro e w50 ⟨rfl, hb⟩; replace BK255 := A_ (kb_ BK255 hb); replace BK256 := A_ (kb_ BK256 hb); replace BK257 := A_ (kb_ BK257 hb); replace HB := A_ (below_step bw_ hb); (try clear hb); (try clear hb2); (try clear hk); (try clear hi)))
      go_meet
      case rel => exact ⟨_, (true), (by first | rfl | (simp; done) | (simp [*]; done)), H', ⟨by first | omega | exact Nat.le_refl _⟩, ⟨bk_⟩, ⟨bk_⟩, ⟨bk_⟩, ⟨by repeat (first | (with_reducible first | exact HB.out | apply wa_ | apply wn_ | apply wd_ | refine ws_ ?_ GE255.out | refine ws_ ?_ GE256.out | refine ws_ ?_ GE257.out) | exact HB.out)⟩⟩
  · replace c9 := Bool.eq_false_iff.mpr c9
    subst c9
    have H1 : (hopperlaw11_ShardOrder.j0 k true l0_0 a0_1 a1_0 a1_1 l1_2 a2_0 a2_1 l2_2) = some r := by rw [if_neg (show ¬ (false = true) by decide)] at H; exact H
    clear H
    have H := H1
    clear H1
    have H' := A_ H
    clear H; have hnb51 := NB255_256.out; have hnc51 := NB256_255.out; have hnb52 := NB255_257.out; have hnc52 := NB257_255.out; have hcz53_0 : w7.cell? ⟨gb255, 0, none⟩ = some (.slice A0_0 l0_0.length c0_0) := e_ BK255 0; have hcz53_1 : w7.cell? ⟨gb255, 1, none⟩ = some (.int .i64 a0_1) := e_ BK255 1; have hfz53_0 := blk_frozen BK255.out 0; have hfz53_1 := blk_frozen BK255.out 1
    go_wp2_with (first | ((with_reducible refine gate_callee (f := 7) rfl ?_); refine goesL_ (some 15) rfl rfl Try.func7 (by kernel_rfl) rfl #[.slice A0_0 l0_0.length c0_0, .int .i64 20] rfl (by (try simp only [m0_, m1_, m2_]); first | done | rfl) ?_; (with_reducible refine (hopperref11_Few.calls k _ _ l0_0 20 false _ ?side1 ?side2 A8.out).mono ?_); (case side1 => repeat (first | exact (Kd.C_below HR0_0.out HB.out) | (with_reducible refine ca_ ?_ _) | (with_reducible refine cn_ ?_ _) | (with_reducible refine cd_ ?_))); (case side2 => exact HC0_0.out); rintro e w54 ⟨rfl, hb⟩; refine ⟨_, rfl, ?_⟩; replace BK255 := A_ (kb_ BK255 hb); replace BK256 := A_ (kb_ BK256 hb); replace BK257 := A_ (kb_ BK257 hb); replace HB := A_ (below_step bw_ hb); (try clear hb); (try clear hb2); (try clear hk); (try clear hi)))
    go_meet
    case rel => exact ⟨_, (true), (by first | rfl | (simp; done) | (simp [*]; done)), H', ⟨by first | omega | exact Nat.le_refl _⟩, ⟨bk_⟩, ⟨bk_⟩, ⟨bk_⟩, ⟨by repeat (first | (with_reducible first | exact HB.out | apply wa_ | apply wn_ | apply wd_ | refine ws_ ?_ GE255.out | refine ws_ ?_ GE256.out | refine ws_ ?_ GE257.out) | exact HB.out)⟩⟩
 case rest =>
  clear HC4; (try clear c1); (try clear c2); (try clear p2); (try clear c3); (try clear c4); (try clear c5); (try clear c7); (try clear c9); (try clear c11); (try clear c13); (try clear c14); (try clear c14b0); (try clear c15); (try clear c16); (try clear c19); (try clear c25); (try clear c26); (try clear c29); (try clear c35); (try clear c36); (try clear c39); (try clear c44); (try clear c45); (try clear c48); (try clear c51); (try clear c52); (try clear hcz17_0 hcz17_1); (try clear hcz20_0 hcz20_1 hcz20_2); (try clear hcz22_0 hcz22_1 hcz22_2); (try clear hcz24_0 hcz24_1); (try clear hcz27_0 hcz27_1); (try clear hcz30_0 hcz30_1 hcz30_2); (try clear hcz32_0 hcz32_1 hcz32_2); (try clear hcz34_0 hcz34_1); (try clear hcz37_0 hcz37_1); (try clear hcz40_0 hcz40_1 hcz40_2); (try clear hcz42_0 hcz42_1 hcz42_2); (try clear hcz46_0 hcz46_1); (try clear hcz49_0 hcz49_1 hcz49_2); (try clear hcz53_0 hcz53_1); (try clear hfz17_0 hfz17_1); (try clear hfz20_0 hfz20_1 hfz20_2); (try clear hfz22_0 hfz22_1 hfz22_2); (try clear hfz24_0 hfz24_1); (try clear hfz27_0 hfz27_1); (try clear hfz30_0 hfz30_1 hfz30_2); (try clear hfz32_0 hfz32_1 hfz32_2); (try clear hfz34_0 hfz34_1); (try clear hfz37_0 hfz37_1); (try clear hfz40_0 hfz40_1 hfz40_2); (try clear hfz42_0 hfz42_1 hfz42_2); (try clear hfz46_0 hfz46_1); (try clear hfz49_0 hfz49_1 hfz49_2); (try clear hfz53_0 hfz53_1)
  obtain ⟨kq, x36_3, rfl, HA, HJ3, BK255, BK256, BK257, HB⟩ := hcut
  cases kq with
  | zero => exact absurd HA.out (by simp [hopperlaw11_ShardOrder.j0])
  | succ kj3 =>
   have H := HA.out
   clear HA
   simp only [hopperlaw11_ShardOrder.j0] at H
   by_cases c55 : x36_3 = true
   · subst c55
     have H1 : ((hopperlaw11_live.f).bind fun t261 => (some t261)) = some r := by rw [if_pos rfl] at H; exact H
     clear H
     have H := H1
     clear H1
     replace H := Option.bind_eq_some_iff.mp H
     obtain ⟨t261, A560, H⟩ := H
     replace H : (some t261) = some r := H
     have A56 := A_ A560
     clear A560
     obtain rfl := Option.some.inj H
     go_wp2_with (first | ((with_reducible refine gate_callee (f := 8) rfl ?_); refine goesL_ (some 37) rfl rfl Try.func8 (by kernel_rfl) rfl #[] rfl (by (try simp only [m0_, m1_, m2_]); first | done | rfl) ?_; (with_reducible refine (hopperlaw11_live.calls  t261 _ A56.out).mono ?_); rintro e w57 ⟨rfl, hb⟩; refine ⟨_, rfl, ?_⟩; replace BK255 := A_ (kb_ BK255 hb); replace BK256 := A_ (kb_ BK256 hb); replace BK257 := A_ (kb_ BK257 hb); replace HB := A_ (below_step bw_ hb); (try clear hb); (try clear hb2); (try clear hk); (try clear hi)))
     go_ret
     exact ⟨by first | rfl | (simp [errW_none, errW_some] <;> rfl) | (simp [*, errW_none, errW_some] <;> rfl), by repeat (first | (with_reducible first | exact HB.out | apply wa_ | apply wn_ | apply wd_ | refine ws_ ?_ GE255.out | refine ws_ ?_ GE256.out | refine ws_ ?_ GE257.out) | exact HB.out)⟩
   · replace c55 := Bool.eq_false_iff.mpr c55
     subst c55
     have H1 : (hopperlaw11_ShardOrder.l0 kj3 1 l0_0 a0_1 a1_0 a1_1 l1_2 a2_0 a2_1 l2_2) = some r := by rw [if_neg (show ¬ (false = true) by decide)] at H; exact H
     clear H
     have H := H1
     clear H1
     have H' := A_ H
     clear H
     go_wp2
     go_loopg [7] kj3 (fun kq v7 w' => ∃ (x7_2 : Int), v7 = .int .i64 x7_2 ∧ Aside0 (hopperlaw11_ShardOrder.l0 kq x7_2 l0_0 a0_1 a1_0 a1_1 l1_2 a2_0 a2_1 l2_2 = some r) ∧ Aside0 (kq ≤ kj3) ∧ Aside0 (w'.heap[gb255]? = some (.cells #[(.slice A0_0 l0_0.length c0_0), .int .i64 a0_1] 26 (0, 0))) ∧ Aside0 (w'.heap[gb256]? = some (.cells #[.int .i64 a1_0, .int .i64 a1_1, (.slice A1_2 l1_2.length c1_2)] 46 (0, 0))) ∧ Aside0 (w'.heap[gb257]? = some (.cells #[.int .i64 a2_0, .int .i64 a2_1, (.slice A2_2 l2_2.length c2_2)] 46 (0, 0))) ∧ Aside0 (Below w.heap.size w w'))
     case atStart => exact ⟨(1), (by first | rfl | (simp; done) | (simp [*]; done)), H', ⟨Nat.le_refl _⟩, ⟨bk_⟩, ⟨bk_⟩, ⟨bk_⟩, ⟨by repeat (first | (with_reducible first | exact HB.out | apply wa_ | apply wn_ | apply wd_ | refine ws_ ?_ GE255.out | refine ws_ ?_ GE256.out | refine ws_ ?_ GE257.out) | exact HB.out)⟩⟩
     case round =>
      clear H'; (try clear c1); (try clear c2); (try clear p2); (try clear c3); (try clear c4); (try clear c5); (try clear c7); (try clear c8); (try clear c9); (try clear c11); (try clear c13); (try clear c14); (try clear c14b0); (try clear c15); (try clear c16); (try clear c19); (try clear c25); (try clear c26); (try clear c29); (try clear c35); (try clear c36); (try clear c39); (try clear c44); (try clear c45); (try clear c48); (try clear c51); (try clear c52); (try clear c55); (try clear hcz17_0 hcz17_1); (try clear hcz20_0 hcz20_1 hcz20_2); (try clear hcz22_0 hcz22_1 hcz22_2); (try clear hcz24_0 hcz24_1); (try clear hcz27_0 hcz27_1); (try clear hcz30_0 hcz30_1 hcz30_2); (try clear hcz32_0 hcz32_1 hcz32_2); (try clear hcz34_0 hcz34_1); (try clear hcz37_0 hcz37_1); (try clear hcz40_0 hcz40_1 hcz40_2); (try clear hcz42_0 hcz42_1 hcz42_2); (try clear hcz46_0 hcz46_1); (try clear hcz49_0 hcz49_1 hcz49_2); (try clear hcz53_0 hcz53_1); (try clear hfz17_0 hfz17_1); (try clear hfz20_0 hfz20_1 hfz20_2); (try clear hfz22_0 hfz22_1 hfz22_2); (try clear hfz24_0 hfz24_1); (try clear hfz27_0 hfz27_1); (try clear hfz30_0 hfz30_1 hfz30_2); (try clear hfz32_0 hfz32_1 hfz32_2); (try clear hfz34_0 hfz34_1); (try clear hfz37_0 hfz37_1); (try clear hfz40_0 hfz40_1 hfz40_2); (try clear hfz42_0 hfz42_1 hfz42_2); (try clear hfz46_0 hfz46_1); (try clear hfz49_0 hfz49_1 hfz49_2); (try clear hfz53_0 hfz53_1); (try clear p2)
      obtain ⟨x7_2, rfl, HA, HK2, BK255, BK256, BK257, HB⟩ := hrel
      cases gk with
      | zero => exact absurd HA.out (by simp [hopperlaw11_ShardOrder.l0])
      | succ k2 =>
       have H := HA.out
       clear HA
       simp only [hopperlaw11_ShardOrder.l0] at H
       by_cases c58 : x7_2 < (l0_0.length : Int)
       · rw [if_pos c58] at H
         have c58b0 : decide (x7_2 < (l0_0.length : Int)) = true := decide_eq_true c58
         clear c58
         obtain ⟨ji59, hji59⟩ : ∃ j_ : Int, (wrap64 (x7_2 - 1)) = j_ := ⟨_, rfl⟩
         replace H : (if 0 ≤ (ji59) then (if (ji59) < (l0_0.length : Int) then (if 0 ≤ x7_2 then (if ((rd_T46 l0_0 (ji59)).f0) ≥ ((rd_T46 l0_0 x7_2).f0) then ((hopperlaw11_live.f).bind fun t264 => (some t264)) else (hopperlaw11_ShardOrder.l0 k2 (wrap64 (x7_2 + 1)) l0_0 a0_1 a1_0 a1_1 l1_2 a2_0 a2_1 l2_2)) else (none)) else (none)) else (none)) = some r := by first | (rw [hji59] at H; exact H) | (simp only [hji59] at H ⊢; exact H)
         have hji59w : (IntKind.i64.wrap (x7_2 - 1)) = ji59 := (i64_w _).trans hji59
         by_cases c60 : 0 ≤ (ji59)
         rotate_left
         · rw [if_neg c60] at H
           exact absurd H (by simp)
         rw [if_pos c60] at H
         have c60b0 : decide (0 ≤ (ji59)) = true := decide_eq_true c60
         clear c60
         by_cases c61 : (ji59) < (l0_0.length : Int)
         rotate_left
         · rw [if_neg c61] at H
           exact absurd H (by simp)
         rw [if_pos c61] at H
         have c61b0 : decide ((ji59) < (l0_0.length : Int)) = true := decide_eq_true c61
         clear c61
         by_cases c62 : 0 ≤ x7_2
         rotate_left
         · rw [if_neg c62] at H
           exact absurd H (by simp)
         rw [if_pos c62] at H
         have c62b0 : decide (0 ≤ x7_2) = true := decide_eq_true c62
         clear c62
         by_cases c63 : ((rd_T46 l0_0 (ji59)).f0) ≥ ((rd_T46 l0_0 x7_2).f0)
         · rw [if_pos c63] at H
           have c63b0 : decide (((rd_T46 l0_0 x7_2).f0) ≤ ((rd_T46 l0_0 (ji59)).f0)) = true := decide_eq_true c63
           clear c63
           replace H := Option.bind_eq_some_iff.mp H
           obtain ⟨t264, A640, H⟩ := H
           replace H : (some t264) = some r := H
           have A64 := A_ A640
           clear A640
           obtain rfl := Option.some.inj H
           have hnb65 := NB255_256.out; have hnc65 := NB256_255.out; have hnb66 := NB255_257.out; have hnc66 := NB257_255.out; have hcz67_0 : wr.cell? ⟨gb255, 0, none⟩ = some (.slice A0_0 l0_0.length c0_0) := e_ BK255 0; have hcz67_1 : wr.cell? ⟨gb255, 1, none⟩ = some (.int .i64 a0_1) := e_ BK255 1; have hfz67_0 := blk_frozen BK255.out 0; have hfz67_1 := blk_frozen BK255.out 1
           try go_wp2
           have n0_ := A_ (bd_ BK255.out); have n1_ := A_ (bd_ BK256.out); have n2_ := A_ (bd_ BK257.out); have n3_ := A_ (wd_ HB.out); replace BK255 := n0_; replace BK256 := n1_; replace BK257 := n2_; replace HB := n3_; clear n0_ n1_ n2_ n3_
           have p262 : 0 ≤ ((ji59) : Int) := of_decide_eq_true (by first | (with_reducible assumption) | assumption)
           have q262 : (ji59) < (l0_0.length : Int) := of_decide_eq_true (by first | (with_reducible assumption) | assumption)
           obtain ⟨ad262, A262_2, c262_2, e262, hx262_0, hx262_1, hx262_2, hl262_2, hi262_2⟩ := at_T46 HR0_0.out (ji59) p262 q262
           have hw262_2 := hx262_2
           have hw262_1 := hx262_1
           have hw262_0 := hx262_0
           cases e262
           replace hx262_0 := on_ HB.out hx262_0
           replace hx262_1 := on_ HB.out hx262_1
           replace hx262_2 := on_ HB.out hx262_2
           have HR262_2 := A_ hi262_2
           have HC262_2 := A_ hl262_2
           clear hi262_2 hl262_2
           replace p262 := eq_true p262
           replace q262 := eq_true q262
           have p263 : 0 ≤ (x7_2 : Int) := of_decide_eq_true (by first | (with_reducible assumption) | assumption)
           have q263 : x7_2 < (l0_0.length : Int) := of_decide_eq_true (by first | (with_reducible assumption) | assumption)
           obtain ⟨ad263, A263_2, c263_2, e263, hx263_0, hx263_1, hx263_2, hl263_2, hi263_2⟩ := at_T46 HR0_0.out x7_2 p263 q263
           have hw263_2 := hx263_2
           have hw263_1 := hx263_1
           have hw263_0 := hx263_0
           obtain rfl : ad262 = ad263 := (by injection e263)
           replace hx263_0 := on_ HB.out hx263_0
           replace hx263_1 := on_ HB.out hx263_1
           replace hx263_2 := on_ HB.out hx263_2
           have HR263_2 := A_ hi263_2
           have HC263_2 := A_ hl263_2
           clear hi263_2 hl263_2
           replace p263 := eq_true p263
           replace q263 := eq_true q263
           refine start_ (n := 14) (S := fun w' => w'.cell? ⟨gb255, 0, none⟩ = some (.slice (some ad262) l0_0.length c0_0) ∧ w'.cell? ⟨gb255, 1, none⟩ = some (.int .i64 a0_1) ∧ w'.cell? (ad262.add (((ji59)).toNat * 3)) = some (.int .i64 ((rd_T46 l0_0 (ji59)).f0)) ∧ w'.cell? ⟨(ad262.add (((ji59)).toNat * 3)).block, (ad262.add (((ji59)).toNat * 3)).off + 1, none⟩ = some (.int .i64 ((rd_T46 l0_0 (ji59)).f1)) ∧ w'.cell? ⟨(ad262.add (((ji59)).toNat * 3)).block, (ad262.add (((ji59)).toNat * 3)).off + 2, none⟩ = some (.slice A262_2 ((rd_T46 l0_0 (ji59)).f2).length c262_2) ∧ w'.cell? (ad262.add ((x7_2).toNat * 3)) = some (.int .i64 ((rd_T46 l0_0 x7_2).f0)) ∧ w'.cell? ⟨(ad262.add ((x7_2).toNat * 3)).block, (ad262.add ((x7_2).toNat * 3)).off + 1, none⟩ = some (.int .i64 ((rd_T46 l0_0 x7_2).f1)) ∧ w'.cell? ⟨(ad262.add ((x7_2).toNat * 3)).block, (ad262.add ((x7_2).toNat * 3)).off + 2, none⟩ = some (.slice A263_2 ((rd_T46 l0_0 x7_2).f2).length c263_2)) (ds := []) #[F,F,F,F,F,F,F,F,F,F,F,F,F,F] (by kernel_rfl) rfl rfl ⟨e_ BK255 0, e_ BK255 1, ((HB.out.cell (World.block_lt_of_cell? w _ hw262_0)).trans hw262_0), ((HB.out.cell (World.block_lt_of_cell? w _ hw262_1)).trans hw262_1), ((HB.out.cell (World.block_lt_of_cell? w _ hw262_2)).trans hw262_2), ((HB.out.cell (World.block_lt_of_cell? w _ hw263_0)).trans hw263_0), ((HB.out.cell (World.block_lt_of_cell? w _ hw263_1)).trans hw263_1), ((HB.out.cell (World.block_lt_of_cell? w _ hw263_2)).trans hw263_2)⟩ (fun hHeld => ?_); refine with_tabW hopperlaw11_ShardOrder.tab6 hopperlaw11_ShardOrder.bits6 (fun HT_ HW_ => ?_)
           generalize wr.drew = w68 at BK255 BK256 BK257 HB HR262_2 HR263_2 hx262_0 hx262_1 hx262_2 hx263_0 hx263_1 hx263_2 hHeld ⊢
           refine pq_ 0 45 HT_ ?_
           refine pq_ 2 47 HT_ ?_
           refine pq_ 3 48 HT_ ?_
           refine pq_ 7 52 HT_ ?_
           refine pq_ 9 54 HT_ ?_
           refine tk_ 1 46 HT_ HW_ hHeld ?_
           refine pq_ 4 49 HT_ ?_
           refine pq_ 5 50 HT_ ?_
           refine tk_ 6 51 HT_ HW_ hHeld ?_
           refine tk_ 8 53 HT_ HW_ hHeld ?_
           refine pq_ 10 55 HT_ ?_
           refine pq_ 11 56 HT_ ?_
           refine tk_ 12 57 HT_ HW_ hHeld ?_
           refine pq_ 13 58 HT_ ?_
           refine done_ (done_of HT_.out (by kernel_rfl)) ?_
           try go_wp2_with (first | ((with_reducible refine gate_callee (f := 8) rfl ?_); refine goesL_ (some 59) rfl rfl Try.func8 (by kernel_rfl) rfl #[] rfl (by (try simp only [m0_, m1_, m2_]); first | done | rfl) ?_; (with_reducible refine (hopperlaw11_live.calls  t264 _ A64.out).mono ?_); rintro e w69 ⟨rfl, hb⟩; refine ⟨_, rfl, ?_⟩; replace BK255 := A_ (kb_ BK255 hb); replace BK256 := A_ (kb_ BK256 hb); replace BK257 := A_ (kb_ BK257 hb); replace HB := A_ (below_step bw_ hb); (try clear hb); (try clear hb2); (try clear hk); (try clear hi)))
           go_ret
           exact ⟨by first | rfl | (simp [errW_none, errW_some] <;> rfl) | (simp only [← hji59]; first | rfl | (simp [errW_none, errW_some] <;> rfl)) | (simp [*, errW_none, errW_some] <;> rfl), by repeat (first | (with_reducible first | exact HB.out | apply wa_ | apply wn_ | apply wd_ | refine ws_ ?_ GE255.out | refine ws_ ?_ GE256.out | refine ws_ ?_ GE257.out) | exact HB.out)⟩
         · rw [if_neg c63] at H
           have c63b0 : decide (((rd_T46 l0_0 x7_2).f0) ≤ ((rd_T46 l0_0 (ji59)).f0)) = false := decide_eq_false c63
           clear c63
           have H' := A_ H
           clear H; have hnb70 := NB255_256.out; have hnc70 := NB256_255.out; have hnb71 := NB255_257.out; have hnc71 := NB257_255.out; have hcz72_0 : wr.cell? ⟨gb255, 0, none⟩ = some (.slice A0_0 l0_0.length c0_0) := e_ BK255 0; have hcz72_1 : wr.cell? ⟨gb255, 1, none⟩ = some (.int .i64 a0_1) := e_ BK255 1; have hfz72_0 := blk_frozen BK255.out 0; have hfz72_1 := blk_frozen BK255.out 1
           try go_wp2
           have n0_ := A_ (bd_ BK255.out); have n1_ := A_ (bd_ BK256.out); have n2_ := A_ (bd_ BK257.out); have n3_ := A_ (wd_ HB.out); replace BK255 := n0_; replace BK256 := n1_; replace BK257 := n2_; replace HB := n3_; clear n0_ n1_ n2_ n3_
           have p262 : 0 ≤ ((ji59) : Int) := of_decide_eq_true (by first | (with_reducible assumption) | assumption)
           have q262 : (ji59) < (l0_0.length : Int) := of_decide_eq_true (by first | (with_reducible assumption) | assumption)
           obtain ⟨ad262, A262_2, c262_2, e262, hx262_0, hx262_1, hx262_2, hl262_2, hi262_2⟩ := at_T46 HR0_0.out (ji59) p262 q262
           have hw262_2 := hx262_2
           have hw262_1 := hx262_1
           have hw262_0 := hx262_0
           cases e262
           replace hx262_0 := on_ HB.out hx262_0
           replace hx262_1 := on_ HB.out hx262_1
           replace hx262_2 := on_ HB.out hx262_2
           have HR262_2 := A_ hi262_2
           have HC262_2 := A_ hl262_2
           clear hi262_2 hl262_2
           replace p262 := eq_true p262
           replace q262 := eq_true q262
           have p263 : 0 ≤ (x7_2 : Int) := of_decide_eq_true (by first | (with_reducible assumption) | assumption)
           have q263 : x7_2 < (l0_0.length : Int) := of_decide_eq_true (by first | (with_reducible assumption) | assumption)
           obtain ⟨ad263, A263_2, c263_2, e263, hx263_0, hx263_1, hx263_2, hl263_2, hi263_2⟩ := at_T46 HR0_0.out x7_2 p263 q263
           have hw263_2 := hx263_2
           have hw263_1 := hx263_1
           have hw263_0 := hx263_0
           obtain rfl : ad262 = ad263 := (by injection e263)
           replace hx263_0 := on_ HB.out hx263_0
           replace hx263_1 := on_ HB.out hx263_1
           replace hx263_2 := on_ HB.out hx263_2
           have HR263_2 := A_ hi263_2
           have HC263_2 := A_ hl263_2
           clear hi263_2 hl263_2
           replace p263 := eq_true p263
           replace q263 := eq_true q263
           refine start_ (n := 14) (S := fun w' => w'.cell? ⟨gb255, 0, none⟩ = some (.slice (some ad262) l0_0.length c0_0) ∧ w'.cell? ⟨gb255, 1, none⟩ = some (.int .i64 a0_1) ∧ w'.cell? (ad262.add (((ji59)).toNat * 3)) = some (.int .i64 ((rd_T46 l0_0 (ji59)).f0)) ∧ w'.cell? ⟨(ad262.add (((ji59)).toNat * 3)).block, (ad262.add (((ji59)).toNat * 3)).off + 1, none⟩ = some (.int .i64 ((rd_T46 l0_0 (ji59)).f1)) ∧ w'.cell? ⟨(ad262.add (((ji59)).toNat * 3)).block, (ad262.add (((ji59)).toNat * 3)).off + 2, none⟩ = some (.slice A262_2 ((rd_T46 l0_0 (ji59)).f2).length c262_2) ∧ w'.cell? (ad262.add ((x7_2).toNat * 3)) = some (.int .i64 ((rd_T46 l0_0 x7_2).f0)) ∧ w'.cell? ⟨(ad262.add ((x7_2).toNat * 3)).block, (ad262.add ((x7_2).toNat * 3)).off + 1, none⟩ = some (.int .i64 ((rd_T46 l0_0 x7_2).f1)) ∧ w'.cell? ⟨(ad262.add ((x7_2).toNat * 3)).block, (ad262.add ((x7_2).toNat * 3)).off + 2, none⟩ = some (.slice A263_2 ((rd_T46 l0_0 x7_2).f2).length c263_2)) (ds := []) #[F,F,F,F,F,F,F,F,F,F,F,F,F,F] (by kernel_rfl) rfl rfl ⟨e_ BK255 0, e_ BK255 1, ((HB.out.cell (World.block_lt_of_cell? w _ hw262_0)).trans hw262_0), ((HB.out.cell (World.block_lt_of_cell? w _ hw262_1)).trans hw262_1), ((HB.out.cell (World.block_lt_of_cell? w _ hw262_2)).trans hw262_2), ((HB.out.cell (World.block_lt_of_cell? w _ hw263_0)).trans hw263_0), ((HB.out.cell (World.block_lt_of_cell? w _ hw263_1)).trans hw263_1), ((HB.out.cell (World.block_lt_of_cell? w _ hw263_2)).trans hw263_2)⟩ (fun hHeld => ?_); refine with_tabW hopperlaw11_ShardOrder.tab6 hopperlaw11_ShardOrder.bits6 (fun HT_ HW_ => ?_)
           generalize wr.drew = w73 at BK255 BK256 BK257 HB HR262_2 HR263_2 hx262_0 hx262_1 hx262_2 hx263_0 hx263_1 hx263_2 hHeld ⊢
           refine pq_ 0 45 HT_ ?_
           refine pq_ 2 47 HT_ ?_
           refine pq_ 3 48 HT_ ?_
           refine pq_ 7 52 HT_ ?_
           refine pq_ 9 54 HT_ ?_
           refine tk_ 1 46 HT_ HW_ hHeld ?_
           refine pq_ 4 49 HT_ ?_
           refine pq_ 5 50 HT_ ?_
           refine tk_ 6 51 HT_ HW_ hHeld ?_
           refine tk_ 8 53 HT_ HW_ hHeld ?_
           refine pq_ 10 55 HT_ ?_
           refine pq_ 11 56 HT_ ?_
           refine tk_ 12 57 HT_ HW_ hHeld ?_
           refine pq_ 13 58 HT_ ?_
           refine done_ (done_of HT_.out (by kernel_rfl)) ?_
           try go_wp2
           go_roundg k2
           case measure => have := HJ3.out; have := HK2.out; omega
           case rel => exact ⟨(wrap64 (x7_2 + 1)), (by first | rfl | (simp; done) | (simp [*]; done)), H', ⟨by have := HJ3.out; have := HK2.out; omega⟩, ⟨bk_⟩, ⟨bk_⟩, ⟨bk_⟩, ⟨by repeat (first | (with_reducible first | exact HB.out | apply wa_ | apply wn_ | apply wd_ | refine ws_ ?_ GE255.out | refine ws_ ?_ GE256.out | refine ws_ ?_ GE257.out) | exact HB.out)⟩⟩
       · rw [if_neg c58] at H
         have c58b0 : decide (x7_2 < (l0_0.length : Int)) = false := decide_eq_false c58
         clear c58
         replace H := Option.bind_eq_some_iff.mp H
         obtain ⟨⟨t266, t269⟩, A740, H⟩ := H
         try dsimp only at H
         have A74 := A_ A740
         clear A740
         replace H := Option.bind_eq_some_iff.mp H
         obtain ⟨⟨t270, t273⟩, A750, H⟩ := H
         try dsimp only at H
         have A75 := A_ A750
         clear A750
         replace H := Option.bind_eq_some_iff.mp H
         obtain ⟨⟨t275, t278⟩, A760, H⟩ := H
         try dsimp only at H
         have A76 := A_ A760
         clear A760
         replace H := Option.bind_eq_some_iff.mp H
         obtain ⟨⟨t279, t282⟩, A770, H⟩ := H
         try dsimp only at H
         have A77 := A_ A770
         clear A770
         replace H := Option.bind_eq_some_iff.mp H
         obtain ⟨⟨t284, t287⟩, A780, H⟩ := H
         try dsimp only at H
         have A78 := A_ A780
         clear A780
         have H' := A_ H
         clear H; have hnb79 := NB255_256.out; have hnc79 := NB256_255.out; have hnb80 := NB255_257.out; have hnc80 := NB257_255.out; have hcz81_0 : wr.cell? ⟨gb255, 0, none⟩ = some (.slice A0_0 l0_0.length c0_0) := e_ BK255 0; have hcz81_1 : wr.cell? ⟨gb255, 1, none⟩ = some (.int .i64 a0_1) := e_ BK255 1; have hfz81_0 := blk_frozen BK255.out 0; have hfz81_1 := blk_frozen BK255.out 1
         try go_wp2_with (first | ((with_reducible refine gate_dst (N := 8) rfl ?_); refine box_event ?hg (N := 8) ?hd (cs := #[.slice none 0 0, .int .i64 0]) (t := 48) ?hr ?_; (case hd => rfl); (case hg => rfl); (case hr => first | (go_simp; done) | (go_simp; rfl)); intro gb265 hg w82 hbox hb; have n0_ := A_ (kb_ BK255 hb); have n1_ := A_ (kb_ BK256 hb); have n2_ := A_ (kb_ BK257 hb); have n3_ := A_ (below_step bw_ hb); have n4_ := A_ (hbox); have n5_ := A_ (gz_ (w := w) hg); have n6_ := A_ (gz_ (w := w) hg); have n7_ := A_ (nl_ BK255 hg); have n8_ := A_ (ng_ BK255 hg); have n9_ := A_ (nl_ BK256 hg); have n10_ := A_ (ng_ BK256 hg); have n11_ := A_ (nl_ BK257 hg); have n12_ := A_ (ng_ BK257 hg); replace BK255 := n0_; replace BK256 := n1_; replace BK257 := n2_; replace HB := n3_; have BK265 := n4_; have GW265 := n5_; have GE265 := n6_; have NB255_265 := n7_; have NB265_255 := n8_; have NB256_265 := n9_; have NB265_256 := n10_; have NB257_265 := n11_; have NB265_257 := n12_; clear n0_ n1_ n2_ n3_ n4_ n5_ n6_ n7_ n8_ n9_ n10_ n11_ n12_; clear hb hbox hg; have hnb83 := NB265_255.out; have hnc83 := NB255_265.out; have hnb84 := NB265_256.out; have hnc84 := NB256_265.out; have hnb85 := NB265_257.out; have hnc85 := NB257_265.out; have hcz86_0 : w82.cell? ⟨gb265, 0, none⟩ = some (.slice none 0 0) := e_ BK265 0; have hcz86_1 : w82.cell? ⟨gb265, 1, none⟩ = some (.int .i64 0) := e_ BK265 1; have hfz86_0 := blk_frozen BK265.out 0; have hfz86_1 := blk_frozen BK265.out 1))
         have n0_ : Aside0 (((w82.setCell ⟨gb265, 0, none⟩ (.slice A0_0 l0_0.length c0_0)).setCell ⟨gb265, 1, none⟩ (.int .i64 a0_1)).heap[gb255]? = some (.cells #[.slice A0_0 l0_0.length c0_0, .int .i64 a0_1] 26 (0, 0))) := ⟨bk_⟩; have n1_ : Aside0 (((w82.setCell ⟨gb265, 0, none⟩ (.slice A0_0 l0_0.length c0_0)).setCell ⟨gb265, 1, none⟩ (.int .i64 a0_1)).heap[gb256]? = some (.cells #[.int .i64 a1_0, .int .i64 a1_1, .slice A1_2 l1_2.length c1_2] 46 (0, 0))) := ⟨bk_⟩; have n2_ : Aside0 (((w82.setCell ⟨gb265, 0, none⟩ (.slice A0_0 l0_0.length c0_0)).setCell ⟨gb265, 1, none⟩ (.int .i64 a0_1)).heap[gb257]? = some (.cells #[.int .i64 a2_0, .int .i64 a2_1, .slice A2_2 l2_2.length c2_2] 46 (0, 0))) := ⟨bk_⟩; have n3_ : Aside0 (((w82.setCell ⟨gb265, 0, none⟩ (.slice A0_0 l0_0.length c0_0)).setCell ⟨gb265, 1, none⟩ (.int .i64 a0_1)).heap[gb265]? = some (.cells #[.slice A0_0 l0_0.length c0_0, .int .i64 a0_1] 48 (0, 0))) := ⟨by (with_reducible repeat (first | refine bn_ ?_ _ | refine bd_ ?_ | refine ba_ ?_ _)); refine blk_put (cs := #[.slice A0_0 l0_0.length c0_0, .int .i64 0]) ?_ 1 _ rfl; (with_reducible repeat (first | refine bn_ ?_ _ | refine bd_ ?_ | refine ba_ ?_ _)); refine blk_put (cs := #[.slice none 0 0, .int .i64 0]) ?_ 0 _ rfl; (with_reducible repeat (first | refine bn_ ?_ _ | refine bd_ ?_ | refine ba_ ?_ _)); exact BK265.out⟩; have n4_ : Aside0 (Below w.heap.size w ((w82.setCell ⟨gb265, 0, none⟩ (.slice A0_0 l0_0.length c0_0)).setCell ⟨gb265, 1, none⟩ (.int .i64 a0_1))) := ⟨by repeat (first | (with_reducible first | exact HB.out | apply wa_ | apply wn_ | apply wd_ | refine ws_ ?_ GE255.out | refine ws_ ?_ GE256.out | refine ws_ ?_ GE257.out | refine ws_ ?_ GE265.out) | exact HB.out)⟩
         (try clear BK255)
         (try clear BK256)
         (try clear BK257)
         (try clear BK265)
         (try clear HB)
         generalize ((w82.setCell ⟨gb265, 0, none⟩ (.slice A0_0 l0_0.length c0_0)).setCell ⟨gb265, 1, none⟩ (.int .i64 a0_1)) = w87 at n0_ n1_ n2_ n3_ n4_ ⊢
         have BK255 := n0_; have BK256 := n1_; have BK257 := n2_; have BK265 := n3_; have HB := n4_; clear n0_ n1_ n2_ n3_ n4_; have n0_ := A_ (bd_ BK255.out); have n1_ := A_ (bd_ BK256.out); have n2_ := A_ (bd_ BK257.out); have n3_ := A_ (bd_ BK265.out); have n4_ := A_ (wd_ HB.out); replace BK255 := n0_; replace BK256 := n1_; replace BK257 := n2_; replace BK265 := n3_; replace HB := n4_; clear n0_ n1_ n2_ n3_ n4_
         refine start_ (n := 7) (S := fun w' => w'.cell? ⟨gb265, 0, none⟩ = some (.slice A0_0 l0_0.length c0_0) ∧ w'.cell? ⟨gb265, 1, none⟩ = some (.int .i64 a0_1) ∧ w'.cell? ⟨gb256, 0, none⟩ = some (.int .i64 a1_0) ∧ w'.cell? ⟨gb256, 1, none⟩ = some (.int .i64 a1_1) ∧ w'.cell? ⟨gb256, 2, none⟩ = some (.slice A1_2 l1_2.length c1_2) ∧ w'.cell? ⟨gb257, 0, none⟩ = some (.int .i64 a2_0) ∧ w'.cell? ⟨gb257, 1, none⟩ = some (.int .i64 a2_1) ∧ w'.cell? ⟨gb257, 2, none⟩ = some (.slice A2_2 l2_2.length c2_2)) (ds := []) #[false, false, false, false, false, false, false] (by kernel_rfl) rfl rfl ⟨e_ BK265 0, e_ BK265 1, e_ BK256 0, e_ BK256 1, e_ BK256 2, e_ BK257 0, e_ BK257 1, e_ BK257 2⟩ (fun hHeld => ?_)
         generalize w87.drew = w88 at BK255 BK256 BK257 BK265 HB hHeld ⊢
         refine take_ (i := 0) (N := some 61) (v := ?_) (a' := ?_) #[true, false, false, false, false, false, false] rfl rfl (by kernel_rfl) (fun _ _ _ h => h) (Or.inl ⟨by rfl, ?_⟩) hHeld ?_ ?_
         rotate_left
         · rintro w' ⟨s0, s1, s2, s3, s4, s5, s6, s7⟩
           go_simp
           with_reducible rfl
         rotate_left
         · simp only [Act.put, s0_, s1_, s2_, i64_w, i32_w]
           rfl
         refine take_ (i := 1) (N := some 62) (v := ?_) (a' := ?_) #[true, true, false, false, false, false, false] rfl rfl (by kernel_rfl) (fun _ _ _ h => h) (Or.inl ⟨by rfl, ?_⟩) hHeld ?_ ?_
         rotate_left
         · rintro w' ⟨s0, s1, s2, s3, s4, s5, s6, s7⟩
           go_simp
           with_reducible rfl
         rotate_left
         · simp only [Act.put, s0_, s1_, s2_, i64_w, i32_w]
           rfl
         refine take_ (i := 3) (N := some 64) (v := ?_) (a' := ?_) #[true, true, false, true, false, false, false] rfl rfl (by kernel_rfl) (fun _ _ _ h => h) (Or.inl ⟨by rfl, ?_⟩) hHeld ?_ ?_
         rotate_left
         · rintro w' ⟨s0, s1, s2, s3, s4, s5, s6, s7⟩
           go_simp
           with_reducible rfl
         rotate_left
         · simp only [Act.put, s0_, s1_, s2_, i64_w, i32_w]
           rfl
         refine join_ (σ := Value × Value × Nat) 1 #[true, true, true, true, true, true, false] (fun s_ => [(63, .agg #[s_.1, .int .i64 t269]), (65, .agg #[s_.2.1, .int .i64 t273]), (9, .pointer (some ⟨s_.2.2, 0, none⟩))]) (fun s_ w' => (w'.cell? ⟨gb265, 0, none⟩ = some (.slice A0_0 l0_0.length c0_0) ∧ w'.cell? ⟨gb265, 1, none⟩ = some (.int .i64 a0_1) ∧ w'.cell? ⟨gb256, 0, none⟩ = some (.int .i64 a1_0) ∧ w'.cell? ⟨gb256, 1, none⟩ = some (.int .i64 a1_1) ∧ w'.cell? ⟨gb256, 2, none⟩ = some (.slice A1_2 l1_2.length c1_2) ∧ w'.cell? ⟨gb257, 0, none⟩ = some (.int .i64 a2_0) ∧ w'.cell? ⟨gb257, 1, none⟩ = some (.int .i64 a2_1) ∧ w'.cell? ⟨gb257, 2, none⟩ = some (.slice A2_2 l2_2.length c2_2)) ∧ (Kd.N k46 46 w' w.heap.size (fun k_ => some k_ ≠ (s_.2.1 : Value).ownBlock ∧ k_ ≠ gb255 ∧ k_ ≠ gb256 ∧ k_ ≠ gb257 ∧ k_ ≠ gb265 ∧ k_ ≠ s_.2.2) s_.1 t266) ∧ (Kd.N k46 46 w' w.heap.size (fun k_ => k_ ≠ gb255 ∧ k_ ≠ gb256 ∧ k_ ≠ gb257 ∧ k_ ≠ gb265 ∧ k_ ≠ s_.2.2) s_.2.1 t270) ∧ (w'.heap[gb255]? = some (.cells #[.slice A0_0 l0_0.length c0_0, .int .i64 a0_1] 26 (0, 0))) ∧ (w'.heap[gb256]? = some (.cells #[.int .i64 a1_0, .int .i64 a1_1, .slice A1_2 l1_2.length c1_2] 46 (0, 0))) ∧ (w'.heap[gb257]? = some (.cells #[.int .i64 a2_0, .int .i64 a2_1, .slice A2_2 l2_2.length c2_2] 46 (0, 0))) ∧ (w'.heap[gb265]? = some (.cells #[.slice A0_0 l0_0.length c0_0, .int .i64 a0_1] 48 (0, 0))) ∧ (w'.heap[s_.2.2]? = some (.cells #[.slice none 0 0, .int .i64 0] 48 (0, 0))) ∧ (w.heap.size ≤ s_.2.2) ∧ (w.heap.size ≤ s_.2.2) ∧ (gb255 ≠ s_.2.2) ∧ (s_.2.2 ≠ gb255) ∧ (gb256 ≠ s_.2.2) ∧ (s_.2.2 ≠ gb256) ∧ (gb257 ≠ s_.2.2) ∧ (s_.2.2 ≠ gb257) ∧ (gb265 ≠ s_.2.2) ∧ (s_.2.2 ≠ gb265) ∧ (Below w.heap.size w w')) ?_ ?_
         rotate_left
         · intro hCont
           refine two_ (i := 2) (j := 5) (Ni := some 63) (Nj := some 9) #[true, true, true, true, false, false, false] #[true, true, false, true, false, true, false] rfl rfl rfl rfl (by kernel_rfl) (by decide) (by decide) (fun K hK => ?_) (fun K hK => ?_)
           · skip
             refine goes_ Try.func21 (by kernel_rfl) rfl #[.agg #[.slice A0_0 l0_0.length c0_0, .int .i64 a0_1], .agg #[.int .i64 a1_0, .int .i64 a1_1, .slice A1_2 l1_2.length c1_2]] (by rfl) rfl rfl (by (try simp only [m0_, m1_, m2_]); first | done | rfl) ?_
             with_reducible refine (shard_Set.calls (fun k_ => k_ < w.heap.size) _ _ l0_0 a0_1 a1_0 a1_1 (fun k_ => k_ < w.heap.size) _ _ l1_2 t266 t269 _ ?side1 ?side2 A74.out).mono ?_
             (case side1 => exact Kd.V_mk HC0_0.out (Kd.F_below (Kd.C_F k46_heap HR0_0.out) bw_))
             (case side2 => exact Kd.V_mk HC1_2.out (Kd.F_below (Kd.C_F k32_heap HR1_2.out) bw_))
             rintro e w89 ⟨v267, rfl, ho0, hb⟩
             refine ⟨_, rfl, ?_⟩
             have n0_ := A_ (Kd.N_lower (Kd.N_mono (ok' := fun k_ => k_ ≠ gb255 ∧ k_ ≠ gb256 ∧ k_ ≠ gb257 ∧ k_ ≠ gb265) ho0 (fun k_ hk_ => ⟨Or.elim hk_ (fun hs_ => Or.elim hs_ (fun hs_ => fun e_ => Nat.not_le.2 hs_ (by rw [e_]; exact GW255.out)) (fun hs_ => fun e_ => Nat.not_le.2 hs_ (by rw [e_]; exact GW255.out))) (fun hn_ => (Kd.freshB (g := gb255) (o := .cells #[.slice A0_0 l0_0.length c0_0, .int .i64 a0_1] 26 (0, 0)) (by (with_reducible repeat (first | refine bn_ ?_ _ | refine bd_ ?_ | refine ba_ ?_ _)); exact BK255.out) k_ hn_)), Or.elim hk_ (fun hs_ => Or.elim hs_ (fun hs_ => fun e_ => Nat.not_le.2 hs_ (by rw [e_]; exact GW256.out)) (fun hs_ => fun e_ => Nat.not_le.2 hs_ (by rw [e_]; exact GW256.out))) (fun hn_ => (Kd.freshB (g := gb256) (o := .cells #[.int .i64 a1_0, .int .i64 a1_1, .slice A1_2 l1_2.length c1_2] 46 (0, 0)) (by (with_reducible repeat (first | refine bn_ ?_ _ | refine bd_ ?_ | refine ba_ ?_ _)); exact BK256.out) k_ hn_)), Or.elim hk_ (fun hs_ => Or.elim hs_ (fun hs_ => fun e_ => Nat.not_le.2 hs_ (by rw [e_]; exact GW257.out)) (fun hs_ => fun e_ => Nat.not_le.2 hs_ (by rw [e_]; exact GW257.out))) (fun hn_ => (Kd.freshB (g := gb257) (o := .cells #[.int .i64 a2_0, .int .i64 a2_1, .slice A2_2 l2_2.length c2_2] 46 (0, 0)) (by (with_reducible repeat (first | refine bn_ ?_ _ | refine bd_ ?_ | refine ba_ ?_ _)); exact BK257.out) k_ hn_)), Or.elim hk_ (fun hs_ => Or.elim hs_ (fun hs_ => fun e_ => Nat.not_le.2 hs_ (by rw [e_]; exact GW265.out)) (fun hs_ => fun e_ => Nat.not_le.2 hs_ (by rw [e_]; exact GW265.out))) (fun hn_ => (Kd.freshB (g := gb265) (o := .cells #[.slice A0_0 l0_0.length c0_0, .int .i64 a0_1] 48 (0, 0)) (by (with_reducible repeat (first | refine bn_ ?_ _ | refine bd_ ?_ | refine ba_ ?_ _)); exact BK265.out) k_ hn_))⟩)) (below_size bw_)); have n1_ := A_ (kb_ BK255 hb); have n2_ := A_ (kb_ BK256 hb); have n3_ := A_ (kb_ BK257 hb); have n4_ := A_ (kb_ BK265 hb); have n5_ := A_ (below_step bw_ hb); have HO268 := n0_; replace BK255 := n1_; replace BK256 := n2_; replace BK257 := n3_; replace BK265 := n4_; replace HB := n5_; clear n0_ n1_ n2_ n3_ n4_ n5_
             (try clear hb)
             (try clear hb2)
             (try clear hk)
             (try clear hi)
             (try clear ho0)
             obtain ⟨Ao90, co90, eo90⟩ := Kd.N_slice HO268.out
             (first | subst eo90 | (injection eo90 with f1_ f2_ f3_; have f4_ := f1_.symm; have f5_ := f3_.symm; clear f1_ f2_ f3_; subst f4_; subst f5_))
             refine hK.out _ _ ⟨e_ BK265 0, e_ BK265 1, e_ BK256 0, e_ BK256 1, e_ BK256 2, e_ BK257 0, e_ BK257 1, e_ BK257 2⟩ (fun hHeld => ?_)
             clear hK K
             refine norm_ (a' := ?_) ?_ ?_
             rotate_left
             · show Act.put _ (some 63) _ = _
               simp only [Act.put, s0_, s1_, s2_, i64_w, i32_w]
               rfl
             refine two_ (i := 4) (j := 5) (Ni := some 65) (Nj := some 9) #[true, true, true, true, true, false, false] #[true, true, true, true, false, true, false] rfl rfl rfl rfl (by kernel_rfl) (by decide) (by decide) (fun K hK => ?_) (fun K hK => ?_)
             · skip
               refine goes_ Try.func21 (by kernel_rfl) rfl #[.agg #[.slice Ao90 t266.length co90, .int .i64 t269], .agg #[.int .i64 a2_0, .int .i64 a2_1, .slice A2_2 l2_2.length c2_2]] (by rfl) rfl rfl (by (try simp only [m0_, m1_, m2_]); first | done | rfl) ?_
               with_reducible refine (shard_Set.calls (fun k_ => (k_ ≠ gb255 ∧ (k_ ≠ gb256 ∧ (k_ ≠ gb257 ∧ k_ ≠ gb265)))) _ _ t266 t269 a2_0 a2_1 (fun k_ => k_ < w.heap.size) _ _ l2_2 t270 t273 _ ?side1 ?side2 A75.out).mono ?_
               (case side1 => exact Kd.N_V (HO268.out))
               (case side2 => exact Kd.V_mk HC2_2.out (Kd.F_below (Kd.C_F k32_heap HR2_2.out) bw_))
               rintro e w91 ⟨v271, rfl, ho0, hb⟩
               refine ⟨_, rfl, ?_⟩
               have n0_ := A_ (Kd.N_elder' (by (with_reducible repeat (first | apply Kd.N_alloc | apply Kd.N_drewN | apply Kd.N_drew)); exact HO268.out) (Kd.N_base ho0) hb); have n1_ := A_ (Kd.N_lower (Kd.N_mono (ok' := fun k_ => k_ ≠ gb255 ∧ k_ ≠ gb256 ∧ k_ ≠ gb257 ∧ k_ ≠ gb265) ho0 (fun k_ hk_ => ⟨Or.elim hk_ (fun hs_ => Or.elim hs_ (fun hs_ => hs_.1) (fun hs_ => fun e_ => Nat.not_le.2 hs_ (by rw [e_]; exact GW255.out))) (fun hn_ => (Kd.freshB (g := gb255) (o := .cells #[.slice A0_0 l0_0.length c0_0, .int .i64 a0_1] 26 (0, 0)) (by (with_reducible repeat (first | refine bn_ ?_ _ | refine bd_ ?_ | refine ba_ ?_ _)); exact BK255.out) k_ hn_)), Or.elim hk_ (fun hs_ => Or.elim hs_ (fun hs_ => hs_.2.1) (fun hs_ => fun e_ => Nat.not_le.2 hs_ (by rw [e_]; exact GW256.out))) (fun hn_ => (Kd.freshB (g := gb256) (o := .cells #[.int .i64 a1_0, .int .i64 a1_1, .slice A1_2 l1_2.length c1_2] 46 (0, 0)) (by (with_reducible repeat (first | refine bn_ ?_ _ | refine bd_ ?_ | refine ba_ ?_ _)); exact BK256.out) k_ hn_)), Or.elim hk_ (fun hs_ => Or.elim hs_ (fun hs_ => hs_.2.2.1) (fun hs_ => fun e_ => Nat.not_le.2 hs_ (by rw [e_]; exact GW257.out))) (fun hn_ => (Kd.freshB (g := gb257) (o := .cells #[.int .i64 a2_0, .int .i64 a2_1, .slice A2_2 l2_2.length c2_2] 46 (0, 0)) (by (with_reducible repeat (first | refine bn_ ?_ _ | refine bd_ ?_ | refine ba_ ?_ _)); exact BK257.out) k_ hn_)), Or.elim hk_ (fun hs_ => Or.elim hs_ (fun hs_ => hs_.2.2.2) (fun hs_ => fun e_ => Nat.not_le.2 hs_ (by rw [e_]; exact GW265.out))) (fun hn_ => (Kd.freshB (g := gb265) (o := .cells #[.slice A0_0 l0_0.length c0_0, .int .i64 a0_1] 48 (0, 0)) (by (with_reducible repeat (first | refine bn_ ?_ _ | refine bd_ ?_ | refine ba_ ?_ _)); exact BK265.out) k_ hn_))⟩)) (below_size bw_)); have n2_ := A_ (kb_ BK255 hb); have n3_ := A_ (kb_ BK256 hb); have n4_ := A_ (kb_ BK257 hb); have n5_ := A_ (kb_ BK265 hb); have n6_ := A_ (below_step bw_ hb); replace HO268 := n0_; have HO272 := n1_; replace BK255 := n2_; replace BK256 := n3_; replace BK257 := n4_; replace BK265 := n5_; replace HB := n6_; clear n0_ n1_ n2_ n3_ n4_ n5_ n6_
               (try clear hb)
               (try clear hb2)
               (try clear hk)
               (try clear hi)
               (try clear ho0)
               refine hK.out _ _ ⟨e_ BK265 0, e_ BK265 1, e_ BK256 0, e_ BK256 1, e_ BK256 2, e_ BK257 0, e_ BK257 1, e_ BK257 2⟩ (fun hHeld => ?_)
               clear hK K
               refine norm_ (a' := ?_) ?_ ?_
               rotate_left
               · show Act.put _ (some 65) _ = _
                 simp only [Act.put, s0_, s1_, s2_, i64_w, i32_w]
                 rfl
               refine one_ (i := 5) (N := some 9) #[true, true, true, true, true, true, false] rfl rfl (by kernel_rfl) (by decide) (fun K hK => ?_)
               refine box_step ?hg (N := 9) ?hd (cs := #[.slice none 0 0, .int .i64 0]) (t := 48) ?hr ?_; (case hd => rfl); (case hg => rfl); (case hr => first | (go_simp; done) | (go_simp; rfl))
               intro gb274 hg w92 hbox hb
               have n0_ := A_ (Kd.N_below (Kd.N_elderB (by (with_reducible repeat (first | apply Kd.N_alloc | apply Kd.N_drewN | apply Kd.N_drew)); exact HO268.out) gb274 (Nat.le_of_eq hg.symm)) hb); have n1_ := A_ (Kd.N_below (Kd.N_elderB (by (with_reducible repeat (first | apply Kd.N_alloc | apply Kd.N_drewN | apply Kd.N_drew)); exact HO272.out) gb274 (Nat.le_of_eq hg.symm)) hb); have n2_ := A_ (kb_ BK255 hb); have n3_ := A_ (kb_ BK256 hb); have n4_ := A_ (kb_ BK257 hb); have n5_ := A_ (kb_ BK265 hb); have n6_ := A_ (below_step bw_ hb); have n7_ := A_ (hbox); have n8_ := A_ (gz_ (w := w) hg); have n9_ := A_ (gz_ (w := w) hg); have n10_ := A_ (nl_ BK255 hg); have n11_ := A_ (ng_ BK255 hg); have n12_ := A_ (nl_ BK256 hg); have n13_ := A_ (ng_ BK256 hg); have n14_ := A_ (nl_ BK257 hg); have n15_ := A_ (ng_ BK257 hg); have n16_ := A_ (nl_ BK265 hg); have n17_ := A_ (ng_ BK265 hg); replace HO268 := n0_; replace HO272 := n1_; replace BK255 := n2_; replace BK256 := n3_; replace BK257 := n4_; replace BK265 := n5_; replace HB := n6_; have BK274 := n7_; have GW274 := n8_; have GE274 := n9_; have NB255_274 := n10_; have NB274_255 := n11_; have NB256_274 := n12_; have NB274_256 := n13_; have NB257_274 := n14_; have NB274_257 := n15_; have NB265_274 := n16_; have NB274_265 := n17_; clear n0_ n1_ n2_ n3_ n4_ n5_ n6_ n7_ n8_ n9_ n10_ n11_ n12_ n13_ n14_ n15_ n16_ n17_; clear hb hbox hg
               refine hK.out _ _ ⟨e_ BK265 0, e_ BK265 1, e_ BK256 0, e_ BK256 1, e_ BK256 2, e_ BK257 0, e_ BK257 1, e_ BK257 2⟩ (fun hHeld => ?_)
               clear hK K
               refine norm_ (a' := ?_) ?_ ?_
               rotate_left
               · show Act.put _ (some 9) _ = _
                 simp only [Act.put, s0_, s1_, s2_, i64_w, i32_w]
                 rfl
               exact norm_ (by simp only [putAll, Act.put, s0_, s1_, s2_]) (hCont (.slice Ao90 t266.length co90, v271, gb274) _ ⟨hHeld, (by (with_reducible repeat (first | apply Kd.N_alloc | apply Kd.N_drewN | apply Kd.N_drew)); exact Kd.N_mono HO268.out (fun _ hk => ⟨hk.1.2, ⟨hk.1.1.1, ⟨hk.1.1.2.1, ⟨hk.1.1.2.2.1, ⟨hk.1.1.2.2.2, hk.2⟩⟩⟩⟩⟩)), (by (with_reducible repeat (first | apply Kd.N_alloc | apply Kd.N_drewN | apply Kd.N_drew)); exact Kd.N_mono HO272.out (fun _ hk => ⟨hk.1.1, ⟨hk.1.2.1, ⟨hk.1.2.2.1, ⟨hk.1.2.2.2, hk.2⟩⟩⟩⟩)), (by (with_reducible repeat (first | refine bn_ ?_ _ | refine bd_ ?_ | refine ba_ ?_ _)); exact BK255.out), (by (with_reducible repeat (first | refine bn_ ?_ _ | refine bd_ ?_ | refine ba_ ?_ _)); exact BK256.out), (by (with_reducible repeat (first | refine bn_ ?_ _ | refine bd_ ?_ | refine ba_ ?_ _)); exact BK257.out), (by (with_reducible repeat (first | refine bn_ ?_ _ | refine bd_ ?_ | refine ba_ ?_ _)); exact BK265.out), (by (with_reducible repeat (first | refine bn_ ?_ _ | refine bd_ ?_ | refine ba_ ?_ _)); exact BK274.out), GW274.out, GE274.out, NB255_274.out, NB274_255.out, NB256_274.out, NB274_256.out, NB257_274.out, NB274_257.out, NB265_274.out, NB274_265.out, bw_⟩)
             · skip
               refine box_step ?hg (N := 9) ?hd (cs := #[.slice none 0 0, .int .i64 0]) (t := 48) ?hr ?_; (case hd => rfl); (case hg => rfl); (case hr => first | (go_simp; done) | (go_simp; rfl))
               intro gb274 hg w90 hbox hb
               have n0_ := A_ (Kd.N_below (Kd.N_elderB (by (with_reducible repeat (first | apply Kd.N_alloc | apply Kd.N_drewN | apply Kd.N_drew)); exact HO268.out) gb274 (Nat.le_of_eq hg.symm)) hb); have n1_ := A_ (kb_ BK255 hb); have n2_ := A_ (kb_ BK256 hb); have n3_ := A_ (kb_ BK257 hb); have n4_ := A_ (kb_ BK265 hb); have n5_ := A_ (below_step bw_ hb); have n6_ := A_ (hbox); have n7_ := A_ (gz_ (w := w) hg); have n8_ := A_ (gz_ (w := w) hg); have n9_ := A_ (nl_ BK255 hg); have n10_ := A_ (ng_ BK255 hg); have n11_ := A_ (nl_ BK256 hg); have n12_ := A_ (ng_ BK256 hg); have n13_ := A_ (nl_ BK257 hg); have n14_ := A_ (ng_ BK257 hg); have n15_ := A_ (nl_ BK265 hg); have n16_ := A_ (ng_ BK265 hg); replace HO268 := n0_; replace BK255 := n1_; replace BK256 := n2_; replace BK257 := n3_; replace BK265 := n4_; replace HB := n5_; have BK274 := n6_; have GW274 := n7_; have GE274 := n8_; have NB255_274 := n9_; have NB274_255 := n10_; have NB256_274 := n11_; have NB274_256 := n12_; have NB257_274 := n13_; have NB274_257 := n14_; have NB265_274 := n15_; have NB274_265 := n16_; clear n0_ n1_ n2_ n3_ n4_ n5_ n6_ n7_ n8_ n9_ n10_ n11_ n12_ n13_ n14_ n15_ n16_; clear hb hbox hg
               obtain ⟨Ao91, co91, eo91⟩ := Kd.N_slice HO268.out
               (first | subst eo91 | (injection eo91 with f1_ f2_ f3_; have f4_ := f1_.symm; have f5_ := f3_.symm; clear f1_ f2_ f3_; subst f4_; subst f5_))
               refine hK.out _ _ ⟨e_ BK265 0, e_ BK265 1, e_ BK256 0, e_ BK256 1, e_ BK256 2, e_ BK257 0, e_ BK257 1, e_ BK257 2⟩ (fun hHeld => ?_)
               clear hK K
               refine norm_ (a' := ?_) ?_ ?_
               rotate_left
               · show Act.put _ (some 9) _ = _
                 simp only [Act.put, s0_, s1_, s2_, i64_w, i32_w]
                 rfl
               refine one_ (i := 4) (N := some 65) #[true, true, true, true, true, true, false] rfl rfl (by kernel_rfl) (by decide) (fun K hK => ?_)
               refine goes_ Try.func21 (by kernel_rfl) rfl #[.agg #[.slice Ao91 t266.length co91, .int .i64 t269], .agg #[.int .i64 a2_0, .int .i64 a2_1, .slice A2_2 l2_2.length c2_2]] (by rfl) rfl rfl (by (try simp only [m0_, m1_, m2_]); first | done | rfl) ?_
               with_reducible refine (shard_Set.calls (fun k_ => ((k_ ≠ gb255 ∧ (k_ ≠ gb256 ∧ (k_ ≠ gb257 ∧ k_ ≠ gb265))) ∧ k_ ≠ gb274)) _ _ t266 t269 a2_0 a2_1 (fun k_ => k_ < w.heap.size) _ _ l2_2 t270 t273 _ ?side1 ?side2 A75.out).mono ?_
               (case side1 => exact Kd.N_V (HO268.out))
               (case side2 => exact Kd.V_mk HC2_2.out (Kd.F_below (Kd.C_F k32_heap HR2_2.out) bw_))
               rintro e w92 ⟨v271, rfl, ho0, hb⟩
               refine ⟨_, rfl, ?_⟩
               have n0_ := A_ (Kd.N_elder' (by (with_reducible repeat (first | apply Kd.N_alloc | apply Kd.N_drewN | apply Kd.N_drew)); exact HO268.out) (Kd.N_base ho0) hb); have n1_ := A_ (Kd.N_lower (Kd.N_mono (ok' := fun k_ => k_ ≠ gb255 ∧ k_ ≠ gb256 ∧ k_ ≠ gb257 ∧ k_ ≠ gb265 ∧ k_ ≠ gb274) ho0 (fun k_ hk_ => ⟨Or.elim hk_ (fun hs_ => Or.elim hs_ (fun hs_ => hs_.1.1) (fun hs_ => fun e_ => Nat.not_le.2 hs_ (by rw [e_]; exact GW255.out))) (fun hn_ => (Kd.freshB (g := gb255) (o := .cells #[.slice A0_0 l0_0.length c0_0, .int .i64 a0_1] 26 (0, 0)) (by (with_reducible repeat (first | refine bn_ ?_ _ | refine bd_ ?_ | refine ba_ ?_ _)); exact BK255.out) k_ hn_)), Or.elim hk_ (fun hs_ => Or.elim hs_ (fun hs_ => hs_.1.2.1) (fun hs_ => fun e_ => Nat.not_le.2 hs_ (by rw [e_]; exact GW256.out))) (fun hn_ => (Kd.freshB (g := gb256) (o := .cells #[.int .i64 a1_0, .int .i64 a1_1, .slice A1_2 l1_2.length c1_2] 46 (0, 0)) (by (with_reducible repeat (first | refine bn_ ?_ _ | refine bd_ ?_ | refine ba_ ?_ _)); exact BK256.out) k_ hn_)), Or.elim hk_ (fun hs_ => Or.elim hs_ (fun hs_ => hs_.1.2.2.1) (fun hs_ => fun e_ => Nat.not_le.2 hs_ (by rw [e_]; exact GW257.out))) (fun hn_ => (Kd.freshB (g := gb257) (o := .cells #[.int .i64 a2_0, .int .i64 a2_1, .slice A2_2 l2_2.length c2_2] 46 (0, 0)) (by (with_reducible repeat (first | refine bn_ ?_ _ | refine bd_ ?_ | refine ba_ ?_ _)); exact BK257.out) k_ hn_)), Or.elim hk_ (fun hs_ => Or.elim hs_ (fun hs_ => hs_.1.2.2.2) (fun hs_ => fun e_ => Nat.not_le.2 hs_ (by rw [e_]; exact GW265.out))) (fun hn_ => (Kd.freshB (g := gb265) (o := .cells #[.slice A0_0 l0_0.length c0_0, .int .i64 a0_1] 48 (0, 0)) (by (with_reducible repeat (first | refine bn_ ?_ _ | refine bd_ ?_ | refine ba_ ?_ _)); exact BK265.out) k_ hn_)), Or.elim hk_ (fun hs_ => Or.elim hs_ (fun hs_ => hs_.2) (fun hs_ => fun e_ => Nat.not_le.2 hs_ (by rw [e_]; exact GW274.out))) (fun hn_ => (Kd.freshB (g := gb274) (o := .cells #[.slice none 0 0, .int .i64 0] 48 (0, 0)) (by (with_reducible repeat (first | refine bn_ ?_ _ | refine bd_ ?_ | refine ba_ ?_ _)); exact BK274.out) k_ hn_))⟩)) (below_size bw_)); have n2_ := A_ (kb_ BK255 hb); have n3_ := A_ (kb_ BK256 hb); have n4_ := A_ (kb_ BK257 hb); have n5_ := A_ (kb_ BK265 hb); have n6_ := A_ (kb_ BK274 hb); have n7_ := A_ (below_step bw_ hb); replace HO268 := n0_; have HO272 := n1_; replace BK255 := n2_; replace BK256 := n3_; replace BK257 := n4_; replace BK265 := n5_; replace BK274 := n6_; replace HB := n7_; clear n0_ n1_ n2_ n3_ n4_ n5_ n6_ n7_
               (try clear hb)
               (try clear hb2)
               (try clear hk)
               (try clear hi)
               (try clear ho0)
               refine hK.out _ _ ⟨e_ BK265 0, e_ BK265 1, e_ BK256 0, e_ BK256 1, e_ BK256 2, e_ BK257 0, e_ BK257 1, e_ BK257 2⟩ (fun hHeld => ?_)
               clear hK K
               refine norm_ (a' := ?_) ?_ ?_
               rotate_left
               · show Act.put _ (some 65) _ = _
                 simp only [Act.put, s0_, s1_, s2_, i64_w, i32_w]
                 rfl
               exact norm_ (by simp only [putAll, Act.put, s0_, s1_, s2_]) (hCont (.slice Ao91 t266.length co91, v271, gb274) _ ⟨hHeld, (by (with_reducible repeat (first | apply Kd.N_alloc | apply Kd.N_drewN | apply Kd.N_drew)); exact Kd.N_mono HO268.out (fun _ hk => ⟨hk.2, ⟨hk.1.1.1, ⟨hk.1.1.2.1, ⟨hk.1.1.2.2.1, ⟨hk.1.1.2.2.2, hk.1.2⟩⟩⟩⟩⟩)), (by (with_reducible repeat (first | apply Kd.N_alloc | apply Kd.N_drewN | apply Kd.N_drew)); exact HO272.out), (by (with_reducible repeat (first | refine bn_ ?_ _ | refine bd_ ?_ | refine ba_ ?_ _)); exact BK255.out), (by (with_reducible repeat (first | refine bn_ ?_ _ | refine bd_ ?_ | refine ba_ ?_ _)); exact BK256.out), (by (with_reducible repeat (first | refine bn_ ?_ _ | refine bd_ ?_ | refine ba_ ?_ _)); exact BK257.out), (by (with_reducible repeat (first | refine bn_ ?_ _ | refine bd_ ?_ | refine ba_ ?_ _)); exact BK265.out), (by (with_reducible repeat (first | refine bn_ ?_ _ | refine bd_ ?_ | refine ba_ ?_ _)); exact BK274.out), GW274.out, GE274.out, NB255_274.out, NB274_255.out, NB256_274.out, NB274_256.out, NB257_274.out, NB274_257.out, NB265_274.out, NB274_265.out, bw_⟩)
           · skip
             refine box_step ?hg (N := 9) ?hd (cs := #[.slice none 0 0, .int .i64 0]) (t := 48) ?hr ?_; (case hd => rfl); (case hg => rfl); (case hr => first | (go_simp; done) | (go_simp; rfl))
             intro gb274 hg w89 hbox hb
             have n0_ := A_ (kb_ BK255 hb); have n1_ := A_ (kb_ BK256 hb); have n2_ := A_ (kb_ BK257 hb); have n3_ := A_ (kb_ BK265 hb); have n4_ := A_ (below_step bw_ hb); have n5_ := A_ (hbox); have n6_ := A_ (gz_ (w := w) hg); have n7_ := A_ (gz_ (w := w) hg); have n8_ := A_ (nl_ BK255 hg); have n9_ := A_ (ng_ BK255 hg); have n10_ := A_ (nl_ BK256 hg); have n11_ := A_ (ng_ BK256 hg); have n12_ := A_ (nl_ BK257 hg); have n13_ := A_ (ng_ BK257 hg); have n14_ := A_ (nl_ BK265 hg); have n15_ := A_ (ng_ BK265 hg); replace BK255 := n0_; replace BK256 := n1_; replace BK257 := n2_; replace BK265 := n3_; replace HB := n4_; have BK274 := n5_; have GW274 := n6_; have GE274 := n7_; have NB255_274 := n8_; have NB274_255 := n9_; have NB256_274 := n10_; have NB274_256 := n11_; have NB257_274 := n12_; have NB274_257 := n13_; have NB265_274 := n14_; have NB274_265 := n15_; clear n0_ n1_ n2_ n3_ n4_ n5_ n6_ n7_ n8_ n9_ n10_ n11_ n12_ n13_ n14_ n15_; clear hb hbox hg
             refine hK.out _ _ ⟨e_ BK265 0, e_ BK265 1, e_ BK256 0, e_ BK256 1, e_ BK256 2, e_ BK257 0, e_ BK257 1, e_ BK257 2⟩ (fun hHeld => ?_)
             clear hK K
             refine norm_ (a' := ?_) ?_ ?_
             rotate_left
             · show Act.put _ (some 9) _ = _
               simp only [Act.put, s0_, s1_, s2_, i64_w, i32_w]
               rfl
             refine one_ (i := 2) (N := some 63) #[true, true, true, true, false, true, false] rfl rfl (by kernel_rfl) (by decide) (fun K hK => ?_)
             refine goes_ Try.func21 (by kernel_rfl) rfl #[.agg #[.slice A0_0 l0_0.length c0_0, .int .i64 a0_1], .agg #[.int .i64 a1_0, .int .i64 a1_1, .slice A1_2 l1_2.length c1_2]] (by rfl) rfl rfl (by (try simp only [m0_, m1_, m2_]); first | done | rfl) ?_
             with_reducible refine (shard_Set.calls (fun k_ => k_ < w.heap.size) _ _ l0_0 a0_1 a1_0 a1_1 (fun k_ => k_ < w.heap.size) _ _ l1_2 t266 t269 _ ?side1 ?side2 A74.out).mono ?_
             (case side1 => exact Kd.V_mk HC0_0.out (Kd.F_below (Kd.C_F k46_heap HR0_0.out) bw_))
             (case side2 => exact Kd.V_mk HC1_2.out (Kd.F_below (Kd.C_F k32_heap HR1_2.out) bw_))
             rintro e w90 ⟨v267, rfl, ho0, hb⟩
             refine ⟨_, rfl, ?_⟩
             have n0_ := A_ (Kd.N_lower (Kd.N_mono (ok' := fun k_ => k_ ≠ gb255 ∧ k_ ≠ gb256 ∧ k_ ≠ gb257 ∧ k_ ≠ gb265 ∧ k_ ≠ gb274) ho0 (fun k_ hk_ => ⟨Or.elim hk_ (fun hs_ => Or.elim hs_ (fun hs_ => fun e_ => Nat.not_le.2 hs_ (by rw [e_]; exact GW255.out)) (fun hs_ => fun e_ => Nat.not_le.2 hs_ (by rw [e_]; exact GW255.out))) (fun hn_ => (Kd.freshB (g := gb255) (o := .cells #[.slice A0_0 l0_0.length c0_0, .int .i64 a0_1] 26 (0, 0)) (by (with_reducible repeat (first | refine bn_ ?_ _ | refine bd_ ?_ | refine ba_ ?_ _)); exact BK255.out) k_ hn_)), Or.elim hk_ (fun hs_ => Or.elim hs_ (fun hs_ => fun e_ => Nat.not_le.2 hs_ (by rw [e_]; exact GW256.out)) (fun hs_ => fun e_ => Nat.not_le.2 hs_ (by rw [e_]; exact GW256.out))) (fun hn_ => (Kd.freshB (g := gb256) (o := .cells #[.int .i64 a1_0, .int .i64 a1_1, .slice A1_2 l1_2.length c1_2] 46 (0, 0)) (by (with_reducible repeat (first | refine bn_ ?_ _ | refine bd_ ?_ | refine ba_ ?_ _)); exact BK256.out) k_ hn_)), Or.elim hk_ (fun hs_ => Or.elim hs_ (fun hs_ => fun e_ => Nat.not_le.2 hs_ (by rw [e_]; exact GW257.out)) (fun hs_ => fun e_ => Nat.not_le.2 hs_ (by rw [e_]; exact GW257.out))) (fun hn_ => (Kd.freshB (g := gb257) (o := .cells #[.int .i64 a2_0, .int .i64 a2_1, .slice A2_2 l2_2.length c2_2] 46 (0, 0)) (by (with_reducible repeat (first | refine bn_ ?_ _ | refine bd_ ?_ | refine ba_ ?_ _)); exact BK257.out) k_ hn_)), Or.elim hk_ (fun hs_ => Or.elim hs_ (fun hs_ => fun e_ => Nat.not_le.2 hs_ (by rw [e_]; exact GW265.out)) (fun hs_ => fun e_ => Nat.not_le.2 hs_ (by rw [e_]; exact GW265.out))) (fun hn_ => (Kd.freshB (g := gb265) (o := .cells #[.slice A0_0 l0_0.length c0_0, .int .i64 a0_1] 48 (0, 0)) (by (with_reducible repeat (first | refine bn_ ?_ _ | refine bd_ ?_ | refine ba_ ?_ _)); exact BK265.out) k_ hn_)), Or.elim hk_ (fun hs_ => Or.elim hs_ (fun hs_ => fun e_ => Nat.not_le.2 hs_ (by rw [e_]; exact GW274.out)) (fun hs_ => fun e_ => Nat.not_le.2 hs_ (by rw [e_]; exact GW274.out))) (fun hn_ => (Kd.freshB (g := gb274) (o := .cells #[.slice none 0 0, .int .i64 0] 48 (0, 0)) (by (with_reducible repeat (first | refine bn_ ?_ _ | refine bd_ ?_ | refine ba_ ?_ _)); exact BK274.out) k_ hn_))⟩)) (below_size bw_)); have n1_ := A_ (kb_ BK255 hb); have n2_ := A_ (kb_ BK256 hb); have n3_ := A_ (kb_ BK257 hb); have n4_ := A_ (kb_ BK265 hb); have n5_ := A_ (kb_ BK274 hb); have n6_ := A_ (below_step bw_ hb); have HO268 := n0_; replace BK255 := n1_; replace BK256 := n2_; replace BK257 := n3_; replace BK265 := n4_; replace BK274 := n5_; replace HB := n6_; clear n0_ n1_ n2_ n3_ n4_ n5_ n6_
             (try clear hb)
             (try clear hb2)
             (try clear hk)
             (try clear hi)
             (try clear ho0)
             obtain ⟨Ao91, co91, eo91⟩ := Kd.N_slice HO268.out
             (first | subst eo91 | (injection eo91 with f1_ f2_ f3_; have f4_ := f1_.symm; have f5_ := f3_.symm; clear f1_ f2_ f3_; subst f4_; subst f5_))
             refine hK.out _ _ ⟨e_ BK265 0, e_ BK265 1, e_ BK256 0, e_ BK256 1, e_ BK256 2, e_ BK257 0, e_ BK257 1, e_ BK257 2⟩ (fun hHeld => ?_)
             clear hK K
             refine norm_ (a' := ?_) ?_ ?_
             rotate_left
             · show Act.put _ (some 63) _ = _
               simp only [Act.put, s0_, s1_, s2_, i64_w, i32_w]
               rfl
             refine one_ (i := 4) (N := some 65) #[true, true, true, true, true, true, false] rfl rfl (by kernel_rfl) (by decide) (fun K hK => ?_)
             refine goes_ Try.func21 (by kernel_rfl) rfl #[.agg #[.slice Ao91 t266.length co91, .int .i64 t269], .agg #[.int .i64 a2_0, .int .i64 a2_1, .slice A2_2 l2_2.length c2_2]] (by rfl) rfl rfl (by (try simp only [m0_, m1_, m2_]); first | done | rfl) ?_
             with_reducible refine (shard_Set.calls (fun k_ => (k_ ≠ gb255 ∧ (k_ ≠ gb256 ∧ (k_ ≠ gb257 ∧ (k_ ≠ gb265 ∧ k_ ≠ gb274))))) _ _ t266 t269 a2_0 a2_1 (fun k_ => k_ < w.heap.size) _ _ l2_2 t270 t273 _ ?side1 ?side2 A75.out).mono ?_
             (case side1 => exact Kd.N_V (HO268.out))
             (case side2 => exact Kd.V_mk HC2_2.out (Kd.F_below (Kd.C_F k32_heap HR2_2.out) bw_))
             rintro e w92 ⟨v271, rfl, ho0, hb⟩
             refine ⟨_, rfl, ?_⟩
             have n0_ := A_ (Kd.N_elder' (by (with_reducible repeat (first | apply Kd.N_alloc | apply Kd.N_drewN | apply Kd.N_drew)); exact HO268.out) (Kd.N_base ho0) hb); have n1_ := A_ (Kd.N_lower (Kd.N_mono (ok' := fun k_ => k_ ≠ gb255 ∧ k_ ≠ gb256 ∧ k_ ≠ gb257 ∧ k_ ≠ gb265 ∧ k_ ≠ gb274) ho0 (fun k_ hk_ => ⟨Or.elim hk_ (fun hs_ => Or.elim hs_ (fun hs_ => hs_.1) (fun hs_ => fun e_ => Nat.not_le.2 hs_ (by rw [e_]; exact GW255.out))) (fun hn_ => (Kd.freshB (g := gb255) (o := .cells #[.slice A0_0 l0_0.length c0_0, .int .i64 a0_1] 26 (0, 0)) (by (with_reducible repeat (first | refine bn_ ?_ _ | refine bd_ ?_ | refine ba_ ?_ _)); exact BK255.out) k_ hn_)), Or.elim hk_ (fun hs_ => Or.elim hs_ (fun hs_ => hs_.2.1) (fun hs_ => fun e_ => Nat.not_le.2 hs_ (by rw [e_]; exact GW256.out))) (fun hn_ => (Kd.freshB (g := gb256) (o := .cells #[.int .i64 a1_0, .int .i64 a1_1, .slice A1_2 l1_2.length c1_2] 46 (0, 0)) (by (with_reducible repeat (first | refine bn_ ?_ _ | refine bd_ ?_ | refine ba_ ?_ _)); exact BK256.out) k_ hn_)), Or.elim hk_ (fun hs_ => Or.elim hs_ (fun hs_ => hs_.2.2.1) (fun hs_ => fun e_ => Nat.not_le.2 hs_ (by rw [e_]; exact GW257.out))) (fun hn_ => (Kd.freshB (g := gb257) (o := .cells #[.int .i64 a2_0, .int .i64 a2_1, .slice A2_2 l2_2.length c2_2] 46 (0, 0)) (by (with_reducible repeat (first | refine bn_ ?_ _ | refine bd_ ?_ | refine ba_ ?_ _)); exact BK257.out) k_ hn_)), Or.elim hk_ (fun hs_ => Or.elim hs_ (fun hs_ => hs_.2.2.2.1) (fun hs_ => fun e_ => Nat.not_le.2 hs_ (by rw [e_]; exact GW265.out))) (fun hn_ => (Kd.freshB (g := gb265) (o := .cells #[.slice A0_0 l0_0.length c0_0, .int .i64 a0_1] 48 (0, 0)) (by (with_reducible repeat (first | refine bn_ ?_ _ | refine bd_ ?_ | refine ba_ ?_ _)); exact BK265.out) k_ hn_)), Or.elim hk_ (fun hs_ => Or.elim hs_ (fun hs_ => hs_.2.2.2.2) (fun hs_ => fun e_ => Nat.not_le.2 hs_ (by rw [e_]; exact GW274.out))) (fun hn_ => (Kd.freshB (g := gb274) (o := .cells #[.slice none 0 0, .int .i64 0] 48 (0, 0)) (by (with_reducible repeat (first | refine bn_ ?_ _ | refine bd_ ?_ | refine ba_ ?_ _)); exact BK274.out) k_ hn_))⟩)) (below_size bw_)); have n2_ := A_ (kb_ BK255 hb); have n3_ := A_ (kb_ BK256 hb); have n4_ := A_ (kb_ BK257 hb); have n5_ := A_ (kb_ BK265 hb); have n6_ := A_ (kb_ BK274 hb); have n7_ := A_ (below_step bw_ hb); replace HO268 := n0_; have HO272 := n1_; replace BK255 := n2_; replace BK256 := n3_; replace BK257 := n4_; replace BK265 := n5_; replace BK274 := n6_; replace HB := n7_; clear n0_ n1_ n2_ n3_ n4_ n5_ n6_ n7_
             (try clear hb)
             (try clear hb2)
             (try clear hk)
             (try clear hi)
             (try clear ho0)
             refine hK.out _ _ ⟨e_ BK265 0, e_ BK265 1, e_ BK256 0, e_ BK256 1, e_ BK256 2, e_ BK257 0, e_ BK257 1, e_ BK257 2⟩ (fun hHeld => ?_)
             clear hK K
             refine norm_ (a' := ?_) ?_ ?_
             rotate_left
             · show Act.put _ (some 65) _ = _
               simp only [Act.put, s0_, s1_, s2_, i64_w, i32_w]
               rfl
             exact norm_ (by simp only [putAll, Act.put, s0_, s1_, s2_]) (hCont (.slice Ao91 t266.length co91, v271, gb274) _ ⟨hHeld, (by (with_reducible repeat (first | apply Kd.N_alloc | apply Kd.N_drewN | apply Kd.N_drew)); exact Kd.N_mono HO268.out (fun _ hk => ⟨hk.2, ⟨hk.1.1, ⟨hk.1.2.1, ⟨hk.1.2.2.1, ⟨hk.1.2.2.2.1, hk.1.2.2.2.2⟩⟩⟩⟩⟩)), (by (with_reducible repeat (first | apply Kd.N_alloc | apply Kd.N_drewN | apply Kd.N_drew)); exact HO272.out), (by (with_reducible repeat (first | refine bn_ ?_ _ | refine bd_ ?_ | refine ba_ ?_ _)); exact BK255.out), (by (with_reducible repeat (first | refine bn_ ?_ _ | refine bd_ ?_ | refine ba_ ?_ _)); exact BK256.out), (by (with_reducible repeat (first | refine bn_ ?_ _ | refine bd_ ?_ | refine ba_ ?_ _)); exact BK257.out), (by (with_reducible repeat (first | refine bn_ ?_ _ | refine bd_ ?_ | refine ba_ ?_ _)); exact BK265.out), (by (with_reducible repeat (first | refine bn_ ?_ _ | refine bd_ ?_ | refine ba_ ?_ _)); exact BK274.out), GW274.out, GE274.out, NB255_274.out, NB274_255.out, NB256_274.out, NB274_256.out, NB257_274.out, NB274_257.out, NB265_274.out, NB274_265.out, bw_⟩)
         rintro ⟨v267, v271, gb274⟩ w93 ⟨hS_, h0_, h1_, h2_, h3_, h4_, h5_, h6_, h7_, h8_, h9_, h10_, h11_, h12_, h13_, h14_, h15_, h16_, h17_⟩
         have n0_ : Aside0 (Kd.N k46 46 w93 w.heap.size (fun k_ => some k_ ≠ (v271 : Value).ownBlock ∧ k_ ≠ gb255 ∧ k_ ≠ gb256 ∧ k_ ≠ gb257 ∧ k_ ≠ gb265 ∧ k_ ≠ gb274) v267 t266) := ⟨h0_⟩; have n1_ : Aside0 (Kd.N k46 46 w93 w.heap.size (fun k_ => k_ ≠ gb255 ∧ k_ ≠ gb256 ∧ k_ ≠ gb257 ∧ k_ ≠ gb265 ∧ k_ ≠ gb274) v271 t270) := ⟨h1_⟩; have n2_ : Aside0 (w93.heap[gb255]? = some (.cells #[.slice A0_0 l0_0.length c0_0, .int .i64 a0_1] 26 (0, 0))) := ⟨h2_⟩; have n3_ : Aside0 (w93.heap[gb256]? = some (.cells #[.int .i64 a1_0, .int .i64 a1_1, .slice A1_2 l1_2.length c1_2] 46 (0, 0))) := ⟨h3_⟩; have n4_ : Aside0 (w93.heap[gb257]? = some (.cells #[.int .i64 a2_0, .int .i64 a2_1, .slice A2_2 l2_2.length c2_2] 46 (0, 0))) := ⟨h4_⟩; have n5_ : Aside0 (w93.heap[gb265]? = some (.cells #[.slice A0_0 l0_0.length c0_0, .int .i64 a0_1] 48 (0, 0))) := ⟨h5_⟩; have n6_ : Aside0 (w93.heap[gb274]? = some (.cells #[.slice none 0 0, .int .i64 0] 48 (0, 0))) := ⟨h6_⟩; have n7_ : Aside0 (w.heap.size ≤ gb274) := ⟨h7_⟩; have n8_ : Aside0 (w.heap.size ≤ gb274) := ⟨h8_⟩; have n9_ : Aside0 (gb255 ≠ gb274) := ⟨h9_⟩; have n10_ : Aside0 (gb274 ≠ gb255) := ⟨h10_⟩; have n11_ : Aside0 (gb256 ≠ gb274) := ⟨h11_⟩; have n12_ : Aside0 (gb274 ≠ gb256) := ⟨h12_⟩; have n13_ : Aside0 (gb257 ≠ gb274) := ⟨h13_⟩; have n14_ : Aside0 (gb274 ≠ gb257) := ⟨h14_⟩; have n15_ : Aside0 (gb265 ≠ gb274) := ⟨h15_⟩; have n16_ : Aside0 (gb274 ≠ gb265) := ⟨h16_⟩; have n17_ : Aside0 (Below w.heap.size w w93) := ⟨h17_⟩; clear BK255; clear BK256; clear BK257; clear BK265; clear HB; clear h0_ h1_ h2_ h3_ h4_ h5_ h6_ h7_ h8_ h9_ h10_ h11_ h12_ h13_ h14_ h15_ h16_ h17_; have HO268 := n0_; have HO272 := n1_; have BK255 := n2_; have BK256 := n3_; have BK257 := n4_; have BK265 := n5_; have BK274 := n6_; have GW274 := n7_; have GE274 := n8_; have NB255_274 := n9_; have NB274_255 := n10_; have NB256_274 := n11_; have NB274_256 := n12_; have NB257_274 := n13_; have NB274_257 := n14_; have NB265_274 := n15_; have NB274_265 := n16_; have HB := n17_; clear n0_ n1_ n2_ n3_ n4_ n5_ n6_ n7_ n8_ n9_ n10_ n11_ n12_ n13_ n14_ n15_ n16_ n17_
         have hHeld : w93.cell? ⟨gb265, 0, none⟩ = some (.slice A0_0 l0_0.length c0_0) ∧ w93.cell? ⟨gb265, 1, none⟩ = some (.int .i64 a0_1) ∧ w93.cell? ⟨gb256, 0, none⟩ = some (.int .i64 a1_0) ∧ w93.cell? ⟨gb256, 1, none⟩ = some (.int .i64 a1_1) ∧ w93.cell? ⟨gb256, 2, none⟩ = some (.slice A1_2 l1_2.length c1_2) ∧ w93.cell? ⟨gb257, 0, none⟩ = some (.int .i64 a2_0) ∧ w93.cell? ⟨gb257, 1, none⟩ = some (.int .i64 a2_1) ∧ w93.cell? ⟨gb257, 2, none⟩ = some (.slice A2_2 l2_2.length c2_2) := hS_
         obtain ⟨Ao94, co94, eo94⟩ := Kd.N_slice HO272.out
         (first | subst eo94 | (injection eo94 with f1_ f2_ f3_; have f4_ := f1_.symm; have f5_ := f3_.symm; clear f1_ f2_ f3_; subst f4_; subst f5_))
         refine norm_ (a' := ?_) ?_ ?_
         rotate_left
         · simp only [putAll, Act.put, s0_, s1_, s2_]
           rfl
         refine one_ (i := 6) (N := none) #[true, true, true, true, true, true, true] rfl rfl (by kernel_rfl) (by decide) (fun K hK => ?_)
         have hs95 : w93.cell? ⟨gb274, 0, none⟩ = some (.slice none 0 0) := e_ BK274 0
         have hfs95 := blk_frozen BK274.out 0
         have hns95_0 := NB255_274.out
         have hns95_1 := NB256_274.out
         have hns95_2 := NB257_274.out
         have hns95_3 := NB265_274.out
         have hms95_0 := NB274_255.out
         have hms95_1 := NB274_256.out
         have hms95_2 := NB274_257.out
         have hms95_3 := NB274_265.out
         have hs96 : w93.cell? ⟨gb274, 1, none⟩ = some (.int .i64 0) := e_ BK274 1
         have hfs96 := blk_frozen BK274.out 1
         have hns96_0 := NB255_274.out
         have hns96_1 := NB256_274.out
         have hns96_2 := NB257_274.out
         have hns96_3 := NB265_274.out
         have hms96_0 := NB274_255.out
         have hms96_1 := NB274_256.out
         have hms96_2 := NB274_257.out
         have hms96_3 := NB274_265.out
         refine skip_ (w1 := ?_) (by rfl) rfl ?_ ?_
         rotate_left
         · go_simp
           rfl
         refine hK.out _ _ ⟨((cell_far (p := ⟨gb274, _, none⟩) NB265_274.out _).trans (((cell_far (p := ⟨gb274, _, none⟩) NB265_274.out _).trans (hHeld.1)))), ((cell_far (p := ⟨gb274, _, none⟩) NB265_274.out _).trans (((cell_far (p := ⟨gb274, _, none⟩) NB265_274.out _).trans (hHeld.2.1)))), ((cell_far (p := ⟨gb274, _, none⟩) NB256_274.out _).trans (((cell_far (p := ⟨gb274, _, none⟩) NB256_274.out _).trans (hHeld.2.2.1)))), ((cell_far (p := ⟨gb274, _, none⟩) NB256_274.out _).trans (((cell_far (p := ⟨gb274, _, none⟩) NB256_274.out _).trans (hHeld.2.2.2.1)))), ((cell_far (p := ⟨gb274, _, none⟩) NB256_274.out _).trans (((cell_far (p := ⟨gb274, _, none⟩) NB256_274.out _).trans (hHeld.2.2.2.2.1)))), ((cell_far (p := ⟨gb274, _, none⟩) NB257_274.out _).trans (((cell_far (p := ⟨gb274, _, none⟩) NB257_274.out _).trans (hHeld.2.2.2.2.2.1)))), ((cell_far (p := ⟨gb274, _, none⟩) NB257_274.out _).trans (((cell_far (p := ⟨gb274, _, none⟩) NB257_274.out _).trans (hHeld.2.2.2.2.2.2.1)))), ((cell_far (p := ⟨gb274, _, none⟩) NB257_274.out _).trans (((cell_far (p := ⟨gb274, _, none⟩) NB257_274.out _).trans (hHeld.2.2.2.2.2.2.2))))⟩ (fun hHeld => ?_)
         clear hK K
         refine done_ (by kernel_rfl) ?_
         try go_wp2
         have n0_ : Aside0 (Kd.N k46 46 ((w93.setCell ⟨gb274, 0, none⟩ (.slice Ao94 t270.length co94)).setCell ⟨gb274, 1, none⟩ (.int .i64 t273)) w.heap.size (fun k_ => some k_ ≠ (.slice Ao94 t270.length co94 : Value).ownBlock ∧ k_ ≠ gb255 ∧ k_ ≠ gb256 ∧ k_ ≠ gb257 ∧ k_ ≠ gb265 ∧ k_ ≠ gb274) v267 t266) := ⟨by (with_reducible repeat (first | apply Kd.N_alloc | apply Kd.N_drewN | apply Kd.N_drew)); exact Kd.N_mono (Kd.N_far (p := ⟨gb274, 1, none⟩) (Kd.N_far (p := ⟨gb274, 0, none⟩) (Kd.N_mono HO268.out (fun k_ hk => (⟨hk, hk.2.2.2.2.2⟩ : _ ∧ k_ ≠ gb274))) (fun _ hk => hk.2) (.slice Ao94 t270.length co94)) (fun _ hk => hk.2) (.int .i64 t273)) (fun _ hk => ⟨hk.1.1, ⟨hk.1.2.1, ⟨hk.1.2.2.1, ⟨hk.1.2.2.2.1, ⟨hk.1.2.2.2.2.1, hk.1.2.2.2.2.2⟩⟩⟩⟩⟩)⟩; have n1_ : Aside0 (Kd.N k46 46 ((w93.setCell ⟨gb274, 0, none⟩ (.slice Ao94 t270.length co94)).setCell ⟨gb274, 1, none⟩ (.int .i64 t273)) w.heap.size (fun k_ => k_ ≠ gb255 ∧ k_ ≠ gb256 ∧ k_ ≠ gb257 ∧ k_ ≠ gb265 ∧ k_ ≠ gb274) (.slice Ao94 t270.length co94) t270) := ⟨by (with_reducible repeat (first | apply Kd.N_alloc | apply Kd.N_drewN | apply Kd.N_drew)); exact Kd.N_mono (Kd.N_far (p := ⟨gb274, 1, none⟩) (Kd.N_far (p := ⟨gb274, 0, none⟩) (Kd.N_mono HO272.out (fun k_ hk => (⟨hk, hk.2.2.2.2⟩ : _ ∧ k_ ≠ gb274))) (fun _ hk => hk.2) (.slice Ao94 t270.length co94)) (fun _ hk => hk.2) (.int .i64 t273)) (fun _ hk => ⟨hk.1.1, ⟨hk.1.2.1, ⟨hk.1.2.2.1, ⟨hk.1.2.2.2.1, hk.1.2.2.2.2⟩⟩⟩⟩)⟩; have n2_ : Aside0 (((w93.setCell ⟨gb274, 0, none⟩ (.slice Ao94 t270.length co94)).setCell ⟨gb274, 1, none⟩ (.int .i64 t273)).heap[gb255]? = some (.cells #[.slice A0_0 l0_0.length c0_0, .int .i64 a0_1] 26 (0, 0))) := ⟨bk_⟩; have n3_ : Aside0 (((w93.setCell ⟨gb274, 0, none⟩ (.slice Ao94 t270.length co94)).setCell ⟨gb274, 1, none⟩ (.int .i64 t273)).heap[gb256]? = some (.cells #[.int .i64 a1_0, .int .i64 a1_1, .slice A1_2 l1_2.length c1_2] 46 (0, 0))) := ⟨bk_⟩; have n4_ : Aside0 (((w93.setCell ⟨gb274, 0, none⟩ (.slice Ao94 t270.length co94)).setCell ⟨gb274, 1, none⟩ (.int .i64 t273)).heap[gb257]? = some (.cells #[.int .i64 a2_0, .int .i64 a2_1, .slice A2_2 l2_2.length c2_2] 46 (0, 0))) := ⟨bk_⟩; have n5_ : Aside0 (((w93.setCell ⟨gb274, 0, none⟩ (.slice Ao94 t270.length co94)).setCell ⟨gb274, 1, none⟩ (.int .i64 t273)).heap[gb265]? = some (.cells #[.slice A0_0 l0_0.length c0_0, .int .i64 a0_1] 48 (0, 0))) := ⟨bk_⟩; have n6_ : Aside0 (((w93.setCell ⟨gb274, 0, none⟩ (.slice Ao94 t270.length co94)).setCell ⟨gb274, 1, none⟩ (.int .i64 t273)).heap[gb274]? = some (.cells #[.slice Ao94 t270.length co94, .int .i64 t273] 48 (0, 0))) := ⟨by (with_reducible repeat (first | refine bn_ ?_ _ | refine bd_ ?_ | refine ba_ ?_ _)); refine blk_put (cs := #[.slice Ao94 t270.length co94, .int .i64 0]) ?_ 1 _ rfl; (with_reducible repeat (first | refine bn_ ?_ _ | refine bd_ ?_ | refine ba_ ?_ _)); refine blk_put (cs := #[.slice none 0 0, .int .i64 0]) ?_ 0 _ rfl; (with_reducible repeat (first | refine bn_ ?_ _ | refine bd_ ?_ | refine ba_ ?_ _)); exact BK274.out⟩; have n7_ : Aside0 (Below w.heap.size w ((w93.setCell ⟨gb274, 0, none⟩ (.slice Ao94 t270.length co94)).setCell ⟨gb274, 1, none⟩ (.int .i64 t273))) := ⟨by repeat (first | (with_reducible first | exact HB.out | apply wa_ | apply wn_ | apply wd_ | refine ws_ ?_ GE255.out | refine ws_ ?_ GE256.out | refine ws_ ?_ GE257.out | refine ws_ ?_ GE265.out | refine ws_ ?_ GE274.out) | exact HB.out)⟩
         (try clear HO268)
         (try clear HO272)
         (try clear BK255)
         (try clear BK256)
         (try clear BK257)
         (try clear BK265)
         (try clear BK274)
         (try clear HB)
         generalize ((w93.setCell ⟨gb274, 0, none⟩ (.slice Ao94 t270.length co94)).setCell ⟨gb274, 1, none⟩ (.int .i64 t273)) = w97 at n0_ n1_ n2_ n3_ n4_ n5_ n6_ n7_ ⊢
         have HO268 := n0_; have HO272 := n1_; have BK255 := n2_; have BK256 := n3_; have BK257 := n4_; have BK265 := n5_; have BK274 := n6_; have HB := n7_; clear n0_ n1_ n2_ n3_ n4_ n5_ n6_ n7_; have n0_ := A_ (Kd.N_drew HO268.out); have n1_ := A_ (Kd.N_drew HO272.out); have n2_ := A_ (bd_ BK255.out); have n3_ := A_ (bd_ BK256.out); have n4_ := A_ (bd_ BK257.out); have n5_ := A_ (bd_ BK265.out); have n6_ := A_ (bd_ BK274.out); have n7_ := A_ (wd_ HB.out); replace HO268 := n0_; replace HO272 := n1_; replace BK255 := n2_; replace BK256 := n3_; replace BK257 := n4_; replace BK265 := n5_; replace BK274 := n6_; replace HB := n7_; clear n0_ n1_ n2_ n3_ n4_ n5_ n6_ n7_
         refine start_ (n := 7) (S := fun w' => w'.cell? ⟨gb265, 0, none⟩ = some (.slice A0_0 l0_0.length c0_0) ∧ w'.cell? ⟨gb265, 1, none⟩ = some (.int .i64 a0_1) ∧ w'.cell? ⟨gb257, 0, none⟩ = some (.int .i64 a2_0) ∧ w'.cell? ⟨gb257, 1, none⟩ = some (.int .i64 a2_1) ∧ w'.cell? ⟨gb257, 2, none⟩ = some (.slice A2_2 l2_2.length c2_2) ∧ w'.cell? ⟨gb256, 0, none⟩ = some (.int .i64 a1_0) ∧ w'.cell? ⟨gb256, 1, none⟩ = some (.int .i64 a1_1) ∧ w'.cell? ⟨gb256, 2, none⟩ = some (.slice A1_2 l1_2.length c1_2)) (ds := []) #[false, false, false, false, false, false, false] (by kernel_rfl) rfl rfl ⟨e_ BK265 0, e_ BK265 1, e_ BK257 0, e_ BK257 1, e_ BK257 2, e_ BK256 0, e_ BK256 1, e_ BK256 2⟩ (fun hHeld => ?_)
         generalize w97.drew = w98 at HO268 HO272 BK255 BK256 BK257 BK265 BK274 HB hHeld ⊢
         refine take_ (i := 0) (N := some 66) (v := ?_) (a' := ?_) #[true, false, false, false, false, false, false] rfl rfl (by kernel_rfl) (fun _ _ _ h => h) (Or.inl ⟨by rfl, ?_⟩) hHeld ?_ ?_
         rotate_left
         · rintro w' ⟨s0, s1, s2, s3, s4, s5, s6, s7⟩
           go_simp
           with_reducible rfl
         rotate_left
         · simp only [Act.put, s0_, s1_, s2_, i64_w, i32_w]
           rfl
         refine take_ (i := 1) (N := some 67) (v := ?_) (a' := ?_) #[true, true, false, false, false, false, false] rfl rfl (by kernel_rfl) (fun _ _ _ h => h) (Or.inl ⟨by rfl, ?_⟩) hHeld ?_ ?_
         rotate_left
         · rintro w' ⟨s0, s1, s2, s3, s4, s5, s6, s7⟩
           go_simp
           with_reducible rfl
         rotate_left
         · simp only [Act.put, s0_, s1_, s2_, i64_w, i32_w]
           rfl
         refine take_ (i := 3) (N := some 69) (v := ?_) (a' := ?_) #[true, true, false, true, false, false, false] rfl rfl (by kernel_rfl) (fun _ _ _ h => h) (Or.inl ⟨by rfl, ?_⟩) hHeld ?_ ?_
         rotate_left
         · rintro w' ⟨s0, s1, s2, s3, s4, s5, s6, s7⟩
           go_simp
           with_reducible rfl
         rotate_left
         · simp only [Act.put, s0_, s1_, s2_, i64_w, i32_w]
           rfl
         refine join_ (σ := Value × Value × Nat) 1 #[true, true, true, true, true, true, false] (fun s_ => [(68, .agg #[s_.1, .int .i64 t278]), (70, .agg #[s_.2.1, .int .i64 t282]), (10, .pointer (some ⟨s_.2.2, 0, none⟩))]) (fun s_ w' => (w'.cell? ⟨gb265, 0, none⟩ = some (.slice A0_0 l0_0.length c0_0) ∧ w'.cell? ⟨gb265, 1, none⟩ = some (.int .i64 a0_1) ∧ w'.cell? ⟨gb257, 0, none⟩ = some (.int .i64 a2_0) ∧ w'.cell? ⟨gb257, 1, none⟩ = some (.int .i64 a2_1) ∧ w'.cell? ⟨gb257, 2, none⟩ = some (.slice A2_2 l2_2.length c2_2) ∧ w'.cell? ⟨gb256, 0, none⟩ = some (.int .i64 a1_0) ∧ w'.cell? ⟨gb256, 1, none⟩ = some (.int .i64 a1_1) ∧ w'.cell? ⟨gb256, 2, none⟩ = some (.slice A1_2 l1_2.length c1_2)) ∧ (Kd.N k46 46 w' w.heap.size (fun k_ => some k_ ≠ (.slice Ao94 t270.length co94 : Value).ownBlock ∧ some k_ ≠ (s_.1 : Value).ownBlock ∧ some k_ ≠ (s_.2.1 : Value).ownBlock ∧ k_ ≠ gb255 ∧ k_ ≠ gb256 ∧ k_ ≠ gb257 ∧ k_ ≠ gb265 ∧ k_ ≠ gb274 ∧ k_ ≠ s_.2.2) v267 t266) ∧ (Kd.N k46 46 w' w.heap.size (fun k_ => some k_ ≠ (s_.1 : Value).ownBlock ∧ some k_ ≠ (s_.2.1 : Value).ownBlock ∧ k_ ≠ gb255 ∧ k_ ≠ gb256 ∧ k_ ≠ gb257 ∧ k_ ≠ gb265 ∧ k_ ≠ gb274 ∧ k_ ≠ s_.2.2) (.slice Ao94 t270.length co94) t270) ∧ (Kd.N k46 46 w' w.heap.size (fun k_ => some k_ ≠ (v267 : Value).ownBlock ∧ some k_ ≠ (.slice Ao94 t270.length co94 : Value).ownBlock ∧ some k_ ≠ (s_.2.1 : Value).ownBlock ∧ k_ ≠ gb255 ∧ k_ ≠ gb256 ∧ k_ ≠ gb257 ∧ k_ ≠ gb265 ∧ k_ ≠ gb274 ∧ k_ ≠ s_.2.2) s_.1 t275) ∧ (Kd.N k46 46 w' w.heap.size (fun k_ => some k_ ≠ (v267 : Value).ownBlock ∧ some k_ ≠ (.slice Ao94 t270.length co94 : Value).ownBlock ∧ k_ ≠ gb255 ∧ k_ ≠ gb256 ∧ k_ ≠ gb257 ∧ k_ ≠ gb265 ∧ k_ ≠ gb274 ∧ k_ ≠ s_.2.2) s_.2.1 t279) ∧ (w'.heap[gb255]? = some (.cells #[.slice A0_0 l0_0.length c0_0, .int .i64 a0_1] 26 (0, 0))) ∧ (w'.heap[gb256]? = some (.cells #[.int .i64 a1_0, .int .i64 a1_1, .slice A1_2 l1_2.length c1_2] 46 (0, 0))) ∧ (w'.heap[gb257]? = some (.cells #[.int .i64 a2_0, .int .i64 a2_1, .slice A2_2 l2_2.length c2_2] 46 (0, 0))) ∧ (w'.heap[gb265]? = some (.cells #[.slice A0_0 l0_0.length c0_0, .int .i64 a0_1] 48 (0, 0))) ∧ (w'.heap[gb274]? = some (.cells #[.slice Ao94 t270.length co94, .int .i64 t273] 48 (0, 0))) ∧ (w'.heap[s_.2.2]? = some (.cells #[.slice none 0 0, .int .i64 0] 48 (0, 0))) ∧ (w.heap.size ≤ s_.2.2) ∧ (w.heap.size ≤ s_.2.2) ∧ (gb255 ≠ s_.2.2) ∧ (s_.2.2 ≠ gb255) ∧ (gb256 ≠ s_.2.2) ∧ (s_.2.2 ≠ gb256) ∧ (gb257 ≠ s_.2.2) ∧ (s_.2.2 ≠ gb257) ∧ (gb265 ≠ s_.2.2) ∧ (s_.2.2 ≠ gb265) ∧ (gb274 ≠ s_.2.2) ∧ (s_.2.2 ≠ gb274) ∧ (Below w.heap.size w w')) ?_ ?_
         rotate_left
         · intro hCont
           refine two_ (i := 2) (j := 5) (Ni := some 68) (Nj := some 10) #[true, true, true, true, false, false, false] #[true, true, false, true, false, true, false] rfl rfl rfl rfl (by kernel_rfl) (by decide) (by decide) (fun K hK => ?_) (fun K hK => ?_)
           · skip
             refine goes_ Try.func21 (by kernel_rfl) rfl #[.agg #[.slice A0_0 l0_0.length c0_0, .int .i64 a0_1], .agg #[.int .i64 a2_0, .int .i64 a2_1, .slice A2_2 l2_2.length c2_2]] (by rfl) rfl rfl (by (try simp only [m0_, m1_, m2_]); first | done | rfl) ?_
             with_reducible refine (shard_Set.calls (fun k_ => k_ < w.heap.size) _ _ l0_0 a0_1 a2_0 a2_1 (fun k_ => k_ < w.heap.size) _ _ l2_2 t275 t278 _ ?side1 ?side2 A76.out).mono ?_
             (case side1 => exact Kd.V_mk HC0_0.out (Kd.F_below (Kd.C_F k46_heap HR0_0.out) bw_))
             (case side2 => exact Kd.V_mk HC2_2.out (Kd.F_below (Kd.C_F k32_heap HR2_2.out) bw_))
             rintro e w99 ⟨v276, rfl, ho0, hb⟩
             refine ⟨_, rfl, ?_⟩
             have n0_ := A_ (Kd.N_elder' (by (with_reducible repeat (first | apply Kd.N_alloc | apply Kd.N_drewN | apply Kd.N_drew)); exact HO268.out) (Kd.N_base ho0) hb); have n1_ := A_ (Kd.N_elder' (by (with_reducible repeat (first | apply Kd.N_alloc | apply Kd.N_drewN | apply Kd.N_drew)); exact HO272.out) (Kd.N_base ho0) hb); have n2_ := A_ (Kd.N_lower (Kd.N_mono (ok' := fun k_ => some k_ ≠ (v267 : Value).ownBlock ∧ some k_ ≠ (.slice Ao94 t270.length co94 : Value).ownBlock ∧ k_ ≠ gb255 ∧ k_ ≠ gb256 ∧ k_ ≠ gb257 ∧ k_ ≠ gb265 ∧ k_ ≠ gb274) ho0 (fun k_ hk_ => ⟨Or.elim hk_ (fun hs_ => Or.elim hs_ (fun hs_ => fun e_ => Nat.not_le.2 hs_ (Kd.N_base HO268.out k_ e_.symm)) (fun hs_ => fun e_ => Nat.not_le.2 hs_ (Kd.N_base HO268.out k_ e_.symm))) (fun hn_ => (Kd.fresh' (Kd.N_lt (by (with_reducible repeat (first | apply Kd.N_alloc | apply Kd.N_drewN | apply Kd.N_drew)); exact HO268.out)) k_ hn_)), Or.elim hk_ (fun hs_ => Or.elim hs_ (fun hs_ => fun e_ => Nat.not_le.2 hs_ (Kd.N_base HO272.out k_ e_.symm)) (fun hs_ => fun e_ => Nat.not_le.2 hs_ (Kd.N_base HO272.out k_ e_.symm))) (fun hn_ => (Kd.fresh' (Kd.N_lt (by (with_reducible repeat (first | apply Kd.N_alloc | apply Kd.N_drewN | apply Kd.N_drew)); exact HO272.out)) k_ hn_)), Or.elim hk_ (fun hs_ => Or.elim hs_ (fun hs_ => fun e_ => Nat.not_le.2 hs_ (by rw [e_]; exact GW255.out)) (fun hs_ => fun e_ => Nat.not_le.2 hs_ (by rw [e_]; exact GW255.out))) (fun hn_ => (Kd.freshB (g := gb255) (o := .cells #[.slice A0_0 l0_0.length c0_0, .int .i64 a0_1] 26 (0, 0)) (by (with_reducible repeat (first | refine bn_ ?_ _ | refine bd_ ?_ | refine ba_ ?_ _)); exact BK255.out) k_ hn_)), Or.elim hk_ (fun hs_ => Or.elim hs_ (fun hs_ => fun e_ => Nat.not_le.2 hs_ (by rw [e_]; exact GW256.out)) (fun hs_ => fun e_ => Nat.not_le.2 hs_ (by rw [e_]; exact GW256.out))) (fun hn_ => (Kd.freshB (g := gb256) (o := .cells #[.int .i64 a1_0, .int .i64 a1_1, .slice A1_2 l1_2.length c1_2] 46 (0, 0)) (by (with_reducible repeat (first | refine bn_ ?_ _ | refine bd_ ?_ | refine ba_ ?_ _)); exact BK256.out) k_ hn_)), Or.elim hk_ (fun hs_ => Or.elim hs_ (fun hs_ => fun e_ => Nat.not_le.2 hs_ (by rw [e_]; exact GW257.out)) (fun hs_ => fun e_ => Nat.not_le.2 hs_ (by rw [e_]; exact GW257.out))) (fun hn_ => (Kd.freshB (g := gb257) (o := .cells #[.int .i64 a2_0, .int .i64 a2_1, .slice A2_2 l2_2.length c2_2] 46 (0, 0)) (by (with_reducible repeat (first | refine bn_ ?_ _ | refine bd_ ?_ | refine ba_ ?_ _)); exact BK257.out) k_ hn_)), Or.elim hk_ (fun hs_ => Or.elim hs_ (fun hs_ => fun e_ => Nat.not_le.2 hs_ (by rw [e_]; exact GW265.out)) (fun hs_ => fun e_ => Nat.not_le.2 hs_ (by rw [e_]; exact GW265.out))) (fun hn_ => (Kd.freshB (g := gb265) (o := .cells #[.slice A0_0 l0_0.length c0_0, .int .i64 a0_1] 48 (0, 0)) (by (with_reducible repeat (first | refine bn_ ?_ _ | refine bd_ ?_ | refine ba_ ?_ _)); exact BK265.out) k_ hn_)), Or.elim hk_ (fun hs_ => Or.elim hs_ (fun hs_ => fun e_ => Nat.not_le.2 hs_ (by rw [e_]; exact GW274.out)) (fun hs_ => fun e_ => Nat.not_le.2 hs_ (by rw [e_]; exact GW274.out))) (fun hn_ => (Kd.freshB (g := gb274) (o := .cells #[.slice Ao94 t270.length co94, .int .i64 t273] 48 (0, 0)) (by (with_reducible repeat (first | refine bn_ ?_ _ | refine bd_ ?_ | refine ba_ ?_ _)); exact BK274.out) k_ hn_))⟩)) (below_size bw_)); have n3_ := A_ (kb_ BK255 hb); have n4_ := A_ (kb_ BK256 hb); have n5_ := A_ (kb_ BK257 hb); have n6_ := A_ (kb_ BK265 hb); have n7_ := A_ (kb_ BK274 hb); have n8_ := A_ (below_step bw_ hb); replace HO268 := n0_; replace HO272 := n1_; have HO277 := n2_; replace BK255 := n3_; replace BK256 := n4_; replace BK257 := n5_; replace BK265 := n6_; replace BK274 := n7_; replace HB := n8_; clear n0_ n1_ n2_ n3_ n4_ n5_ n6_ n7_ n8_
             (try clear hb)
             (try clear hb2)
             (try clear hk)
             (try clear hi)
             (try clear ho0)
             obtain ⟨Ao100, co100, eo100⟩ := Kd.N_slice HO277.out
             (first | subst eo100 | (injection eo100 with f1_ f2_ f3_; have f4_ := f1_.symm; have f5_ := f3_.symm; clear f1_ f2_ f3_; subst f4_; subst f5_))
             refine hK.out _ _ ⟨e_ BK265 0, e_ BK265 1, e_ BK257 0, e_ BK257 1, e_ BK257 2, e_ BK256 0, e_ BK256 1, e_ BK256 2⟩ (fun hHeld => ?_)
             clear hK K
             refine norm_ (a' := ?_) ?_ ?_
             rotate_left
             · show Act.put _ (some 68) _ = _
               simp only [Act.put, s0_, s1_, s2_, i64_w, i32_w]
               rfl
             refine two_ (i := 4) (j := 5) (Ni := some 70) (Nj := some 10) #[true, true, true, true, true, false, false] #[true, true, true, true, false, true, false] rfl rfl rfl rfl (by kernel_rfl) (by decide) (by decide) (fun K hK => ?_) (fun K hK => ?_)
             · skip
               refine goes_ Try.func21 (by kernel_rfl) rfl #[.agg #[.slice Ao100 t275.length co100, .int .i64 t278], .agg #[.int .i64 a1_0, .int .i64 a1_1, .slice A1_2 l1_2.length c1_2]] (by rfl) rfl rfl (by (try simp only [m0_, m1_, m2_]); first | done | rfl) ?_
               with_reducible refine (shard_Set.calls (fun k_ => (some k_ ≠ (v267 : Value).ownBlock ∧ (some k_ ≠ (.slice Ao94 t270.length co94 : Value).ownBlock ∧ (k_ ≠ gb255 ∧ (k_ ≠ gb256 ∧ (k_ ≠ gb257 ∧ (k_ ≠ gb265 ∧ k_ ≠ gb274))))))) _ _ t275 t278 a1_0 a1_1 (fun k_ => k_ < w.heap.size) _ _ l1_2 t279 t282 _ ?side1 ?side2 A77.out).mono ?_
               (case side1 => exact Kd.N_V (HO277.out))
               (case side2 => exact Kd.V_mk HC1_2.out (Kd.F_below (Kd.C_F k32_heap HR1_2.out) bw_))
               rintro e w101 ⟨v280, rfl, ho0, hb⟩
               refine ⟨_, rfl, ?_⟩
               have n0_ := A_ (Kd.N_elder' (by (with_reducible repeat (first | apply Kd.N_alloc | apply Kd.N_drewN | apply Kd.N_drew)); exact HO268.out) (Kd.N_base ho0) hb); have n1_ := A_ (Kd.N_elder' (by (with_reducible repeat (first | apply Kd.N_alloc | apply Kd.N_drewN | apply Kd.N_drew)); exact HO272.out) (Kd.N_base ho0) hb); have n2_ := A_ (Kd.N_elder' (by (with_reducible repeat (first | apply Kd.N_alloc | apply Kd.N_drewN | apply Kd.N_drew)); exact HO277.out) (Kd.N_base ho0) hb); have n3_ := A_ (Kd.N_lower (Kd.N_mono (ok' := fun k_ => some k_ ≠ (v267 : Value).ownBlock ∧ some k_ ≠ (.slice Ao94 t270.length co94 : Value).ownBlock ∧ k_ ≠ gb255 ∧ k_ ≠ gb256 ∧ k_ ≠ gb257 ∧ k_ ≠ gb265 ∧ k_ ≠ gb274) ho0 (fun k_ hk_ => ⟨Or.elim hk_ (fun hs_ => Or.elim hs_ (fun hs_ => hs_.1) (fun hs_ => fun e_ => Nat.not_le.2 hs_ (Kd.N_base HO268.out k_ e_.symm))) (fun hn_ => (Kd.fresh' (Kd.N_lt (by (with_reducible repeat (first | apply Kd.N_alloc | apply Kd.N_drewN | apply Kd.N_drew)); exact HO268.out)) k_ hn_)), Or.elim hk_ (fun hs_ => Or.elim hs_ (fun hs_ => hs_.2.1) (fun hs_ => fun e_ => Nat.not_le.2 hs_ (Kd.N_base HO272.out k_ e_.symm))) (fun hn_ => (Kd.fresh' (Kd.N_lt (by (with_reducible repeat (first | apply Kd.N_alloc | apply Kd.N_drewN | apply Kd.N_drew)); exact HO272.out)) k_ hn_)), Or.elim hk_ (fun hs_ => Or.elim hs_ (fun hs_ => hs_.2.2.1) (fun hs_ => fun e_ => Nat.not_le.2 hs_ (by rw [e_]; exact GW255.out))) (fun hn_ => (Kd.freshB (g := gb255) (o := .cells #[.slice A0_0 l0_0.length c0_0, .int .i64 a0_1] 26 (0, 0)) (by (with_reducible repeat (first | refine bn_ ?_ _ | refine bd_ ?_ | refine ba_ ?_ _)); exact BK255.out) k_ hn_)), Or.elim hk_ (fun hs_ => Or.elim hs_ (fun hs_ => hs_.2.2.2.1) (fun hs_ => fun e_ => Nat.not_le.2 hs_ (by rw [e_]; exact GW256.out))) (fun hn_ => (Kd.freshB (g := gb256) (o := .cells #[.int .i64 a1_0, .int .i64 a1_1, .slice A1_2 l1_2.length c1_2] 46 (0, 0)) (by (with_reducible repeat (first | refine bn_ ?_ _ | refine bd_ ?_ | refine ba_ ?_ _)); exact BK256.out) k_ hn_)), Or.elim hk_ (fun hs_ => Or.elim hs_ (fun hs_ => hs_.2.2.2.2.1) (fun hs_ => fun e_ => Nat.not_le.2 hs_ (by rw [e_]; exact GW257.out))) (fun hn_ => (Kd.freshB (g := gb257) (o := .cells #[.int .i64 a2_0, .int .i64 a2_1, .slice A2_2 l2_2.length c2_2] 46 (0, 0)) (by (with_reducible repeat (first | refine bn_ ?_ _ | refine bd_ ?_ | refine ba_ ?_ _)); exact BK257.out) k_ hn_)), Or.elim hk_ (fun hs_ => Or.elim hs_ (fun hs_ => hs_.2.2.2.2.2.1) (fun hs_ => fun e_ => Nat.not_le.2 hs_ (by rw [e_]; exact GW265.out))) (fun hn_ => (Kd.freshB (g := gb265) (o := .cells #[.slice A0_0 l0_0.length c0_0, .int .i64 a0_1] 48 (0, 0)) (by (with_reducible repeat (first | refine bn_ ?_ _ | refine bd_ ?_ | refine ba_ ?_ _)); exact BK265.out) k_ hn_)), Or.elim hk_ (fun hs_ => Or.elim hs_ (fun hs_ => hs_.2.2.2.2.2.2) (fun hs_ => fun e_ => Nat.not_le.2 hs_ (by rw [e_]; exact GW274.out))) (fun hn_ => (Kd.freshB (g := gb274) (o := .cells #[.slice Ao94 t270.length co94, .int .i64 t273] 48 (0, 0)) (by (with_reducible repeat (first | refine bn_ ?_ _ | refine bd_ ?_ | refine ba_ ?_ _)); exact BK274.out) k_ hn_))⟩)) (below_size bw_)); have n4_ := A_ (kb_ BK255 hb); have n5_ := A_ (kb_ BK256 hb); have n6_ := A_ (kb_ BK257 hb); have n7_ := A_ (kb_ BK265 hb); have n8_ := A_ (kb_ BK274 hb); have n9_ := A_ (below_step bw_ hb); replace HO268 := n0_; replace HO272 := n1_; replace HO277 := n2_; have HO281 := n3_; replace BK255 := n4_; replace BK256 := n5_; replace BK257 := n6_; replace BK265 := n7_; replace BK274 := n8_; replace HB := n9_; clear n0_ n1_ n2_ n3_ n4_ n5_ n6_ n7_ n8_ n9_
               (try clear hb)
               (try clear hb2)
               (try clear hk)
               (try clear hi)
               (try clear ho0)
               refine hK.out _ _ ⟨e_ BK265 0, e_ BK265 1, e_ BK257 0, e_ BK257 1, e_ BK257 2, e_ BK256 0, e_ BK256 1, e_ BK256 2⟩ (fun hHeld => ?_)
               clear hK K
               refine norm_ (a' := ?_) ?_ ?_
               rotate_left
               · show Act.put _ (some 70) _ = _
                 simp only [Act.put, s0_, s1_, s2_, i64_w, i32_w]
                 rfl
               refine one_ (i := 5) (N := some 10) #[true, true, true, true, true, true, false] rfl rfl (by kernel_rfl) (by decide) (fun K hK => ?_)
               refine box_step ?hg (N := 10) ?hd (cs := #[.slice none 0 0, .int .i64 0]) (t := 48) ?hr ?_; (case hd => rfl); (case hg => rfl); (case hr => first | (go_simp; done) | (go_simp; rfl))
               intro gb283 hg w102 hbox hb
               have n0_ := A_ (Kd.N_below (Kd.N_elderB (by (with_reducible repeat (first | apply Kd.N_alloc | apply Kd.N_drewN | apply Kd.N_drew)); exact HO268.out) gb283 (Nat.le_of_eq hg.symm)) hb); have n1_ := A_ (Kd.N_below (Kd.N_elderB (by (with_reducible repeat (first | apply Kd.N_alloc | apply Kd.N_drewN | apply Kd.N_drew)); exact HO272.out) gb283 (Nat.le_of_eq hg.symm)) hb); have n2_ := A_ (Kd.N_below (Kd.N_elderB (by (with_reducible repeat (first | apply Kd.N_alloc | apply Kd.N_drewN | apply Kd.N_drew)); exact HO277.out) gb283 (Nat.le_of_eq hg.symm)) hb); have n3_ := A_ (Kd.N_below (Kd.N_elderB (by (with_reducible repeat (first | apply Kd.N_alloc | apply Kd.N_drewN | apply Kd.N_drew)); exact HO281.out) gb283 (Nat.le_of_eq hg.symm)) hb); have n4_ := A_ (kb_ BK255 hb); have n5_ := A_ (kb_ BK256 hb); have n6_ := A_ (kb_ BK257 hb); have n7_ := A_ (kb_ BK265 hb); have n8_ := A_ (kb_ BK274 hb); have n9_ := A_ (below_step bw_ hb); have n10_ := A_ (hbox); have n11_ := A_ (gz_ (w := w) hg); have n12_ := A_ (gz_ (w := w) hg); have n13_ := A_ (nl_ BK255 hg); have n14_ := A_ (ng_ BK255 hg); have n15_ := A_ (nl_ BK256 hg); have n16_ := A_ (ng_ BK256 hg); have n17_ := A_ (nl_ BK257 hg); have n18_ := A_ (ng_ BK257 hg); have n19_ := A_ (nl_ BK265 hg); have n20_ := A_ (ng_ BK265 hg); have n21_ := A_ (nl_ BK274 hg); have n22_ := A_ (ng_ BK274 hg); replace HO268 := n0_; replace HO272 := n1_; replace HO277 := n2_; replace HO281 := n3_; replace BK255 := n4_; replace BK256 := n5_; replace BK257 := n6_; replace BK265 := n7_; replace BK274 := n8_; replace HB := n9_; have BK283 := n10_; have GW283 := n11_; have GE283 := n12_; have NB255_283 := n13_; have NB283_255 := n14_; have NB256_283 := n15_; have NB283_256 := n16_; have NB257_283 := n17_; have NB283_257 := n18_; have NB265_283 := n19_; have NB283_265 := n20_; have NB274_283 := n21_; have NB283_274 := n22_; clear n0_ n1_ n2_ n3_ n4_ n5_ n6_ n7_ n8_ n9_ n10_ n11_ n12_ n13_ n14_ n15_ n16_ n17_ n18_ n19_ n20_ n21_ n22_; clear hb hbox hg
               refine hK.out _ _ ⟨e_ BK265 0, e_ BK265 1, e_ BK257 0, e_ BK257 1, e_ BK257 2, e_ BK256 0, e_ BK256 1, e_ BK256 2⟩ (fun hHeld => ?_)
               clear hK K
               refine norm_ (a' := ?_) ?_ ?_
               rotate_left
               · show Act.put _ (some 10) _ = _
                 simp only [Act.put, s0_, s1_, s2_, i64_w, i32_w]
                 rfl
               exact norm_ (by simp only [putAll, Act.put, s0_, s1_, s2_]) (hCont (.slice Ao100 t275.length co100, v280, gb283) _ ⟨hHeld, (by (with_reducible repeat (first | apply Kd.N_alloc | apply Kd.N_drewN | apply Kd.N_drew)); exact Kd.N_mono HO268.out (fun _ hk => ⟨hk.1.1.1.1, ⟨hk.1.1.2, ⟨hk.1.2, ⟨hk.1.1.1.2.1, ⟨hk.1.1.1.2.2.1, ⟨hk.1.1.1.2.2.2.1, ⟨hk.1.1.1.2.2.2.2.1, ⟨hk.1.1.1.2.2.2.2.2, hk.2⟩⟩⟩⟩⟩⟩⟩⟩)), (by (with_reducible repeat (first | apply Kd.N_alloc | apply Kd.N_drewN | apply Kd.N_drew)); exact Kd.N_mono HO272.out (fun _ hk => ⟨hk.1.1.2, ⟨hk.1.2, ⟨hk.1.1.1.1, ⟨hk.1.1.1.2.1, ⟨hk.1.1.1.2.2.1, ⟨hk.1.1.1.2.2.2.1, ⟨hk.1.1.1.2.2.2.2, hk.2⟩⟩⟩⟩⟩⟩⟩)), (by (with_reducible repeat (first | apply Kd.N_alloc | apply Kd.N_drewN | apply Kd.N_drew)); exact Kd.N_mono HO277.out (fun _ hk => ⟨hk.1.1.1, ⟨hk.1.1.2.1, ⟨hk.1.2, ⟨hk.1.1.2.2.1, ⟨hk.1.1.2.2.2.1, ⟨hk.1.1.2.2.2.2.1, ⟨hk.1.1.2.2.2.2.2.1, ⟨hk.1.1.2.2.2.2.2.2, hk.2⟩⟩⟩⟩⟩⟩⟩⟩)), (by (with_reducible repeat (first | apply Kd.N_alloc | apply Kd.N_drewN | apply Kd.N_drew)); exact Kd.N_mono HO281.out (fun _ hk => ⟨hk.1.1, ⟨hk.1.2.1, ⟨hk.1.2.2.1, ⟨hk.1.2.2.2.1, ⟨hk.1.2.2.2.2.1, ⟨hk.1.2.2.2.2.2.1, ⟨hk.1.2.2.2.2.2.2, hk.2⟩⟩⟩⟩⟩⟩⟩)), (by (with_reducible repeat (first | refine bn_ ?_ _ | refine bd_ ?_ | refine ba_ ?_ _)); exact BK255.out), (by (with_reducible repeat (first | refine bn_ ?_ _ | refine bd_ ?_ | refine ba_ ?_ _)); exact BK256.out), (by (with_reducible repeat (first | refine bn_ ?_ _ | refine bd_ ?_ | refine ba_ ?_ _)); exact BK257.out), (by (with_reducible repeat (first | refine bn_ ?_ _ | refine bd_ ?_ | refine ba_ ?_ _)); exact BK265.out), (by (with_reducible repeat (first | refine bn_ ?_ _ | refine bd_ ?_ | refine ba_ ?_ _)); exact BK274.out), (by (with_reducible repeat (first | refine bn_ ?_ _ | refine bd_ ?_ | refine ba_ ?_ _)); exact BK283.out), GW283.out, GE283.out, NB255_283.out, NB283_255.out, NB256_283.out, NB283_256.out, NB257_283.out, NB283_257.out, NB265_283.out, NB283_265.out, NB274_283.out, NB283_274.out, bw_⟩)
             · skip
               refine box_step ?hg (N := 10) ?hd (cs := #[.slice none 0 0, .int .i64 0]) (t := 48) ?hr ?_; (case hd => rfl); (case hg => rfl); (case hr => first | (go_simp; done) | (go_simp; rfl))
               intro gb283 hg w100 hbox hb
               have n0_ := A_ (Kd.N_below (Kd.N_elderB (by (with_reducible repeat (first | apply Kd.N_alloc | apply Kd.N_drewN | apply Kd.N_drew)); exact HO268.out) gb283 (Nat.le_of_eq hg.symm)) hb); have n1_ := A_ (Kd.N_below (Kd.N_elderB (by (with_reducible repeat (first | apply Kd.N_alloc | apply Kd.N_drewN | apply Kd.N_drew)); exact HO272.out) gb283 (Nat.le_of_eq hg.symm)) hb); have n2_ := A_ (Kd.N_below (Kd.N_elderB (by (with_reducible repeat (first | apply Kd.N_alloc | apply Kd.N_drewN | apply Kd.N_drew)); exact HO277.out) gb283 (Nat.le_of_eq hg.symm)) hb); have n3_ := A_ (kb_ BK255 hb); have n4_ := A_ (kb_ BK256 hb); have n5_ := A_ (kb_ BK257 hb); have n6_ := A_ (kb_ BK265 hb); have n7_ := A_ (kb_ BK274 hb); have n8_ := A_ (below_step bw_ hb); have n9_ := A_ (hbox); have n10_ := A_ (gz_ (w := w) hg); have n11_ := A_ (gz_ (w := w) hg); have n12_ := A_ (nl_ BK255 hg); have n13_ := A_ (ng_ BK255 hg); have n14_ := A_ (nl_ BK256 hg); have n15_ := A_ (ng_ BK256 hg); have n16_ := A_ (nl_ BK257 hg); have n17_ := A_ (ng_ BK257 hg); have n18_ := A_ (nl_ BK265 hg); have n19_ := A_ (ng_ BK265 hg); have n20_ := A_ (nl_ BK274 hg); have n21_ := A_ (ng_ BK274 hg); replace HO268 := n0_; replace HO272 := n1_; replace HO277 := n2_; replace BK255 := n3_; replace BK256 := n4_; replace BK257 := n5_; replace BK265 := n6_; replace BK274 := n7_; replace HB := n8_; have BK283 := n9_; have GW283 := n10_; have GE283 := n11_; have NB255_283 := n12_; have NB283_255 := n13_; have NB256_283 := n14_; have NB283_256 := n15_; have NB257_283 := n16_; have NB283_257 := n17_; have NB265_283 := n18_; have NB283_265 := n19_; have NB274_283 := n20_; have NB283_274 := n21_; clear n0_ n1_ n2_ n3_ n4_ n5_ n6_ n7_ n8_ n9_ n10_ n11_ n12_ n13_ n14_ n15_ n16_ n17_ n18_ n19_ n20_ n21_; clear hb hbox hg
               obtain ⟨Ao101, co101, eo101⟩ := Kd.N_slice HO277.out
               (first | subst eo101 | (injection eo101 with f1_ f2_ f3_; have f4_ := f1_.symm; have f5_ := f3_.symm; clear f1_ f2_ f3_; subst f4_; subst f5_))
               refine hK.out _ _ ⟨e_ BK265 0, e_ BK265 1, e_ BK257 0, e_ BK257 1, e_ BK257 2, e_ BK256 0, e_ BK256 1, e_ BK256 2⟩ (fun hHeld => ?_)
               clear hK K
               refine norm_ (a' := ?_) ?_ ?_
               rotate_left
               · show Act.put _ (some 10) _ = _
                 simp only [Act.put, s0_, s1_, s2_, i64_w, i32_w]
                 rfl
               refine one_ (i := 4) (N := some 70) #[true, true, true, true, true, true, false] rfl rfl (by kernel_rfl) (by decide) (fun K hK => ?_)
               refine goes_ Try.func21 (by kernel_rfl) rfl #[.agg #[.slice Ao101 t275.length co101, .int .i64 t278], .agg #[.int .i64 a1_0, .int .i64 a1_1, .slice A1_2 l1_2.length c1_2]] (by rfl) rfl rfl (by (try simp only [m0_, m1_, m2_]); first | done | rfl) ?_
               with_reducible refine (shard_Set.calls (fun k_ => ((some k_ ≠ (v267 : Value).ownBlock ∧ (some k_ ≠ (.slice Ao94 t270.length co94 : Value).ownBlock ∧ (k_ ≠ gb255 ∧ (k_ ≠ gb256 ∧ (k_ ≠ gb257 ∧ (k_ ≠ gb265 ∧ k_ ≠ gb274)))))) ∧ k_ ≠ gb283)) _ _ t275 t278 a1_0 a1_1 (fun k_ => k_ < w.heap.size) _ _ l1_2 t279 t282 _ ?side1 ?side2 A77.out).mono ?_
               (case side1 => exact Kd.N_V (HO277.out))
               (case side2 => exact Kd.V_mk HC1_2.out (Kd.F_below (Kd.C_F k32_heap HR1_2.out) bw_))
               rintro e w102 ⟨v280, rfl, ho0, hb⟩
               refine ⟨_, rfl, ?_⟩
               have n0_ := A_ (Kd.N_elder' (by (with_reducible repeat (first | apply Kd.N_alloc | apply Kd.N_drewN | apply Kd.N_drew)); exact HO268.out) (Kd.N_base ho0) hb); have n1_ := A_ (Kd.N_elder' (by (with_reducible repeat (first | apply Kd.N_alloc | apply Kd.N_drewN | apply Kd.N_drew)); exact HO272.out) (Kd.N_base ho0) hb); have n2_ := A_ (Kd.N_elder' (by (with_reducible repeat (first | apply Kd.N_alloc | apply Kd.N_drewN | apply Kd.N_drew)); exact HO277.out) (Kd.N_base ho0) hb); have n3_ := A_ (Kd.N_lower (Kd.N_mono (ok' := fun k_ => some k_ ≠ (v267 : Value).ownBlock ∧ some k_ ≠ (.slice Ao94 t270.length co94 : Value).ownBlock ∧ k_ ≠ gb255 ∧ k_ ≠ gb256 ∧ k_ ≠ gb257 ∧ k_ ≠ gb265 ∧ k_ ≠ gb274 ∧ k_ ≠ gb283) ho0 (fun k_ hk_ => ⟨Or.elim hk_ (fun hs_ => Or.elim hs_ (fun hs_ => hs_.1.1) (fun hs_ => fun e_ => Nat.not_le.2 hs_ (Kd.N_base HO268.out k_ e_.symm))) (fun hn_ => (Kd.fresh' (Kd.N_lt (by (with_reducible repeat (first | apply Kd.N_alloc | apply Kd.N_drewN | apply Kd.N_drew)); exact HO268.out)) k_ hn_)), Or.elim hk_ (fun hs_ => Or.elim hs_ (fun hs_ => hs_.1.2.1) (fun hs_ => fun e_ => Nat.not_le.2 hs_ (Kd.N_base HO272.out k_ e_.symm))) (fun hn_ => (Kd.fresh' (Kd.N_lt (by (with_reducible repeat (first | apply Kd.N_alloc | apply Kd.N_drewN | apply Kd.N_drew)); exact HO272.out)) k_ hn_)), Or.elim hk_ (fun hs_ => Or.elim hs_ (fun hs_ => hs_.1.2.2.1) (fun hs_ => fun e_ => Nat.not_le.2 hs_ (by rw [e_]; exact GW255.out))) (fun hn_ => (Kd.freshB (g := gb255) (o := .cells #[.slice A0_0 l0_0.length c0_0, .int .i64 a0_1] 26 (0, 0)) (by (with_reducible repeat (first | refine bn_ ?_ _ | refine bd_ ?_ | refine ba_ ?_ _)); exact BK255.out) k_ hn_)), Or.elim hk_ (fun hs_ => Or.elim hs_ (fun hs_ => hs_.1.2.2.2.1) (fun hs_ => fun e_ => Nat.not_le.2 hs_ (by rw [e_]; exact GW256.out))) (fun hn_ => (Kd.freshB (g := gb256) (o := .cells #[.int .i64 a1_0, .int .i64 a1_1, .slice A1_2 l1_2.length c1_2] 46 (0, 0)) (by (with_reducible repeat (first | refine bn_ ?_ _ | refine bd_ ?_ | refine ba_ ?_ _)); exact BK256.out) k_ hn_)), Or.elim hk_ (fun hs_ => Or.elim hs_ (fun hs_ => hs_.1.2.2.2.2.1) (fun hs_ => fun e_ => Nat.not_le.2 hs_ (by rw [e_]; exact GW257.out))) (fun hn_ => (Kd.freshB (g := gb257) (o := .cells #[.int .i64 a2_0, .int .i64 a2_1, .slice A2_2 l2_2.length c2_2] 46 (0, 0)) (by (with_reducible repeat (first | refine bn_ ?_ _ | refine bd_ ?_ | refine ba_ ?_ _)); exact BK257.out) k_ hn_)), Or.elim hk_ (fun hs_ => Or.elim hs_ (fun hs_ => hs_.1.2.2.2.2.2.1) (fun hs_ => fun e_ => Nat.not_le.2 hs_ (by rw [e_]; exact GW265.out))) (fun hn_ => (Kd.freshB (g := gb265) (o := .cells #[.slice A0_0 l0_0.length c0_0, .int .i64 a0_1] 48 (0, 0)) (by (with_reducible repeat (first | refine bn_ ?_ _ | refine bd_ ?_ | refine ba_ ?_ _)); exact BK265.out) k_ hn_)), Or.elim hk_ (fun hs_ => Or.elim hs_ (fun hs_ => hs_.1.2.2.2.2.2.2) (fun hs_ => fun e_ => Nat.not_le.2 hs_ (by rw [e_]; exact GW274.out))) (fun hn_ => (Kd.freshB (g := gb274) (o := .cells #[.slice Ao94 t270.length co94, .int .i64 t273] 48 (0, 0)) (by (with_reducible repeat (first | refine bn_ ?_ _ | refine bd_ ?_ | refine ba_ ?_ _)); exact BK274.out) k_ hn_)), Or.elim hk_ (fun hs_ => Or.elim hs_ (fun hs_ => hs_.2) (fun hs_ => fun e_ => Nat.not_le.2 hs_ (by rw [e_]; exact GW283.out))) (fun hn_ => (Kd.freshB (g := gb283) (o := .cells #[.slice none 0 0, .int .i64 0] 48 (0, 0)) (by (with_reducible repeat (first | refine bn_ ?_ _ | refine bd_ ?_ | refine ba_ ?_ _)); exact BK283.out) k_ hn_))⟩)) (below_size bw_)); have n4_ := A_ (kb_ BK255 hb); have n5_ := A_ (kb_ BK256 hb); have n6_ := A_ (kb_ BK257 hb); have n7_ := A_ (kb_ BK265 hb); have n8_ := A_ (kb_ BK274 hb); have n9_ := A_ (kb_ BK283 hb); have n10_ := A_ (below_step bw_ hb); replace HO268 := n0_; replace HO272 := n1_; replace HO277 := n2_; have HO281 := n3_; replace BK255 := n4_; replace BK256 := n5_; replace BK257 := n6_; replace BK265 := n7_; replace BK274 := n8_; replace BK283 := n9_; replace HB := n10_; clear n0_ n1_ n2_ n3_ n4_ n5_ n6_ n7_ n8_ n9_ n10_
               (try clear hb)
               (try clear hb2)
               (try clear hk)
               (try clear hi)
               (try clear ho0)
               refine hK.out _ _ ⟨e_ BK265 0, e_ BK265 1, e_ BK257 0, e_ BK257 1, e_ BK257 2, e_ BK256 0, e_ BK256 1, e_ BK256 2⟩ (fun hHeld => ?_)
               clear hK K
               refine norm_ (a' := ?_) ?_ ?_
               rotate_left
               · show Act.put _ (some 70) _ = _
                 simp only [Act.put, s0_, s1_, s2_, i64_w, i32_w]
                 rfl
               exact norm_ (by simp only [putAll, Act.put, s0_, s1_, s2_]) (hCont (.slice Ao101 t275.length co101, v280, gb283) _ ⟨hHeld, (by (with_reducible repeat (first | apply Kd.N_alloc | apply Kd.N_drewN | apply Kd.N_drew)); exact Kd.N_mono HO268.out (fun _ hk => ⟨hk.1.1.1.1, ⟨hk.1.1.2, ⟨hk.2, ⟨hk.1.1.1.2.1, ⟨hk.1.1.1.2.2.1, ⟨hk.1.1.1.2.2.2.1, ⟨hk.1.1.1.2.2.2.2.1, ⟨hk.1.1.1.2.2.2.2.2, hk.1.2⟩⟩⟩⟩⟩⟩⟩⟩)), (by (with_reducible repeat (first | apply Kd.N_alloc | apply Kd.N_drewN | apply Kd.N_drew)); exact Kd.N_mono HO272.out (fun _ hk => ⟨hk.1.1.2, ⟨hk.2, ⟨hk.1.1.1.1, ⟨hk.1.1.1.2.1, ⟨hk.1.1.1.2.2.1, ⟨hk.1.1.1.2.2.2.1, ⟨hk.1.1.1.2.2.2.2, hk.1.2⟩⟩⟩⟩⟩⟩⟩)), (by (with_reducible repeat (first | apply Kd.N_alloc | apply Kd.N_drewN | apply Kd.N_drew)); exact Kd.N_mono HO277.out (fun _ hk => ⟨hk.1.1.1, ⟨hk.1.1.2.1, ⟨hk.2, ⟨hk.1.1.2.2.1, ⟨hk.1.1.2.2.2.1, ⟨hk.1.1.2.2.2.2.1, ⟨hk.1.1.2.2.2.2.2.1, ⟨hk.1.1.2.2.2.2.2.2, hk.1.2⟩⟩⟩⟩⟩⟩⟩⟩)), (by (with_reducible repeat (first | apply Kd.N_alloc | apply Kd.N_drewN | apply Kd.N_drew)); exact HO281.out), (by (with_reducible repeat (first | refine bn_ ?_ _ | refine bd_ ?_ | refine ba_ ?_ _)); exact BK255.out), (by (with_reducible repeat (first | refine bn_ ?_ _ | refine bd_ ?_ | refine ba_ ?_ _)); exact BK256.out), (by (with_reducible repeat (first | refine bn_ ?_ _ | refine bd_ ?_ | refine ba_ ?_ _)); exact BK257.out), (by (with_reducible repeat (first | refine bn_ ?_ _ | refine bd_ ?_ | refine ba_ ?_ _)); exact BK265.out), (by (with_reducible repeat (first | refine bn_ ?_ _ | refine bd_ ?_ | refine ba_ ?_ _)); exact BK274.out), (by (with_reducible repeat (first | refine bn_ ?_ _ | refine bd_ ?_ | refine ba_ ?_ _)); exact BK283.out), GW283.out, GE283.out, NB255_283.out, NB283_255.out, NB256_283.out, NB283_256.out, NB257_283.out, NB283_257.out, NB265_283.out, NB283_265.out, NB274_283.out, NB283_274.out, bw_⟩)
           · skip
             refine box_step ?hg (N := 10) ?hd (cs := #[.slice none 0 0, .int .i64 0]) (t := 48) ?hr ?_; (case hd => rfl); (case hg => rfl); (case hr => first | (go_simp; done) | (go_simp; rfl))
             intro gb283 hg w99 hbox hb
             have n0_ := A_ (Kd.N_below (Kd.N_elderB (by (with_reducible repeat (first | apply Kd.N_alloc | apply Kd.N_drewN | apply Kd.N_drew)); exact HO268.out) gb283 (Nat.le_of_eq hg.symm)) hb); have n1_ := A_ (Kd.N_below (Kd.N_elderB (by (with_reducible repeat (first | apply Kd.N_alloc | apply Kd.N_drewN | apply Kd.N_drew)); exact HO272.out) gb283 (Nat.le_of_eq hg.symm)) hb); have n2_ := A_ (kb_ BK255 hb); have n3_ := A_ (kb_ BK256 hb); have n4_ := A_ (kb_ BK257 hb); have n5_ := A_ (kb_ BK265 hb); have n6_ := A_ (kb_ BK274 hb); have n7_ := A_ (below_step bw_ hb); have n8_ := A_ (hbox); have n9_ := A_ (gz_ (w := w) hg); have n10_ := A_ (gz_ (w := w) hg); have n11_ := A_ (nl_ BK255 hg); have n12_ := A_ (ng_ BK255 hg); have n13_ := A_ (nl_ BK256 hg); have n14_ := A_ (ng_ BK256 hg); have n15_ := A_ (nl_ BK257 hg); have n16_ := A_ (ng_ BK257 hg); have n17_ := A_ (nl_ BK265 hg); have n18_ := A_ (ng_ BK265 hg); have n19_ := A_ (nl_ BK274 hg); have n20_ := A_ (ng_ BK274 hg); replace HO268 := n0_; replace HO272 := n1_; replace BK255 := n2_; replace BK256 := n3_; replace BK257 := n4_; replace BK265 := n5_; replace BK274 := n6_; replace HB := n7_; have BK283 := n8_; have GW283 := n9_; have GE283 := n10_; have NB255_283 := n11_; have NB283_255 := n12_; have NB256_283 := n13_; have NB283_256 := n14_; have NB257_283 := n15_; have NB283_257 := n16_; have NB265_283 := n17_; have NB283_265 := n18_; have NB274_283 := n19_; have NB283_274 := n20_; clear n0_ n1_ n2_ n3_ n4_ n5_ n6_ n7_ n8_ n9_ n10_ n11_ n12_ n13_ n14_ n15_ n16_ n17_ n18_ n19_ n20_; clear hb hbox hg
             refine hK.out _ _ ⟨e_ BK265 0, e_ BK265 1, e_ BK257 0, e_ BK257 1, e_ BK257 2, e_ BK256 0, e_ BK256 1, e_ BK256 2⟩ (fun hHeld => ?_)
             clear hK K
             refine norm_ (a' := ?_) ?_ ?_
             rotate_left
             · show Act.put _ (some 10) _ = _
               simp only [Act.put, s0_, s1_, s2_, i64_w, i32_w]
               rfl
             refine one_ (i := 2) (N := some 68) #[true, true, true, true, false, true, false] rfl rfl (by kernel_rfl) (by decide) (fun K hK => ?_)
             refine goes_ Try.func21 (by kernel_rfl) rfl #[.agg #[.slice A0_0 l0_0.length c0_0, .int .i64 a0_1], .agg #[.int .i64 a2_0, .int .i64 a2_1, .slice A2_2 l2_2.length c2_2]] (by rfl) rfl rfl (by (try simp only [m0_, m1_, m2_]); first | done | rfl) ?_
             with_reducible refine (shard_Set.calls (fun k_ => k_ < w.heap.size) _ _ l0_0 a0_1 a2_0 a2_1 (fun k_ => k_ < w.heap.size) _ _ l2_2 t275 t278 _ ?side1 ?side2 A76.out).mono ?_
             (case side1 => exact Kd.V_mk HC0_0.out (Kd.F_below (Kd.C_F k46_heap HR0_0.out) bw_))
             (case side2 => exact Kd.V_mk HC2_2.out (Kd.F_below (Kd.C_F k32_heap HR2_2.out) bw_))
             rintro e w100 ⟨v276, rfl, ho0, hb⟩
             refine ⟨_, rfl, ?_⟩
             have n0_ := A_ (Kd.N_elder' (by (with_reducible repeat (first | apply Kd.N_alloc | apply Kd.N_drewN | apply Kd.N_drew)); exact HO268.out) (Kd.N_base ho0) hb); have n1_ := A_ (Kd.N_elder' (by (with_reducible repeat (first | apply Kd.N_alloc | apply Kd.N_drewN | apply Kd.N_drew)); exact HO272.out) (Kd.N_base ho0) hb); have n2_ := A_ (Kd.N_lower (Kd.N_mono (ok' := fun k_ => some k_ ≠ (v267 : Value).ownBlock ∧ some k_ ≠ (.slice Ao94 t270.length co94 : Value).ownBlock ∧ k_ ≠ gb255 ∧ k_ ≠ gb256 ∧ k_ ≠ gb257 ∧ k_ ≠ gb265 ∧ k_ ≠ gb274 ∧ k_ ≠ gb283) ho0 (fun k_ hk_ => ⟨Or.elim hk_ (fun hs_ => Or.elim hs_ (fun hs_ => fun e_ => Nat.not_le.2 hs_ (Kd.N_base HO268.out k_ e_.symm)) (fun hs_ => fun e_ => Nat.not_le.2 hs_ (Kd.N_base HO268.out k_ e_.symm))) (fun hn_ => (Kd.fresh' (Kd.N_lt (by (with_reducible repeat (first | apply Kd.N_alloc | apply Kd.N_drewN | apply Kd.N_drew)); exact HO268.out)) k_ hn_)), Or.elim hk_ (fun hs_ => Or.elim hs_ (fun hs_ => fun e_ => Nat.not_le.2 hs_ (Kd.N_base HO272.out k_ e_.symm)) (fun hs_ => fun e_ => Nat.not_le.2 hs_ (Kd.N_base HO272.out k_ e_.symm))) (fun hn_ => (Kd.fresh' (Kd.N_lt (by (with_reducible repeat (first | apply Kd.N_alloc | apply Kd.N_drewN | apply Kd.N_drew)); exact HO272.out)) k_ hn_)), Or.elim hk_ (fun hs_ => Or.elim hs_ (fun hs_ => fun e_ => Nat.not_le.2 hs_ (by rw [e_]; exact GW255.out)) (fun hs_ => fun e_ => Nat.not_le.2 hs_ (by rw [e_]; exact GW255.out))) (fun hn_ => (Kd.freshB (g := gb255) (o := .cells #[.slice A0_0 l0_0.length c0_0, .int .i64 a0_1] 26 (0, 0)) (by (with_reducible repeat (first | refine bn_ ?_ _ | refine bd_ ?_ | refine ba_ ?_ _)); exact BK255.out) k_ hn_)), Or.elim hk_ (fun hs_ => Or.elim hs_ (fun hs_ => fun e_ => Nat.not_le.2 hs_ (by rw [e_]; exact GW256.out)) (fun hs_ => fun e_ => Nat.not_le.2 hs_ (by rw [e_]; exact GW256.out))) (fun hn_ => (Kd.freshB (g := gb256) (o := .cells #[.int .i64 a1_0, .int .i64 a1_1, .slice A1_2 l1_2.length c1_2] 46 (0, 0)) (by (with_reducible repeat (first | refine bn_ ?_ _ | refine bd_ ?_ | refine ba_ ?_ _)); exact BK256.out) k_ hn_)), Or.elim hk_ (fun hs_ => Or.elim hs_ (fun hs_ => fun e_ => Nat.not_le.2 hs_ (by rw [e_]; exact GW257.out)) (fun hs_ => fun e_ => Nat.not_le.2 hs_ (by rw [e_]; exact GW257.out))) (fun hn_ => (Kd.freshB (g := gb257) (o := .cells #[.int .i64 a2_0, .int .i64 a2_1, .slice A2_2 l2_2.length c2_2] 46 (0, 0)) (by (with_reducible repeat (first | refine bn_ ?_ _ | refine bd_ ?_ | refine ba_ ?_ _)); exact BK257.out) k_ hn_)), Or.elim hk_ (fun hs_ => Or.elim hs_ (fun hs_ => fun e_ => Nat.not_le.2 hs_ (by rw [e_]; exact GW265.out)) (fun hs_ => fun e_ => Nat.not_le.2 hs_ (by rw [e_]; exact GW265.out))) (fun hn_ => (Kd.freshB (g := gb265) (o := .cells #[.slice A0_0 l0_0.length c0_0, .int .i64 a0_1] 48 (0, 0)) (by (with_reducible repeat (first | refine bn_ ?_ _ | refine bd_ ?_ | refine ba_ ?_ _)); exact BK265.out) k_ hn_)), Or.elim hk_ (fun hs_ => Or.elim hs_ (fun hs_ => fun e_ => Nat.not_le.2 hs_ (by rw [e_]; exact GW274.out)) (fun hs_ => fun e_ => Nat.not_le.2 hs_ (by rw [e_]; exact GW274.out))) (fun hn_ => (Kd.freshB (g := gb274) (o := .cells #[.slice Ao94 t270.length co94, .int .i64 t273] 48 (0, 0)) (by (with_reducible repeat (first | refine bn_ ?_ _ | refine bd_ ?_ | refine ba_ ?_ _)); exact BK274.out) k_ hn_)), Or.elim hk_ (fun hs_ => Or.elim hs_ (fun hs_ => fun e_ => Nat.not_le.2 hs_ (by rw [e_]; exact GW283.out)) (fun hs_ => fun e_ => Nat.not_le.2 hs_ (by rw [e_]; exact GW283.out))) (fun hn_ => (Kd.freshB (g := gb283) (o := .cells #[.slice none 0 0, .int .i64 0] 48 (0, 0)) (by (with_reducible repeat (first | refine bn_ ?_ _ | refine bd_ ?_ | refine ba_ ?_ _)); exact BK283.out) k_ hn_))⟩)) (below_size bw_)); have n3_ := A_ (kb_ BK255 hb); have n4_ := A_ (kb_ BK256 hb); have n5_ := A_ (kb_ BK257 hb); have n6_ := A_ (kb_ BK265 hb); have n7_ := A_ (kb_ BK274 hb); have n8_ := A_ (kb_ BK283 hb); have n9_ := A_ (below_step bw_ hb); replace HO268 := n0_; replace HO272 := n1_; have HO277 := n2_; replace BK255 := n3_; replace BK256 := n4_; replace BK257 := n5_; replace BK265 := n6_; replace BK274 := n7_; replace BK283 := n8_; replace HB := n9_; clear n0_ n1_ n2_ n3_ n4_ n5_ n6_ n7_ n8_ n9_
             (try clear hb)
             (try clear hb2)
             (try clear hk)
             (try clear hi)
             (try clear ho0)
             obtain ⟨Ao101, co101, eo101⟩ := Kd.N_slice HO277.out
             (first | subst eo101 | (injection eo101 with f1_ f2_ f3_; have f4_ := f1_.symm; have f5_ := f3_.symm; clear f1_ f2_ f3_; subst f4_; subst f5_))
             refine hK.out _ _ ⟨e_ BK265 0, e_ BK265 1, e_ BK257 0, e_ BK257 1, e_ BK257 2, e_ BK256 0, e_ BK256 1, e_ BK256 2⟩ (fun hHeld => ?_)
             clear hK K
             refine norm_ (a' := ?_) ?_ ?_
             rotate_left
             · show Act.put _ (some 68) _ = _
               simp only [Act.put, s0_, s1_, s2_, i64_w, i32_w]
               rfl
             refine one_ (i := 4) (N := some 70) #[true, true, true, true, true, true, false] rfl rfl (by kernel_rfl) (by decide) (fun K hK => ?_)
             refine goes_ Try.func21 (by kernel_rfl) rfl #[.agg #[.slice Ao101 t275.length co101, .int .i64 t278], .agg #[.int .i64 a1_0, .int .i64 a1_1, .slice A1_2 l1_2.length c1_2]] (by rfl) rfl rfl (by (try simp only [m0_, m1_, m2_]); first | done | rfl) ?_
             with_reducible refine (shard_Set.calls (fun k_ => (some k_ ≠ (v267 : Value).ownBlock ∧ (some k_ ≠ (.slice Ao94 t270.length co94 : Value).ownBlock ∧ (k_ ≠ gb255 ∧ (k_ ≠ gb256 ∧ (k_ ≠ gb257 ∧ (k_ ≠ gb265 ∧ (k_ ≠ gb274 ∧ k_ ≠ gb283)))))))) _ _ t275 t278 a1_0 a1_1 (fun k_ => k_ < w.heap.size) _ _ l1_2 t279 t282 _ ?side1 ?side2 A77.out).mono ?_
             (case side1 => exact Kd.N_V (HO277.out))
             (case side2 => exact Kd.V_mk HC1_2.out (Kd.F_below (Kd.C_F k32_heap HR1_2.out) bw_))
             rintro e w102 ⟨v280, rfl, ho0, hb⟩
             refine ⟨_, rfl, ?_⟩
             have n0_ := A_ (Kd.N_elder' (by (with_reducible repeat (first | apply Kd.N_alloc | apply Kd.N_drewN | apply Kd.N_drew)); exact HO268.out) (Kd.N_base ho0) hb); have n1_ := A_ (Kd.N_elder' (by (with_reducible repeat (first | apply Kd.N_alloc | apply Kd.N_drewN | apply Kd.N_drew)); exact HO272.out) (Kd.N_base ho0) hb); have n2_ := A_ (Kd.N_elder' (by (with_reducible repeat (first | apply Kd.N_alloc | apply Kd.N_drewN | apply Kd.N_drew)); exact HO277.out) (Kd.N_base ho0) hb); have n3_ := A_ (Kd.N_lower (Kd.N_mono (ok' := fun k_ => some k_ ≠ (v267 : Value).ownBlock ∧ some k_ ≠ (.slice Ao94 t270.length co94 : Value).ownBlock ∧ k_ ≠ gb255 ∧ k_ ≠ gb256 ∧ k_ ≠ gb257 ∧ k_ ≠ gb265 ∧ k_ ≠ gb274 ∧ k_ ≠ gb283) ho0 (fun k_ hk_ => ⟨Or.elim hk_ (fun hs_ => Or.elim hs_ (fun hs_ => hs_.1) (fun hs_ => fun e_ => Nat.not_le.2 hs_ (Kd.N_base HO268.out k_ e_.symm))) (fun hn_ => (Kd.fresh' (Kd.N_lt (by (with_reducible repeat (first | apply Kd.N_alloc | apply Kd.N_drewN | apply Kd.N_drew)); exact HO268.out)) k_ hn_)), Or.elim hk_ (fun hs_ => Or.elim hs_ (fun hs_ => hs_.2.1) (fun hs_ => fun e_ => Nat.not_le.2 hs_ (Kd.N_base HO272.out k_ e_.symm))) (fun hn_ => (Kd.fresh' (Kd.N_lt (by (with_reducible repeat (first | apply Kd.N_alloc | apply Kd.N_drewN | apply Kd.N_drew)); exact HO272.out)) k_ hn_)), Or.elim hk_ (fun hs_ => Or.elim hs_ (fun hs_ => hs_.2.2.1) (fun hs_ => fun e_ => Nat.not_le.2 hs_ (by rw [e_]; exact GW255.out))) (fun hn_ => (Kd.freshB (g := gb255) (o := .cells #[.slice A0_0 l0_0.length c0_0, .int .i64 a0_1] 26 (0, 0)) (by (with_reducible repeat (first | refine bn_ ?_ _ | refine bd_ ?_ | refine ba_ ?_ _)); exact BK255.out) k_ hn_)), Or.elim hk_ (fun hs_ => Or.elim hs_ (fun hs_ => hs_.2.2.2.1) (fun hs_ => fun e_ => Nat.not_le.2 hs_ (by rw [e_]; exact GW256.out))) (fun hn_ => (Kd.freshB (g := gb256) (o := .cells #[.int .i64 a1_0, .int .i64 a1_1, .slice A1_2 l1_2.length c1_2] 46 (0, 0)) (by (with_reducible repeat (first | refine bn_ ?_ _ | refine bd_ ?_ | refine ba_ ?_ _)); exact BK256.out) k_ hn_)), Or.elim hk_ (fun hs_ => Or.elim hs_ (fun hs_ => hs_.2.2.2.2.1) (fun hs_ => fun e_ => Nat.not_le.2 hs_ (by rw [e_]; exact GW257.out))) (fun hn_ => (Kd.freshB (g := gb257) (o := .cells #[.int .i64 a2_0, .int .i64 a2_1, .slice A2_2 l2_2.length c2_2] 46 (0, 0)) (by (with_reducible repeat (first | refine bn_ ?_ _ | refine bd_ ?_ | refine ba_ ?_ _)); exact BK257.out) k_ hn_)), Or.elim hk_ (fun hs_ => Or.elim hs_ (fun hs_ => hs_.2.2.2.2.2.1) (fun hs_ => fun e_ => Nat.not_le.2 hs_ (by rw [e_]; exact GW265.out))) (fun hn_ => (Kd.freshB (g := gb265) (o := .cells #[.slice A0_0 l0_0.length c0_0, .int .i64 a0_1] 48 (0, 0)) (by (with_reducible repeat (first | refine bn_ ?_ _ | refine bd_ ?_ | refine ba_ ?_ _)); exact BK265.out) k_ hn_)), Or.elim hk_ (fun hs_ => Or.elim hs_ (fun hs_ => hs_.2.2.2.2.2.2.1) (fun hs_ => fun e_ => Nat.not_le.2 hs_ (by rw [e_]; exact GW274.out))) (fun hn_ => (Kd.freshB (g := gb274) (o := .cells #[.slice Ao94 t270.length co94, .int .i64 t273] 48 (0, 0)) (by (with_reducible repeat (first | refine bn_ ?_ _ | refine bd_ ?_ | refine ba_ ?_ _)); exact BK274.out) k_ hn_)), Or.elim hk_ (fun hs_ => Or.elim hs_ (fun hs_ => hs_.2.2.2.2.2.2.2) (fun hs_ => fun e_ => Nat.not_le.2 hs_ (by rw [e_]; exact GW283.out))) (fun hn_ => (Kd.freshB (g := gb283) (o := .cells #[.slice none 0 0, .int .i64 0] 48 (0, 0)) (by (with_reducible repeat (first | refine bn_ ?_ _ | refine bd_ ?_ | refine ba_ ?_ _)); exact BK283.out) k_ hn_))⟩)) (below_size bw_)); have n4_ := A_ (kb_ BK255 hb); have n5_ := A_ (kb_ BK256 hb); have n6_ := A_ (kb_ BK257 hb); have n7_ := A_ (kb_ BK265 hb); have n8_ := A_ (kb_ BK274 hb); have n9_ := A_ (kb_ BK283 hb); have n10_ := A_ (below_step bw_ hb); replace HO268 := n0_; replace HO272 := n1_; replace HO277 := n2_; have HO281 := n3_; replace BK255 := n4_; replace BK256 := n5_; replace BK257 := n6_; replace BK265 := n7_; replace BK274 := n8_; replace BK283 := n9_; replace HB := n10_; clear n0_ n1_ n2_ n3_ n4_ n5_ n6_ n7_ n8_ n9_ n10_
             (try clear hb)
             (try clear hb2)
             (try clear hk)
             (try clear hi)
             (try clear ho0)
             refine hK.out _ _ ⟨e_ BK265 0, e_ BK265 1, e_ BK257 0, e_ BK257 1, e_ BK257 2, e_ BK256 0, e_ BK256 1, e_ BK256 2⟩ (fun hHeld => ?_)
             clear hK K
             refine norm_ (a' := ?_) ?_ ?_
             rotate_left
             · show Act.put _ (some 70) _ = _
               simp only [Act.put, s0_, s1_, s2_, i64_w, i32_w]
               rfl
             exact norm_ (by simp only [putAll, Act.put, s0_, s1_, s2_]) (hCont (.slice Ao101 t275.length co101, v280, gb283) _ ⟨hHeld, (by (with_reducible repeat (first | apply Kd.N_alloc | apply Kd.N_drewN | apply Kd.N_drew)); exact Kd.N_mono HO268.out (fun _ hk => ⟨hk.1.1.1.1, ⟨hk.1.2, ⟨hk.2, ⟨hk.1.1.1.2.1, ⟨hk.1.1.1.2.2.1, ⟨hk.1.1.1.2.2.2.1, ⟨hk.1.1.1.2.2.2.2.1, ⟨hk.1.1.1.2.2.2.2.2, hk.1.1.2⟩⟩⟩⟩⟩⟩⟩⟩)), (by (with_reducible repeat (first | apply Kd.N_alloc | apply Kd.N_drewN | apply Kd.N_drew)); exact Kd.N_mono HO272.out (fun _ hk => ⟨hk.1.2, ⟨hk.2, ⟨hk.1.1.1.1, ⟨hk.1.1.1.2.1, ⟨hk.1.1.1.2.2.1, ⟨hk.1.1.1.2.2.2.1, ⟨hk.1.1.1.2.2.2.2, hk.1.1.2⟩⟩⟩⟩⟩⟩⟩)), (by (with_reducible repeat (first | apply Kd.N_alloc | apply Kd.N_drewN | apply Kd.N_drew)); exact Kd.N_mono HO277.out (fun _ hk => ⟨hk.1.1, ⟨hk.1.2.1, ⟨hk.2, ⟨hk.1.2.2.1, ⟨hk.1.2.2.2.1, ⟨hk.1.2.2.2.2.1, ⟨hk.1.2.2.2.2.2.1, ⟨hk.1.2.2.2.2.2.2.1, hk.1.2.2.2.2.2.2.2⟩⟩⟩⟩⟩⟩⟩⟩)), (by (with_reducible repeat (first | apply Kd.N_alloc | apply Kd.N_drewN | apply Kd.N_drew)); exact HO281.out), (by (with_reducible repeat (first | refine bn_ ?_ _ | refine bd_ ?_ | refine ba_ ?_ _)); exact BK255.out), (by (with_reducible repeat (first | refine bn_ ?_ _ | refine bd_ ?_ | refine ba_ ?_ _)); exact BK256.out), (by (with_reducible repeat (first | refine bn_ ?_ _ | refine bd_ ?_ | refine ba_ ?_ _)); exact BK257.out), (by (with_reducible repeat (first | refine bn_ ?_ _ | refine bd_ ?_ | refine ba_ ?_ _)); exact BK265.out), (by (with_reducible repeat (first | refine bn_ ?_ _ | refine bd_ ?_ | refine ba_ ?_ _)); exact BK274.out), (by (with_reducible repeat (first | refine bn_ ?_ _ | refine bd_ ?_ | refine ba_ ?_ _)); exact BK283.out), GW283.out, GE283.out, NB255_283.out, NB283_255.out, NB256_283.out, NB283_256.out, NB257_283.out, NB283_257.out, NB265_283.out, NB283_265.out, NB274_283.out, NB283_274.out, bw_⟩)
         rintro ⟨v276, v280, gb283⟩ w103 ⟨hS_, h0_, h1_, h2_, h3_, h4_, h5_, h6_, h7_, h8_, h9_, h10_, h11_, h12_, h13_, h14_, h15_, h16_, h17_, h18_, h19_, h20_, h21_, h22_⟩
         have n0_ : Aside0 (Kd.N k46 46 w103 w.heap.size (fun k_ => some k_ ≠ (.slice Ao94 t270.length co94 : Value).ownBlock ∧ some k_ ≠ (v276 : Value).ownBlock ∧ some k_ ≠ (v280 : Value).ownBlock ∧ k_ ≠ gb255 ∧ k_ ≠ gb256 ∧ k_ ≠ gb257 ∧ k_ ≠ gb265 ∧ k_ ≠ gb274 ∧ k_ ≠ gb283) v267 t266) := ⟨h0_⟩; have n1_ : Aside0 (Kd.N k46 46 w103 w.heap.size (fun k_ => some k_ ≠ (v276 : Value).ownBlock ∧ some k_ ≠ (v280 : Value).ownBlock ∧ k_ ≠ gb255 ∧ k_ ≠ gb256 ∧ k_ ≠ gb257 ∧ k_ ≠ gb265 ∧ k_ ≠ gb274 ∧ k_ ≠ gb283) (.slice Ao94 t270.length co94) t270) := ⟨h1_⟩; have n2_ : Aside0 (Kd.N k46 46 w103 w.heap.size (fun k_ => some k_ ≠ (v267 : Value).ownBlock ∧ some k_ ≠ (.slice Ao94 t270.length co94 : Value).ownBlock ∧ some k_ ≠ (v280 : Value).ownBlock ∧ k_ ≠ gb255 ∧ k_ ≠ gb256 ∧ k_ ≠ gb257 ∧ k_ ≠ gb265 ∧ k_ ≠ gb274 ∧ k_ ≠ gb283) v276 t275) := ⟨h2_⟩; have n3_ : Aside0 (Kd.N k46 46 w103 w.heap.size (fun k_ => some k_ ≠ (v267 : Value).ownBlock ∧ some k_ ≠ (.slice Ao94 t270.length co94 : Value).ownBlock ∧ k_ ≠ gb255 ∧ k_ ≠ gb256 ∧ k_ ≠ gb257 ∧ k_ ≠ gb265 ∧ k_ ≠ gb274 ∧ k_ ≠ gb283) v280 t279) := ⟨h3_⟩; have n4_ : Aside0 (w103.heap[gb255]? = some (.cells #[.slice A0_0 l0_0.length c0_0, .int .i64 a0_1] 26 (0, 0))) := ⟨h4_⟩; have n5_ : Aside0 (w103.heap[gb256]? = some (.cells #[.int .i64 a1_0, .int .i64 a1_1, .slice A1_2 l1_2.length c1_2] 46 (0, 0))) := ⟨h5_⟩; have n6_ : Aside0 (w103.heap[gb257]? = some (.cells #[.int .i64 a2_0, .int .i64 a2_1, .slice A2_2 l2_2.length c2_2] 46 (0, 0))) := ⟨h6_⟩; have n7_ : Aside0 (w103.heap[gb265]? = some (.cells #[.slice A0_0 l0_0.length c0_0, .int .i64 a0_1] 48 (0, 0))) := ⟨h7_⟩; have n8_ : Aside0 (w103.heap[gb274]? = some (.cells #[.slice Ao94 t270.length co94, .int .i64 t273] 48 (0, 0))) := ⟨h8_⟩; have n9_ : Aside0 (w103.heap[gb283]? = some (.cells #[.slice none 0 0, .int .i64 0] 48 (0, 0))) := ⟨h9_⟩; have n10_ : Aside0 (w.heap.size ≤ gb283) := ⟨h10_⟩; have n11_ : Aside0 (w.heap.size ≤ gb283) := ⟨h11_⟩; have n12_ : Aside0 (gb255 ≠ gb283) := ⟨h12_⟩; have n13_ : Aside0 (gb283 ≠ gb255) := ⟨h13_⟩; have n14_ : Aside0 (gb256 ≠ gb283) := ⟨h14_⟩; have n15_ : Aside0 (gb283 ≠ gb256) := ⟨h15_⟩; have n16_ : Aside0 (gb257 ≠ gb283) := ⟨h16_⟩; have n17_ : Aside0 (gb283 ≠ gb257) := ⟨h17_⟩; have n18_ : Aside0 (gb265 ≠ gb283) := ⟨h18_⟩; have n19_ : Aside0 (gb283 ≠ gb265) := ⟨h19_⟩; have n20_ : Aside0 (gb274 ≠ gb283) := ⟨h20_⟩; have n21_ : Aside0 (gb283 ≠ gb274) := ⟨h21_⟩; have n22_ : Aside0 (Below w.heap.size w w103) := ⟨h22_⟩; clear HO268; clear HO272; clear BK255; clear BK256; clear BK257; clear BK265; clear BK274; clear HB; clear h0_ h1_ h2_ h3_ h4_ h5_ h6_ h7_ h8_ h9_ h10_ h11_ h12_ h13_ h14_ h15_ h16_ h17_ h18_ h19_ h20_ h21_ h22_; have HO268 := n0_; have HO272 := n1_; have HO277 := n2_; have HO281 := n3_; have BK255 := n4_; have BK256 := n5_; have BK257 := n6_; have BK265 := n7_; have BK274 := n8_; have BK283 := n9_; have GW283 := n10_; have GE283 := n11_; have NB255_283 := n12_; have NB283_255 := n13_; have NB256_283 := n14_; have NB283_256 := n15_; have NB257_283 := n16_; have NB283_257 := n17_; have NB265_283 := n18_; have NB283_265 := n19_; have NB274_283 := n20_; have NB283_274 := n21_; have HB := n22_; clear n0_ n1_ n2_ n3_ n4_ n5_ n6_ n7_ n8_ n9_ n10_ n11_ n12_ n13_ n14_ n15_ n16_ n17_ n18_ n19_ n20_ n21_ n22_
         have hHeld : w103.cell? ⟨gb265, 0, none⟩ = some (.slice A0_0 l0_0.length c0_0) ∧ w103.cell? ⟨gb265, 1, none⟩ = some (.int .i64 a0_1) ∧ w103.cell? ⟨gb257, 0, none⟩ = some (.int .i64 a2_0) ∧ w103.cell? ⟨gb257, 1, none⟩ = some (.int .i64 a2_1) ∧ w103.cell? ⟨gb257, 2, none⟩ = some (.slice A2_2 l2_2.length c2_2) ∧ w103.cell? ⟨gb256, 0, none⟩ = some (.int .i64 a1_0) ∧ w103.cell? ⟨gb256, 1, none⟩ = some (.int .i64 a1_1) ∧ w103.cell? ⟨gb256, 2, none⟩ = some (.slice A1_2 l1_2.length c1_2) := hS_
         obtain ⟨Ao104, co104, eo104⟩ := Kd.N_slice HO281.out
         (first | subst eo104 | (injection eo104 with f1_ f2_ f3_; have f4_ := f1_.symm; have f5_ := f3_.symm; clear f1_ f2_ f3_; subst f4_; subst f5_))
         refine norm_ (a' := ?_) ?_ ?_
         rotate_left
         · simp only [putAll, Act.put, s0_, s1_, s2_]
           rfl
         refine one_ (i := 6) (N := none) #[true, true, true, true, true, true, true] rfl rfl (by kernel_rfl) (by decide) (fun K hK => ?_)
         have hs105 : w103.cell? ⟨gb283, 0, none⟩ = some (.slice none 0 0) := e_ BK283 0
         have hfs105 := blk_frozen BK283.out 0
         have hns105_0 := NB255_283.out
         have hns105_1 := NB256_283.out
         have hns105_2 := NB257_283.out
         have hns105_3 := NB265_283.out
         have hns105_4 := NB274_283.out
         have hms105_0 := NB283_255.out
         have hms105_1 := NB283_256.out
         have hms105_2 := NB283_257.out
         have hms105_3 := NB283_265.out
         have hms105_4 := NB283_274.out
         have hs106 : w103.cell? ⟨gb283, 1, none⟩ = some (.int .i64 0) := e_ BK283 1
         have hfs106 := blk_frozen BK283.out 1
         have hns106_0 := NB255_283.out
         have hns106_1 := NB256_283.out
         have hns106_2 := NB257_283.out
         have hns106_3 := NB265_283.out
         have hns106_4 := NB274_283.out
         have hms106_0 := NB283_255.out
         have hms106_1 := NB283_256.out
         have hms106_2 := NB283_257.out
         have hms106_3 := NB283_265.out
         have hms106_4 := NB283_274.out
         refine skip_ (w1 := ?_) (by rfl) rfl ?_ ?_
         rotate_left
         · go_simp
           rfl
         refine hK.out _ _ ⟨((cell_far (p := ⟨gb283, _, none⟩) NB265_283.out _).trans (((cell_far (p := ⟨gb283, _, none⟩) NB265_283.out _).trans (hHeld.1)))), ((cell_far (p := ⟨gb283, _, none⟩) NB265_283.out _).trans (((cell_far (p := ⟨gb283, _, none⟩) NB265_283.out _).trans (hHeld.2.1)))), ((cell_far (p := ⟨gb283, _, none⟩) NB257_283.out _).trans (((cell_far (p := ⟨gb283, _, none⟩) NB257_283.out _).trans (hHeld.2.2.1)))), ((cell_far (p := ⟨gb283, _, none⟩) NB257_283.out _).trans (((cell_far (p := ⟨gb283, _, none⟩) NB257_283.out _).trans (hHeld.2.2.2.1)))), ((cell_far (p := ⟨gb283, _, none⟩) NB257_283.out _).trans (((cell_far (p := ⟨gb283, _, none⟩) NB257_283.out _).trans (hHeld.2.2.2.2.1)))), ((cell_far (p := ⟨gb283, _, none⟩) NB256_283.out _).trans (((cell_far (p := ⟨gb283, _, none⟩) NB256_283.out _).trans (hHeld.2.2.2.2.2.1)))), ((cell_far (p := ⟨gb283, _, none⟩) NB256_283.out _).trans (((cell_far (p := ⟨gb283, _, none⟩) NB256_283.out _).trans (hHeld.2.2.2.2.2.2.1)))), ((cell_far (p := ⟨gb283, _, none⟩) NB256_283.out _).trans (((cell_far (p := ⟨gb283, _, none⟩) NB256_283.out _).trans (hHeld.2.2.2.2.2.2.2))))⟩ (fun hHeld => ?_)
         clear hK K
         refine done_ (by kernel_rfl) ?_
         have n0_ : Aside0 (Kd.N k46 46 ((w103.setCell ⟨gb283, 0, none⟩ (.slice Ao104 t279.length co104)).setCell ⟨gb283, 1, none⟩ (.int .i64 t282)) w.heap.size (fun k_ => some k_ ≠ (.slice Ao94 t270.length co94 : Value).ownBlock ∧ some k_ ≠ (v276 : Value).ownBlock ∧ some k_ ≠ (.slice Ao104 t279.length co104 : Value).ownBlock ∧ k_ ≠ gb255 ∧ k_ ≠ gb256 ∧ k_ ≠ gb257 ∧ k_ ≠ gb265 ∧ k_ ≠ gb274 ∧ k_ ≠ gb283) v267 t266) := ⟨by (with_reducible repeat (first | apply Kd.N_alloc | apply Kd.N_drewN | apply Kd.N_drew)); exact Kd.N_mono (Kd.N_far (p := ⟨gb283, 1, none⟩) (Kd.N_far (p := ⟨gb283, 0, none⟩) (Kd.N_mono HO268.out (fun k_ hk => (⟨hk, hk.2.2.2.2.2.2.2.2⟩ : _ ∧ k_ ≠ gb283))) (fun _ hk => hk.2) (.slice Ao104 t279.length co104)) (fun _ hk => hk.2) (.int .i64 t282)) (fun _ hk => ⟨hk.1.1, ⟨hk.1.2.1, ⟨hk.1.2.2.1, ⟨hk.1.2.2.2.1, ⟨hk.1.2.2.2.2.1, ⟨hk.1.2.2.2.2.2.1, ⟨hk.1.2.2.2.2.2.2.1, ⟨hk.1.2.2.2.2.2.2.2.1, hk.1.2.2.2.2.2.2.2.2⟩⟩⟩⟩⟩⟩⟩⟩)⟩; have n1_ : Aside0 (Kd.N k46 46 ((w103.setCell ⟨gb283, 0, none⟩ (.slice Ao104 t279.length co104)).setCell ⟨gb283, 1, none⟩ (.int .i64 t282)) w.heap.size (fun k_ => some k_ ≠ (v276 : Value).ownBlock ∧ some k_ ≠ (.slice Ao104 t279.length co104 : Value).ownBlock ∧ k_ ≠ gb255 ∧ k_ ≠ gb256 ∧ k_ ≠ gb257 ∧ k_ ≠ gb265 ∧ k_ ≠ gb274 ∧ k_ ≠ gb283) (.slice Ao94 t270.length co94) t270) := ⟨by (with_reducible repeat (first | apply Kd.N_alloc | apply Kd.N_drewN | apply Kd.N_drew)); exact Kd.N_mono (Kd.N_far (p := ⟨gb283, 1, none⟩) (Kd.N_far (p := ⟨gb283, 0, none⟩) (Kd.N_mono HO272.out (fun k_ hk => (⟨hk, hk.2.2.2.2.2.2.2⟩ : _ ∧ k_ ≠ gb283))) (fun _ hk => hk.2) (.slice Ao104 t279.length co104)) (fun _ hk => hk.2) (.int .i64 t282)) (fun _ hk => ⟨hk.1.1, ⟨hk.1.2.1, ⟨hk.1.2.2.1, ⟨hk.1.2.2.2.1, ⟨hk.1.2.2.2.2.1, ⟨hk.1.2.2.2.2.2.1, ⟨hk.1.2.2.2.2.2.2.1, hk.1.2.2.2.2.2.2.2⟩⟩⟩⟩⟩⟩⟩)⟩; have n2_ : Aside0 (Kd.N k46 46 ((w103.setCell ⟨gb283, 0, none⟩ (.slice Ao104 t279.length co104)).setCell ⟨gb283, 1, none⟩ (.int .i64 t282)) w.heap.size (fun k_ => some k_ ≠ (v267 : Value).ownBlock ∧ some k_ ≠ (.slice Ao94 t270.length co94 : Value).ownBlock ∧ some k_ ≠ (.slice Ao104 t279.length co104 : Value).ownBlock ∧ k_ ≠ gb255 ∧ k_ ≠ gb256 ∧ k_ ≠ gb257 ∧ k_ ≠ gb265 ∧ k_ ≠ gb274 ∧ k_ ≠ gb283) v276 t275) := ⟨by (with_reducible repeat (first | apply Kd.N_alloc | apply Kd.N_drewN | apply Kd.N_drew)); exact Kd.N_mono (Kd.N_far (p := ⟨gb283, 1, none⟩) (Kd.N_far (p := ⟨gb283, 0, none⟩) (Kd.N_mono HO277.out (fun k_ hk => (⟨hk, hk.2.2.2.2.2.2.2.2⟩ : _ ∧ k_ ≠ gb283))) (fun _ hk => hk.2) (.slice Ao104 t279.length co104)) (fun _ hk => hk.2) (.int .i64 t282)) (fun _ hk => ⟨hk.1.1, ⟨hk.1.2.1, ⟨hk.1.2.2.1, ⟨hk.1.2.2.2.1, ⟨hk.1.2.2.2.2.1, ⟨hk.1.2.2.2.2.2.1, ⟨hk.1.2.2.2.2.2.2.1, ⟨hk.1.2.2.2.2.2.2.2.1, hk.1.2.2.2.2.2.2.2.2⟩⟩⟩⟩⟩⟩⟩⟩)⟩; have n3_ : Aside0 (Kd.N k46 46 ((w103.setCell ⟨gb283, 0, none⟩ (.slice Ao104 t279.length co104)).setCell ⟨gb283, 1, none⟩ (.int .i64 t282)) w.heap.size (fun k_ => some k_ ≠ (v267 : Value).ownBlock ∧ some k_ ≠ (.slice Ao94 t270.length co94 : Value).ownBlock ∧ k_ ≠ gb255 ∧ k_ ≠ gb256 ∧ k_ ≠ gb257 ∧ k_ ≠ gb265 ∧ k_ ≠ gb274 ∧ k_ ≠ gb283) (.slice Ao104 t279.length co104) t279) := ⟨by (with_reducible repeat (first | apply Kd.N_alloc | apply Kd.N_drewN | apply Kd.N_drew)); exact Kd.N_mono (Kd.N_far (p := ⟨gb283, 1, none⟩) (Kd.N_far (p := ⟨gb283, 0, none⟩) (Kd.N_mono HO281.out (fun k_ hk => (⟨hk, hk.2.2.2.2.2.2.2⟩ : _ ∧ k_ ≠ gb283))) (fun _ hk => hk.2) (.slice Ao104 t279.length co104)) (fun _ hk => hk.2) (.int .i64 t282)) (fun _ hk => ⟨hk.1.1, ⟨hk.1.2.1, ⟨hk.1.2.2.1, ⟨hk.1.2.2.2.1, ⟨hk.1.2.2.2.2.1, ⟨hk.1.2.2.2.2.2.1, ⟨hk.1.2.2.2.2.2.2.1, hk.1.2.2.2.2.2.2.2⟩⟩⟩⟩⟩⟩⟩)⟩; have n4_ : Aside0 (((w103.setCell ⟨gb283, 0, none⟩ (.slice Ao104 t279.length co104)).setCell ⟨gb283, 1, none⟩ (.int .i64 t282)).heap[gb255]? = some (.cells #[.slice A0_0 l0_0.length c0_0, .int .i64 a0_1] 26 (0, 0))) := ⟨bk_⟩; have n5_ : Aside0 (((w103.setCell ⟨gb283, 0, none⟩ (.slice Ao104 t279.length co104)).setCell ⟨gb283, 1, none⟩ (.int .i64 t282)).heap[gb256]? = some (.cells #[.int .i64 a1_0, .int .i64 a1_1, .slice A1_2 l1_2.length c1_2] 46 (0, 0))) := ⟨bk_⟩; have n6_ : Aside0 (((w103.setCell ⟨gb283, 0, none⟩ (.slice Ao104 t279.length co104)).setCell ⟨gb283, 1, none⟩ (.int .i64 t282)).heap[gb257]? = some (.cells #[.int .i64 a2_0, .int .i64 a2_1, .slice A2_2 l2_2.length c2_2] 46 (0, 0))) := ⟨bk_⟩; have n7_ : Aside0 (((w103.setCell ⟨gb283, 0, none⟩ (.slice Ao104 t279.length co104)).setCell ⟨gb283, 1, none⟩ (.int .i64 t282)).heap[gb265]? = some (.cells #[.slice A0_0 l0_0.length c0_0, .int .i64 a0_1] 48 (0, 0))) := ⟨bk_⟩; have n8_ : Aside0 (((w103.setCell ⟨gb283, 0, none⟩ (.slice Ao104 t279.length co104)).setCell ⟨gb283, 1, none⟩ (.int .i64 t282)).heap[gb274]? = some (.cells #[.slice Ao94 t270.length co94, .int .i64 t273] 48 (0, 0))) := ⟨bk_⟩; have n9_ : Aside0 (((w103.setCell ⟨gb283, 0, none⟩ (.slice Ao104 t279.length co104)).setCell ⟨gb283, 1, none⟩ (.int .i64 t282)).heap[gb283]? = some (.cells #[.slice Ao104 t279.length co104, .int .i64 t282] 48 (0, 0))) := ⟨by (with_reducible repeat (first | refine bn_ ?_ _ | refine bd_ ?_ | refine ba_ ?_ _)); refine blk_put (cs := #[.slice Ao104 t279.length co104, .int .i64 0]) ?_ 1 _ rfl; (with_reducible repeat (first | refine bn_ ?_ _ | refine bd_ ?_ | refine ba_ ?_ _)); refine blk_put (cs := #[.slice none 0 0, .int .i64 0]) ?_ 0 _ rfl; (with_reducible repeat (first | refine bn_ ?_ _ | refine bd_ ?_ | refine ba_ ?_ _)); exact BK283.out⟩; have n10_ : Aside0 (Below w.heap.size w ((w103.setCell ⟨gb283, 0, none⟩ (.slice Ao104 t279.length co104)).setCell ⟨gb283, 1, none⟩ (.int .i64 t282))) := ⟨by repeat (first | (with_reducible first | exact HB.out | apply wa_ | apply wn_ | apply wd_ | refine ws_ ?_ GE255.out | refine ws_ ?_ GE256.out | refine ws_ ?_ GE257.out | refine ws_ ?_ GE265.out | refine ws_ ?_ GE274.out | refine ws_ ?_ GE283.out) | exact HB.out)⟩
         (try clear HO268)
         (try clear HO272)
         (try clear HO277)
         (try clear HO281)
         (try clear BK255)
         (try clear BK256)
         (try clear BK257)
         (try clear BK265)
         (try clear BK274)
         (try clear BK283)
         (try clear HB)
         generalize ((w103.setCell ⟨gb283, 0, none⟩ (.slice Ao104 t279.length co104)).setCell ⟨gb283, 1, none⟩ (.int .i64 t282)) = w107 at n0_ n1_ n2_ n3_ n4_ n5_ n6_ n7_ n8_ n9_ n10_ ⊢
         have HO268 := n0_; have HO272 := n1_; have HO277 := n2_; have HO281 := n3_; have BK255 := n4_; have BK256 := n5_; have BK257 := n6_; have BK265 := n7_; have BK274 := n8_; have BK283 := n9_; have HB := n10_; clear n0_ n1_ n2_ n3_ n4_ n5_ n6_ n7_ n8_ n9_ n10_; have hnb108 := NB274_255.out; have hnc108 := NB255_274.out; have hnb109 := NB274_256.out; have hnc109 := NB256_274.out; have hnb110 := NB274_257.out; have hnc110 := NB257_274.out; have hnb111 := NB274_265.out; have hnc111 := NB265_274.out; have hnb112 := NB274_283.out; have hnc112 := NB283_274.out; have hcz113_0 : w107.cell? ⟨gb274, 0, none⟩ = some (.slice Ao94 t270.length co94) := e_ BK274 0; have hcz113_1 : w107.cell? ⟨gb274, 1, none⟩ = some (.int .i64 t273) := e_ BK274 1; have hfz113_0 := blk_frozen BK274.out 0; have hfz113_1 := blk_frozen BK274.out 1; have hnb114 := NB256_257.out; have hnc114 := NB257_256.out; have hnb115 := NB256_283.out; have hnc115 := NB283_256.out; have hcz116_0 : w107.cell? ⟨gb256, 0, none⟩ = some (.int .i64 a1_0) := e_ BK256 0; have hcz116_1 : w107.cell? ⟨gb256, 1, none⟩ = some (.int .i64 a1_1) := e_ BK256 1; have hcz116_2 : w107.cell? ⟨gb256, 2, none⟩ = some (.slice A1_2 l1_2.length c1_2) := e_ BK256 2; obtain ⟨hfz116_0, hfz116_1, hfz116_2⟩ := z3_ BK256
         try go_wp2_with (first | ((with_reducible refine gate_callee (f := 21) rfl ?_); refine goesL_ (some 75) rfl rfl Try.func21 (by kernel_rfl) rfl #[.agg #[.slice Ao94 t270.length co94, .int .i64 t273], .agg #[.int .i64 a1_0, .int .i64 0, .slice none 0 0]] rfl (by (try simp only [m0_, m1_, m2_]); first | done | rfl) ?_; (refine (shard_Set.calls (fun k_ => (some k_ ≠ (v276 : Value).ownBlock ∧ (some k_ ≠ (.slice Ao104 t279.length co104 : Value).ownBlock ∧ (k_ ≠ gb255 ∧ (k_ ≠ gb256 ∧ (k_ ≠ gb257 ∧ (k_ ≠ gb265 ∧ (k_ ≠ gb274 ∧ k_ ≠ gb283)))))))) _ _ t270 t273 a1_0 0 (fun k_ => False) _ _ ([] : List (S32)) t284 t287 _ ?side1 ?side2 A78.out).mono ?_); (case side1 => exact Kd.N_V (HO272.out)); (case side2 => exact Kd.V_nil _ _ _ _ _); rintro e w117 ⟨v285, rfl, ho0, hb⟩; refine ⟨_, rfl, ?_⟩; have n0_ := A_ (Kd.N_elder' (by (with_reducible repeat (first | apply Kd.N_alloc | apply Kd.N_drewN | apply Kd.N_drew)); exact HO268.out) (Kd.N_base ho0) hb); have n1_ := A_ (Kd.N_elder' (by (with_reducible repeat (first | apply Kd.N_alloc | apply Kd.N_drewN | apply Kd.N_drew)); exact HO272.out) (Kd.N_base ho0) hb); have n2_ := A_ (Kd.N_elder' (by (with_reducible repeat (first | apply Kd.N_alloc | apply Kd.N_drewN | apply Kd.N_drew)); exact HO277.out) (Kd.N_base ho0) hb); have n3_ := A_ (Kd.N_elder' (by (with_reducible repeat (first | apply Kd.N_alloc | apply Kd.N_drewN | apply Kd.N_drew)); exact HO281.out) (Kd.N_base ho0) hb); have n4_ := A_ (Kd.N_lower (Kd.N_mono (ok' := fun k_ => some k_ ≠ (v276 : Value).ownBlock ∧ some k_ ≠ (.slice Ao104 t279.length co104 : Value).ownBlock ∧ k_ ≠ gb255 ∧ k_ ≠ gb256 ∧ k_ ≠ gb257 ∧ k_ ≠ gb265 ∧ k_ ≠ gb274 ∧ k_ ≠ gb283) ho0 (fun k_ hk_ => ⟨Or.elim hk_ (fun hs_ => Or.elim hs_ (fun hs_ => hs_.1) (fun hs_ => (hs_).elim)) (fun hn_ => (Kd.fresh' (Kd.N_lt (by (with_reducible repeat (first | apply Kd.N_alloc | apply Kd.N_drewN | apply Kd.N_drew)); exact HO277.out)) k_ hn_)), Or.elim hk_ (fun hs_ => Or.elim hs_ (fun hs_ => hs_.2.1) (fun hs_ => (hs_).elim)) (fun hn_ => (Kd.fresh' (Kd.N_lt (by (with_reducible repeat (first | apply Kd.N_alloc | apply Kd.N_drewN | apply Kd.N_drew)); exact HO281.out)) k_ hn_)), Or.elim hk_ (fun hs_ => Or.elim hs_ (fun hs_ => hs_.2.2.1) (fun hs_ => (hs_).elim)) (fun hn_ => (Kd.freshB (g := gb255) (o := .cells #[.slice A0_0 l0_0.length c0_0, .int .i64 a0_1] 26 (0, 0)) (by (with_reducible repeat (first | refine bn_ ?_ _ | refine bd_ ?_ | refine ba_ ?_ _)); exact BK255.out) k_ hn_)), Or.elim hk_ (fun hs_ => Or.elim hs_ (fun hs_ => hs_.2.2.2.1) (fun hs_ => (hs_).elim)) (fun hn_ => (Kd.freshB (g := gb256) (o := .cells #[.int .i64 a1_0, .int .i64 a1_1, .slice A1_2 l1_2.length c1_2] 46 (0, 0)) (by (with_reducible repeat (first | refine bn_ ?_ _ | refine bd_ ?_ | refine ba_ ?_ _)); exact BK256.out) k_ hn_)), Or.elim hk_ (fun hs_ => Or.elim hs_ (fun hs_ => hs_.2.2.2.2.1) (fun hs_ => (hs_).elim)) (fun hn_ => (Kd.freshB (g := gb257) (o := .cells #[.int .i64 a2_0, .int .i64 a2_1, .slice A2_2 l2_2.length c2_2] 46 (0, 0)) (by (with_reducible repeat (first | refine bn_ ?_ _ | refine bd_ ?_ | refine ba_ ?_ _)); exact BK257.out) k_ hn_)), Or.elim hk_ (fun hs_ => Or.elim hs_ (fun hs_ => hs_.2.2.2.2.2.1) (fun hs_ => (hs_).elim)) (fun hn_ => (Kd.freshB (g := gb265) (o := .cells #[.slice A0_0 l0_0.length c0_0, .int .i64 a0_1] 48 (0, 0)) (by (with_reducible repeat (first | refine bn_ ?_ _ | refine bd_ ?_ | refine ba_ ?_ _)); exact BK265.out) k_ hn_)), Or.elim hk_ (fun hs_ => Or.elim hs_ (fun hs_ => hs_.2.2.2.2.2.2.1) (fun hs_ => (hs_).elim)) (fun hn_ => (Kd.freshB (g := gb274) (o := .cells #[.slice Ao94 t270.length co94, .int .i64 t273] 48 (0, 0)) (by (with_reducible repeat (first | refine bn_ ?_ _ | refine bd_ ?_ | refine ba_ ?_ _)); exact BK274.out) k_ hn_)), Or.elim hk_ (fun hs_ => Or.elim hs_ (fun hs_ => hs_.2.2.2.2.2.2.2) (fun hs_ => (hs_).elim)) (fun hn_ => (Kd.freshB (g := gb283) (o := .cells #[.slice Ao104 t279.length co104, .int .i64 t282] 48 (0, 0)) (by (with_reducible repeat (first | refine bn_ ?_ _ | refine bd_ ?_ | refine ba_ ?_ _)); exact BK283.out) k_ hn_))⟩)) (below_size bw_)); have n5_ := A_ (kb_ BK255 hb); have n6_ := A_ (kb_ BK256 hb); have n7_ := A_ (kb_ BK257 hb); have n8_ := A_ (kb_ BK265 hb); have n9_ := A_ (kb_ BK274 hb); have n10_ := A_ (kb_ BK283 hb); have n11_ := A_ (below_step bw_ hb); replace HO268 := n0_; replace HO272 := n1_; replace HO277 := n2_; replace HO281 := n3_; have HO286 := n4_; replace BK255 := n5_; replace BK256 := n6_; replace BK257 := n7_; replace BK265 := n8_; replace BK274 := n9_; replace BK283 := n10_; replace HB := n11_; clear n0_ n1_ n2_ n3_ n4_ n5_ n6_ n7_ n8_ n9_ n10_ n11_; (try clear hb); (try clear hb2); (try clear hk); (try clear hi); (try clear ho0)) | ((with_reducible refine gate_dst (N := 11) rfl ?_); refine box_event ?hg (N := 11) ?hd (cs := #[.slice none 0 0, .int .i64 0]) (t := 48) ?hr ?_; (case hd => rfl); (case hg => rfl); (case hr => first | (go_simp; done) | (go_simp; rfl)); intro gb288 hg w118 hbox hb; have n0_ := A_ (Kd.N_below (Kd.N_elderB (by (with_reducible repeat (first | apply Kd.N_alloc | apply Kd.N_drewN | apply Kd.N_drew)); exact HO268.out) gb288 (Nat.le_of_eq hg.symm)) hb); have n1_ := A_ (Kd.N_below (Kd.N_elderB (by (with_reducible repeat (first | apply Kd.N_alloc | apply Kd.N_drewN | apply Kd.N_drew)); exact HO272.out) gb288 (Nat.le_of_eq hg.symm)) hb); have n2_ := A_ (Kd.N_below (Kd.N_elderB (by (with_reducible repeat (first | apply Kd.N_alloc | apply Kd.N_drewN | apply Kd.N_drew)); exact HO277.out) gb288 (Nat.le_of_eq hg.symm)) hb); have n3_ := A_ (Kd.N_below (Kd.N_elderB (by (with_reducible repeat (first | apply Kd.N_alloc | apply Kd.N_drewN | apply Kd.N_drew)); exact HO281.out) gb288 (Nat.le_of_eq hg.symm)) hb); have n4_ := A_ (Kd.N_below (Kd.N_elderB (by (with_reducible repeat (first | apply Kd.N_alloc | apply Kd.N_drewN | apply Kd.N_drew)); exact HO286.out) gb288 (Nat.le_of_eq hg.symm)) hb); have n5_ := A_ (kb_ BK255 hb); have n6_ := A_ (kb_ BK256 hb); have n7_ := A_ (kb_ BK257 hb); have n8_ := A_ (kb_ BK265 hb); have n9_ := A_ (kb_ BK274 hb); have n10_ := A_ (kb_ BK283 hb); have n11_ := A_ (below_step bw_ hb); have n12_ := A_ (hbox); have n13_ := A_ (gz_ (w := w) hg); have n14_ := A_ (gz_ (w := w) hg); have n15_ := A_ (nl_ BK255 hg); have n16_ := A_ (ng_ BK255 hg); have n17_ := A_ (nl_ BK256 hg); have n18_ := A_ (ng_ BK256 hg); have n19_ := A_ (nl_ BK257 hg); have n20_ := A_ (ng_ BK257 hg); have n21_ := A_ (nl_ BK265 hg); have n22_ := A_ (ng_ BK265 hg); have n23_ := A_ (nl_ BK274 hg); have n24_ := A_ (ng_ BK274 hg); have n25_ := A_ (nl_ BK283 hg); have n26_ := A_ (ng_ BK283 hg); replace HO268 := n0_; replace HO272 := n1_; replace HO277 := n2_; replace HO281 := n3_; replace HO286 := n4_; replace BK255 := n5_; replace BK256 := n6_; replace BK257 := n7_; replace BK265 := n8_; replace BK274 := n9_; replace BK283 := n10_; replace HB := n11_; have BK288 := n12_; have GW288 := n13_; have GE288 := n14_; have NB255_288 := n15_; have NB288_255 := n16_; have NB256_288 := n17_; have NB288_256 := n18_; have NB257_288 := n19_; have NB288_257 := n20_; have NB265_288 := n21_; have NB288_265 := n22_; have NB274_288 := n23_; have NB288_274 := n24_; have NB283_288 := n25_; have NB288_283 := n26_; clear n0_ n1_ n2_ n3_ n4_ n5_ n6_ n7_ n8_ n9_ n10_ n11_ n12_ n13_ n14_ n15_ n16_ n17_ n18_ n19_ n20_ n21_ n22_ n23_ n24_ n25_ n26_; clear hb hbox hg; obtain ⟨Ao119, co119, eo119⟩ := Kd.N_slice HO286.out; subst eo119; have hnb120 := NB288_255.out; have hnc120 := NB255_288.out; have hnb121 := NB288_256.out; have hnc121 := NB256_288.out; have hnb122 := NB288_257.out; have hnc122 := NB257_288.out; have hnb123 := NB288_265.out; have hnc123 := NB265_288.out; have hnb124 := NB288_274.out; have hnc124 := NB274_288.out; have hnb125 := NB288_283.out; have hnc125 := NB283_288.out; have hcz126_0 : w118.cell? ⟨gb288, 0, none⟩ = some (.slice none 0 0) := e_ BK288 0; have hcz126_1 : w118.cell? ⟨gb288, 1, none⟩ = some (.int .i64 0) := e_ BK288 1; have hfz126_0 := blk_frozen BK288.out 0; have hfz126_1 := blk_frozen BK288.out 1))
         go_loopg [12] k2 (fun kq v12 w' => ∃ (x12_3 : Int), v12 = .int .i64 x12_3 ∧ Aside0 (hopperlaw11_ShardOrder.l1 kq x12_3 l0_0 a0_1 a1_0 a1_1 l1_2 a2_0 a2_1 l2_2 t270 t273 t279 t282 t284 t287 = some r) ∧ Aside0 (kq ≤ k2) ∧ Aside0 (Kd.N k46 46 w' w.heap.size (fun k_ => some k_ ≠ ((.slice Ao104 t279.length co104) : Value).ownBlock ∧ some k_ ≠ ((.slice Ao119 t284.length co119) : Value).ownBlock ∧ k_ ≠ gb255 ∧ k_ ≠ gb256 ∧ k_ ≠ gb257 ∧ k_ ≠ gb265 ∧ k_ ≠ gb274 ∧ k_ ≠ gb283 ∧ k_ ≠ gb288) (.slice Ao94 t270.length co94) t270) ∧ Aside0 (Kd.N k46 46 w' w.heap.size (fun k_ => some k_ ≠ ((.slice Ao94 t270.length co94) : Value).ownBlock ∧ some k_ ≠ ((.slice Ao119 t284.length co119) : Value).ownBlock ∧ k_ ≠ gb255 ∧ k_ ≠ gb256 ∧ k_ ≠ gb257 ∧ k_ ≠ gb265 ∧ k_ ≠ gb274 ∧ k_ ≠ gb283 ∧ k_ ≠ gb288) (.slice Ao104 t279.length co104) t279) ∧ Aside0 (Kd.N k46 46 w' w.heap.size (fun k_ => some k_ ≠ ((.slice Ao104 t279.length co104) : Value).ownBlock ∧ k_ ≠ gb255 ∧ k_ ≠ gb256 ∧ k_ ≠ gb257 ∧ k_ ≠ gb265 ∧ k_ ≠ gb274 ∧ k_ ≠ gb283 ∧ k_ ≠ gb288) (.slice Ao119 t284.length co119) t284) ∧ Aside0 (w'.heap[gb255]? = some (.cells #[(.slice A0_0 l0_0.length c0_0), .int .i64 a0_1] 26 (0, 0))) ∧ Aside0 (w'.heap[gb256]? = some (.cells #[.int .i64 a1_0, .int .i64 a1_1, (.slice A1_2 l1_2.length c1_2)] 46 (0, 0))) ∧ Aside0 (w'.heap[gb257]? = some (.cells #[.int .i64 a2_0, .int .i64 a2_1, (.slice A2_2 l2_2.length c2_2)] 46 (0, 0))) ∧ Aside0 (w'.heap[gb265]? = some (.cells #[(.slice A0_0 l0_0.length c0_0), .int .i64 a0_1] 48 (0, 0))) ∧ Aside0 (w'.heap[gb274]? = some (.cells #[(.slice Ao94 t270.length co94), .int .i64 t273] 48 (0, 0))) ∧ Aside0 (w'.heap[gb283]? = some (.cells #[(.slice Ao104 t279.length co104), .int .i64 t282] 48 (0, 0))) ∧ Aside0 (w'.heap[gb288]? = some (.cells #[(.slice Ao119 t284.length co119), .int .i64 t287] 48 (0, 0))) ∧ Aside0 (Below w.heap.size w w'))
         case atStart => exact ⟨(0), (by first | rfl | (simp; done) | (simp [*]; done)), H', ⟨Nat.le_refl _⟩, ⟨by (with_reducible repeat (first | apply Kd.N_alloc | apply Kd.N_drewN | apply Kd.N_drew)); exact Kd.N_mono (Kd.N_far (p := ⟨gb288, 1, none⟩) (Kd.N_far (p := ⟨gb288, 0, none⟩) (Kd.N_mono HO272.out (fun k_ hk => (⟨hk, hk.2⟩ : _ ∧ k_ ≠ gb288))) (fun _ hk => hk.2) (.slice Ao119 t284.length co119)) (fun _ hk => hk.2) (.int .i64 t287)) (fun _ hk => ⟨hk.1.1.1.2.1, ⟨hk.1.1.2, ⟨hk.1.1.1.2.2.1, ⟨hk.1.1.1.2.2.2.1, ⟨hk.1.1.1.2.2.2.2.1, ⟨hk.1.1.1.2.2.2.2.2.1, ⟨hk.1.1.1.2.2.2.2.2.2.1, ⟨hk.1.1.1.2.2.2.2.2.2.2, hk.1.2⟩⟩⟩⟩⟩⟩⟩⟩)⟩, ⟨by (with_reducible repeat (first | apply Kd.N_alloc | apply Kd.N_drewN | apply Kd.N_drew)); exact Kd.N_mono (Kd.N_far (p := ⟨gb288, 1, none⟩) (Kd.N_far (p := ⟨gb288, 0, none⟩) (Kd.N_mono HO281.out (fun k_ hk => (⟨hk, hk.2⟩ : _ ∧ k_ ≠ gb288))) (fun _ hk => hk.2) (.slice Ao119 t284.length co119)) (fun _ hk => hk.2) (.int .i64 t287)) (fun _ hk => ⟨hk.1.1.1.2.1, ⟨hk.1.1.2, ⟨hk.1.1.1.2.2.1, ⟨hk.1.1.1.2.2.2.1, ⟨hk.1.1.1.2.2.2.2.1, ⟨hk.1.1.1.2.2.2.2.2.1, ⟨hk.1.1.1.2.2.2.2.2.2.1, ⟨hk.1.1.1.2.2.2.2.2.2.2, hk.1.2⟩⟩⟩⟩⟩⟩⟩⟩)⟩, ⟨by (with_reducible repeat (first | apply Kd.N_alloc | apply Kd.N_drewN | apply Kd.N_drew)); exact Kd.N_mono (Kd.N_far (p := ⟨gb288, 1, none⟩) (Kd.N_far (p := ⟨gb288, 0, none⟩) (Kd.N_mono HO286.out (fun k_ hk => (⟨hk, hk.2⟩ : _ ∧ k_ ≠ gb288))) (fun _ hk => hk.2) (.slice Ao119 t284.length co119)) (fun _ hk => hk.2) (.int .i64 t287)) (fun _ hk => ⟨hk.1.1.2.1, ⟨hk.1.1.2.2.1, ⟨hk.1.1.2.2.2.1, ⟨hk.1.1.2.2.2.2.1, ⟨hk.1.1.2.2.2.2.2.1, ⟨hk.1.1.2.2.2.2.2.2.1, ⟨hk.1.1.2.2.2.2.2.2.2, hk.1.2⟩⟩⟩⟩⟩⟩⟩)⟩, ⟨bk_⟩, ⟨bk_⟩, ⟨bk_⟩, ⟨bk_⟩, ⟨bk_⟩, ⟨bk_⟩, ⟨by (with_reducible repeat (first | refine bn_ ?_ _ | refine bd_ ?_ | refine ba_ ?_ _)); refine blk_put (cs := #[.slice Ao119 t284.length co119, .int .i64 0]) ?_ 1 _ rfl; (with_reducible repeat (first | refine bn_ ?_ _ | refine bd_ ?_ | refine ba_ ?_ _)); refine blk_put (cs := #[.slice none 0 0, .int .i64 0]) ?_ 0 _ rfl; (with_reducible repeat (first | refine bn_ ?_ _ | refine bd_ ?_ | refine ba_ ?_ _)); exact BK288.out⟩, ⟨by repeat (first | (with_reducible first | exact HB.out | apply wa_ | apply wn_ | apply wd_ | refine ws_ ?_ GE255.out | refine ws_ ?_ GE256.out | refine ws_ ?_ GE257.out | refine ws_ ?_ GE265.out | refine ws_ ?_ GE274.out | refine ws_ ?_ GE283.out | refine ws_ ?_ GE288.out) | exact HB.out)⟩⟩
         case round =>
          clear H'; (try clear c1); (try clear c2); (try clear p2); (try clear c10); (try clear c11); (try clear c12); (try clear c21); (try clear c108); (try clear c109); (try clear c110); (try clear c111); (try clear c112); (try clear c114); (try clear c115); (try clear c120); (try clear c121); (try clear c122); (try clear c123); (try clear c124); (try clear c125); (try clear hcz113_0 hcz113_1); (try clear hcz116_0 hcz116_1 hcz116_2); (try clear hcz126_0 hcz126_1); (try clear hfz113_0 hfz113_1); (try clear hfz116_0 hfz116_1 hfz116_2); (try clear hfz126_0 hfz126_1)
          obtain ⟨x12_3, rfl, HA, HK3, HO_275000, HO_284000, HO_289000, BK255, BK256, BK257, BK265, BK274, BK283, BK288, HB⟩ := hrel
          cases gk with
          | zero => exact absurd HA.out (by simp [hopperlaw11_ShardOrder.l1])
          | succ k3 =>
           have H := HA.out
           clear HA
           simp only [hopperlaw11_ShardOrder.l1] at H
           by_cases c127 : x12_3 < (t284.length : Int)
           · rw [if_pos c127] at H
             have c127b0 : decide (x12_3 < (t284.length : Int)) = true := decide_eq_true c127
             clear c127
             by_cases c128 : 0 ≤ x12_3
             rotate_left
             · rw [if_neg c128] at H
               exact absurd H (by simp)
             rw [if_pos c128] at H
             have c128b0 : decide (0 ≤ x12_3) = true := decide_eq_true c128
             clear c128
             by_cases c129 : ((rd_T46 t284 x12_3).f0) = a1_0
             · rw [if_pos c129] at H
               exact absurd H (by simp)
             rw [if_neg c129] at H
             have c129b0 : (((rd_T46 t284 x12_3).f0) == a1_0) = false := beq_eq_false_iff_ne.mpr c129
             have c129b1 : (((rd_T46 t284 x12_3).f0) != a1_0) = true := bne_iff_ne.mpr c129
             have H' := A_ H
             clear H; have hnb130 := NB288_255.out; have hnc130 := NB255_288.out; have hnb131 := NB288_256.out; have hnc131 := NB256_288.out; have hnb132 := NB288_257.out; have hnc132 := NB257_288.out; have hnb133 := NB288_265.out; have hnc133 := NB265_288.out; have hnb134 := NB288_274.out; have hnc134 := NB274_288.out; have hnb135 := NB288_283.out; have hnc135 := NB283_288.out; have hcz136_0 : wr.cell? ⟨gb288, 0, none⟩ = some (.slice Ao119 t284.length co119) := e_ BK288 0; have hcz136_1 : wr.cell? ⟨gb288, 1, none⟩ = some (.int .i64 t287) := e_ BK288 1; have hfz136_0 := blk_frozen BK288.out 0; have hfz136_1 := blk_frozen BK288.out 1
             try go_wp2
             have n0_ := A_ (Kd.N_drew HO_275000.out); have n1_ := A_ (Kd.N_drew HO_284000.out); have n2_ := A_ (Kd.N_drew HO_289000.out); have n3_ := A_ (bd_ BK255.out); have n4_ := A_ (bd_ BK256.out); have n5_ := A_ (bd_ BK257.out); have n6_ := A_ (bd_ BK265.out); have n7_ := A_ (bd_ BK274.out); have n8_ := A_ (bd_ BK283.out); have n9_ := A_ (bd_ BK288.out); have n10_ := A_ (wd_ HB.out); replace HO_275000 := n0_; replace HO_284000 := n1_; replace HO_289000 := n2_; replace BK255 := n3_; replace BK256 := n4_; replace BK257 := n5_; replace BK265 := n6_; replace BK274 := n7_; replace BK283 := n8_; replace BK288 := n9_; replace HB := n10_; clear n0_ n1_ n2_ n3_ n4_ n5_ n6_ n7_ n8_ n9_ n10_
             have p289 : 0 ≤ (x12_3 : Int) := of_decide_eq_true (by first | (with_reducible assumption) | assumption)
             have q289 : x12_3 < (t284.length : Int) := of_decide_eq_true (by first | (with_reducible assumption) | assumption)
             obtain ⟨ad289, A289_2, c289_2, e289, hx289_0, hx289_1, hx289_2, hl289_2, hi289_2⟩ := at_T46 (Kd.N_reads' HO_289000.out).2.2 x12_3 p289 q289
             cases e289
             obtain ⟨ce289, hce289, hMe289, hcc289⟩ := Kd.N_get HO_289000.out z46 x12_3 p289 (by first | exact q289 | exact of_decide_eq_true (by first | (with_reducible assumption) | assumption) | (have e_ := (Kd.N_reads' HO_289000.out).1; omega))
             obtain ⟨ua289_2, uc289_2, rfl, ul289_2, ge289_2⟩ := k46_openF hMe289
             have hv289_2 := hcc289 2 _ rfl
             rw [add_field _ _ 2 (by omega)] at hv289_2
             replace hv289_2 := Option.some.inj (hv289_2.symm.trans hx289_2)
             injection hv289_2 with hva_ hvn_ hvc_
             rw [hva_] at ge289_2
             rw [hvc_] at ul289_2
             have HL289_2 := A_ (show Kd.V k32 32 _ w.heap.size _ _ ((rd_T46 t284 x12_3).f2) from Kd.V_mk ul289_2 ge289_2)
             clear hva_ hvn_ hvc_ ge289_2 ul289_2; clear hcc289 hce289
             have HR289_2 := A_ hi289_2
             have HC289_2 := A_ hl289_2
             clear hi289_2 hl289_2
             replace p289 := eq_true p289
             replace q289 := eq_true q289
             refine start_ (n := 9) (S := fun w' => w'.cell? ⟨gb288, 0, none⟩ = some (.slice (some ad289) t284.length co119) ∧ w'.cell? ⟨gb288, 1, none⟩ = some (.int .i64 t287) ∧ w'.cell? ⟨gb256, 0, none⟩ = some (.int .i64 a1_0) ∧ w'.cell? ⟨gb256, 1, none⟩ = some (.int .i64 a1_1) ∧ w'.cell? ⟨gb256, 2, none⟩ = some (.slice A1_2 l1_2.length c1_2) ∧ w'.cell? (ad289.add ((x12_3).toNat * 3)) = some (.int .i64 ((rd_T46 t284 x12_3).f0)) ∧ w'.cell? ⟨(ad289.add ((x12_3).toNat * 3)).block, (ad289.add ((x12_3).toNat * 3)).off + 1, none⟩ = some (.int .i64 ((rd_T46 t284 x12_3).f1)) ∧ w'.cell? ⟨(ad289.add ((x12_3).toNat * 3)).block, (ad289.add ((x12_3).toNat * 3)).off + 2, none⟩ = some (.slice A289_2 ((rd_T46 t284 x12_3).f2).length c289_2)) (ds := []) #[false, false, false, false, false, false, false, false, false] (by kernel_rfl) rfl rfl ⟨e_ BK288 0, e_ BK288 1, e_ BK256 0, e_ BK256 1, e_ BK256 2, hx289_0, hx289_1, hx289_2⟩ (fun hHeld => ?_); refine with_tabW hopperlaw11_ShardOrder.tab15 hopperlaw11_ShardOrder.bits15 (fun HT_ HW_ => ?_)
             generalize wr.drew = w137 at HO_275000 HO_284000 HO_289000 BK255 BK256 BK257 BK265 BK274 BK283 BK288 HB HL289_2 HR289_2 hx289_0 hx289_1 hx289_2 hHeld ⊢
             refine pq_ 0 83 HT_ ?_
             refine pq_ 2 85 HT_ ?_
             refine pq_ 6 89 HT_ ?_
             refine tk_ 1 84 HT_ HW_ hHeld ?_
             refine pq_ 3 86 HT_ ?_
             refine pq_ 4 87 HT_ ?_
             refine tk_ 5 88 HT_ HW_ hHeld ?_
             refine tk_ 7 90 HT_ HW_ hHeld ?_
             refine pq_ 8 91 HT_ ?_
             refine done_ (done_of HT_.out (by kernel_rfl)) ?_
             try go_wp2
             go_roundg k3
             case measure => have := HJ3.out; have := HK2.out; have := HK3.out; omega
             case rel => exact ⟨(wrap64 (x12_3 + 1)), (by first | rfl | (simp; done) | (simp [*]; done)), H', ⟨by have := HJ3.out; have := HK2.out; have := HK3.out; omega⟩, ⟨by (with_reducible repeat (first | apply Kd.N_alloc | apply Kd.N_drewN | apply Kd.N_drew)); exact HO_275000.out⟩, ⟨by (with_reducible repeat (first | apply Kd.N_alloc | apply Kd.N_drewN | apply Kd.N_drew)); exact HO_284000.out⟩, ⟨by (with_reducible repeat (first | apply Kd.N_alloc | apply Kd.N_drewN | apply Kd.N_drew)); exact HO_289000.out⟩, ⟨bk_⟩, ⟨bk_⟩, ⟨bk_⟩, ⟨bk_⟩, ⟨bk_⟩, ⟨bk_⟩, ⟨bk_⟩, ⟨by repeat (first | (with_reducible first | exact HB.out | apply wa_ | apply wn_ | apply wd_ | refine ws_ ?_ GE255.out | refine ws_ ?_ GE256.out | refine ws_ ?_ GE257.out | refine ws_ ?_ GE265.out | refine ws_ ?_ GE274.out | refine ws_ ?_ GE283.out | refine ws_ ?_ GE288.out) | exact HB.out)⟩⟩
           · rw [if_neg c127] at H
             have c127b0 : decide (x12_3 < (t284.length : Int)) = false := decide_eq_false c127
             clear c127
             by_cases c138 : a1_0 = a2_0
             · rw [if_pos c138] at H
               have c138b0 : (a1_0 == a2_0) = true := beq_iff_eq.mpr c138
               have c138b1 : (a1_0 != a2_0) = false := bne_eq_false_iff_eq.mpr c138
               clear c138
               by_cases c139 : t273 = (wrap64 (a0_1 + 2))
               rotate_left
               · rw [if_neg c139] at H
                 exact absurd H (by simp)
               rw [if_pos c139] at H
               have c139b0 : (t273 == (wrap64 (a0_1 + 2))) = true := beq_iff_eq.mpr c139
               have c139b1 : (t273 != (wrap64 (a0_1 + 2))) = false := bne_eq_false_iff_eq.mpr c139
               clear c139
               replace H := Option.bind_eq_some_iff.mp H
               obtain ⟨t290, A1400, H⟩ := H
               replace H : (some t290) = some r := H
               have A140 := A_ A1400
               clear A1400
               obtain rfl := Option.some.inj H
               have hnb141 := NB288_255.out; have hnc141 := NB255_288.out; have hnb142 := NB288_256.out; have hnc142 := NB256_288.out; have hnb143 := NB288_257.out; have hnc143 := NB257_288.out; have hnb144 := NB288_265.out; have hnc144 := NB265_288.out; have hnb145 := NB288_274.out; have hnc145 := NB274_288.out; have hnb146 := NB288_283.out; have hnc146 := NB283_288.out; have hcz147_0 : wr.cell? ⟨gb288, 0, none⟩ = some (.slice Ao119 t284.length co119) := e_ BK288 0; have hcz147_1 : wr.cell? ⟨gb288, 1, none⟩ = some (.int .i64 t287) := e_ BK288 1; have hfz147_0 := blk_frozen BK288.out 0; have hfz147_1 := blk_frozen BK288.out 1; have hnb148 := NB256_255.out; have hnc148 := NB255_256.out; have hnb149 := NB256_257.out; have hnc149 := NB257_256.out; have hnb150 := NB256_265.out; have hnc150 := NB265_256.out; have hnb151 := NB256_274.out; have hnc151 := NB274_256.out; have hnb152 := NB256_283.out; have hnc152 := NB283_256.out; have hcz153_0 : wr.cell? ⟨gb256, 0, none⟩ = some (.int .i64 a1_0) := e_ BK256 0; have hcz153_1 : wr.cell? ⟨gb256, 1, none⟩ = some (.int .i64 a1_1) := e_ BK256 1; have hcz153_2 : wr.cell? ⟨gb256, 2, none⟩ = some (.slice A1_2 l1_2.length c1_2) := e_ BK256 2; obtain ⟨hfz153_0, hfz153_1, hfz153_2⟩ := z3_ BK256; have hnb154 := NB257_255.out; have hnc154 := NB255_257.out; have hnb155 := NB257_265.out; have hnc155 := NB265_257.out; have hnb156 := NB257_274.out; have hnc156 := NB274_257.out; have hnb157 := NB257_283.out; have hnc157 := NB283_257.out; have hcz158_0 : wr.cell? ⟨gb257, 0, none⟩ = some (.int .i64 a2_0) := e_ BK257 0; have hcz158_1 : wr.cell? ⟨gb257, 1, none⟩ = some (.int .i64 a2_1) := e_ BK257 1; have hcz158_2 : wr.cell? ⟨gb257, 2, none⟩ = some (.slice A2_2 l2_2.length c2_2) := e_ BK257 2; obtain ⟨hfz158_0, hfz158_1, hfz158_2⟩ := z3_ BK257; have hnb159 := NB274_255.out; have hnc159 := NB255_274.out; have hnb160 := NB274_265.out; have hnc160 := NB265_274.out; have hnb161 := NB274_283.out; have hnc161 := NB283_274.out; have hcz162_0 : wr.cell? ⟨gb274, 0, none⟩ = some (.slice Ao94 t270.length co94) := e_ BK274 0; have hcz162_1 : wr.cell? ⟨gb274, 1, none⟩ = some (.int .i64 t273) := e_ BK274 1; have hfz162_0 := blk_frozen BK274.out 0; have hfz162_1 := blk_frozen BK274.out 1; have hnb163 := NB255_265.out; have hnc163 := NB265_255.out; have hnb164 := NB255_283.out; have hnc164 := NB283_255.out; have hcz165_0 : wr.cell? ⟨gb255, 0, none⟩ = some (.slice A0_0 l0_0.length c0_0) := e_ BK255 0; have hcz165_1 : wr.cell? ⟨gb255, 1, none⟩ = some (.int .i64 a0_1) := e_ BK255 1; have hfz165_0 := blk_frozen BK255.out 0; have hfz165_1 := blk_frozen BK255.out 1
               go_wp2_with (first | (go_at_call 8; (with_reducible refine (hopperlaw11_live.calls  t290 _ A140.out).mono ?_); rintro e w166 ⟨rfl, hb⟩; replace HO_275000 := A_ (Kd.N_below (by (with_reducible repeat (first | apply Kd.N_alloc | apply Kd.N_drewN | apply Kd.N_drew)); exact HO_275000.out) hb); replace HO_284000 := A_ (Kd.N_below (by (with_reducible repeat (first | apply Kd.N_alloc | apply Kd.N_drewN | apply Kd.N_drew)); exact HO_284000.out) hb); replace HO_289000 := A_ (Kd.N_below (by (with_reducible repeat (first | apply Kd.N_alloc | apply Kd.N_drewN | apply Kd.N_drew)); exact HO_289000.out) hb); replace BK255 := A_ (kb_ BK255 hb); replace BK256 := A_ (kb_ BK256 hb); replace BK257 := A_ (kb_ BK257 hb); replace BK265 := A_ (kb_ BK265 hb); replace BK274 := A_ (kb_ BK274 hb); replace BK283 := A_ (kb_ BK283 hb); replace BK288 := A_ (kb_ BK288 hb); replace HB := A_ (below_step bw_ hb); (try clear hb); (try clear hb2); (try clear hk); (try clear hi)))
               go_ret
               exact ⟨by first | rfl | (simp [errW_none, errW_some] <;> rfl) | (simp [*, errW_none, errW_some] <;> rfl), by repeat (first | (with_reducible first | exact HB.out | apply wa_ | apply wn_ | apply wd_ | refine ws_ ?_ GE255.out | refine ws_ ?_ GE256.out | refine ws_ ?_ GE257.out | refine ws_ ?_ GE265.out | refine ws_ ?_ GE274.out | refine ws_ ?_ GE283.out | refine ws_ ?_ GE288.out) | exact HB.out)⟩
             · rw [if_neg c138] at H
               have c138b0 : (a1_0 == a2_0) = false := beq_eq_false_iff_ne.mpr c138
               have c138b1 : (a1_0 != a2_0) = true := bne_iff_ne.mpr c138
               replace H := Option.bind_eq_some_iff.mp H
               obtain ⟨t291, A1670, H⟩ := H
               try dsimp only at H
               have A167 := A_ A1670
               clear A1670
               by_cases c168 : t291 = true
               rotate_left
               · replace c168 := Bool.eq_false_iff.mpr c168
                 subst c168
                 have H1 : (none) = some r := by rw [if_neg (show ¬ (false = true) by decide)] at H; exact H
                 clear H
                 have H := H1
                 clear H1
                 exact absurd H (by simp)

               subst c168
               have H1 : (if t273 = (wrap64 (a0_1 + 2)) then ((hopperlaw11_live.f).bind fun t292 => (some t292)) else (none)) = some r := by rw [if_pos rfl] at H; exact H
               clear H
               have H := H1
               clear H1
               by_cases c169 : t273 = (wrap64 (a0_1 + 2))
               rotate_left
               · rw [if_neg c169] at H
                 exact absurd H (by simp)
               rw [if_pos c169] at H
               have c169b0 : (t273 == (wrap64 (a0_1 + 2))) = true := beq_iff_eq.mpr c169
               have c169b1 : (t273 != (wrap64 (a0_1 + 2))) = false := bne_eq_false_iff_eq.mpr c169
               clear c169
               replace H := Option.bind_eq_some_iff.mp H
               obtain ⟨t292, A1700, H⟩ := H
               replace H : (some t292) = some r := H
               have A170 := A_ A1700
               clear A1700
               obtain rfl := Option.some.inj H
               have hnb171 := NB288_255.out; have hnc171 := NB255_288.out; have hnb172 := NB288_256.out; have hnc172 := NB256_288.out; have hnb173 := NB288_257.out; have hnc173 := NB257_288.out; have hnb174 := NB288_265.out; have hnc174 := NB265_288.out; have hnb175 := NB288_274.out; have hnc175 := NB274_288.out; have hnb176 := NB288_283.out; have hnc176 := NB283_288.out; have hcz177_0 : wr.cell? ⟨gb288, 0, none⟩ = some (.slice Ao119 t284.length co119) := e_ BK288 0; have hcz177_1 : wr.cell? ⟨gb288, 1, none⟩ = some (.int .i64 t287) := e_ BK288 1; have hfz177_0 := blk_frozen BK288.out 0; have hfz177_1 := blk_frozen BK288.out 1; have hnb178 := NB256_255.out; have hnc178 := NB255_256.out; have hnb179 := NB256_257.out; have hnc179 := NB257_256.out; have hnb180 := NB256_265.out; have hnc180 := NB265_256.out; have hnb181 := NB256_274.out; have hnc181 := NB274_256.out; have hnb182 := NB256_283.out; have hnc182 := NB283_256.out; have hcz183_0 : wr.cell? ⟨gb256, 0, none⟩ = some (.int .i64 a1_0) := e_ BK256 0; have hcz183_1 : wr.cell? ⟨gb256, 1, none⟩ = some (.int .i64 a1_1) := e_ BK256 1; have hcz183_2 : wr.cell? ⟨gb256, 2, none⟩ = some (.slice A1_2 l1_2.length c1_2) := e_ BK256 2; obtain ⟨hfz183_0, hfz183_1, hfz183_2⟩ := z3_ BK256; have hnb184 := NB257_255.out; have hnc184 := NB255_257.out; have hnb185 := NB257_265.out; have hnc185 := NB265_257.out; have hnb186 := NB257_274.out; have hnc186 := NB274_257.out; have hnb187 := NB257_283.out; have hnc187 := NB283_257.out; have hcz188_0 : wr.cell? ⟨gb257, 0, none⟩ = some (.int .i64 a2_0) := e_ BK257 0; have hcz188_1 : wr.cell? ⟨gb257, 1, none⟩ = some (.int .i64 a2_1) := e_ BK257 1; have hcz188_2 : wr.cell? ⟨gb257, 2, none⟩ = some (.slice A2_2 l2_2.length c2_2) := e_ BK257 2; obtain ⟨hfz188_0, hfz188_1, hfz188_2⟩ := z3_ BK257; have hnb189 := NB274_255.out; have hnc189 := NB255_274.out; have hnb190 := NB274_265.out; have hnc190 := NB265_274.out; have hnb191 := NB274_283.out; have hnc191 := NB283_274.out; have hcz192_0 : wr.cell? ⟨gb274, 0, none⟩ = some (.slice Ao94 t270.length co94) := e_ BK274 0; have hcz192_1 : wr.cell? ⟨gb274, 1, none⟩ = some (.int .i64 t273) := e_ BK274 1; have hfz192_0 := blk_frozen BK274.out 0; have hfz192_1 := blk_frozen BK274.out 1; have hnb193 := NB283_255.out; have hnc193 := NB255_283.out; have hnb194 := NB283_265.out; have hnc194 := NB265_283.out; have hcz195_0 : wr.cell? ⟨gb283, 0, none⟩ = some (.slice Ao104 t279.length co104) := e_ BK283 0; have hcz195_1 : wr.cell? ⟨gb283, 1, none⟩ = some (.int .i64 t282) := e_ BK283 1; have hfz195_0 := blk_frozen BK283.out 0; have hfz195_1 := blk_frozen BK283.out 1
               go_wp2_with (first | (go_at_call 22; (with_reducible refine (hopperref11_Same.calls k3 _ _ t270 t273 _ _ t279 t282 true _ ?side1 ?side2 ?side3 ?side4 A167.out).mono ?_); (case side1 => repeat (first | exact (Kd.N_reads' HO_275000.out).2.2 | (with_reducible refine ca_ ?_ _) | (with_reducible refine cn_ ?_ _) | (with_reducible refine cd_ ?_))); (case side2 => exact (Kd.N_reads' HO_275000.out).2.1); (case side3 => repeat (first | exact (Kd.N_reads' HO_284000.out).2.2 | (with_reducible refine ca_ ?_ _) | (with_reducible refine cn_ ?_ _) | (with_reducible refine cd_ ?_))); (case side4 => exact (Kd.N_reads' HO_284000.out).2.1); rintro e w196 ⟨rfl, hb⟩; replace HO_275000 := A_ (Kd.N_below (by (with_reducible repeat (first | apply Kd.N_alloc | apply Kd.N_drewN | apply Kd.N_drew)); exact HO_275000.out) hb); replace HO_284000 := A_ (Kd.N_below (by (with_reducible repeat (first | apply Kd.N_alloc | apply Kd.N_drewN | apply Kd.N_drew)); exact HO_284000.out) hb); replace HO_289000 := A_ (Kd.N_below (by (with_reducible repeat (first | apply Kd.N_alloc | apply Kd.N_drewN | apply Kd.N_drew)); exact HO_289000.out) hb); replace BK255 := A_ (kb_ BK255 hb); replace BK256 := A_ (kb_ BK256 hb); replace BK257 := A_ (kb_ BK257 hb); replace BK265 := A_ (kb_ BK265 hb); replace BK274 := A_ (kb_ BK274 hb); replace BK283 := A_ (kb_ BK283 hb); replace BK288 := A_ (kb_ BK288 hb); replace HB := A_ (below_step bw_ hb); (try clear hb); (try clear hb2); (try clear hk); (try clear hi); have hcz197_0 : w196.cell? ⟨gb274, 0, none⟩ = some (.slice Ao94 t270.length co94) := e_ BK274 0; have hcz197_1 : w196.cell? ⟨gb274, 1, none⟩ = some (.int .i64 t273) := e_ BK274 1; have hfz197_0 := blk_frozen BK274.out 0; have hfz197_1 := blk_frozen BK274.out 1; have hnb198 := NB255_265.out; have hnc198 := NB265_255.out; have hcz199_0 : w196.cell? ⟨gb255, 0, none⟩ = some (.slice A0_0 l0_0.length c0_0) := e_ BK255 0; have hcz199_1 : w196.cell? ⟨gb255, 1, none⟩ = some (.int .i64 a0_1) := e_ BK255 1; have hfz199_0 := blk_frozen BK255.out 0; have hfz199_1 := blk_frozen BK255.out 1) | (go_at_call 8; (with_reducible refine (hopperlaw11_live.calls  t292 _ A170.out).mono ?_); rintro e w200 ⟨rfl, hb⟩; replace HO_275000 := A_ (Kd.N_below (by (with_reducible repeat (first | apply Kd.N_alloc | apply Kd.N_drewN | apply Kd.N_drew)); exact HO_275000.out) hb); replace HO_284000 := A_ (Kd.N_below (by (with_reducible repeat (first | apply Kd.N_alloc | apply Kd.N_drewN | apply Kd.N_drew)); exact HO_284000.out) hb); replace HO_289000 := A_ (Kd.N_below (by (with_reducible repeat (first | apply Kd.N_alloc | apply Kd.N_drewN | apply Kd.N_drew)); exact HO_289000.out) hb); replace BK255 := A_ (kb_ BK255 hb); replace BK256 := A_ (kb_ BK256 hb); replace BK257 := A_ (kb_ BK257 hb); replace BK265 := A_ (kb_ BK265 hb); replace BK274 := A_ (kb_ BK274 hb); replace BK283 := A_ (kb_ BK283 hb); replace BK288 := A_ (kb_ BK288 hb); replace HB := A_ (below_step bw_ hb); (try clear hb); (try clear hb2); (try clear hk); (try clear hi)))
               go_ret
               exact ⟨by first | rfl | (simp [errW_none, errW_some] <;> rfl) | (simp [*, errW_none, errW_some] <;> rfl), by repeat (first | (with_reducible first | exact HB.out | apply wa_ | apply wn_ | apply wd_ | refine ws_ ?_ GE255.out | refine ws_ ?_ GE256.out | refine ws_ ?_ GE257.out | refine ws_ ?_ GE265.out | refine ws_ ?_ GE274.out | refine ws_ ?_ GE283.out | refine ws_ ?_ GE288.out) | exact HB.out)⟩
open Go.Proofs.Ytnjnogkhbadioaa.Row (okI okB okS okL) in
/-- THE ONE PURE STATEMENT of hopperlaw11_ShardOrder. -/
def hopperlaw11_ShardOrder.Pure : Prop := ∀ (l0_0 : List (S46)) (a0_1 : Int) (a1_0 : Int) (a1_1 : Int) (l1_2 : List (S32)) (a2_0 : Int) (a2_1 : Int) (l2_2 : List (S32)), ok26 (⟨l0_0, a0_1⟩ : S26) → ok46 (⟨a1_0, a1_1, l1_2⟩ : S46) → ok46 (⟨a2_0, a2_1, l2_2⟩ : S46) → ∃ k, hopperlaw11_ShardOrder.f k l0_0 a0_1 a1_0 a1_1 l1_2 a2_0 a2_1 l2_2 = some true

end Go.Proofs.Ytnjnogkhbadioaa.D
