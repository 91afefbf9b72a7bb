/- Written by this session's own program over the kit's print: functions of Go told as plain functions, or the row of one statement; proved for every input, with no condition of ours. -/
import Derived.Test.YtehncbhmdgdkjaaQx0
import Derived.Test.YtehncbhmdgdkjaaQx2
import Derived.Test.YtehncbhmdgdkjaaQx4
import Derived.Test.YtehncbhmdgdkjaaQx7
import Derived.Test.YtehncbhmdgdkjaaQx8
import Derived.Test.YtehncbhmdgdkjaaQx9
import Derived.Test.YtehncbhmdgdkjaaQx10
import Derived.Test.YtehncbhmdgdkjaaQx13
import Derived.Test.YtehncbhmdgdkjaaQx14
namespace Go.Proofs.Ytehncbhmdgdkjaa.Q
open Go.RowKit Go.Proofs.YtehncbhmdgdkjaaW.PrintWords Go.Proofs.YtehncbhmdgdkjaaW.PrintLast Go.Proofs.YtehncbhmdgdkjaaW.PrintMore
attribute [local go_sem] max2_int min2_int max_two min_two max_three min_three max_four min_four   -- for this text's walks alone
set_option linter.unusedVariables false
set_option linter.unusedSimpArgs false

/-! ### hopperlaw05_QueueChanges: function 11 -/
mutual
def hopperlaw05_QueueChanges.j0 : Nat → Bool → Int → Int → List (S24) → Int → Int → Int → Int → Int → ByteArray → Int → Int → Int → Option (Bool)
 | 0, _, _, _, _, _, _, _, _, _, _, _, _, _ => none
 | k + 1, x24, x459000, x459001, x459002, x460000, x460001, x460002, x460003, x460004, x460005, x461000, x461001, x461002 => if x24 = true then ((hopperlaw05_live.f k).bind fun t463 => (some t463)) else ((queue_Place.f k x459000 x459001 x459002 x460000 x460001 x460002 x460003 x460004 x460005 x461000 x461001).bind fun bt464 => ((hopperref05_Place.f k x459000 x459001 x459002 x460000 x460001 x460002 x460003 x460004 x460005 x461000 x461001).bind fun bt466 => ((queue_Advance.f k x459000 x459001 x459002 x461002).bind fun bt468 => ((hopperref05_Advance.f k x459000 x459001 x459002 x461002).bind fun bt478 => (if bt464.1 = bt466.1 then (if bt464.2 = bt466.2 then ((hopperref05_Same.f k bt468.1 bt468.2.1 bt468.2.2.1 bt478.1 bt478.2.1 bt478.2.2.1).bind fun t488 => (if t488 = true then ((hopperref04_Txs.f k bt468.2.2.2.1 bt478.2.2.2.1).bind fun t489 => (if t489 = true then (hopperlaw05_QueueChanges.j1 k (bt468.2.2.2.2 != bt478.2.2.2.2) x459000 x459001 x459002 x460000 x460001 x460002 x460003 x460004 x460005 x461000 x461001 x461002) else (none))) else (none))) else (none)) else (none))))))
def hopperlaw05_QueueChanges.j1 : Nat → Bool → Int → Int → List (S24) → Int → Int → Int → Int → Int → ByteArray → Int → Int → Int → Option (Bool)
 | 0, _, _, _, _, _, _, _, _, _, _, _, _, _ => none
 | k + 1, x86, x459000, x459001, x459002, x460000, x460001, x460002, x460003, x460004, x460005, x461000, x461001, x461002 => if x86 = true then (none) else ((queue_Put.f x459000 x459001 x459002 x460000 x460001 x460002 x460003 x460004 x460005).bind fun bt490 => ((hopperref05_Put.f k x459000 x459001 x459002 x460000 x460001 x460002 x460003 x460004 x460005).bind fun bt495 => ((hopperref05_Same.f k bt490.1 bt490.2.1 bt490.2.2 bt495.1 bt495.2.1 bt495.2.2).bind fun t500 => (if t500 = true then ((queue_Drop.f x459000 x459001 x459002 x461002).bind fun bt501 => ((hopperref05_Drop.f k x459000 x459001 x459002 x461002).bind fun bt506 => ((hopperref05_Same.f k bt501.1 bt501.2.1 bt501.2.2 bt506.1 bt506.2.1 bt506.2.2).bind fun t511 => (if t511 = true then ((hopperlaw05_live.f k).bind fun t512 => (some t512)) else (none))))) else (none)))))
end
def hopperlaw05_QueueChanges.f (k : Nat) (a0_0 : Int) (a0_1 : Int) (l0_2 : List (S24)) (a1_0 : Int) (a1_1 : Int) (a1_2 : Int) (a1_3 : Int) (a1_4 : Int) (a1_5 : ByteArray) (a2_0 : Int) (a2_1 : Int) (a2_2 : Int) : Option (Bool) := (hopperref05_Small.f k a0_0 a0_1 l0_2).bind fun t461 => (if t461 = true then ((hopperref04_Small.f a1_0 a1_1 a1_2 a1_3 a1_4 a1_5).bind fun t462 => (hopperlaw05_QueueChanges.j0 k (!t462) a0_0 a0_1 l0_2 a1_0 a1_1 a1_2 a1_3 a1_4 a1_5 a2_0 a2_1 a2_2)) else (hopperlaw05_QueueChanges.j0 k true a0_0 a0_1 l0_2 a1_0 a1_1 a1_2 a1_3 a1_4 a1_5 a2_0 a2_1 a2_2))
theorem hopperlaw05_QueueChanges.mono_l : ∀ k, (∀ y0 y1 y2 y3 y4 y5 y6 y7 y8 y9 y10 y11 y12, LeO (hopperlaw05_QueueChanges.j0 k y0 y1 y2 y3 y4 y5 y6 y7 y8 y9 y10 y11 y12) (hopperlaw05_QueueChanges.j0 (k + 1) y0 y1 y2 y3 y4 y5 y6 y7 y8 y9 y10 y11 y12)) ∧ (∀ y0 y1 y2 y3 y4 y5 y6 y7 y8 y9 y10 y11 y12, LeO (hopperlaw05_QueueChanges.j1 k y0 y1 y2 y3 y4 y5 y6 y7 y8 y9 y10 y11 y12) (hopperlaw05_QueueChanges.j1 (k + 1) y0 y1 y2 y3 y4 y5 y6 y7 y8 y9 y10 y11 y12))
 | 0 => ⟨fun _ _ _ _ _ _ _ _ _ _ _ _ _ r h => by simp [hopperlaw05_QueueChanges.j0] at h, fun _ _ _ _ _ _ _ _ _ _ _ _ _ r h => by simp [hopperlaw05_QueueChanges.j1] at h⟩
 | k + 1 => by
  obtain ⟨ih0, ih1⟩ := hopperlaw05_QueueChanges.mono_l k
  refine ⟨?_, ?_⟩
  · intro y0 y1 y2 y3 y4 y5 y6 y7 y8 y9 y10 y11 y12
    unfold hopperlaw05_QueueChanges.j0
    repeat' first
    | (with_reducible exact ih0 _ _ _ _ _ _ _ _ _ _ _ _ _)
    | (with_reducible exact ih1 _ _ _ _ _ _ _ _ _ _ _ _ _)
    | (with_reducible exact hopperlaw05_live.mono _)
    | (with_reducible exact hopperref04_Txs.mono _ _ _)
    | (with_reducible exact hopperref05_Advance.mono _ _ _ _ _)
    | (with_reducible exact hopperref05_Drop.mono _ _ _ _ _)
    | (with_reducible exact hopperref05_Place.mono _ _ _ _ _ _ _ _ _ _ _ _)
    | (with_reducible exact hopperref05_Put.mono _ _ _ _ _ _ _ _ _ _)
    | (with_reducible exact hopperref05_Same.mono _ _ _ _ _ _ _)
    | (with_reducible exact hopperref05_Small.mono _ _ _ _)
    | (with_reducible exact queue_Advance.mono _ _ _ _ _)
    | (with_reducible exact queue_Place.mono _ _ _ _ _ _ _ _ _ _ _ _)
    | (with_reducible exact LeO.refl _)
    | (with_reducible exact LeO.none _)
    | (with_reducible refine LeO.ite ?_ ?_)
    | (with_reducible refine LeO.bind ?_ (fun _ => ?_))
    | exact ih0 _ _ _ _ _ _ _ _ _ _ _ _ _
    | exact ih1 _ _ _ _ _ _ _ _ _ _ _ _ _
    | exact hopperlaw05_live.mono _
    | exact hopperref04_Txs.mono _ _ _
    | exact hopperref05_Advance.mono _ _ _ _ _
    | exact hopperref05_Drop.mono _ _ _ _ _
    | exact hopperref05_Place.mono _ _ _ _ _ _ _ _ _ _ _ _
    | exact hopperref05_Put.mono _ _ _ _ _ _ _ _ _ _
    | exact hopperref05_Same.mono _ _ _ _ _ _ _
    | exact hopperref05_Small.mono _ _ _ _
    | exact queue_Advance.mono _ _ _ _ _
    | exact queue_Place.mono _ _ _ _ _ _ _ _ _ _ _ _
    | exact LeO.none _
    | refine LeO.ite ?_ ?_
    | refine LeO.bind ?_ (fun _ => ?_)
  · intro y0 y1 y2 y3 y4 y5 y6 y7 y8 y9 y10 y11 y12
    unfold hopperlaw05_QueueChanges.j1
    repeat' first
    | (with_reducible exact ih0 _ _ _ _ _ _ _ _ _ _ _ _ _)
    | (with_reducible exact ih1 _ _ _ _ _ _ _ _ _ _ _ _ _)
    | (with_reducible exact hopperlaw05_live.mono _)
    | (with_reducible exact hopperref04_Txs.mono _ _ _)
    | (with_reducible exact hopperref05_Advance.mono _ _ _ _ _)
    | (with_reducible exact hopperref05_Drop.mono _ _ _ _ _)
    | (with_reducible exact hopperref05_Place.mono _ _ _ _ _ _ _ _ _ _ _ _)
    | (with_reducible exact hopperref05_Put.mono _ _ _ _ _ _ _ _ _ _)
    | (with_reducible exact hopperref05_Same.mono _ _ _ _ _ _ _)
    | (with_reducible exact hopperref05_Small.mono _ _ _ _)
    | (with_reducible exact queue_Advance.mono _ _ _ _ _)
    | (with_reducible exact queue_Place.mono _ _ _ _ _ _ _ _ _ _ _ _)
    | (with_reducible exact LeO.refl _)
    | (with_reducible exact LeO.none _)
    | (with_reducible refine LeO.ite ?_ ?_)
    | (with_reducible refine LeO.bind ?_ (fun _ => ?_))
    | exact ih0 _ _ _ _ _ _ _ _ _ _ _ _ _
    | exact ih1 _ _ _ _ _ _ _ _ _ _ _ _ _
    | exact hopperlaw05_live.mono _
    | exact hopperref04_Txs.mono _ _ _
    | exact hopperref05_Advance.mono _ _ _ _ _
    | exact hopperref05_Drop.mono _ _ _ _ _
    | exact hopperref05_Place.mono _ _ _ _ _ _ _ _ _ _ _ _
    | exact hopperref05_Put.mono _ _ _ _ _ _ _ _ _ _
    | exact hopperref05_Same.mono _ _ _ _ _ _ _
    | exact hopperref05_Small.mono _ _ _ _
    | exact queue_Advance.mono _ _ _ _ _
    | exact queue_Place.mono _ _ _ _ _ _ _ _ _ _ _ _
    | exact LeO.none _
    | refine LeO.ite ?_ ?_
    | refine LeO.bind ?_ (fun _ => ?_)
theorem hopperlaw05_QueueChanges.mono : ∀ a0 a1 a2 a3 a4 a5 a6 a7 a8 a9 a10 a11 k, LeO (hopperlaw05_QueueChanges.f k a0 a1 a2 a3 a4 a5 a6 a7 a8 a9 a10 a11) (hopperlaw05_QueueChanges.f (k + 1) a0 a1 a2 a3 a4 a5 a6 a7 a8 a9 a10 a11) := by
 intro a0 a1 a2 a3 a4 a5 a6 a7 a8 a9 a10 a11 k
 obtain ⟨ih0, ih1⟩ := hopperlaw05_QueueChanges.mono_l k
 unfold hopperlaw05_QueueChanges.f
 repeat' first
  | (with_reducible exact ih0 _ _ _ _ _ _ _ _ _ _ _ _ _)
  | (with_reducible exact ih1 _ _ _ _ _ _ _ _ _ _ _ _ _)
  | (with_reducible exact hopperlaw05_live.mono _)
  | (with_reducible exact hopperref04_Txs.mono _ _ _)
  | (with_reducible exact hopperref05_Advance.mono _ _ _ _ _)
  | (with_reducible exact hopperref05_Drop.mono _ _ _ _ _)
  | (with_reducible exact hopperref05_Place.mono _ _ _ _ _ _ _ _ _ _ _ _)
  | (with_reducible exact hopperref05_Put.mono _ _ _ _ _ _ _ _ _ _)
  | (with_reducible exact hopperref05_Same.mono _ _ _ _ _ _ _)
  | (with_reducible exact hopperref05_Small.mono _ _ _ _)
  | (with_reducible exact queue_Advance.mono _ _ _ _ _)
  | (with_reducible exact queue_Place.mono _ _ _ _ _ _ _ _ _ _ _ _)
  | (with_reducible exact LeO.refl _)
  | (with_reducible exact LeO.none _)
  | (with_reducible refine LeO.ite ?_ ?_)
  | (with_reducible refine LeO.bind ?_ (fun _ => ?_))
  | exact ih0 _ _ _ _ _ _ _ _ _ _ _ _ _
  | exact ih1 _ _ _ _ _ _ _ _ _ _ _ _ _
  | exact hopperlaw05_live.mono _
  | exact hopperref04_Txs.mono _ _ _
  | exact hopperref05_Advance.mono _ _ _ _ _
  | exact hopperref05_Drop.mono _ _ _ _ _
  | exact hopperref05_Place.mono _ _ _ _ _ _ _ _ _ _ _ _
  | exact hopperref05_Put.mono _ _ _ _ _ _ _ _ _ _
  | exact hopperref05_Same.mono _ _ _ _ _ _ _
  | exact hopperref05_Small.mono _ _ _ _
  | exact queue_Advance.mono _ _ _ _ _
  | exact queue_Place.mono _ _ _ _ _ _ _ _ _ _ _ _
  | exact LeO.none _
  | refine LeO.ite ?_ ?_
  | refine LeO.bind ?_ (fun _ => ?_)
def hopperlaw05_QueueChanges.T9 : Bool × List (List Nat × List Nat) := (true, [([], []), ([], []), ([0, 1], [0, 1]), ([], []), ([], []), ([3, 4, 2], [3, 4]), ([2, 5, 5], [2, 5]), ([6, 6], [6]), ([7], [7]), ([7], [7]), ([9, 7], [7, 9]), ([8, 10, 7, 7], [7, 8, 10]), ([7], [7]), ([7], [7]), ([13, 7], [7, 13]), ([12, 14, 11, 7], [7, 12, 14]), ([11, 15, 15, 7], [7, 11, 15]), ([7, 16], [7, 16]), ([17, 16], [17]), ([18, 18], [18]), ([18, 19], [18, 19]), ([20, 19, 0, 1, 2, 3, 4, 5, 6, 7, 8, 9, 10, 11, 12, 13, 14, 15, 16, 17, 18, 19, 20], [20])])
def hopperlaw05_QueueChanges.B9 : List Nat := [0, 0, 3, 0, 0, 31, 63, 127, 255, 255, 767, 2047, 255, 255, 8447, 32767, 65535, 131071, 262143, 524287, 1048575, 2097151]
theorem hopperlaw05_QueueChanges.tab9 : rtab .any (opsOf Try.f11 9) = hopperlaw05_QueueChanges.T9 := by kernel_rfl
theorem hopperlaw05_QueueChanges.bits9 : waitsOk hopperlaw05_QueueChanges.T9.2 hopperlaw05_QueueChanges.B9 = true := by kernel_rfl
set_option maxHeartbeats 8000000 in
set_option maxRecDepth 100000 in
theorem hopperlaw05_QueueChanges.calls (k : Nat) (a0_0 : Int) (a0_1 : Int) (A0_2 : Option Addr) (c0_2 : Nat) (l0_2 : List (S24)) (a1_0 : Int) (a1_1 : Int) (a1_2 : Int) (a1_3 : Int) (a1_4 : Int) (a1_5 : ByteArray) (a2_0 : Int) (a2_1 : Int) (a2_2 : Int) (r : Bool) (w : World) (hr0_2 : Kd.C k24 w A0_2 l0_2.length l0_2) (hc0_2 : l0_2.length ≤ c0_2) (h : hopperlaw05_QueueChanges.f k a0_0 a0_1 l0_2 a1_0 a1_1 a1_2 a1_3 a1_4 a1_5 a2_0 a2_1 a2_2 = some r) :
 Calls Try.prog 11 #[.agg #[.int .i64 a0_0, .int .i64 a0_1, .slice A0_2 l0_2.length c0_2], .agg #[.int .i64 a1_0, .int .i64 a1_1, .int .i64 a1_2, .int .i64 a1_3, .int .i64 a1_4, .string a1_5], .agg #[.int .i64 a2_0, .int .i64 a2_1, .int .i64 a2_2]] w fun e w' => e = .returned (.bool r) ∧ Below w.heap.size w w' := by
 have hu46 := Try.underlying46
 have hu24 := Try.underlying24
 have hu56 := Try.underlying56
 have HR0_2 := A_ hr0_2
 have HC0_2 := A_ hc0_2
 clear hr0_2 hc0_2; have HB := A_ (Below.refl w.heap.size w)
 have H : ((hopperref05_Small.f k a0_0 a0_1 l0_2).bind fun t461 => (if t461 = true then ((hopperref04_Small.f a1_0 a1_1 a1_2 a1_3 a1_4 a1_5).bind fun t462 => (hopperlaw05_QueueChanges.j0 k (!t462) a0_0 a0_1 l0_2 a1_0 a1_1 a1_2 a1_3 a1_4 a1_5 a2_0 a2_1 a2_2)) else (hopperlaw05_QueueChanges.j0 k true a0_0 a0_1 l0_2 a1_0 a1_1 a1_2 a1_3 a1_4 a1_5 a2_0 a2_1 a2_2))) = some r := h
 clear h
 have HC4 := A_ H
 clear H
 go_enter Try.func11, Try.ntmps11
 go_upto_region 1 with (first | ((with_reducible refine gate_dst (N := 3) rfl ?_); refine box_event ?hg (N := 3) ?hd (cs := #[.int .i64 a0_0, .int .i64 a0_1, .slice A0_2 l0_2.length c0_2]) (t := 46) ?hr ?_; (case hd => rfl); (case hg => rfl); (case hr => first | (go_simp; done) | (go_simp; rfl)); intro gb458 hg w5 hbox hb; have n0_ := A_ (below_step bw_ hb); have n1_ := A_ (hbox); have n2_ := A_ (gz_ (w := w) hg); have n3_ := A_ (gz_ (w := w) hg); replace HB := n0_; have BK458 := n1_; have GW458 := n2_; have GE458 := n3_; clear n0_ n1_ n2_ n3_; clear hb hbox hg) | ((with_reducible refine gate_dst (N := 4) rfl ?_); refine box_event ?hg (N := 4) ?hd (cs := #[.int .i64 a1_0, .int .i64 a1_1, .int .i64 a1_2, .int .i64 a1_3, .int .i64 a1_4, .string a1_5]) (t := 24) ?hr ?_; (case hd => rfl); (case hg => rfl); (case hr => first | (go_simp; done) | (go_simp; rfl)); intro gb459 hg w6 hbox hb; have n0_ := A_ (kb_ BK458 hb); have n1_ := A_ (below_step bw_ hb); have n2_ := A_ (hbox); have n3_ := A_ (gz_ (w := w) hg); have n4_ := A_ (gz_ (w := w) hg); have n5_ := A_ (nl_ BK458 hg); have n6_ := A_ (ng_ BK458 hg); replace BK458 := n0_; replace HB := n1_; have BK459 := n2_; have GW459 := n3_; have GE459 := n4_; have NB458_459 := n5_; have NB459_458 := n6_; clear n0_ n1_ n2_ n3_ n4_ n5_ n6_; clear hb hbox hg) | ((with_reducible refine gate_dst (N := 5) rfl ?_); refine box_event ?hg (N := 5) ?hd (cs := #[.int .i64 a2_0, .int .i64 a2_1, .int .i64 a2_2]) (t := 56) ?hr ?_; (case hd => rfl); (case hg => rfl); (case hr => first | (go_simp; done) | (go_simp; rfl)); intro gb460 hg w7 hbox hb; have n0_ := A_ (kb_ BK458 hb); have n1_ := A_ (kb_ BK459 hb); have n2_ := A_ (below_step bw_ hb); have n3_ := A_ (hbox); have n4_ := A_ (gz_ (w := w) hg); have n5_ := A_ (gz_ (w := w) hg); have n6_ := A_ (nl_ BK458 hg); have n7_ := A_ (ng_ BK458 hg); have n8_ := A_ (nl_ BK459 hg); have n9_ := A_ (ng_ BK459 hg); replace BK458 := n0_; replace BK459 := n1_; replace HB := n2_; have BK460 := n3_; have GW460 := n4_; have GE460 := n5_; have NB458_460 := n6_; have NB460_458 := n7_; have NB459_460 := n8_; have NB460_459 := n9_; clear n0_ n1_ n2_ n3_ n4_ n5_ n6_ n7_ n8_ n9_; clear hb hbox hg))
 (try simp only [Act.put, s0_, s1_, s2_])
 go_cut [24] (fun v24 wc => ∃ (kq : Nat) (x24_3 : Bool), v24 = .bool x24_3 ∧ Aside0 (hopperlaw05_QueueChanges.j0 kq x24_3 a0_0 a0_1 l0_2 a1_0 a1_1 a1_2 a1_3 a1_4 a1_5 a2_0 a2_1 a2_2 = some r) ∧ Aside0 (kq ≤ k) ∧ Aside0 (wc.heap[gb458]? = some (.cells #[.int .i64 a0_0, .int .i64 a0_1, (.slice A0_2 l0_2.length c0_2)] 46 (0, 0))) ∧ Aside0 (wc.heap[gb459]? = some (.cells #[.int .i64 a1_0, .int .i64 a1_1, .int .i64 a1_2, .int .i64 a1_3, .int .i64 a1_4, .string a1_5] 24 (0, 0))) ∧ Aside0 (wc.heap[gb460]? = some (.cells #[.int .i64 a2_0, .int .i64 a2_1, .int .i64 a2_2] 56 (0, 0))) ∧ Aside0 (Below w.heap.size w wc))
 case first =>
  have H := HC4.out
  clear HC4
  replace H := Option.bind_eq_some_iff.mp H
  obtain ⟨t461, A80, H⟩ := H
  try dsimp only at H
  have A8 := A_ A80
  clear A80
  by_cases c9 : t461 = true
  · subst c9
    have H1 : ((hopperref04_Small.f a1_0 a1_1 a1_2 a1_3 a1_4 a1_5).bind fun t462 => (hopperlaw05_QueueChanges.j0 k (!t462) a0_0 a0_1 l0_2 a1_0 a1_1 a1_2 a1_3 a1_4 a1_5 a2_0 a2_1 a2_2)) = some r := by rw [if_pos rfl] at H; exact H
    clear H
    have H := H1
    clear H1
    replace H := Option.bind_eq_some_iff.mp H
    obtain ⟨t462, A100, H⟩ := H
    try dsimp only at H
    have A10 := A_ A100
    clear A100
    have H' := A_ H
    clear H; have hnb11 := NB458_459.out; have hnc11 := NB459_458.out; have hnb12 := NB458_460.out; have hnc12 := NB460_458.out; have hcz13_0 : w7.cell? ⟨gb458, 0, none⟩ = some (.int .i64 a0_0) := e_ BK458 0; have hcz13_1 : w7.cell? ⟨gb458, 1, none⟩ = some (.int .i64 a0_1) := e_ BK458 1; have hcz13_2 : w7.cell? ⟨gb458, 2, none⟩ = some (.slice A0_2 l0_2.length c0_2) := e_ BK458 2; obtain ⟨hfz13_0, hfz13_1, hfz13_2⟩ := z3_ BK458
    go_wp2_with (first | ((with_reducible refine gate_callee (f := 50) rfl ?_); refine goesL_ (some 18) rfl rfl Try.func50 (by kernel_rfl) rfl #[.agg #[.int .i64 a0_0, .int .i64 a0_1, .slice A0_2 l0_2.length c0_2]] rfl (by (try simp only [m0_, m1_, m2_]); first | done | rfl) ?_; (with_reducible refine (hopperref05_Small.calls k a0_0 a0_1 _ _ l0_2 true _ ?side1 ?side2 A8.out).mono ?_); (case side1 => repeat (first | exact (Kd.C_below HR0_2.out HB.out) | (with_reducible refine ca_ ?_ _) | (with_reducible refine cn_ ?_ _) | (with_reducible refine cd_ ?_))); (case side2 => exact HC0_2.out); rintro e w14 ⟨rfl, hb⟩; refine ⟨_, rfl, ?_⟩; replace BK458 := A_ (kb_ BK458 hb); replace BK459 := A_ (kb_ BK459 hb); replace BK460 := A_ (kb_ BK460 hb); replace HB := A_ (below_step bw_ hb); (try clear hb); (try clear hb2); (try clear hk); (try clear hi); have hnb15 := NB459_460.out; have hnc15 := NB460_459.out; have hcz16_0 : w14.cell? ⟨gb459, 0, none⟩ = some (.int .i64 a1_0) := e_ BK459 0; have hcz16_1 : w14.cell? ⟨gb459, 1, none⟩ = some (.int .i64 a1_1) := e_ BK459 1; have hcz16_2 : w14.cell? ⟨gb459, 2, none⟩ = some (.int .i64 a1_2) := e_ BK459 2; have hcz16_3 : w14.cell? ⟨gb459, 3, none⟩ = some (.int .i64 a1_3) := e_ BK459 3; have hcz16_4 : w14.cell? ⟨gb459, 4, none⟩ = some (.int .i64 a1_4) := e_ BK459 4; have hcz16_5 : w14.cell? ⟨gb459, 5, none⟩ = some (.string a1_5) := e_ BK459 5; obtain ⟨hfz16_0, hfz16_1, hfz16_2, hfz16_3, hfz16_4, hfz16_5⟩ := z6_ BK459) | (go_at_call 22; (with_reducible refine (hopperref04_Small.calls a1_0 a1_1 a1_2 a1_3 a1_4 a1_5 t462 _ A10.out).mono ?_); rintro e w17 ⟨rfl, hb⟩; replace BK458 := A_ (kb_ BK458 hb); replace BK459 := A_ (kb_ BK459 hb); replace BK460 := A_ (kb_ BK460 hb); replace HB := A_ (below_step bw_ hb); (try clear hb); (try clear hb2); (try clear hk); (try clear hi)))
    go_meet
    case rel => exact ⟨_, (!t462), (by first | rfl | (simp; done) | (simp [*]; done)), H', ⟨by first | omega | exact Nat.le_refl _⟩, ⟨bk_⟩, ⟨bk_⟩, ⟨bk_⟩, ⟨by repeat (first | (with_reducible first | exact HB.out | apply wa_ | apply wn_ | apply wd_ | refine ws_ ?_ GE458.out | refine ws_ ?_ GE459.out | refine ws_ ?_ GE460.out) | exact HB.out)⟩⟩
  · replace c9 := Bool.eq_false_iff.mpr c9
    subst c9
    have H1 : (hopperlaw05_QueueChanges.j0 k true a0_0 a0_1 l0_2 a1_0 a1_1 a1_2 a1_3 a1_4 a1_5 a2_0 a2_1 a2_2) = some r := by rw [if_neg (show ¬ (false = true) by decide)] at H; exact H
    clear H
    have H := H1
    clear H1
    have H' := A_ H
    clear H; have hnb18 := NB458_459.out; have hnc18 := NB459_458.out; have hnb19 := NB458_460.out; have hnc19 := NB460_458.out; have hcz20_0 : w7.cell? ⟨gb458, 0, none⟩ = some (.int .i64 a0_0) := e_ BK458 0; have hcz20_1 : w7.cell? ⟨gb458, 1, none⟩ = some (.int .i64 a0_1) := e_ BK458 1; have hcz20_2 : w7.cell? ⟨gb458, 2, none⟩ = some (.slice A0_2 l0_2.length c0_2) := e_ BK458 2; obtain ⟨hfz20_0, hfz20_1, hfz20_2⟩ := z3_ BK458
    go_wp2_with (first | ((with_reducible refine gate_callee (f := 50) rfl ?_); refine goesL_ (some 18) rfl rfl Try.func50 (by kernel_rfl) rfl #[.agg #[.int .i64 a0_0, .int .i64 a0_1, .slice A0_2 l0_2.length c0_2]] rfl (by (try simp only [m0_, m1_, m2_]); first | done | rfl) ?_; (with_reducible refine (hopperref05_Small.calls k a0_0 a0_1 _ _ l0_2 false _ ?side1 ?side2 A8.out).mono ?_); (case side1 => repeat (first | exact (Kd.C_below HR0_2.out HB.out) | (with_reducible refine ca_ ?_ _) | (with_reducible refine cn_ ?_ _) | (with_reducible refine cd_ ?_))); (case side2 => exact HC0_2.out); rintro e w21 ⟨rfl, hb⟩; refine ⟨_, rfl, ?_⟩; replace BK458 := A_ (kb_ BK458 hb); replace BK459 := A_ (kb_ BK459 hb); replace BK460 := A_ (kb_ BK460 hb); replace HB := A_ (below_step bw_ hb); (try clear hb); (try clear hb2); (try clear hk); (try clear hi)))
    go_meet
    case rel => exact ⟨_, (true), (by first | rfl | (simp; done) | (simp [*]; done)), H', ⟨by first | omega | exact Nat.le_refl _⟩, ⟨bk_⟩, ⟨bk_⟩, ⟨bk_⟩, ⟨by repeat (first | (with_reducible first | exact HB.out | apply wa_ | apply wn_ | apply wd_ | refine ws_ ?_ GE458.out | refine ws_ ?_ GE459.out | refine ws_ ?_ GE460.out) | exact HB.out)⟩⟩
 case rest =>
  clear HC4; (try clear c1); (try clear p2); (try clear c5); (try clear c9); (try clear c11); (try clear c12); (try clear c15); (try clear c18); (try clear c19); (try clear hcz13_0 hcz13_1 hcz13_2); (try clear hcz16_0 hcz16_1 hcz16_2 hcz16_3 hcz16_4 hcz16_5); (try clear hcz20_0 hcz20_1 hcz20_2); (try clear hfz13_0 hfz13_1 hfz13_2); (try clear hfz16_0 hfz16_1 hfz16_2 hfz16_3 hfz16_4 hfz16_5); (try clear hfz20_0 hfz20_1 hfz20_2)
  obtain ⟨kq, x24_3, rfl, HA, HJ3, BK458, BK459, BK460, HB⟩ := hcut
  cases kq with
  | zero => exact absurd HA.out (by simp [hopperlaw05_QueueChanges.j0])
  | succ kj3 =>
   have H := HA.out
   clear HA
   simp only [hopperlaw05_QueueChanges.j0] at H
   by_cases c22 : x24_3 = true
   · subst c22
     have H1 : ((hopperlaw05_live.f kj3).bind fun t463 => (some t463)) = some r := by rw [if_pos rfl] at H; exact H
     clear H
     have H := H1
     clear H1
     replace H := Option.bind_eq_some_iff.mp H
     obtain ⟨t463, A230, H⟩ := H
     replace H : (some t463) = some r := H
     have A23 := A_ A230
     clear A230
     obtain rfl := Option.some.inj H
     go_wp2_with (first | ((with_reducible refine gate_callee (f := 51) rfl ?_); refine goesL_ (some 25) rfl rfl Try.func51 (by kernel_rfl) rfl #[] rfl (by (try simp only [m0_, m1_, m2_]); first | done | rfl) ?_; (with_reducible refine (hopperlaw05_live.calls kj3  t463 _ A23.out).mono ?_); rintro e w24 ⟨rfl, hb⟩; refine ⟨_, rfl, ?_⟩; replace BK458 := A_ (kb_ BK458 hb); replace BK459 := A_ (kb_ BK459 hb); replace BK460 := A_ (kb_ BK460 hb); replace HB := A_ (below_step bw_ hb); (try clear hb); (try clear hb2); (try clear hk); (try clear hi)))
     go_ret
     exact ⟨by first | rfl | (simp [errW_none, errW_some] <;> rfl) | (simp [*, errW_none, errW_some] <;> rfl), by repeat (first | (with_reducible first | exact HB.out | apply wa_ | apply wn_ | apply wd_ | refine ws_ ?_ GE458.out | refine ws_ ?_ GE459.out | refine ws_ ?_ GE460.out) | exact HB.out)⟩
   · replace c22 := Bool.eq_false_iff.mpr c22
     subst c22
     have H1 : ((queue_Place.f kj3 a0_0 a0_1 l0_2 a1_0 a1_1 a1_2 a1_3 a1_4 a1_5 a2_0 a2_1).bind fun bt464 => ((hopperref05_Place.f kj3 a0_0 a0_1 l0_2 a1_0 a1_1 a1_2 a1_3 a1_4 a1_5 a2_0 a2_1).bind fun bt466 => ((queue_Advance.f kj3 a0_0 a0_1 l0_2 a2_2).bind fun bt468 => ((hopperref05_Advance.f kj3 a0_0 a0_1 l0_2 a2_2).bind fun bt478 => (if bt464.1 = bt466.1 then (if bt464.2 = bt466.2 then ((hopperref05_Same.f kj3 bt468.1 bt468.2.1 bt468.2.2.1 bt478.1 bt478.2.1 bt478.2.2.1).bind fun t488 => (if t488 = true then ((hopperref04_Txs.f kj3 bt468.2.2.2.1 bt478.2.2.2.1).bind fun t489 => (if t489 = true then (hopperlaw05_QueueChanges.j1 kj3 (bt468.2.2.2.2 != bt478.2.2.2.2) a0_0 a0_1 l0_2 a1_0 a1_1 a1_2 a1_3 a1_4 a1_5 a2_0 a2_1 a2_2) else (none))) else (none))) else (none)) else (none)))))) = some r := by rw [if_neg (show ¬ (false = true) by decide)] at H; exact H
     clear H
     have H := H1
     clear H1
     replace H := Option.bind_eq_some_iff.mp H
     obtain ⟨⟨t464, t465⟩, A250, H⟩ := H
     try dsimp only at H
     have A25 := A_ A250
     clear A250
     replace H := Option.bind_eq_some_iff.mp H
     obtain ⟨⟨t466, t467⟩, A260, H⟩ := H
     try dsimp only at H
     have A26 := A_ A260
     clear A260
     replace H := Option.bind_eq_some_iff.mp H
     obtain ⟨⟨t468, t469, t470, t473, t476⟩, A270, H⟩ := H
     try dsimp only at H
     have A27 := A_ A270
     clear A270
     replace H := Option.bind_eq_some_iff.mp H
     obtain ⟨⟨t478, t479, t480, t483, t486⟩, A280, H⟩ := H
     try dsimp only at H
     have A28 := A_ A280
     clear A280
     have HC29 := A_ H
     clear H; have hnb30 := NB458_459.out; have hnc30 := NB459_458.out; have hnb31 := NB458_460.out; have hnc31 := NB460_458.out; have hcz32_0 : wc.cell? ⟨gb458, 0, none⟩ = some (.int .i64 a0_0) := e_ BK458 0; have hcz32_1 : wc.cell? ⟨gb458, 1, none⟩ = some (.int .i64 a0_1) := e_ BK458 1; have hcz32_2 : wc.cell? ⟨gb458, 2, none⟩ = some (.slice A0_2 l0_2.length c0_2) := e_ BK458 2; obtain ⟨hfz32_0, hfz32_1, hfz32_2⟩ := z3_ BK458; have hnb33 := NB459_460.out; have hnc33 := NB460_459.out; have hcz34_0 : wc.cell? ⟨gb459, 0, none⟩ = some (.int .i64 a1_0) := e_ BK459 0; have hcz34_1 : wc.cell? ⟨gb459, 1, none⟩ = some (.int .i64 a1_1) := e_ BK459 1; have hcz34_2 : wc.cell? ⟨gb459, 2, none⟩ = some (.int .i64 a1_2) := e_ BK459 2; have hcz34_3 : wc.cell? ⟨gb459, 3, none⟩ = some (.int .i64 a1_3) := e_ BK459 3; have hcz34_4 : wc.cell? ⟨gb459, 4, none⟩ = some (.int .i64 a1_4) := e_ BK459 4; have hcz34_5 : wc.cell? ⟨gb459, 5, none⟩ = some (.string a1_5) := e_ BK459 5; obtain ⟨hfz34_0, hfz34_1, hfz34_2, hfz34_3, hfz34_4, hfz34_5⟩ := z6_ BK459; have hcz35_0 : wc.cell? ⟨gb460, 0, none⟩ = some (.int .i64 a2_0) := e_ BK460 0; have hcz35_1 : wc.cell? ⟨gb460, 1, none⟩ = some (.int .i64 a2_1) := e_ BK460 1; have hcz35_2 : wc.cell? ⟨gb460, 2, none⟩ = some (.int .i64 a2_2) := e_ BK460 2; obtain ⟨hfz35_0, hfz35_1, hfz35_2⟩ := z3_ BK460
     go_upto_region 7 with (first | ((with_reducible refine gate_callee (f := 58) rfl ?_); refine goesL_ (some 33) rfl rfl Try.func58 (by kernel_rfl) rfl #[.agg #[.int .i64 a0_0, .int .i64 a0_1, .slice A0_2 l0_2.length c0_2], .agg #[.int .i64 a1_0, .int .i64 a1_1, .int .i64 a1_2, .int .i64 a1_3, .int .i64 a1_4, .string a1_5], .int .i64 a2_0, .int .i64 a2_1] rfl (by (try simp only [m0_, m1_, m2_]); first | done | rfl) ?_; (with_reducible refine (queue_Place.calls kj3 a0_0 a0_1 _ _ l0_2 a1_0 a1_1 a1_2 a1_3 a1_4 a1_5 a2_0 a2_1 t464 t465 _ ?side1 ?side2 A25.out).mono ?_); (case side1 => repeat (first | exact (Kd.C_below HR0_2.out HB.out) | (with_reducible refine ca_ ?_ _) | (with_reducible refine cn_ ?_ _) | (with_reducible refine cd_ ?_))); (case side2 => exact HC0_2.out); rintro e w36 ⟨rfl, hb⟩; refine ⟨_, rfl, ?_⟩; replace BK458 := A_ (kb_ BK458 hb); replace BK459 := A_ (kb_ BK459 hb); replace BK460 := A_ (kb_ BK460 hb); replace HB := A_ (below_step bw_ hb); (try clear hb); (try clear hb2); (try clear hk); (try clear hi); have hcz37_0 : w36.cell? ⟨gb458, 0, none⟩ = some (.int .i64 a0_0) := e_ BK458 0; have hcz37_1 : w36.cell? ⟨gb458, 1, none⟩ = some (.int .i64 a0_1) := e_ BK458 1; have hcz37_2 : w36.cell? ⟨gb458, 2, none⟩ = some (.slice A0_2 l0_2.length c0_2) := e_ BK458 2; obtain ⟨hfz37_0, hfz37_1, hfz37_2⟩ := z3_ BK458; have hcz38_0 : w36.cell? ⟨gb459, 0, none⟩ = some (.int .i64 a1_0) := e_ BK459 0; have hcz38_1 : w36.cell? ⟨gb459, 1, none⟩ = some (.int .i64 a1_1) := e_ BK459 1; have hcz38_2 : w36.cell? ⟨gb459, 2, none⟩ = some (.int .i64 a1_2) := e_ BK459 2; have hcz38_3 : w36.cell? ⟨gb459, 3, none⟩ = some (.int .i64 a1_3) := e_ BK459 3; have hcz38_4 : w36.cell? ⟨gb459, 4, none⟩ = some (.int .i64 a1_4) := e_ BK459 4; have hcz38_5 : w36.cell? ⟨gb459, 5, none⟩ = some (.string a1_5) := e_ BK459 5; obtain ⟨hfz38_0, hfz38_1, hfz38_2, hfz38_3, hfz38_4, hfz38_5⟩ := z6_ BK459; have hcz39_0 : w36.cell? ⟨gb460, 0, none⟩ = some (.int .i64 a2_0) := e_ BK460 0; have hcz39_1 : w36.cell? ⟨gb460, 1, none⟩ = some (.int .i64 a2_1) := e_ BK460 1; have hcz39_2 : w36.cell? ⟨gb460, 2, none⟩ = some (.int .i64 a2_2) := e_ BK460 2; obtain ⟨hfz39_0, hfz39_1, hfz39_2⟩ := z3_ BK460) | ((with_reducible refine gate_callee (f := 59) rfl ?_); refine goesL_ (some 43) rfl rfl Try.func59 (by kernel_rfl) rfl #[.agg #[.int .i64 a0_0, .int .i64 a0_1, .slice A0_2 l0_2.length c0_2], .agg #[.int .i64 a1_0, .int .i64 a1_1, .int .i64 a1_2, .int .i64 a1_3, .int .i64 a1_4, .string a1_5], .int .i64 a2_0, .int .i64 a2_1] rfl (by (try simp only [m0_, m1_, m2_]); first | done | rfl) ?_; (with_reducible refine (hopperref05_Place.calls kj3 a0_0 a0_1 _ _ l0_2 a1_0 a1_1 a1_2 a1_3 a1_4 a1_5 a2_0 a2_1 t466 t467 _ ?side1 ?side2 A26.out).mono ?_); (case side1 => repeat (first | exact (Kd.C_below HR0_2.out HB.out) | (with_reducible refine ca_ ?_ _) | (with_reducible refine cn_ ?_ _) | (with_reducible refine cd_ ?_))); (case side2 => exact HC0_2.out); rintro e w40 ⟨rfl, hb⟩; refine ⟨_, rfl, ?_⟩; replace BK458 := A_ (kb_ BK458 hb); replace BK459 := A_ (kb_ BK459 hb); replace BK460 := A_ (kb_ BK460 hb); replace HB := A_ (below_step bw_ hb); (try clear hb); (try clear hb2); (try clear hk); (try clear hi); have hcz41_0 : w40.cell? ⟨gb458, 0, none⟩ = some (.int .i64 a0_0) := e_ BK458 0; have hcz41_1 : w40.cell? ⟨gb458, 1, none⟩ = some (.int .i64 a0_1) := e_ BK458 1; have hcz41_2 : w40.cell? ⟨gb458, 2, none⟩ = some (.slice A0_2 l0_2.length c0_2) := e_ BK458 2; obtain ⟨hfz41_0, hfz41_1, hfz41_2⟩ := z3_ BK458; have hcz42_0 : w40.cell? ⟨gb460, 0, none⟩ = some (.int .i64 a2_0) := e_ BK460 0; have hcz42_1 : w40.cell? ⟨gb460, 1, none⟩ = some (.int .i64 a2_1) := e_ BK460 1; have hcz42_2 : w40.cell? ⟨gb460, 2, none⟩ = some (.int .i64 a2_2) := e_ BK460 2; obtain ⟨hfz42_0, hfz42_1, hfz42_2⟩ := z3_ BK460) | ((with_reducible refine gate_callee (f := 60) rfl ?_); refine goesL_ (some 50) rfl rfl Try.func60 (by kernel_rfl) rfl #[.agg #[.int .i64 a0_0, .int .i64 a0_1, .slice A0_2 l0_2.length c0_2], .int .i64 a2_2] rfl (by (try simp only [m0_, m1_, m2_]); first | done | rfl) ?_; (with_reducible refine (queue_Advance.calls kj3 a0_0 a0_1 (fun k_ => k_ < w.heap.size) _ _ l0_2 a2_2 t468 t469 t470 t473 t476 _ ?side1 A27.out).mono ?_); (case side1 => exact Kd.V_mk HC0_2.out (Kd.F_below (Kd.C_F k24_heap HR0_2.out) bw_)); rintro e w43 ⟨v471, v474, rfl, ho0, ho1, hb⟩; refine ⟨_, rfl, ?_⟩; have HO472 := A_ (Kd.V_lower (Kd.V_mono (ok' := fun k_ => some k_ ≠ (v474 : Value).ownBlock ∧ k_ ≠ gb458 ∧ k_ ≠ gb459 ∧ k_ ≠ gb460) ho0 (fun k_ hk_ => ⟨hk_.2, Or.elim hk_.1 (fun hs_ => fun e_ => Nat.not_le.2 hs_ (by rw [e_]; exact GW458.out)) (fun hn_ => (Kd.freshB (g := gb458) (o := .cells #[.int .i64 a0_0, .int .i64 a0_1, .slice A0_2 l0_2.length c0_2] 46 (0, 0)) (by (with_reducible repeat (first | refine bn_ ?_ _ | refine bd_ ?_ | refine ba_ ?_ _)); exact BK458.out) k_ hn_)), Or.elim hk_.1 (fun hs_ => fun e_ => Nat.not_le.2 hs_ (by rw [e_]; exact GW459.out)) (fun hn_ => (Kd.freshB (g := gb459) (o := .cells #[.int .i64 a1_0, .int .i64 a1_1, .int .i64 a1_2, .int .i64 a1_3, .int .i64 a1_4, .string a1_5] 24 (0, 0)) (by (with_reducible repeat (first | refine bn_ ?_ _ | refine bd_ ?_ | refine ba_ ?_ _)); exact BK459.out) k_ hn_)), Or.elim hk_.1 (fun hs_ => fun e_ => Nat.not_le.2 hs_ (by rw [e_]; exact GW460.out)) (fun hn_ => (Kd.freshB (g := gb460) (o := .cells #[.int .i64 a2_0, .int .i64 a2_1, .int .i64 a2_2] 56 (0, 0)) (by (with_reducible repeat (first | refine bn_ ?_ _ | refine bd_ ?_ | refine ba_ ?_ _)); exact BK460.out) k_ hn_))⟩)) (below_size bw_)); have HO475 := A_ (Kd.R_lower (Kd.R_newB (Kd.R_mono (ok' := fun k_ => True) ho1 (fun _ hk_ => trivial)) (g := gb459) (o := .cells #[.int .i64 a1_0, .int .i64 a1_1, .int .i64 a1_2, .int .i64 a1_3, .int .i64 a1_4, .string a1_5] 24 (0, 0)) (by (with_reducible repeat (first | refine bn_ ?_ _ | refine bd_ ?_ | refine ba_ ?_ _)); exact BK459.out)) (below_size bw_)); replace BK458 := A_ (kb_ BK458 hb); replace BK459 := A_ (kb_ BK459 hb); replace BK460 := A_ (kb_ BK460 hb); replace HB := A_ (below_step bw_ hb); (try clear hb); (try clear hb2); (try clear hk); (try clear hi); (try clear ho0); (try clear ho1)) | ((with_reducible refine gate_dst (N := 11) rfl ?_); refine box_event ?hg (N := 11) ?hd (cs := #[.int .i64 0, .int .i64 0, .slice none 0 0]) (t := 46) ?hr ?_; (case hd => rfl); (case hg => rfl); (case hr => first | (go_simp; done) | (go_simp; rfl)); intro gb477 hg w44 hbox hb; have n0_ := A_ (Kd.V_below (Kd.V_elderB (pv_ HO472.out) gb477 (Nat.le_of_eq hg.symm)) hb); have n1_ := A_ (Kd.R_below (pr_ HO475.out) hb); have n2_ := A_ (kb_ BK458 hb); have n3_ := A_ (kb_ BK459 hb); have n4_ := A_ (kb_ BK460 hb); have n5_ := A_ (below_step bw_ hb); have n6_ := A_ (hbox); have n7_ := A_ (gz_ (w := w) hg); have n8_ := A_ (gz_ (w := w) hg); have n9_ := A_ (nl_ BK458 hg); have n10_ := A_ (ng_ BK458 hg); have n11_ := A_ (nl_ BK459 hg); have n12_ := A_ (ng_ BK459 hg); have n13_ := A_ (nl_ BK460 hg); have n14_ := A_ (ng_ BK460 hg); replace HO472 := n0_; replace HO475 := n1_; replace BK458 := n2_; replace BK459 := n3_; replace BK460 := n4_; replace HB := n5_; have BK477 := n6_; have GW477 := n7_; have GE477 := n8_; have NB458_477 := n9_; have NB477_458 := n10_; have NB459_477 := n11_; have NB477_459 := n12_; have NB460_477 := n13_; have NB477_460 := n14_; clear n0_ n1_ n2_ n3_ n4_ n5_ n6_ n7_ n8_ n9_ n10_ n11_ n12_ n13_ n14_; clear hb hbox hg; have hnb45 := NB477_458.out; have hnc45 := NB458_477.out; have hnb46 := NB477_459.out; have hnc46 := NB459_477.out; have hnb47 := NB477_460.out; have hnc47 := NB460_477.out; have hcz48_0 : w44.cell? ⟨gb477, 0, none⟩ = some (.int .i64 0) := e_ BK477 0; have hcz48_1 : w44.cell? ⟨gb477, 1, none⟩ = some (.int .i64 0) := e_ BK477 1; have hcz48_2 : w44.cell? ⟨gb477, 2, none⟩ = some (.slice none 0 0) := e_ BK477 2; obtain ⟨hfz48_0, hfz48_1, hfz48_2⟩ := z3_ BK477; obtain ⟨Ao49, co49, eo49⟩ := Kd.V_slice HO472.out; subst eo49) | ((with_reducible refine gate_store (t := 46) (p := 11) rfl ?_); refine store_event (t := 46) (p := 11) (v := ?vo_w50) (w1 := (((w44.setCell ⟨gb477, 0, none⟩ (.int .i64 t468)).setCell ⟨gb477, 1, none⟩ (.int .i64 t469)).setCell ⟨gb477, 2, none⟩ (.slice Ao49 t470.length co49))) ?hg ?ho ?hn ?hr ?_; (case ho => rfl); (case hg => rfl); (case hn => rfl); (case hr => first | (go_simp; done) | (go_simp; rfl)); intro w50 hw; have n0_ : Aside0 (Kd.V k24 24 w50 w.heap.size (fun k_ => some k_ ≠ (v474 : Value).ownBlock ∧ k_ ≠ gb458 ∧ k_ ≠ gb459 ∧ k_ ≠ gb460 ∧ k_ ≠ gb477) (.slice Ao49 t470.length co49) t470) := ⟨(by rw [hw]; exact (by (with_reducible repeat (first | apply Kd.V_alloc | apply Kd.V_drewN | apply Kd.V_drew)); exact Kd.V_mono (Kd.V_far (p := ⟨gb477, 2, none⟩) (Kd.V_far (p := ⟨gb477, 1, none⟩) (Kd.V_far (p := ⟨gb477, 0, none⟩) (Kd.V_mono HO472.out (fun k_ hk => (⟨hk, hk.2⟩ : _ ∧ k_ ≠ gb477))) (fun _ hk => hk.2) (.int .i64 t468)) (fun _ hk => hk.2) (.int .i64 t469)) (fun _ hk => hk.2) (.slice Ao49 t470.length co49)) (fun _ hk => ⟨hk.1.1.1, ⟨hk.1.1.2.1, ⟨hk.1.1.2.2.1, ⟨hk.1.1.2.2.2, hk.1.2⟩⟩⟩⟩)))⟩; have n1_ : Aside0 (Kd.R k24 24 w50 w.heap.size (fun k_ => k_ ≠ gb459) v474 t473) := ⟨(by rw [hw]; exact (by (with_reducible repeat (first | apply ra_ | apply rn_ | apply rd_)); exact Kd.R_mono (Kd.R_far (p := ⟨gb477, 2, none⟩) (Kd.R_far (p := ⟨gb477, 1, none⟩) (Kd.R_far (p := ⟨gb477, 0, none⟩) (Kd.R_types HO475.out BK477.out (by decide)) (fun _ hk => hk.2) (.int .i64 t468)) (fun _ hk => hk.2) (.int .i64 t469)) (fun _ hk => hk.2) (.slice Ao49 t470.length co49)) (fun _ hk => hk.1.2)))⟩; have n2_ : Aside0 (w50.heap[gb458]? = some (.cells #[.int .i64 a0_0, .int .i64 a0_1, .slice A0_2 l0_2.length c0_2] 46 (0, 0))) := ⟨(by rw [hw]; exact bk_)⟩; have n3_ : Aside0 (w50.heap[gb459]? = some (.cells #[.int .i64 a1_0, .int .i64 a1_1, .int .i64 a1_2, .int .i64 a1_3, .int .i64 a1_4, .string a1_5] 24 (0, 0))) := ⟨(by rw [hw]; exact bk_)⟩; have n4_ : Aside0 (w50.heap[gb460]? = some (.cells #[.int .i64 a2_0, .int .i64 a2_1, .int .i64 a2_2] 56 (0, 0))) := ⟨(by rw [hw]; exact bk_)⟩; have n5_ : Aside0 (w50.heap[gb477]? = some (.cells #[.int .i64 t468, .int .i64 t469, .slice Ao49 t470.length co49] 46 (0, 0))) := ⟨(by rw [hw]; exact (by exact pk_ (b3_ BK477.out)))⟩; have n6_ : Aside0 (Below w.heap.size w w50) := ⟨(by rw [hw]; exact bw_)⟩; clear hw; replace HO472 := n0_; replace HO475 := n1_; replace BK458 := n2_; replace BK459 := n3_; replace BK460 := n4_; replace BK477 := n5_; replace HB := n6_; clear n0_ n1_ n2_ n3_ n4_ n5_ n6_; have hcz51_0 : w50.cell? ⟨gb458, 0, none⟩ = some (.int .i64 a0_0) := e_ BK458 0; have hcz51_1 : w50.cell? ⟨gb458, 1, none⟩ = some (.int .i64 a0_1) := e_ BK458 1; have hcz51_2 : w50.cell? ⟨gb458, 2, none⟩ = some (.slice A0_2 l0_2.length c0_2) := e_ BK458 2; obtain ⟨hfz51_0, hfz51_1, hfz51_2⟩ := z3_ BK458; have hcz52_0 : w50.cell? ⟨gb460, 0, none⟩ = some (.int .i64 a2_0) := e_ BK460 0; have hcz52_1 : w50.cell? ⟨gb460, 1, none⟩ = some (.int .i64 a2_1) := e_ BK460 1; have hcz52_2 : w50.cell? ⟨gb460, 2, none⟩ = some (.int .i64 a2_2) := e_ BK460 2; obtain ⟨hfz52_0, hfz52_1, hfz52_2⟩ := z3_ BK460) | ((with_reducible refine gate_callee (f := 61) rfl ?_); refine goesL_ (some 58) rfl rfl Try.func61 (by kernel_rfl) rfl #[.agg #[.int .i64 a0_0, .int .i64 a0_1, .slice A0_2 l0_2.length c0_2], .int .i64 a2_2] rfl (by (try simp only [m0_, m1_, m2_]); first | done | rfl) ?_; (with_reducible refine (hopperref05_Advance.calls kj3 a0_0 a0_1 (fun k_ => k_ < w.heap.size) _ _ l0_2 a2_2 t478 t479 t480 t483 t486 _ ?side1 A28.out).mono ?_); (case side1 => exact Kd.V_mk HC0_2.out (Kd.F_below (Kd.C_F k24_heap HR0_2.out) bw_)); rintro e w53 ⟨v481, v484, rfl, ho0, ho1, hb⟩; refine ⟨_, rfl, ?_⟩; have n0_ := A_ (Kd.V_elder' (pv_ HO472.out) (Kd.R_base ho1) hb); have n1_ := A_ (Kd.R_elder' (pr_ HO475.out) (Kd.R_base ho1) hb); have n2_ := A_ (Kd.V_lower (Kd.V_mono (ok' := fun k_ => some k_ ≠ (v484 : Value).ownBlock ∧ some k_ ≠ (v474 : Value).ownBlock ∧ k_ ≠ gb458 ∧ k_ ≠ gb459 ∧ k_ ≠ gb460 ∧ k_ ≠ gb477) ho0 (fun k_ hk_ => ⟨hk_.2, Or.elim hk_.1 (fun hs_ => fun e_ => Nat.not_le.2 hs_ (Kd.R_base HO475.out k_ e_.symm)) (fun hn_ => (Kd.fresh' (Kd.R_lt (pr_ HO475.out)) k_ hn_)), Or.elim hk_.1 (fun hs_ => fun e_ => Nat.not_le.2 hs_ (by rw [e_]; exact GW458.out)) (fun hn_ => (Kd.freshB (g := gb458) (o := .cells #[.int .i64 a0_0, .int .i64 a0_1, .slice A0_2 l0_2.length c0_2] 46 (0, 0)) (by (with_reducible repeat (first | refine bn_ ?_ _ | refine bd_ ?_ | refine ba_ ?_ _)); exact BK458.out) k_ hn_)), Or.elim hk_.1 (fun hs_ => fun e_ => Nat.not_le.2 hs_ (by rw [e_]; exact GW459.out)) (fun hn_ => (Kd.freshB (g := gb459) (o := .cells #[.int .i64 a1_0, .int .i64 a1_1, .int .i64 a1_2, .int .i64 a1_3, .int .i64 a1_4, .string a1_5] 24 (0, 0)) (by (with_reducible repeat (first | refine bn_ ?_ _ | refine bd_ ?_ | refine ba_ ?_ _)); exact BK459.out) k_ hn_)), Or.elim hk_.1 (fun hs_ => fun e_ => Nat.not_le.2 hs_ (by rw [e_]; exact GW460.out)) (fun hn_ => (Kd.freshB (g := gb460) (o := .cells #[.int .i64 a2_0, .int .i64 a2_1, .int .i64 a2_2] 56 (0, 0)) (by (with_reducible repeat (first | refine bn_ ?_ _ | refine bd_ ?_ | refine ba_ ?_ _)); exact BK460.out) k_ hn_)), Or.elim hk_.1 (fun hs_ => fun e_ => Nat.not_le.2 hs_ (by rw [e_]; exact GW477.out)) (fun hn_ => (Kd.freshB (g := gb477) (o := .cells #[.int .i64 t468, .int .i64 t469, .slice Ao49 t470.length co49] 46 (0, 0)) (by (with_reducible repeat (first | refine bn_ ?_ _ | refine bd_ ?_ | refine ba_ ?_ _)); exact BK477.out) k_ hn_))⟩)) (below_size bw_)); have n3_ := A_ (Kd.R_lower (Kd.R_newB (Kd.R_new' (Kd.R_mono (ok' := fun k_ => True) ho1 (fun _ hk_ => trivial)) (Kd.R_lt (pr_ HO475.out))) (g := gb459) (o := .cells #[.int .i64 a1_0, .int .i64 a1_1, .int .i64 a1_2, .int .i64 a1_3, .int .i64 a1_4, .string a1_5] 24 (0, 0)) (by (with_reducible repeat (first | refine bn_ ?_ _ | refine bd_ ?_ | refine ba_ ?_ _)); exact BK459.out)) (below_size bw_)); have n4_ := A_ (kb_ BK458 hb); have n5_ := A_ (kb_ BK459 hb); have n6_ := A_ (kb_ BK460 hb); have n7_ := A_ (kb_ BK477 hb); have n8_ := A_ (below_step bw_ hb); replace HO472 := n0_; replace HO475 := n1_; have HO482 := n2_; have HO485 := n3_; replace BK458 := n4_; replace BK459 := n5_; replace BK460 := n6_; replace BK477 := n7_; replace HB := n8_; clear n0_ n1_ n2_ n3_ n4_ n5_ n6_ n7_ n8_; (try clear hb); (try clear hb2); (try clear hk); (try clear hi); (try clear ho0); (try clear ho1)) | ((with_reducible refine gate_dst (N := 14) rfl ?_); refine box_event ?hg (N := 14) ?hd (cs := #[.int .i64 0, .int .i64 0, .slice none 0 0]) (t := 46) ?hr ?_; (case hd => rfl); (case hg => rfl); (case hr => first | (go_simp; done) | (go_simp; rfl)); intro gb487 hg w54 hbox hb; have n0_ := A_ (Kd.V_below (Kd.V_elderB (pv_ HO472.out) gb487 (Nat.le_of_eq hg.symm)) hb); have n1_ := A_ (Kd.R_below (pr_ HO475.out) hb); have n2_ := A_ (Kd.V_below (Kd.V_elderB (pv_ HO482.out) gb487 (Nat.le_of_eq hg.symm)) hb); have n3_ := A_ (Kd.R_below (pr_ HO485.out) hb); have n4_ := A_ (kb_ BK458 hb); have n5_ := A_ (kb_ BK459 hb); have n6_ := A_ (kb_ BK460 hb); have n7_ := A_ (kb_ BK477 hb); have n8_ := A_ (below_step bw_ hb); have n9_ := A_ (hbox); have n10_ := A_ (gz_ (w := w) hg); have n11_ := A_ (gz_ (w := w) hg); have n12_ := A_ (nl_ BK458 hg); have n13_ := A_ (ng_ BK458 hg); have n14_ := A_ (nl_ BK459 hg); have n15_ := A_ (ng_ BK459 hg); have n16_ := A_ (nl_ BK460 hg); have n17_ := A_ (ng_ BK460 hg); have n18_ := A_ (nl_ BK477 hg); have n19_ := A_ (ng_ BK477 hg); replace HO472 := n0_; replace HO475 := n1_; replace HO482 := n2_; replace HO485 := n3_; replace BK458 := n4_; replace BK459 := n5_; replace BK460 := n6_; replace BK477 := n7_; replace HB := n8_; have BK487 := n9_; have GW487 := n10_; have GE487 := n11_; have NB458_487 := n12_; have NB487_458 := n13_; have NB459_487 := n14_; have NB487_459 := n15_; have NB460_487 := n16_; have NB487_460 := n17_; have NB477_487 := n18_; have NB487_477 := n19_; clear n0_ n1_ n2_ n3_ n4_ n5_ n6_ n7_ n8_ n9_ n10_ n11_ n12_ n13_ n14_ n15_ n16_ n17_ n18_ n19_; clear hb hbox hg; have hnb55 := NB487_458.out; have hnc55 := NB458_487.out; have hnb56 := NB487_459.out; have hnc56 := NB459_487.out; have hnb57 := NB487_460.out; have hnc57 := NB460_487.out; have hnb58 := NB487_477.out; have hnc58 := NB477_487.out; have hcz59_0 : w54.cell? ⟨gb487, 0, none⟩ = some (.int .i64 0) := e_ BK487 0; have hcz59_1 : w54.cell? ⟨gb487, 1, none⟩ = some (.int .i64 0) := e_ BK487 1; have hcz59_2 : w54.cell? ⟨gb487, 2, none⟩ = some (.slice none 0 0) := e_ BK487 2; obtain ⟨hfz59_0, hfz59_1, hfz59_2⟩ := z3_ BK487; obtain ⟨Ao60, co60, eo60⟩ := Kd.V_slice HO482.out; subst eo60))
     (try simp only [Act.put, s0_, s1_, s2_])
     go_cut [86] (fun v86 wc => ∃ (kq : Nat) (x86_28 : Bool), v86 = .bool x86_28 ∧ Aside0 (hopperlaw05_QueueChanges.j1 kq x86_28 a0_0 a0_1 l0_2 a1_0 a1_1 a1_2 a1_3 a1_4 a1_5 a2_0 a2_1 a2_2 = some r) ∧ Aside0 (kq ≤ kj3) ∧ Aside0 (Kd.V k24 24 wc w.heap.size (fun k_ => k_ ≠ gb458 ∧ k_ ≠ gb459 ∧ k_ ≠ gb460 ∧ k_ ≠ gb477 ∧ k_ ≠ gb487) (.slice Ao49 t470.length co49) t470) ∧ Aside0 (Kd.V k24 24 wc w.heap.size (fun k_ => k_ ≠ gb458 ∧ k_ ≠ gb459 ∧ k_ ≠ gb460 ∧ k_ ≠ gb477 ∧ k_ ≠ gb487) (.slice Ao60 t480.length co60) t480) ∧ Aside0 (wc.heap[gb458]? = some (.cells #[.int .i64 a0_0, .int .i64 a0_1, (.slice A0_2 l0_2.length c0_2)] 46 (0, 0))) ∧ Aside0 (wc.heap[gb459]? = some (.cells #[.int .i64 a1_0, .int .i64 a1_1, .int .i64 a1_2, .int .i64 a1_3, .int .i64 a1_4, .string a1_5] 24 (0, 0))) ∧ Aside0 (wc.heap[gb460]? = some (.cells #[.int .i64 a2_0, .int .i64 a2_1, .int .i64 a2_2] 56 (0, 0))) ∧ Aside0 (wc.heap[gb477]? = some (.cells #[.int .i64 t468, .int .i64 t469, (.slice Ao49 t470.length co49)] 46 (0, 0))) ∧ Aside0 (wc.heap[gb487]? = some (.cells #[.int .i64 t478, .int .i64 t479, (.slice Ao60 t480.length co60)] 46 (0, 0))) ∧ Aside0 (Below w.heap.size w wc))
     case first =>
      have H := HC29.out
      clear HC29
      by_cases c61 : t464 = t466
      rotate_left
      · rw [if_neg c61] at H
        exact absurd H (by simp)
      rw [if_pos c61] at H
      have c61b0 : (t464 == t466) = true := beq_iff_eq.mpr c61
      have c61b1 : (t464 != t466) = false := bne_eq_false_iff_eq.mpr c61
      clear c61
      (first | rw [c61b0] | (simp only [i64_w, i32_w]; rw [c61b0]) | skip)
      by_cases c62 : t465 = t467
      rotate_left
      · rw [if_neg c62] at H
        exact absurd H (by simp)
      rw [if_pos c62] at H
      have c62b0 : (t465 == t467) = true := beq_iff_eq.mpr c62
      have c62b1 : (t465 != t467) = false := bne_eq_false_iff_eq.mpr c62
      clear c62
      replace H := Option.bind_eq_some_iff.mp H
      obtain ⟨t488, A630, H⟩ := H
      try dsimp only at H
      have A63 := A_ A630
      clear A630
      by_cases c64 : t488 = true
      rotate_left
      · replace c64 := Bool.eq_false_iff.mpr c64
        subst c64
        have H1 : (none) = some r := by rw [if_neg (show ¬ (false = true) by decide)] at H; exact H
        clear H
        have H := H1
        clear H1
        exact absurd H (by simp)
      subst c64
      have H1 : ((hopperref04_Txs.f kj3 t473 t483).bind fun t489 => (if t489 = true then (hopperlaw05_QueueChanges.j1 kj3 (t476 != t486) a0_0 a0_1 l0_2 a1_0 a1_1 a1_2 a1_3 a1_4 a1_5 a2_0 a2_1 a2_2) else (none))) = some r := by rw [if_pos rfl] at H; exact H
      clear H
      have H := H1
      clear H1
      replace H := Option.bind_eq_some_iff.mp H
      obtain ⟨t489, A650, H⟩ := H
      try dsimp only at H
      have A65 := A_ A650
      clear A650
      by_cases c66 : t489 = true
      rotate_left
      · replace c66 := Bool.eq_false_iff.mpr c66
        subst c66
        have H1 : (none) = some r := by rw [if_neg (show ¬ (false = true) by decide)] at H; exact H
        clear H
        have H := H1
        clear H1
        exact absurd H (by simp)
      subst c66
      have H1 : (hopperlaw05_QueueChanges.j1 kj3 (t476 != t486) a0_0 a0_1 l0_2 a1_0 a1_1 a1_2 a1_3 a1_4 a1_5 a2_0 a2_1 a2_2) = some r := by rw [if_pos rfl] at H; exact H
      clear H
      have H := H1
      clear H1
      have H' := A_ H
      clear H; have hnb67 := NB477_458.out; have hnc67 := NB458_477.out; have hnb68 := NB477_459.out; have hnc68 := NB459_477.out; have hnb69 := NB477_460.out; have hnc69 := NB460_477.out; have hnb70 := NB477_487.out; have hnc70 := NB487_477.out; have hcz71_0 : w54.cell? ⟨gb477, 0, none⟩ = some (.int .i64 t468) := e_ BK477 0; have hcz71_1 : w54.cell? ⟨gb477, 1, none⟩ = some (.int .i64 t469) := e_ BK477 1; have hcz71_2 : w54.cell? ⟨gb477, 2, none⟩ = some (.slice Ao49 t470.length co49) := e_ BK477 2; obtain ⟨hfz71_0, hfz71_1, hfz71_2⟩ := z3_ BK477; have hnb72 := NB487_458.out; have hnc72 := NB458_487.out; have hnb73 := NB487_459.out; have hnc73 := NB459_487.out; have hnb74 := NB487_460.out; have hnc74 := NB460_487.out; have hcz75_0 : w54.cell? ⟨gb487, 0, none⟩ = some (.int .i64 0) := e_ BK487 0; have hcz75_1 : w54.cell? ⟨gb487, 1, none⟩ = some (.int .i64 0) := e_ BK487 1; have hcz75_2 : w54.cell? ⟨gb487, 2, none⟩ = some (.slice none 0 0) := e_ BK487 2; obtain ⟨hfz75_0, hfz75_1, hfz75_2⟩ := z3_ BK487
      go_wp2_with (first | (go_at_call 62; (with_reducible refine (hopperref05_Same.calls kj3 t468 t469 _ _ t470 t478 t479 _ _ t480 true _ ?side1 ?side2 ?side3 ?side4 A63.out).mono ?_); (case side1 => refine (Kd.V_reads' (e := 24) (base := w.heap.size) (ok := fun k_ => (((some k_ ≠ (v474 : Value).ownBlock ∧ (k_ ≠ gb458 ∧ (k_ ≠ gb459 ∧ (k_ ≠ gb460 ∧ k_ ≠ gb477)))) ∧ some k_ ≠ (v484 : Value).ownBlock) ∧ k_ ≠ gb487)) (n := t470.length) (c := co49) ?_).2.2; exact (by (with_reducible repeat (first | apply Kd.V_alloc | apply Kd.V_drewN | apply Kd.V_drew)); exact (Kd.V_mono (Kd.V_far (p := ⟨gb487, 2, none⟩) (Kd.V_far (p := ⟨gb487, 1, none⟩) (Kd.V_far (p := ⟨gb487, 0, none⟩) (Kd.V_mono HO472.out (fun k_ hk => (⟨hk, hk.2⟩ : _ ∧ k_ ≠ gb487))) (fun _ hk => hk.2) (.int .i64 t478)) (fun _ hk => hk.2) (.int .i64 t479)) (fun _ hk => hk.2) (.slice Ao60 t480.length co60)) (fun _ h_ => h_.1)))); (case side2 => exact (Kd.V_reads' HO472.out).2.1); (case side3 => refine (Kd.V_reads' (e := 24) (base := w.heap.size) (ok := fun k_ => ((some k_ ≠ (v484 : Value).ownBlock ∧ (some k_ ≠ (v474 : Value).ownBlock ∧ (k_ ≠ gb458 ∧ (k_ ≠ gb459 ∧ (k_ ≠ gb460 ∧ k_ ≠ gb477))))) ∧ k_ ≠ gb487)) (n := t480.length) (c := co60) ?_).2.2; exact (by (with_reducible repeat (first | apply Kd.V_alloc | apply Kd.V_drewN | apply Kd.V_drew)); exact (Kd.V_mono (Kd.V_far (p := ⟨gb487, 2, none⟩) (Kd.V_far (p := ⟨gb487, 1, none⟩) (Kd.V_far (p := ⟨gb487, 0, none⟩) (Kd.V_mono HO482.out (fun k_ hk => (⟨hk, hk.2⟩ : _ ∧ k_ ≠ gb487))) (fun _ hk => hk.2) (.int .i64 t478)) (fun _ hk => hk.2) (.int .i64 t479)) (fun _ hk => hk.2) (.slice Ao60 t480.length co60)) (fun _ h_ => h_.1)))); (case side4 => exact (Kd.V_reads' HO482.out).2.1); rintro e w76 ⟨rfl, hb⟩; replace HO472 := A_ (Kd.V_below (by (with_reducible repeat (first | apply Kd.V_alloc | apply Kd.V_drewN | apply Kd.V_drew)); exact (Kd.V_mono (Kd.V_far (p := ⟨gb487, 2, none⟩) (Kd.V_far (p := ⟨gb487, 1, none⟩) (Kd.V_far (p := ⟨gb487, 0, none⟩) (Kd.V_mono HO472.out (fun k_ hk => (⟨hk, hk.2⟩ : _ ∧ k_ ≠ gb487))) (fun _ hk => hk.2) (.int .i64 t478)) (fun _ hk => hk.2) (.int .i64 t479)) (fun _ hk => hk.2) (.slice Ao60 t480.length co60)) (fun _ h_ => h_.1))) hb); replace HO475 := A_ (Kd.R_below (by (with_reducible repeat (first | apply ra_ | apply rn_ | apply rd_)); exact (Kd.R_mono (Kd.R_far (p := ⟨gb487, 2, none⟩) (Kd.R_far (p := ⟨gb487, 1, none⟩) (Kd.R_far (p := ⟨gb487, 0, none⟩) (Kd.R_types HO475.out BK487.out (by decide)) (fun _ hk => hk.2) (.int .i64 t478)) (fun _ hk => hk.2) (.int .i64 t479)) (fun _ hk => hk.2) (.slice Ao60 t480.length co60)) (fun _ h_ => h_.1))) hb); replace HO482 := A_ (Kd.V_below (by (with_reducible repeat (first | apply Kd.V_alloc | apply Kd.V_drewN | apply Kd.V_drew)); exact (Kd.V_mono (Kd.V_far (p := ⟨gb487, 2, none⟩) (Kd.V_far (p := ⟨gb487, 1, none⟩) (Kd.V_far (p := ⟨gb487, 0, none⟩) (Kd.V_mono HO482.out (fun k_ hk => (⟨hk, hk.2⟩ : _ ∧ k_ ≠ gb487))) (fun _ hk => hk.2) (.int .i64 t478)) (fun _ hk => hk.2) (.int .i64 t479)) (fun _ hk => hk.2) (.slice Ao60 t480.length co60)) (fun _ h_ => h_.1))) hb); replace HO485 := A_ (Kd.R_below (by (with_reducible repeat (first | apply ra_ | apply rn_ | apply rd_)); exact (Kd.R_mono (Kd.R_far (p := ⟨gb487, 2, none⟩) (Kd.R_far (p := ⟨gb487, 1, none⟩) (Kd.R_far (p := ⟨gb487, 0, none⟩) (Kd.R_types HO485.out BK487.out (by decide)) (fun _ hk => hk.2) (.int .i64 t478)) (fun _ hk => hk.2) (.int .i64 t479)) (fun _ hk => hk.2) (.slice Ao60 t480.length co60)) (fun _ h_ => h_.1))) hb); replace BK458 := A_ (kb_ BK458 hb); replace BK459 := A_ (kb_ BK459 hb); replace BK460 := A_ (kb_ BK460 hb); replace BK477 := A_ (kb_ BK477 hb); replace BK487 := A_ (blk_below (g := gb487) (o := .cells #[.int .i64 t478, .int .i64 t479, .slice Ao60 t480.length co60] 46 (0, 0)) (by exact pk_ (b3_ BK487.out)) hb); replace HB := A_ (below_step bw_ hb); (try clear hb); (try clear hb2); (try clear hk); (try clear hi); obtain ⟨Ao77, co77, eo77⟩ := Kd.R_slice HO475.out; subst eo77; obtain ⟨Ao78, co78, eo78⟩ := Kd.R_slice HO485.out; subst eo78) | (go_at_call 30; (with_reducible refine (hopperref04_Txs.calls kj3 _ _ t473 _ _ t483 true _ ?side1 ?side2 ?side3 ?side4 A65.out).mono ?_); (case side1 => repeat (first | exact (Kd.R_reads' HO475.out).2.2 | (with_reducible refine ca_ ?_ _) | (with_reducible refine cn_ ?_ _) | (with_reducible refine cd_ ?_))); (case side2 => exact (Kd.R_reads' HO475.out).2.1); (case side3 => repeat (first | exact (Kd.R_reads' HO485.out).2.2 | (with_reducible refine ca_ ?_ _) | (with_reducible refine cn_ ?_ _) | (with_reducible refine cd_ ?_))); (case side4 => exact (Kd.R_reads' HO485.out).2.1); rintro e w' ⟨rfl, ⟨nd, rfl⟩⟩))
      go_meet
      case rel => exact ⟨_, ((t476 != t486)), (by first | rfl | (simp; done) | (simp [*]; done)), H', ⟨by have := HJ3.out; first | omega | exact Nat.le_refl _⟩, ⟨by (with_reducible repeat (first | apply Kd.V_alloc | apply Kd.V_drewN | apply Kd.V_drew)); exact Kd.V_mono HO472.out (fun _ hk => ⟨hk.1.1.2.1, ⟨hk.1.1.2.2.1, ⟨hk.1.1.2.2.2.1, ⟨hk.1.1.2.2.2.2, hk.2⟩⟩⟩⟩)⟩, ⟨by (with_reducible repeat (first | apply Kd.V_alloc | apply Kd.V_drewN | apply Kd.V_drew)); exact Kd.V_mono HO482.out (fun _ hk => ⟨hk.1.2.2.1, ⟨hk.1.2.2.2.1, ⟨hk.1.2.2.2.2.1, ⟨hk.1.2.2.2.2.2, hk.2⟩⟩⟩⟩)⟩, ⟨bk_⟩, ⟨bk_⟩, ⟨bk_⟩, ⟨bk_⟩, ⟨bk_⟩, ⟨by repeat (first | (with_reducible first | exact HB.out | apply wa_ | apply wn_ | apply wd_ | refine ws_ ?_ GE458.out | refine ws_ ?_ GE459.out | refine ws_ ?_ GE460.out | refine ws_ ?_ GE477.out | refine ws_ ?_ GE487.out) | exact HB.out)⟩⟩
     case rest =>
      clear HC29; (try clear c1); (try clear c2); (try clear p2); (try clear c3); (try clear c4); (try clear c5); (try clear c6); (try clear c7); (try clear c9); (try clear c11); (try clear c12); (try clear c15); (try clear c18); (try clear c19); (try clear c22); (try clear c30); (try clear c31); (try clear c33); (try clear c45); (try clear c46); (try clear c47); (try clear c50); (try clear c51); (try clear c55); (try clear c56); (try clear c57); (try clear c58); (try clear c59); (try clear c60); (try clear c61); (try clear c61b0); (try clear c61b1); (try clear c62); (try clear c62b0); (try clear c62b1); (try clear c64); (try clear c66); (try clear c67); (try clear c68); (try clear c69); (try clear c70); (try clear c72); (try clear c73); (try clear c74); (try clear hcz13_0 hcz13_1 hcz13_2); (try clear hcz16_0 hcz16_1 hcz16_2 hcz16_3 hcz16_4 hcz16_5); (try clear hcz20_0 hcz20_1 hcz20_2); (try clear hcz32_0 hcz32_1 hcz32_2); (try clear hcz34_0 hcz34_1 hcz34_2 hcz34_3 hcz34_4 hcz34_5); (try clear hcz35_0 hcz35_1 hcz35_2); (try clear hcz37_0 hcz37_1 hcz37_2); (try clear hcz38_0 hcz38_1 hcz38_2 hcz38_3 hcz38_4 hcz38_5); (try clear hcz39_0 hcz39_1 hcz39_2); (try clear hcz41_0 hcz41_1 hcz41_2); (try clear hcz42_0 hcz42_1 hcz42_2); (try clear hcz48_0 hcz48_1 hcz48_2); (try clear hcz51_0 hcz51_1 hcz51_2); (try clear hcz52_0 hcz52_1 hcz52_2); (try clear hcz59_0 hcz59_1 hcz59_2); (try clear hcz71_0 hcz71_1 hcz71_2); (try clear hcz75_0 hcz75_1 hcz75_2); (try clear hfz13_0 hfz13_1 hfz13_2); (try clear hfz16_0 hfz16_1 hfz16_2 hfz16_3 hfz16_4 hfz16_5); (try clear hfz20_0 hfz20_1 hfz20_2); (try clear hfz32_0 hfz32_1 hfz32_2); (try clear hfz34_0 hfz34_1 hfz34_2 hfz34_3 hfz34_4 hfz34_5); (try clear hfz35_0 hfz35_1 hfz35_2); (try clear hfz37_0 hfz37_1 hfz37_2); (try clear hfz38_0 hfz38_1 hfz38_2 hfz38_3 hfz38_4 hfz38_5); (try clear hfz39_0 hfz39_1 hfz39_2); (try clear hfz41_0 hfz41_1 hfz41_2); (try clear hfz42_0 hfz42_1 hfz42_2); (try clear hfz48_0 hfz48_1 hfz48_2); (try clear hfz51_0 hfz51_1 hfz51_2); (try clear hfz52_0 hfz52_1 hfz52_2); (try clear hfz59_0 hfz59_1 hfz59_2); (try clear hfz71_0 hfz71_1 hfz71_2); (try clear hfz75_0 hfz75_1 hfz75_2); (try clear p2)
      obtain ⟨kq, x86_28, rfl, HA, HJ28, HO_478002, HO_488002, BK458, BK459, BK460, BK477, BK487, HB⟩ := hcut
      cases kq with
      | zero => exact absurd HA.out (by simp [hopperlaw05_QueueChanges.j1])
      | succ kj28 =>
       have H := HA.out
       clear HA
       simp only [hopperlaw05_QueueChanges.j1] at H
       by_cases c79 : x86_28 = true
       · subst c79
         have H1 : (none) = some r := by rw [if_pos rfl] at H; exact H
         clear H
         have H := H1
         clear H1
         exact absurd H (by simp)
       replace c79 := Bool.eq_false_iff.mpr c79
       subst c79
       have H1 : ((queue_Put.f a0_0 a0_1 l0_2 a1_0 a1_1 a1_2 a1_3 a1_4 a1_5).bind fun bt490 => ((hopperref05_Put.f kj28 a0_0 a0_1 l0_2 a1_0 a1_1 a1_2 a1_3 a1_4 a1_5).bind fun bt495 => ((hopperref05_Same.f kj28 bt490.1 bt490.2.1 bt490.2.2 bt495.1 bt495.2.1 bt495.2.2).bind fun t500 => (if t500 = true then ((queue_Drop.f a0_0 a0_1 l0_2 a2_2).bind fun bt501 => ((hopperref05_Drop.f kj28 a0_0 a0_1 l0_2 a2_2).bind fun bt506 => ((hopperref05_Same.f kj28 bt501.1 bt501.2.1 bt501.2.2 bt506.1 bt506.2.1 bt506.2.2).bind fun t511 => (if t511 = true then ((hopperlaw05_live.f kj28).bind fun t512 => (some t512)) else (none))))) else (none))))) = some r := by rw [if_neg (show ¬ (false = true) by decide)] at H; exact H
       clear H
       have H := H1
       clear H1
       replace H := Option.bind_eq_some_iff.mp H
       obtain ⟨⟨t490, t491, t492⟩, A800, H⟩ := H
       try dsimp only at H
       have A80 := A_ A800
       clear A800
       replace H := Option.bind_eq_some_iff.mp H
       obtain ⟨⟨t495, t496, t497⟩, A810, H⟩ := H
       try dsimp only at H
       have A81 := A_ A810
       clear A810
       replace H := Option.bind_eq_some_iff.mp H
       obtain ⟨t500, A820, H⟩ := H
       try dsimp only at H
       have A82 := A_ A820
       clear A820
       by_cases c83 : t500 = true
       rotate_left
       · replace c83 := Bool.eq_false_iff.mpr c83
         subst c83
         have H1 : (none) = some r := by rw [if_neg (show ¬ (false = true) by decide)] at H; exact H
         clear H
         have H := H1
         clear H1
         exact absurd H (by simp)

       subst c83
       have H1 : ((queue_Drop.f a0_0 a0_1 l0_2 a2_2).bind fun bt501 => ((hopperref05_Drop.f kj28 a0_0 a0_1 l0_2 a2_2).bind fun bt506 => ((hopperref05_Same.f kj28 bt501.1 bt501.2.1 bt501.2.2 bt506.1 bt506.2.1 bt506.2.2).bind fun t511 => (if t511 = true then ((hopperlaw05_live.f kj28).bind fun t512 => (some t512)) else (none))))) = some r := by rw [if_pos rfl] at H; exact H
       clear H
       have H := H1
       clear H1
       replace H := Option.bind_eq_some_iff.mp H
       obtain ⟨⟨t501, t502, t503⟩, A840, H⟩ := H
       try dsimp only at H
       have A84 := A_ A840
       clear A840
       replace H := Option.bind_eq_some_iff.mp H
       obtain ⟨⟨t506, t507, t508⟩, A850, H⟩ := H
       try dsimp only at H
       have A85 := A_ A850
       clear A850
       replace H := Option.bind_eq_some_iff.mp H
       obtain ⟨t511, A860, H⟩ := H
       try dsimp only at H
       have A86 := A_ A860
       clear A860
       by_cases c87 : t511 = true
       rotate_left
       · replace c87 := Bool.eq_false_iff.mpr c87
         subst c87
         have H1 : (none) = some r := by rw [if_neg (show ¬ (false = true) by decide)] at H; exact H
         clear H
         have H := H1
         clear H1
         exact absurd H (by simp)
       subst c87
       have H1 : ((hopperlaw05_live.f kj28).bind fun t512 => (some t512)) = some r := by rw [if_pos rfl] at H; exact H
       clear H
       have H := H1
       clear H1
       replace H := Option.bind_eq_some_iff.mp H
       obtain ⟨t512, A880, H⟩ := H
       replace H : (some t512) = some r := H
       have A88 := A_ A880
       clear A880
       obtain rfl := Option.some.inj H
       try go_wp2
       have n0_ := A_ (Kd.V_drew HO_478002.out); have n1_ := A_ (Kd.V_drew HO_488002.out); have n2_ := A_ (bd_ BK458.out); have n3_ := A_ (bd_ BK459.out); have n4_ := A_ (bd_ BK460.out); have n5_ := A_ (bd_ BK477.out); have n6_ := A_ (bd_ BK487.out); have n7_ := A_ (wd_ HB.out); replace HO_478002 := n0_; replace HO_488002 := n1_; replace BK458 := n2_; replace BK459 := n3_; replace BK460 := n4_; replace BK477 := n5_; replace BK487 := n6_; replace HB := n7_; clear n0_ n1_ n2_ n3_ n4_ n5_ n6_ n7_
       refine start_ (n := 22) (S := fun w' => w'.cell? ⟨gb458, 0, none⟩ = some (.int .i64 a0_0) ∧ w'.cell? ⟨gb458, 1, none⟩ = some (.int .i64 a0_1) ∧ w'.cell? ⟨gb458, 2, none⟩ = some (.slice A0_2 l0_2.length c0_2) ∧ w'.cell? ⟨gb459, 0, none⟩ = some (.int .i64 a1_0) ∧ w'.cell? ⟨gb459, 1, none⟩ = some (.int .i64 a1_1) ∧ w'.cell? ⟨gb459, 2, none⟩ = some (.int .i64 a1_2) ∧ w'.cell? ⟨gb459, 3, none⟩ = some (.int .i64 a1_3) ∧ w'.cell? ⟨gb459, 4, none⟩ = some (.int .i64 a1_4) ∧ w'.cell? ⟨gb459, 5, none⟩ = some (.string a1_5) ∧ w'.cell? ⟨gb460, 0, none⟩ = some (.int .i64 a2_0) ∧ w'.cell? ⟨gb460, 1, none⟩ = some (.int .i64 a2_1) ∧ w'.cell? ⟨gb460, 2, none⟩ = some (.int .i64 a2_2)) (ds := []) #[F,F,F,F,F,F,F,F,F,F,F,F,F,F,F,F,F,F,F,F,F,F] (by kernel_rfl) rfl rfl ⟨e_ BK458 0, e_ BK458 1, e_ BK458 2, e_ BK459 0, e_ BK459 1, e_ BK459 2, e_ BK459 3, e_ BK459 4, e_ BK459 5, e_ BK460 0, e_ BK460 1, e_ BK460 2⟩ (fun hHeld => ?_); refine with_tabW hopperlaw05_QueueChanges.tab9 hopperlaw05_QueueChanges.bits9 (fun HT_ HW_ => ?_)
       generalize wc.drew = w89 at HO_478002 HO_488002 BK458 BK459 BK460 BK477 BK487 HB hHeld ⊢
       refine tk_ 0 87 HT_ HW_ hHeld ?_
       refine tk_ 1 88 HT_ HW_ hHeld ?_
       refine tk_ 3 90 HT_ HW_ hHeld ?_
       refine tk_ 4 91 HT_ HW_ hHeld ?_
       refine one_ (i := 2) (N := some 89) #[T,T,T,T,T,F,F,F,F,F,F,F,F,F,F,F,F,F,F,F,F,F] rfl rfl (one_of HT_.out (by kernel_rfl)) (by decide) (fun K hK => ?_)
       refine goes_ Try.func63 (by kernel_rfl) rfl #[.agg #[.int .i64 a0_0, .int .i64 a0_1, .slice A0_2 l0_2.length c0_2], .agg #[.int .i64 a1_0, .int .i64 a1_1, .int .i64 a1_2, .int .i64 a1_3, .int .i64 a1_4, .string a1_5]] (by rfl) rfl rfl (by (try simp only [m0_, m1_, m2_]); first | done | rfl) ?_
       with_reducible refine (queue_Put.calls a0_0 a0_1 _ _ l0_2 a1_0 a1_1 a1_2 a1_3 a1_4 a1_5 t490 t491 t492 _ ?side1 ?side2 A80.out).mono ?_
       (case side1 => repeat (first | exact (Kd.C_below HR0_2.out HB.out) | (with_reducible refine ca_ ?_ _) | (with_reducible refine cn_ ?_ _) | (with_reducible refine cd_ ?_)))
       (case side2 => exact HC0_2.out)
       rintro e w90 ⟨v493, rfl, ho0, hb⟩
       refine ⟨_, rfl, ?_⟩
       have n0_ := A_ (Kd.V_elder' (pv_ HO_478002.out) (Kd.R_base ho0) hb); have n1_ := A_ (Kd.V_elder' (pv_ HO_488002.out) (Kd.R_base ho0) hb); have n2_ := A_ (Kd.R_lower (Kd.R_newB ho0 (g := gb459) (o := .cells #[.int .i64 a1_0, .int .i64 a1_1, .int .i64 a1_2, .int .i64 a1_3, .int .i64 a1_4, .string a1_5] 24 (0, 0)) (by (with_reducible repeat (first | refine bn_ ?_ _ | refine bd_ ?_ | refine ba_ ?_ _)); exact BK459.out)) (below_size bw_)); have n3_ := A_ (kb_ BK458 hb); have n4_ := A_ (kb_ BK459 hb); have n5_ := A_ (kb_ BK460 hb); have n6_ := A_ (kb_ BK477 hb); have n7_ := A_ (kb_ BK487 hb); have n8_ := A_ (below_step bw_ hb); replace HO_478002 := n0_; replace HO_488002 := n1_; have HO494 := n2_; replace BK458 := n3_; replace BK459 := n4_; replace BK460 := n5_; replace BK477 := n6_; replace BK487 := n7_; replace HB := n8_; clear n0_ n1_ n2_ n3_ n4_ n5_ n6_ n7_ n8_
       (try clear hb)
       (try clear hb2)
       (try clear hk)
       (try clear hi)
       (try clear ho0)
       refine hK.out _ _ ⟨e_ BK458 0, e_ BK458 1, e_ BK458 2, e_ BK459 0, e_ BK459 1, e_ BK459 2, e_ BK459 3, e_ BK459 4, e_ BK459 5, e_ BK460 0, e_ BK460 1, e_ BK460 2⟩ (fun hHeld => ?_)
       clear hK K
       refine norm_ (a' := ?_) ?_ ?_
       rotate_left
       · show Act.put _ (some 89) _ = _
         simp only [Act.put, s0_, s1_, s2_, i64_w, i32_w]
         rfl
       refine one_ (i := 5) (N := some 92) #[T,T,T,T,T,T,F,F,F,F,F,F,F,F,F,F,F,F,F,F,F,F] rfl rfl (one_of HT_.out (by kernel_rfl)) (by decide) (fun K hK => ?_)
       refine goes_ Try.func64 (by kernel_rfl) rfl #[.agg #[.int .i64 a0_0, .int .i64 a0_1, .slice A0_2 l0_2.length c0_2], .agg #[.int .i64 a1_0, .int .i64 a1_1, .int .i64 a1_2, .int .i64 a1_3, .int .i64 a1_4, .string a1_5]] (by rfl) rfl rfl (by (try simp only [m0_, m1_, m2_]); first | done | rfl) ?_
       with_reducible refine (hopperref05_Put.calls kj28 a0_0 a0_1 _ _ l0_2 a1_0 a1_1 a1_2 a1_3 a1_4 a1_5 t495 t496 t497 _ ?side1 ?side2 A81.out).mono ?_
       (case side1 => repeat (first | exact (Kd.C_below HR0_2.out HB.out) | (with_reducible refine ca_ ?_ _) | (with_reducible refine cn_ ?_ _) | (with_reducible refine cd_ ?_)))
       (case side2 => exact HC0_2.out)
       rintro e w91 ⟨v498, rfl, ho0, hb⟩
       refine ⟨_, rfl, ?_⟩
       have n0_ := A_ (Kd.V_elder' (pv_ HO_478002.out) (Kd.R_base ho0) hb); have n1_ := A_ (Kd.V_elder' (pv_ HO_488002.out) (Kd.R_base ho0) hb); have n2_ := A_ (Kd.R_elder' (pr_ HO494.out) (Kd.R_base ho0) hb); have n3_ := A_ (Kd.R_lower (Kd.R_newB (Kd.R_new' ho0 (Kd.R_lt (pr_ HO494.out))) (g := gb459) (o := .cells #[.int .i64 a1_0, .int .i64 a1_1, .int .i64 a1_2, .int .i64 a1_3, .int .i64 a1_4, .string a1_5] 24 (0, 0)) (by (with_reducible repeat (first | refine bn_ ?_ _ | refine bd_ ?_ | refine ba_ ?_ _)); exact BK459.out)) (below_size bw_)); have n4_ := A_ (kb_ BK458 hb); have n5_ := A_ (kb_ BK459 hb); have n6_ := A_ (kb_ BK460 hb); have n7_ := A_ (kb_ BK477 hb); have n8_ := A_ (kb_ BK487 hb); have n9_ := A_ (below_step bw_ hb); replace HO_478002 := n0_; replace HO_488002 := n1_; replace HO494 := n2_; have HO499 := n3_; replace BK458 := n4_; replace BK459 := n5_; replace BK460 := n6_; replace BK477 := n7_; replace BK487 := n8_; replace HB := n9_; clear n0_ n1_ n2_ n3_ n4_ n5_ n6_ n7_ n8_ n9_
       (try clear hb)
       (try clear hb2)
       (try clear hk)
       (try clear hi)
       (try clear ho0)
       obtain ⟨Ao92, co92, eo92⟩ := Kd.R_slice HO494.out
       (first | subst eo92 | (injection eo92 with f1_ f2_ f3_; have f4_ := f1_.symm; have f5_ := f3_.symm; clear f1_ f2_ f3_; subst f4_; subst f5_))
       obtain ⟨Ao93, co93, eo93⟩ := Kd.R_slice HO499.out
       (first | subst eo93 | (injection eo93 with f1_ f2_ f3_; have f4_ := f1_.symm; have f5_ := f3_.symm; clear f1_ f2_ f3_; subst f4_; subst f5_))
       refine hK.out _ _ ⟨e_ BK458 0, e_ BK458 1, e_ BK458 2, e_ BK459 0, e_ BK459 1, e_ BK459 2, e_ BK459 3, e_ BK459 4, e_ BK459 5, e_ BK460 0, e_ BK460 1, e_ BK460 2⟩ (fun hHeld => ?_)
       clear hK K
       refine norm_ (a' := ?_) ?_ ?_
       rotate_left
       · show Act.put _ (some 92) _ = _
         simp only [Act.put, s0_, s1_, s2_, i64_w, i32_w]
         rfl
       refine one_ (i := 6) (N := some 93) #[T,T,T,T,T,T,T,F,F,F,F,F,F,F,F,F,F,F,F,F,F,F] rfl rfl (one_of HT_.out (by kernel_rfl)) (by decide) (fun K hK => ?_)
       refine goes_ Try.func62 (by kernel_rfl) rfl #[.agg #[.int .i64 t490, .int .i64 t491, .slice Ao92 t492.length co92], .agg #[.int .i64 t495, .int .i64 t496, .slice Ao93 t497.length co93]] (by rfl) rfl rfl (by (try simp only [m0_, m1_, m2_]); first | done | rfl) ?_
       with_reducible refine (hopperref05_Same.calls kj28 t490 t491 _ _ t492 t495 t496 _ _ t497 true _ ?side1 ?side2 ?side3 ?side4 A82.out).mono ?_
       (case side1 => repeat (first | exact (Kd.R_reads' HO494.out).2.2 | (with_reducible refine ca_ ?_ _) | (with_reducible refine cn_ ?_ _) | (with_reducible refine cd_ ?_)))
       (case side2 => exact (Kd.R_reads' HO494.out).2.1)
       (case side3 => repeat (first | exact (Kd.R_reads' HO499.out).2.2 | (with_reducible refine ca_ ?_ _) | (with_reducible refine cn_ ?_ _) | (with_reducible refine cd_ ?_)))
       (case side4 => exact (Kd.R_reads' HO499.out).2.1)
       rintro e w94 ⟨rfl, hb⟩
       refine ⟨_, rfl, ?_⟩
       have n0_ := A_ (Kd.V_below (pv_ HO_478002.out) hb); have n1_ := A_ (Kd.V_below (pv_ HO_488002.out) hb); have n2_ := A_ (Kd.R_below (pr_ HO494.out) hb); have n3_ := A_ (Kd.R_below (pr_ HO499.out) hb); have n4_ := A_ (kb_ BK458 hb); have n5_ := A_ (kb_ BK459 hb); have n6_ := A_ (kb_ BK460 hb); have n7_ := A_ (kb_ BK477 hb); have n8_ := A_ (kb_ BK487 hb); have n9_ := A_ (below_step bw_ hb); replace HO_478002 := n0_; replace HO_488002 := n1_; replace HO494 := n2_; replace HO499 := n3_; replace BK458 := n4_; replace BK459 := n5_; replace BK460 := n6_; replace BK477 := n7_; replace BK487 := n8_; replace HB := n9_; clear n0_ n1_ n2_ n3_ n4_ n5_ n6_ n7_ n8_ n9_
       (try clear hb)
       (try clear hb2)
       (try clear hk)
       (try clear hi)
       refine hK.out _ _ ⟨e_ BK458 0, e_ BK458 1, e_ BK458 2, e_ BK459 0, e_ BK459 1, e_ BK459 2, e_ BK459 3, e_ BK459 4, e_ BK459 5, e_ BK460 0, e_ BK460 1, e_ BK460 2⟩ (fun hHeld => ?_)
       clear hK K
       refine norm_ (a' := ?_) ?_ ?_
       rotate_left
       · show Act.put _ (some 93) _ = _
         simp only [Act.put, s0_, s1_, s2_, i64_w, i32_w]
         rfl
       refine pq_ 7 94 HT_ ?_
       refine pq_ 9 96 HT_ ?_
       refine pq_ 13 100 HT_ ?_
       refine tk_ 8 95 HT_ HW_ hHeld ?_
       refine tk_ 10 97 HT_ HW_ hHeld ?_
       refine tk_ 12 99 HT_ HW_ hHeld ?_
       refine tk_ 14 101 HT_ HW_ hHeld ?_
       refine one_ (i := 11) (N := some 98) #[T,T,T,T,T,T,T,T,T,T,T,T,T,T,T,F,F,F,F,F,F,F] rfl rfl (one_of HT_.out (by kernel_rfl)) (by decide) (fun K hK => ?_)
       refine goes_ Try.func65 (by kernel_rfl) rfl #[.agg #[.int .i64 a0_0, .int .i64 a0_1, .slice A0_2 l0_2.length c0_2], .int .i64 a2_2] (by rfl) rfl rfl (by (try simp only [m0_, m1_, m2_]); first | done | rfl) ?_
       with_reducible refine (queue_Drop.calls a0_0 a0_1 _ _ l0_2 a2_2 t501 t502 t503 _ ?side1 ?side2 A84.out).mono ?_
       (case side1 => repeat (first | exact (Kd.C_below HR0_2.out HB.out) | (with_reducible refine ca_ ?_ _) | (with_reducible refine cn_ ?_ _) | (with_reducible refine cd_ ?_)))
       (case side2 => exact HC0_2.out)
       rintro e w95 ⟨v504, rfl, ho0, hb⟩
       refine ⟨_, rfl, ?_⟩
       have n0_ := A_ (Kd.V_elder' (pv_ HO_478002.out) (Kd.R_base ho0) hb); have n1_ := A_ (Kd.V_elder' (pv_ HO_488002.out) (Kd.R_base ho0) hb); have n2_ := A_ (Kd.R_elder' (pr_ HO494.out) (Kd.R_base ho0) hb); have n3_ := A_ (Kd.R_elder' (pr_ HO499.out) (Kd.R_base ho0) hb); have n4_ := A_ (Kd.R_lower (Kd.R_newB (Kd.R_new' (Kd.R_new' ho0 (Kd.R_lt (pr_ HO494.out))) (Kd.R_lt (pr_ HO499.out))) (g := gb459) (o := .cells #[.int .i64 a1_0, .int .i64 a1_1, .int .i64 a1_2, .int .i64 a1_3, .int .i64 a1_4, .string a1_5] 24 (0, 0)) (by (with_reducible repeat (first | refine bn_ ?_ _ | refine bd_ ?_ | refine ba_ ?_ _)); exact BK459.out)) (below_size bw_)); have n5_ := A_ (kb_ BK458 hb); have n6_ := A_ (kb_ BK459 hb); have n7_ := A_ (kb_ BK460 hb); have n8_ := A_ (kb_ BK477 hb); have n9_ := A_ (kb_ BK487 hb); have n10_ := A_ (below_step bw_ hb); replace HO_478002 := n0_; replace HO_488002 := n1_; replace HO494 := n2_; replace HO499 := n3_; have HO505 := n4_; replace BK458 := n5_; replace BK459 := n6_; replace BK460 := n7_; replace BK477 := n8_; replace BK487 := n9_; replace HB := n10_; clear n0_ n1_ n2_ n3_ n4_ n5_ n6_ n7_ n8_ n9_ n10_
       (try clear hb)
       (try clear hb2)
       (try clear hk)
       (try clear hi)
       (try clear ho0)
       refine hK.out _ _ ⟨e_ BK458 0, e_ BK458 1, e_ BK458 2, e_ BK459 0, e_ BK459 1, e_ BK459 2, e_ BK459 3, e_ BK459 4, e_ BK459 5, e_ BK460 0, e_ BK460 1, e_ BK460 2⟩ (fun hHeld => ?_)
       clear hK K
       refine norm_ (a' := ?_) ?_ ?_
       rotate_left
       · show Act.put _ (some 98) _ = _
         simp only [Act.put, s0_, s1_, s2_, i64_w, i32_w]
         rfl
       refine one_ (i := 15) (N := some 102) #[T,T,T,T,T,T,T,T,T,T,T,T,T,T,T,T,F,F,F,F,F,F] rfl rfl (one_of HT_.out (by kernel_rfl)) (by decide) (fun K hK => ?_)
       refine goes_ Try.func66 (by kernel_rfl) rfl #[.agg #[.int .i64 a0_0, .int .i64 a0_1, .slice A0_2 l0_2.length c0_2], .int .i64 a2_2] (by rfl) rfl rfl (by (try simp only [m0_, m1_, m2_]); first | done | rfl) ?_
       with_reducible refine (hopperref05_Drop.calls kj28 a0_0 a0_1 _ _ l0_2 a2_2 t506 t507 t508 _ ?side1 ?side2 A85.out).mono ?_
       (case side1 => repeat (first | exact (Kd.C_below HR0_2.out HB.out) | (with_reducible refine ca_ ?_ _) | (with_reducible refine cn_ ?_ _) | (with_reducible refine cd_ ?_)))
       (case side2 => exact HC0_2.out)
       rintro e w96 ⟨v509, rfl, ho0, hb⟩
       refine ⟨_, rfl, ?_⟩
       have n0_ := A_ (Kd.V_elder' (pv_ HO_478002.out) (Kd.R_base ho0) hb); have n1_ := A_ (Kd.V_elder' (pv_ HO_488002.out) (Kd.R_base ho0) hb); have n2_ := A_ (Kd.R_elder' (pr_ HO494.out) (Kd.R_base ho0) hb); have n3_ := A_ (Kd.R_elder' (pr_ HO499.out) (Kd.R_base ho0) hb); have n4_ := A_ (Kd.R_elder' (pr_ HO505.out) (Kd.R_base ho0) hb); have n5_ := A_ (Kd.R_lower (Kd.R_newB (Kd.R_new' (Kd.R_new' (Kd.R_new' ho0 (Kd.R_lt (pr_ HO494.out))) (Kd.R_lt (pr_ HO499.out))) (Kd.R_lt (pr_ HO505.out))) (g := gb459) (o := .cells #[.int .i64 a1_0, .int .i64 a1_1, .int .i64 a1_2, .int .i64 a1_3, .int .i64 a1_4, .string a1_5] 24 (0, 0)) (by (with_reducible repeat (first | refine bn_ ?_ _ | refine bd_ ?_ | refine ba_ ?_ _)); exact BK459.out)) (below_size bw_)); have n6_ := A_ (kb_ BK458 hb); have n7_ := A_ (kb_ BK459 hb); have n8_ := A_ (kb_ BK460 hb); have n9_ := A_ (kb_ BK477 hb); have n10_ := A_ (kb_ BK487 hb); have n11_ := A_ (below_step bw_ hb); replace HO_478002 := n0_; replace HO_488002 := n1_; replace HO494 := n2_; replace HO499 := n3_; replace HO505 := n4_; have HO510 := n5_; replace BK458 := n6_; replace BK459 := n7_; replace BK460 := n8_; replace BK477 := n9_; replace BK487 := n10_; replace HB := n11_; clear n0_ n1_ n2_ n3_ n4_ n5_ n6_ n7_ n8_ n9_ n10_ n11_
       (try clear hb)
       (try clear hb2)
       (try clear hk)
       (try clear hi)
       (try clear ho0)
       obtain ⟨Ao97, co97, eo97⟩ := Kd.R_slice HO505.out
       (first | subst eo97 | (injection eo97 with f1_ f2_ f3_; have f4_ := f1_.symm; have f5_ := f3_.symm; clear f1_ f2_ f3_; subst f4_; subst f5_))
       obtain ⟨Ao98, co98, eo98⟩ := Kd.R_slice HO510.out
       (first | subst eo98 | (injection eo98 with f1_ f2_ f3_; have f4_ := f1_.symm; have f5_ := f3_.symm; clear f1_ f2_ f3_; subst f4_; subst f5_))
       refine hK.out _ _ ⟨e_ BK458 0, e_ BK458 1, e_ BK458 2, e_ BK459 0, e_ BK459 1, e_ BK459 2, e_ BK459 3, e_ BK459 4, e_ BK459 5, e_ BK460 0, e_ BK460 1, e_ BK460 2⟩ (fun hHeld => ?_)
       clear hK K
       refine norm_ (a' := ?_) ?_ ?_
       rotate_left
       · show Act.put _ (some 102) _ = _
         simp only [Act.put, s0_, s1_, s2_, i64_w, i32_w]
         rfl
       refine one_ (i := 16) (N := some 103) #[T,T,T,T,T,T,T,T,T,T,T,T,T,T,T,T,T,F,F,F,F,F] rfl rfl (one_of HT_.out (by kernel_rfl)) (by decide) (fun K hK => ?_)
       refine goes_ Try.func62 (by kernel_rfl) rfl #[.agg #[.int .i64 t501, .int .i64 t502, .slice Ao97 t503.length co97], .agg #[.int .i64 t506, .int .i64 t507, .slice Ao98 t508.length co98]] (by rfl) rfl rfl (by (try simp only [m0_, m1_, m2_]); first | done | rfl) ?_
       with_reducible refine (hopperref05_Same.calls kj28 t501 t502 _ _ t503 t506 t507 _ _ t508 true _ ?side1 ?side2 ?side3 ?side4 A86.out).mono ?_
       (case side1 => repeat (first | exact (Kd.R_reads' HO505.out).2.2 | (with_reducible refine ca_ ?_ _) | (with_reducible refine cn_ ?_ _) | (with_reducible refine cd_ ?_)))
       (case side2 => exact (Kd.R_reads' HO505.out).2.1)
       (case side3 => repeat (first | exact (Kd.R_reads' HO510.out).2.2 | (with_reducible refine ca_ ?_ _) | (with_reducible refine cn_ ?_ _) | (with_reducible refine cd_ ?_)))
       (case side4 => exact (Kd.R_reads' HO510.out).2.1)
       rintro e w99 ⟨rfl, hb⟩
       refine ⟨_, rfl, ?_⟩
       have n0_ := A_ (Kd.V_below (pv_ HO_478002.out) hb); have n1_ := A_ (Kd.V_below (pv_ HO_488002.out) hb); have n2_ := A_ (Kd.R_below (pr_ HO494.out) hb); have n3_ := A_ (Kd.R_below (pr_ HO499.out) hb); have n4_ := A_ (Kd.R_below (pr_ HO505.out) hb); have n5_ := A_ (Kd.R_below (pr_ HO510.out) hb); have n6_ := A_ (kb_ BK458 hb); have n7_ := A_ (kb_ BK459 hb); have n8_ := A_ (kb_ BK460 hb); have n9_ := A_ (kb_ BK477 hb); have n10_ := A_ (kb_ BK487 hb); have n11_ := A_ (below_step bw_ hb); replace HO_478002 := n0_; replace HO_488002 := n1_; replace HO494 := n2_; replace HO499 := n3_; replace HO505 := n4_; replace HO510 := n5_; replace BK458 := n6_; replace BK459 := n7_; replace BK460 := n8_; replace BK477 := n9_; replace BK487 := n10_; replace HB := n11_; clear n0_ n1_ n2_ n3_ n4_ n5_ n6_ n7_ n8_ n9_ n10_ n11_
       (try clear hb)
       (try clear hb2)
       (try clear hk)
       (try clear hi)
       refine hK.out _ _ ⟨e_ BK458 0, e_ BK458 1, e_ BK458 2, e_ BK459 0, e_ BK459 1, e_ BK459 2, e_ BK459 3, e_ BK459 4, e_ BK459 5, e_ BK460 0, e_ BK460 1, e_ BK460 2⟩ (fun hHeld => ?_)
       clear hK K
       refine norm_ (a' := ?_) ?_ ?_
       rotate_left
       · show Act.put _ (some 103) _ = _
         simp only [Act.put, s0_, s1_, s2_, i64_w, i32_w]
         rfl
       refine pq_ 17 104 HT_ ?_
       refine pq_ 18 105 HT_ ?_
       refine one_ (i := 19) (N := some 106) #[T,T,T,T,T,T,T,T,T,T,T,T,T,T,T,T,T,T,T,T,F,F] rfl rfl (one_of HT_.out (by kernel_rfl)) (by decide) (fun K hK => ?_)
       refine goes_ Try.func51 (by kernel_rfl) rfl #[] (by rfl) rfl rfl (by (try simp only [m0_, m1_, m2_]); first | done | rfl) ?_
       with_reducible refine (hopperlaw05_live.calls kj28  t512 _ A88.out).mono ?_
       rintro e w100 ⟨rfl, hb⟩
       refine ⟨_, rfl, ?_⟩
       have n0_ := A_ (Kd.V_below (pv_ HO_478002.out) hb); have n1_ := A_ (Kd.V_below (pv_ HO_488002.out) hb); have n2_ := A_ (Kd.R_below (pr_ HO494.out) hb); have n3_ := A_ (Kd.R_below (pr_ HO499.out) hb); have n4_ := A_ (Kd.R_below (pr_ HO505.out) hb); have n5_ := A_ (Kd.R_below (pr_ HO510.out) hb); have n6_ := A_ (kb_ BK458 hb); have n7_ := A_ (kb_ BK459 hb); have n8_ := A_ (kb_ BK460 hb); have n9_ := A_ (kb_ BK477 hb); have n10_ := A_ (kb_ BK487 hb); have n11_ := A_ (below_step bw_ hb); replace HO_478002 := n0_; replace HO_488002 := n1_; replace HO494 := n2_; replace HO499 := n3_; replace HO505 := n4_; replace HO510 := n5_; replace BK458 := n6_; replace BK459 := n7_; replace BK460 := n8_; replace BK477 := n9_; replace BK487 := n10_; replace HB := n11_; clear n0_ n1_ n2_ n3_ n4_ n5_ n6_ n7_ n8_ n9_ n10_ n11_
       (try clear hb)
       (try clear hb2)
       (try clear hk)
       (try clear hi)
       refine hK.out _ _ ⟨e_ BK458 0, e_ BK458 1, e_ BK458 2, e_ BK459 0, e_ BK459 1, e_ BK459 2, e_ BK459 3, e_ BK459 4, e_ BK459 5, e_ BK460 0, e_ BK460 1, e_ BK460 2⟩ (fun hHeld => ?_)
       clear hK K
       refine norm_ (a' := ?_) ?_ ?_
       rotate_left
       · show Act.put _ (some 106) _ = _
         simp only [Act.put, s0_, s1_, s2_, i64_w, i32_w]
         rfl
       refine pq_ 20 107 HT_ ?_
       refine pq_ 21 6 HT_ ?_
       refine done_ (done_of HT_.out (by kernel_rfl)) ?_
       try go_wp2
       go_ret
       exact ⟨by first | rfl | (simp [errW_none, errW_some] <;> rfl) | (simp [*, errW_none, errW_some] <;> rfl), by repeat (first | (with_reducible first | exact HB.out | apply wa_ | apply wn_ | apply wd_ | refine ws_ ?_ GE458.out | refine ws_ ?_ GE459.out | refine ws_ ?_ GE460.out | refine ws_ ?_ GE477.out | refine ws_ ?_ GE487.out) | exact HB.out)⟩
open Go.Proofs.Ytehncbhmdgdkjaa.Row (okI okB okS okL) in
/-- THE ONE PURE STATEMENT of hopperlaw05_QueueChanges. -/
def hopperlaw05_QueueChanges.Pure : Prop := ∀ (a0_0 : Int) (a0_1 : Int) (l0_2 : List (S24)) (a1_0 : Int) (a1_1 : Int) (a1_2 : Int) (a1_3 : Int) (a1_4 : Int) (a1_5 : ByteArray) (a2_0 : Int) (a2_1 : Int) (a2_2 : Int), ok46 (⟨a0_0, a0_1, l0_2⟩ : S46) → ok24 (⟨a1_0, a1_1, a1_2, a1_3, a1_4, a1_5⟩ : S24) → ok56 (⟨a2_0, a2_1, a2_2⟩ : S56) → ∃ k, hopperlaw05_QueueChanges.f k a0_0 a0_1 l0_2 a1_0 a1_1 a1_2 a1_3 a1_4 a1_5 a2_0 a2_1 a2_2 = some true

end Go.Proofs.Ytehncbhmdgdkjaa.Q
