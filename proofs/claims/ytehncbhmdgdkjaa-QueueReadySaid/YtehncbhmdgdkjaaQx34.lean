/- Written by this session's own program over the kit's print: functions of Go told as plain functions, or the row of one statement; proved for every input, with no condition of ours. -/
import Derived.Test.YtehncbhmdgdkjaaQx0
import Derived.Test.YtehncbhmdgdkjaaQx1
import Derived.Test.YtehncbhmdgdkjaaQx6
import Derived.Test.YtehncbhmdgdkjaaQx7
import Derived.Test.YtehncbhmdgdkjaaQx8
import Derived.Test.YtehncbhmdgdkjaaQx9
import Derived.Test.YtehncbhmdgdkjaaQx20
namespace Go.Proofs.Ytehncbhmdgdkjaa.Q
open Go.RowKit Go.Proofs.YtehncbhmdgdkjaaW.PrintWords Go.Proofs.YtehncbhmdgdkjaaW.PrintLast Go.Proofs.YtehncbhmdgdkjaaW.PrintMore
attribute [local go_sem] max2_int min2_int max_two min_two max_three min_three max_four min_four   -- for this text's walks alone
set_option linter.unusedVariables false
set_option linter.unusedSimpArgs false

attribute [local go_sem high] eqA24
/-! ### hopperlaw05_QueueReady: function 13 -/
mutual
def hopperlaw05_QueueReady.j0 : Nat → Bool → Int → Int → List (S24) → Option (Bool)
  | 0, _, _, _, _ => none
  | k + 1, x17, x563000, x563001, x563002 => if x17 = true then ((hopperlaw05_live.f k).bind fun t565 => (some t565)) else ((queue_Ready.f k x563000 x563001 x563002).bind fun t566 => (if (t566.length : Int) > (x563002.length : Int) then (none) else (hopperlaw05_QueueReady.l0 k t566 0 x563000 x563001 x563002)))
def hopperlaw05_QueueReady.l0 : Nat → List (S24) → Int → Int → Int → List (S24) → Option (Bool)
  | 0, _, _, _, _, _ => none
  | k + 1, x5, x6, x563000, x563001, x563002 => if x6 < (x5.length : Int) then (if 0 ≤ x6 then (if x6 < (x563002.length : Int) then (if (!(((rd_T24 x5 x6).f0) == ((rd_T24 x563002 x6).f0)) || (!(((rd_T24 x5 x6).f1) == ((rd_T24 x563002 x6).f1)) || (!(((rd_T24 x5 x6).f2) == ((rd_T24 x563002 x6).f2)) || (!(((rd_T24 x5 x6).f3) == ((rd_T24 x563002 x6).f3)) || (!(((rd_T24 x5 x6).f4) == ((rd_T24 x563002 x6).f4)) || (!((((rd_T24 x5 x6).f5).toList) == (((rd_T24 x563002 x6).f5).toList)))))))) = true then (none) else (if ((rd_T24 x5 x6).f1) = (wrap64 (x563001 + x6)) then (hopperlaw05_QueueReady.l0 k x5 (wrap64 (x6 + 1)) x563000 x563001 x563002) else (none))) else (none)) else (none)) else ((queue_Find.f x563000 x563001 x563002 (wrap64 (x563001 + (x5.length : Int)))).bind fun bt572 => (if bt572.2.2.2.2.2.2 = true then (none) else (if (x5.length : Int) = (x563002.length : Int) then ((hopperlaw05_live.f k).bind fun t580 => (some t580)) else (if 0 ≤ (x5.length : Int) then (if (x5.length : Int) < (x563002.length : Int) then (if ((rd_T24 x563002 (x5.length : Int)).f1) > (wrap64 (x563001 + (x5.length : Int))) then ((hopperlaw05_live.f k).bind fun t582 => (some t582)) else (none)) else (none)) else (none)))))
end
def hopperlaw05_QueueReady.f (k : Nat) (a0_0 : Int) (a0_1 : Int) (l0_2 : List (S24)) (a1 : Int) : Option (Bool) := (hopperref05_Small.f k a0_0 a0_1 l0_2).bind fun t563 => (if t563 = true then ((queue_Check.f k a0_0 a0_1 l0_2 a1).bind fun t564 => (hopperlaw05_QueueReady.j0 k (!t564) a0_0 a0_1 l0_2)) else (hopperlaw05_QueueReady.j0 k true a0_0 a0_1 l0_2))
theorem hopperlaw05_QueueReady.mono_l : ∀ k, (∀ y0 y1 y2 y3, LeO (hopperlaw05_QueueReady.j0 k y0 y1 y2 y3) (hopperlaw05_QueueReady.j0 (k + 1) y0 y1 y2 y3)) ∧ (∀ y0 y1 y2 y3 y4, LeO (hopperlaw05_QueueReady.l0 k y0 y1 y2 y3 y4) (hopperlaw05_QueueReady.l0 (k + 1) y0 y1 y2 y3 y4))
  | 0 => ⟨fun _ _ _ _ r h => by simp [hopperlaw05_QueueReady.j0] at h, fun _ _ _ _ _ r h => by simp [hopperlaw05_QueueReady.l0] at h⟩
  | k + 1 => by
    obtain ⟨ih0, ih1⟩ := hopperlaw05_QueueReady.mono_l k
    refine ⟨?_, ?_⟩
    · intro y0 y1 y2 y3
      unfold hopperlaw05_QueueReady.j0
      repeat' first
      | (with_reducible exact ih0 _ _ _ _)
      | (with_reducible exact ih1 _ _ _ _ _)
      | (with_reducible exact hopperlaw05_live.mono _)
      | (with_reducible exact hopperref05_Small.mono _ _ _ _)
      | (with_reducible exact queue_Check.mono _ _ _ _ _)
      | (with_reducible exact queue_Ready.mono _ _ _ _)
      | (with_reducible exact LeO.refl _)
      | (with_reducible exact LeO.none _)
      | (with_reducible refine LeO.ite ?_ ?_)
      | (with_reducible refine LeO.bind ?_ (fun _ => ?_))
      | exact ih0 _ _ _ _
      | exact ih1 _ _ _ _ _
      | exact hopperlaw05_live.mono _
      | exact hopperref05_Small.mono _ _ _ _
      | exact queue_Check.mono _ _ _ _ _
      | exact queue_Ready.mono _ _ _ _
      | exact LeO.none _
      | refine LeO.ite ?_ ?_
      | refine LeO.bind ?_ (fun _ => ?_)
    · intro y0 y1 y2 y3 y4
      unfold hopperlaw05_QueueReady.l0
      repeat' first
      | (with_reducible exact ih0 _ _ _ _)
      | (with_reducible exact ih1 _ _ _ _ _)
      | (with_reducible exact hopperlaw05_live.mono _)
      | (with_reducible exact hopperref05_Small.mono _ _ _ _)
      | (with_reducible exact queue_Check.mono _ _ _ _ _)
      | (with_reducible exact queue_Ready.mono _ _ _ _)
      | (with_reducible exact LeO.refl _)
      | (with_reducible exact LeO.none _)
      | (with_reducible refine LeO.ite ?_ ?_)
      | (with_reducible refine LeO.bind ?_ (fun _ => ?_))
      | exact ih0 _ _ _ _
      | exact ih1 _ _ _ _ _
      | exact hopperlaw05_live.mono _
      | exact hopperref05_Small.mono _ _ _ _
      | exact queue_Check.mono _ _ _ _ _
      | exact queue_Ready.mono _ _ _ _
      | exact LeO.none _
      | refine LeO.ite ?_ ?_
      | refine LeO.bind ?_ (fun _ => ?_)
theorem hopperlaw05_QueueReady.mono : ∀ a0 a1 a2 a3 k, LeO (hopperlaw05_QueueReady.f k a0 a1 a2 a3) (hopperlaw05_QueueReady.f (k + 1) a0 a1 a2 a3) := by
  intro a0 a1 a2 a3 k
  obtain ⟨ih0, ih1⟩ := hopperlaw05_QueueReady.mono_l k
  unfold hopperlaw05_QueueReady.f
  repeat' first
      | (with_reducible exact ih0 _ _ _ _)
      | (with_reducible exact ih1 _ _ _ _ _)
      | (with_reducible exact hopperlaw05_live.mono _)
      | (with_reducible exact hopperref05_Small.mono _ _ _ _)
      | (with_reducible exact queue_Check.mono _ _ _ _ _)
      | (with_reducible exact queue_Ready.mono _ _ _ _)
      | (with_reducible exact LeO.refl _)
      | (with_reducible exact LeO.none _)
      | (with_reducible refine LeO.ite ?_ ?_)
      | (with_reducible refine LeO.bind ?_ (fun _ => ?_))
      | exact ih0 _ _ _ _
      | exact ih1 _ _ _ _ _
      | exact hopperlaw05_live.mono _
      | exact hopperref05_Small.mono _ _ _ _
      | exact queue_Check.mono _ _ _ _ _
      | exact queue_Ready.mono _ _ _ _
      | exact LeO.none _
      | refine LeO.ite ?_ ?_
      | refine LeO.bind ?_ (fun _ => ?_)
def hopperlaw05_QueueReady.T9 : Bool × List (List Nat × List Nat) := (true, [([], []), ([], []), ([0, 1], [0, 1]), ([2], [2]), ([], []), ([4], [4]), ([], []), ([5, 6], [5, 6]), ([7], [7]), ([3, 8], [3, 8]), ([9], [9]), ([10], [10]), ([10], [10]), ([11, 12, 10], [10, 11, 12]), ([13, 10], [10, 13]), ([14, 10], [10, 14]), ([10], [10]), ([16, 10], [10, 16]), ([10], [10]), ([17, 18, 10], [10, 17, 18]), ([15, 19, 10], [10, 15, 19]), ([10, 20], [10, 20])])
def hopperlaw05_QueueReady.B9 : List Nat := [0, 0, 3, 7, 0, 16, 0, 112, 240, 511, 1023, 2047, 2047, 8191, 16383, 32767, 2047, 67583, 2047, 460799, 1048575, 2097151]
theorem hopperlaw05_QueueReady.tab9 : rtab .any (opsOf Try.f13 9) = hopperlaw05_QueueReady.T9 := by kernel_rfl
theorem hopperlaw05_QueueReady.bits9 : waitsOk hopperlaw05_QueueReady.T9.2 hopperlaw05_QueueReady.B9 = true := by kernel_rfl
def hopperlaw05_QueueReady.T12 : Bool × List (List Nat × List Nat) := (true, [([], []), ([0], [0]), ([1], [1]), ([2], [2]), ([3, 2], [2, 3]), ([2], [2]), ([5, 2], [2, 5]), ([6, 2], [2, 6]), ([4, 7, 2], [2, 4, 7]), ([8, 2, 2], [2, 8]), ([9], [9]), ([10, 9], [9, 10]), ([9], [9]), ([12, 9], [9, 12]), ([11, 13, 9], [9, 11, 13]), ([14, 9], [9, 14]), ([15, 9], [9, 15]), ([9], [9]), ([17, 9], [9, 17]), ([9], [9]), ([19, 9], [9, 19]), ([18, 20, 9], [9, 18, 20]), ([16, 21, 9], [9, 16, 21]), ([9, 22, 2], [2, 9, 22]), ([2, 23], [2, 23]), ([24, 9], [24]), ([25, 25], [25]), ([25, 26], [25, 26]), ([27, 26, 0, 1, 2, 3, 4, 5, 6, 7, 8, 9, 10, 11, 12, 13, 14, 15, 16, 17, 18, 19, 20, 21, 22, 23, 24, 25, 26, 27], [27])])
def hopperlaw05_QueueReady.B12 : List Nat := [0, 1, 3, 7, 15, 7, 39, 103, 255, 511, 1023, 2047, 1023, 5119, 16383, 32767, 65535, 1023, 132095, 1023, 525311, 1967103, 4194303, 8388607, 16777215, 33554431, 67108863, 134217727, 268435455]
theorem hopperlaw05_QueueReady.tab12 : rtab .any (opsOf Try.f13 12) = hopperlaw05_QueueReady.T12 := by kernel_rfl
theorem hopperlaw05_QueueReady.bits12 : waitsOk hopperlaw05_QueueReady.T12.2 hopperlaw05_QueueReady.B12 = true := by kernel_rfl
theorem hopperlaw05_QueueReady.six_ {a b c d e x y z u v : Int} {s t : List UInt8} (h : (a == x && (b == y && (c == z && (d == u && (e == v && (s == t)))))) = true) : (a = x) = True ∧ (b = y) = True ∧ (c = z) = True ∧ (d = u) = True ∧ (e = v) = True ∧ (s = t) = True := by
  simp only [Bool.and_eq_true, beq_iff_eq] at h
  simp [h]
abbrev hopperlaw05_QueueReady.T : Bool := true
abbrev hopperlaw05_QueueReady.F : Bool := false
theorem hopperlaw05_QueueReady.on_ {W W' : World} {p : Addr} {v : Value} (hb : Below W.heap.size W W') (h : W.cell? p = some v) : W'.cell? p = some v := (hb.cell (World.block_lt_of_cell? _ _ h)).trans h
theorem hopperlaw05_QueueReady.f6_ {α : Type} {d : Kd α} {e base g : Nat} {w : World} {ok : Nat → Prop} {v : Value} {xs : List α} (h : Kd.R d e w base ok v xs) (hok : ∀ k, ok k → k ≠ g) (a0 a1 a2 a3 a4 a5 : Value) : Kd.R d e ((((((w.setCell ⟨g, 0, none⟩ a0).setCell ⟨g, 1, none⟩ a1).setCell ⟨g, 2, none⟩ a2).setCell ⟨g, 3, none⟩ a3).setCell ⟨g, 4, none⟩ a4).setCell ⟨g, 5, none⟩ a5) base ok v xs := Kd.R_far (p := ⟨g, 5, none⟩) (Kd.R_far (p := ⟨g, 4, none⟩) (Kd.R_far (p := ⟨g, 3, none⟩) (Kd.R_far (p := ⟨g, 2, none⟩) (Kd.R_far (p := ⟨g, 1, none⟩) (Kd.R_far (p := ⟨g, 0, none⟩) h hok a0) hok a1) hok a2) hok a3) hok a4) hok a5
abbrev hopperlaw05_QueueReady.bn_ := @blk_drewN
abbrev hopperlaw05_QueueReady.bd_ := @blk_drew
abbrev hopperlaw05_QueueReady.ba_ := @blk_alloc
abbrev hopperlaw05_QueueReady.ra_ := @Kd.R_alloc
abbrev hopperlaw05_QueueReady.rn_ := @Kd.R_drewN
abbrev hopperlaw05_QueueReady.rd_ := @Kd.R_drew
abbrev hopperlaw05_QueueReady.ca_ := @Kd.C_alloc
abbrev hopperlaw05_QueueReady.cn_ := @Kd.C_drewN
abbrev hopperlaw05_QueueReady.cd_ := @Kd.C_drew
abbrev hopperlaw05_QueueReady.wa_ := @below_alloc
abbrev hopperlaw05_QueueReady.wn_ := @pw_below_drewN
abbrev hopperlaw05_QueueReady.wd_ := @below_drew1
abbrev hopperlaw05_QueueReady.ws_ := @below_set
abbrev hopperlaw05_QueueReady.A_ := @Aside0.mk
abbrev hopperlaw05_QueueReady.s0_ := @List.setIfInBounds_toArray
abbrev hopperlaw05_QueueReady.s1_ := @List.set_cons_zero
abbrev hopperlaw05_QueueReady.s2_ := @List.set_cons_succ
abbrev hopperlaw05_QueueReady.m0_ := @List.map_toArray
abbrev hopperlaw05_QueueReady.m1_ := @List.map_cons
abbrev hopperlaw05_QueueReady.m2_ := @List.map_nil
set_option maxHeartbeats 8000000 in
set_option maxRecDepth 100000 in
theorem hopperlaw05_QueueReady.calls (k : Nat) (a0_0 : Int) (a0_1 : Int) (A0_2 : Option Addr) (c0_2 : Nat) (l0_2 : List (S24)) (a1 : Int) (r : Bool) (w : World) (hr0_2 : Kd.C k24 w A0_2 l0_2.length l0_2) (hc0_2 : l0_2.length ≤ c0_2) (h : hopperlaw05_QueueReady.f k a0_0 a0_1 l0_2 a1 = some r) :
    Calls Try.prog 13 #[.agg #[.int .i64 a0_0, .int .i64 a0_1, .slice A0_2 l0_2.length c0_2], .int .i64 a1] w fun e w' => e = .returned (.bool r) ∧ Below w.heap.size w w' := by
  have hu46 := Try.underlying46
  have hu24 := Try.underlying24
  have HR0_2 := A_ hr0_2
  have HC0_2 := A_ hc0_2
  clear hr0_2 hc0_2; have HB := A_ (Below.refl w.heap.size w)
  have H : ((hopperref05_Small.f k a0_0 a0_1 l0_2).bind fun t563 => (if t563 = true then ((queue_Check.f k a0_0 a0_1 l0_2 a1).bind fun t564 => (hopperlaw05_QueueReady.j0 k (!t564) a0_0 a0_1 l0_2)) else (hopperlaw05_QueueReady.j0 k true a0_0 a0_1 l0_2))) = some r := h
  clear h
  have HC3 := A_ H
  clear H
  go_enter Try.func13, Try.ntmps13
  go_upto_region 1 with (first | ((with_reducible refine gate_dst (N := 2) rfl ?_); (try (refine gate_guard (by rfl) ?_; dsimp only)); refine box_event ?hg (N := 2) ?hd (cs := #[.int .i64 a0_0, .int .i64 a0_1, .slice A0_2 l0_2.length c0_2]) (t := 46) ?hr ?_; (case hd => rfl); (case hg => rfl); (case hr => first | (go_simp; done) | (go_simp; rfl)); intro gb562 hg w4 hbox hb; have n0_ := A_ (below_step (by repeat (first | (with_reducible first | exact HB.out | apply wa_ | apply wn_ | apply wd_) | exact HB.out)) hb); have n1_ := A_ (hbox); have n2_ := A_ ((by rw [hg]; exact (below_size (by repeat (first | (with_reducible first | exact HB.out | apply wa_ | apply wn_ | apply wd_) | exact HB.out))) : w.heap.size ≤ gb562)); have n3_ := A_ ((by rw [hg]; exact (below_size (by repeat (first | (with_reducible first | exact HB.out | apply wa_ | apply wn_ | apply wd_) | exact HB.out))) : w.heap.size ≤ gb562)); clear HB; have HB := n0_; have BK562 := n1_; have GW562 := n2_; have GE562 := n3_; clear n0_ n1_ n2_ n3_; clear hb hbox hg))
  (try simp only [Act.put, s0_, s1_, s2_])
  go_cut [17] (fun v17 wc => ∃ (kq : Nat) (x17_2 : Bool), v17 = .bool x17_2 ∧ Aside0 (hopperlaw05_QueueReady.j0 kq x17_2 a0_0 a0_1 l0_2 = some r) ∧ Aside0 (kq ≤ k) ∧ Aside0 (wc.heap[gb562]? = some (.cells #[.int .i64 a0_0, .int .i64 a0_1, (.slice A0_2 l0_2.length c0_2)] 46 (0, 0))) ∧ Aside0 (Below w.heap.size w wc))
  case first =>
    have H := HC3.out
    clear HC3
    replace H := Option.bind_eq_some_iff.mp H
    obtain ⟨t563, A50, H⟩ := H
    try dsimp only at H
    have A5 := A_ A50
    clear A50
    by_cases c6 : t563 = true
    · subst c6
      have H1 : ((queue_Check.f k a0_0 a0_1 l0_2 a1).bind fun t564 => (hopperlaw05_QueueReady.j0 k (!t564) a0_0 a0_1 l0_2)) = some r := by rw [if_pos rfl] at H; exact H
      clear H
      have H := H1
      clear H1
      replace H := Option.bind_eq_some_iff.mp H
      obtain ⟨t564, A70, H⟩ := H
      try dsimp only at H
      have A7 := A_ A70
      clear A70
      have H' := A_ H
      clear H; have hcz8_0 : w4.cell? ⟨gb562, 0, none⟩ = some (.int .i64 a0_0) := (blk_cell BK562.out 0).trans rfl; have hcz8_1 : w4.cell? ⟨gb562, 1, none⟩ = some (.int .i64 a0_1) := (blk_cell BK562.out 1).trans rfl; have hcz8_2 : w4.cell? ⟨gb562, 2, none⟩ = some (.slice A0_2 l0_2.length c0_2) := (blk_cell BK562.out 2).trans rfl; have hfz8_0 := blk_frozen BK562.out 0; have hfz8_1 := blk_frozen BK562.out 1; have hfz8_2 := blk_frozen BK562.out 2
      go_wp2_with (first | ((with_reducible refine gate_callee (f := 50) rfl ?_); refine goesL_ (some 10) rfl rfl Try.func50 (by kernel_rfl) rfl #[.agg #[.int .i64 a0_0, .int .i64 a0_1, .slice A0_2 l0_2.length c0_2]] rfl (by (try simp only [m0_, m1_, m2_]); first | done | rfl) ?_; (with_reducible refine (hopperref05_Small.calls k a0_0 a0_1 _ _ l0_2 true _ ?side1 ?side2 A5.out).mono ?_); (case side1 => repeat (first | exact (Kd.C_below HR0_2.out HB.out) | (with_reducible refine ca_ ?_ _) | (with_reducible refine cn_ ?_ _) | (with_reducible refine cd_ ?_))); (case side2 => exact HC0_2.out); rintro e w9 ⟨rfl, hb⟩; refine ⟨_, rfl, ?_⟩; have n0_ := A_ (blk_below (g := gb562) (o := .cells #[.int .i64 a0_0, .int .i64 a0_1, .slice A0_2 l0_2.length c0_2] 46 (0, 0)) (by (with_reducible repeat (first | refine bn_ ?_ _ | refine bd_ ?_ | refine ba_ ?_ _)); exact BK562.out) hb); have n1_ := A_ (below_step (by repeat (first | (with_reducible first | exact HB.out | apply wa_ | apply wn_ | apply wd_ | refine ws_ ?_ GE562.out) | exact HB.out)) hb); clear BK562; clear HB; have BK562 := n0_; have HB := n1_; clear n0_ n1_; (try clear hb); (try clear hb2); (try clear hk); (try clear hi); have hcz10_0 : w9.cell? ⟨gb562, 0, none⟩ = some (.int .i64 a0_0) := (blk_cell BK562.out 0).trans rfl; have hcz10_1 : w9.cell? ⟨gb562, 1, none⟩ = some (.int .i64 a0_1) := (blk_cell BK562.out 1).trans rfl; have hcz10_2 : w9.cell? ⟨gb562, 2, none⟩ = some (.slice A0_2 l0_2.length c0_2) := (blk_cell BK562.out 2).trans rfl; have hfz10_0 := blk_frozen BK562.out 0; have hfz10_1 := blk_frozen BK562.out 1; have hfz10_2 := blk_frozen BK562.out 2) | (go_at_call 54; (with_reducible refine (queue_Check.calls k a0_0 a0_1 _ _ l0_2 a1 t564 _ ?side1 ?side2 A7.out).mono ?_); (case side1 => repeat (first | exact (Kd.C_below HR0_2.out HB.out) | (with_reducible refine ca_ ?_ _) | (with_reducible refine cn_ ?_ _) | (with_reducible refine cd_ ?_))); (case side2 => exact HC0_2.out); rintro e w11 ⟨rfl, hb⟩; have n0_ := A_ (blk_below (g := gb562) (o := .cells #[.int .i64 a0_0, .int .i64 a0_1, .slice A0_2 l0_2.length c0_2] 46 (0, 0)) (by (with_reducible repeat (first | refine bn_ ?_ _ | refine bd_ ?_ | refine ba_ ?_ _)); exact BK562.out) hb); have n1_ := A_ (below_step (by repeat (first | (with_reducible first | exact HB.out | apply wa_ | apply wn_ | apply wd_ | refine ws_ ?_ GE562.out) | exact HB.out)) hb); clear BK562; clear HB; have BK562 := n0_; have HB := n1_; clear n0_ n1_; (try clear hb); (try clear hb2); (try clear hk); (try clear hi)))
      go_meet
      case rel => exact ⟨_, (!t564), (by first | rfl | (simp; done) | (simp [*]; done)), H', ⟨by first | omega | exact Nat.le_refl _⟩, ⟨by (with_reducible repeat (first | refine bn_ ?_ _ | refine bd_ ?_ | refine ba_ ?_ _)); exact BK562.out⟩, ⟨by repeat (first | (with_reducible first | exact HB.out | apply wa_ | apply wn_ | apply wd_ | refine ws_ ?_ GE562.out) | exact HB.out)⟩⟩
    · replace c6 := Bool.eq_false_iff.mpr c6
      subst c6
      have H1 : (hopperlaw05_QueueReady.j0 k true a0_0 a0_1 l0_2) = some r := by rw [if_neg (show ¬ (false = true) by decide)] at H; exact H
      clear H
      have H := H1
      clear H1
      have H' := A_ H
      clear H; have hcz12_0 : w4.cell? ⟨gb562, 0, none⟩ = some (.int .i64 a0_0) := (blk_cell BK562.out 0).trans rfl; have hcz12_1 : w4.cell? ⟨gb562, 1, none⟩ = some (.int .i64 a0_1) := (blk_cell BK562.out 1).trans rfl; have hcz12_2 : w4.cell? ⟨gb562, 2, none⟩ = some (.slice A0_2 l0_2.length c0_2) := (blk_cell BK562.out 2).trans rfl; have hfz12_0 := blk_frozen BK562.out 0; have hfz12_1 := blk_frozen BK562.out 1; have hfz12_2 := blk_frozen BK562.out 2
      go_wp2_with (first | ((with_reducible refine gate_callee (f := 50) rfl ?_); refine goesL_ (some 10) rfl rfl Try.func50 (by kernel_rfl) rfl #[.agg #[.int .i64 a0_0, .int .i64 a0_1, .slice A0_2 l0_2.length c0_2]] rfl (by (try simp only [m0_, m1_, m2_]); first | done | rfl) ?_; (with_reducible refine (hopperref05_Small.calls k a0_0 a0_1 _ _ l0_2 false _ ?side1 ?side2 A5.out).mono ?_); (case side1 => repeat (first | exact (Kd.C_below HR0_2.out HB.out) | (with_reducible refine ca_ ?_ _) | (with_reducible refine cn_ ?_ _) | (with_reducible refine cd_ ?_))); (case side2 => exact HC0_2.out); rintro e w13 ⟨rfl, hb⟩; refine ⟨_, rfl, ?_⟩; have n0_ := A_ (blk_below (g := gb562) (o := .cells #[.int .i64 a0_0, .int .i64 a0_1, .slice A0_2 l0_2.length c0_2] 46 (0, 0)) (by (with_reducible repeat (first | refine bn_ ?_ _ | refine bd_ ?_ | refine ba_ ?_ _)); exact BK562.out) hb); have n1_ := A_ (below_step (by repeat (first | (with_reducible first | exact HB.out | apply wa_ | apply wn_ | apply wd_ | refine ws_ ?_ GE562.out) | exact HB.out)) hb); clear BK562; clear HB; have BK562 := n0_; have HB := n1_; clear n0_ n1_; (try clear hb); (try clear hb2); (try clear hk); (try clear hi)))
      go_meet
      case rel => exact ⟨_, (true), (by first | rfl | (simp; done) | (simp [*]; done)), H', ⟨by first | omega | exact Nat.le_refl _⟩, ⟨by (with_reducible repeat (first | refine bn_ ?_ _ | refine bd_ ?_ | refine ba_ ?_ _)); exact BK562.out⟩, ⟨by repeat (first | (with_reducible first | exact HB.out | apply wa_ | apply wn_ | apply wd_ | refine ws_ ?_ GE562.out) | exact HB.out)⟩⟩
  case rest =>
    clear HC3; (try clear c1); (try clear p2); (try clear c5); (try clear c6); (try clear c13); (try clear hcz10_0); (try clear hcz10_1); (try clear hcz10_2); (try clear hcz12_0); (try clear hcz12_1); (try clear hcz12_2); (try clear hcz8_0); (try clear hcz8_1); (try clear hcz8_2); (try clear hfz10_0); (try clear hfz10_1); (try clear hfz10_2); (try clear hfz12_0); (try clear hfz12_1); (try clear hfz12_2); (try clear hfz8_0); (try clear hfz8_1); (try clear hfz8_2)
    obtain ⟨kq, x17_2, rfl, HA, HJ2, BK562, HB⟩ := hcut
    cases kq with
    | zero => exact absurd HA.out (by simp [hopperlaw05_QueueReady.j0])
    | succ kj2 =>
      have H := HA.out
      clear HA
      simp only [hopperlaw05_QueueReady.j0] at H
      by_cases c14 : x17_2 = true
      · subst c14
        have H1 : ((hopperlaw05_live.f kj2).bind fun t565 => (some t565)) = some r := by rw [if_pos rfl] at H; exact H
        clear H
        have H := H1
        clear H1
        replace H := Option.bind_eq_some_iff.mp H
        obtain ⟨t565, A150, H⟩ := H
        replace H : (some t565) = some r := H
        have A15 := A_ A150
        clear A150
        obtain rfl := Option.some.inj H
        go_wp2_with (first | ((with_reducible refine gate_callee (f := 51) rfl ?_); refine goesL_ (some 18) rfl rfl Try.func51 (by kernel_rfl) rfl #[] rfl (by (try simp only [m0_, m1_, m2_]); first | done | rfl) ?_; (with_reducible refine (hopperlaw05_live.calls kj2  t565 _ A15.out).mono ?_); rintro e w16 ⟨rfl, hb⟩; refine ⟨_, rfl, ?_⟩; have n0_ := A_ (blk_below (g := gb562) (o := .cells #[.int .i64 a0_0, .int .i64 a0_1, .slice A0_2 l0_2.length c0_2] 46 (0, 0)) (by (with_reducible repeat (first | refine bn_ ?_ _ | refine bd_ ?_ | refine ba_ ?_ _)); exact BK562.out) hb); have n1_ := A_ (below_step (by repeat (first | (with_reducible first | exact HB.out | apply wa_ | apply wn_ | apply wd_ | refine ws_ ?_ GE562.out) | exact HB.out)) hb); clear BK562; clear HB; have BK562 := n0_; have HB := n1_; clear n0_ n1_; (try clear hb); (try clear hb2); (try clear hk); (try clear hi)))
        go_ret
        exact ⟨by first | rfl | (simp [errW_none, errW_some] <;> rfl) | (simp [*, errW_none, errW_some] <;> rfl), by repeat (first | (with_reducible first | exact HB.out | apply wa_ | apply wn_ | apply wd_ | refine ws_ ?_ GE562.out) | exact HB.out)⟩
      · replace c14 := Bool.eq_false_iff.mpr c14
        subst c14
        have H1 : ((queue_Ready.f kj2 a0_0 a0_1 l0_2).bind fun t566 => (if (t566.length : Int) > (l0_2.length : Int) then (none) else (hopperlaw05_QueueReady.l0 kj2 t566 0 a0_0 a0_1 l0_2))) = some r := by rw [if_neg (show ¬ (false = true) by decide)] at H; exact H
        clear H
        have H := H1
        clear H1
        replace H := Option.bind_eq_some_iff.mp H
        obtain ⟨t566, A170, H⟩ := H
        try dsimp only at H
        have A17 := A_ A170
        clear A170
        by_cases c18 : (t566.length : Int) > (l0_2.length : Int)
        · rw [if_pos c18] at H
          exact absurd H (by simp)
        rw [if_neg c18] at H
        have c18b0 : decide ((l0_2.length : Int) < (t566.length : Int)) = false := decide_eq_false c18
        have c18b1 : decide (l0_2.length < t566.length) = false := decide_eq_false (fun h => c18 (Int.ofNat_lt.mpr h))
        clear c18
        have H' := A_ H
        clear H; have hcz19_0 : wc.cell? ⟨gb562, 0, none⟩ = some (.int .i64 a0_0) := (blk_cell BK562.out 0).trans rfl; have hcz19_1 : wc.cell? ⟨gb562, 1, none⟩ = some (.int .i64 a0_1) := (blk_cell BK562.out 1).trans rfl; have hcz19_2 : wc.cell? ⟨gb562, 2, none⟩ = some (.slice A0_2 l0_2.length c0_2) := (blk_cell BK562.out 2).trans rfl; have hfz19_0 := blk_frozen BK562.out 0; have hfz19_1 := blk_frozen BK562.out 1; have hfz19_2 := blk_frozen BK562.out 2
        go_wp2_with (first | ((with_reducible refine gate_callee (f := 55) rfl ?_); refine goesL_ (some 20) rfl rfl Try.func55 (by kernel_rfl) rfl #[.agg #[.int .i64 a0_0, .int .i64 a0_1, .slice A0_2 l0_2.length c0_2]] rfl (by (try simp only [m0_, m1_, m2_]); first | done | rfl) ?_; (with_reducible refine (queue_Ready.calls kj2 a0_0 a0_1 _ _ l0_2 t566 _ ?side1 ?side2 A17.out).mono ?_); (case side1 => repeat (first | exact (Kd.C_below HR0_2.out HB.out) | (with_reducible refine ca_ ?_ _) | (with_reducible refine cn_ ?_ _) | (with_reducible refine cd_ ?_))); (case side2 => exact HC0_2.out); rintro e w20 ⟨v567, rfl, ho0, hb⟩; refine ⟨_, rfl, ?_⟩; have n0_ := A_ (Kd.R_lower ho0 (below_size (by repeat (first | (with_reducible first | exact HB.out | apply wa_ | apply wn_ | apply wd_ | refine ws_ ?_ GE562.out) | exact HB.out)))); have n1_ := A_ (blk_below (g := gb562) (o := .cells #[.int .i64 a0_0, .int .i64 a0_1, .slice A0_2 l0_2.length c0_2] 46 (0, 0)) (by (with_reducible repeat (first | refine bn_ ?_ _ | refine bd_ ?_ | refine ba_ ?_ _)); exact BK562.out) hb); have n2_ := A_ (below_step (by repeat (first | (with_reducible first | exact HB.out | apply wa_ | apply wn_ | apply wd_ | refine ws_ ?_ GE562.out) | exact HB.out)) hb); clear BK562; clear HB; have HO568 := n0_; have BK562 := n1_; have HB := n2_; clear n0_ n1_ n2_; (try clear hb); (try clear hb2); (try clear hk); (try clear hi); (try clear ho0); obtain ⟨Ao21, co21, eo21⟩ := Kd.R_slice HO568.out; subst eo21; have hcz22_0 : w20.cell? ⟨gb562, 0, none⟩ = some (.int .i64 a0_0) := (blk_cell BK562.out 0).trans rfl; have hcz22_1 : w20.cell? ⟨gb562, 1, none⟩ = some (.int .i64 a0_1) := (blk_cell BK562.out 1).trans rfl; have hcz22_2 : w20.cell? ⟨gb562, 2, none⟩ = some (.slice A0_2 l0_2.length c0_2) := (blk_cell BK562.out 2).trans rfl; have hfz22_0 := blk_frozen BK562.out 0; have hfz22_1 := blk_frozen BK562.out 1; have hfz22_2 := blk_frozen BK562.out 2))
        go_loopg [6] kj2 (fun kq v6 w' => ∃ (x6_2 : Int), v6 = .int .i64 x6_2 ∧ Aside0 (hopperlaw05_QueueReady.l0 kq t566 x6_2 a0_0 a0_1 l0_2 = some r) ∧ Aside0 (kq ≤ kj2) ∧ Aside0 (Kd.R k24 24 w' w.heap.size (fun _ => True) (.slice Ao21 t566.length co21) t566) ∧ Aside0 (w'.heap[gb562]? = some (.cells #[.int .i64 a0_0, .int .i64 a0_1, (.slice A0_2 l0_2.length c0_2)] 46 (0, 0))) ∧ Aside0 (Below w.heap.size w w'))
        case atStart => exact ⟨(0), (by first | rfl | (simp; done) | (simp [*]; done)), H', ⟨Nat.le_refl _⟩, ⟨by (with_reducible repeat (first | apply ra_ | apply rn_ | apply rd_)); exact HO568.out⟩, ⟨by (with_reducible repeat (first | refine bn_ ?_ _ | refine bd_ ?_ | refine ba_ ?_ _)); exact BK562.out⟩, ⟨by repeat (first | (with_reducible first | exact HB.out | apply wa_ | apply wn_ | apply wd_ | refine ws_ ?_ GE562.out) | exact HB.out)⟩⟩
        case round =>
          clear H'; (try clear c1); (try clear p2); (try clear c5); (try clear c6); (try clear c13); (try clear c14); (try clear c18); (try clear c18b0); (try clear c18b1); (try clear hcz10_0); (try clear hcz10_1); (try clear hcz10_2); (try clear hcz12_0); (try clear hcz12_1); (try clear hcz12_2); (try clear hcz19_0); (try clear hcz19_1); (try clear hcz19_2); (try clear hcz22_0); (try clear hcz22_1); (try clear hcz22_2); (try clear hcz8_0); (try clear hcz8_1); (try clear hcz8_2); (try clear hfz10_0); (try clear hfz10_1); (try clear hfz10_2); (try clear hfz12_0); (try clear hfz12_1); (try clear hfz12_2); (try clear hfz19_0); (try clear hfz19_1); (try clear hfz19_2); (try clear hfz22_0); (try clear hfz22_1); (try clear hfz22_2); (try clear hfz8_0); (try clear hfz8_1); (try clear hfz8_2); (try clear p2)
          obtain ⟨x6_2, rfl, HA, HK2, HO_5, BK562, HB⟩ := hrel
          cases gk with
          | zero => exact absurd HA.out (by simp [hopperlaw05_QueueReady.l0])
          | succ k2 =>
            have H := HA.out
            clear HA
            simp only [hopperlaw05_QueueReady.l0] at H
            by_cases c23 : x6_2 < (t566.length : Int)
            · rw [if_pos c23] at H
              have c23b0 : decide (x6_2 < (t566.length : Int)) = true := decide_eq_true c23
              clear c23
              by_cases c24 : 0 ≤ x6_2
              rotate_left
              · rw [if_neg c24] at H
                exact absurd H (by simp)
              rw [if_pos c24] at H
              have c24b0 : decide (0 ≤ x6_2) = true := decide_eq_true c24
              clear c24
              by_cases c25 : x6_2 < (l0_2.length : Int)
              rotate_left
              · rw [if_neg c25] at H
                exact absurd H (by simp)
              rw [if_pos c25] at H
              have c25b0 : decide (x6_2 < (l0_2.length : Int)) = true := decide_eq_true c25
              clear c25
              by_cases c26 : (!(((rd_T24 t566 x6_2).f0) == ((rd_T24 l0_2 x6_2).f0)) || (!(((rd_T24 t566 x6_2).f1) == ((rd_T24 l0_2 x6_2).f1)) || (!(((rd_T24 t566 x6_2).f2) == ((rd_T24 l0_2 x6_2).f2)) || (!(((rd_T24 t566 x6_2).f3) == ((rd_T24 l0_2 x6_2).f3)) || (!(((rd_T24 t566 x6_2).f4) == ((rd_T24 l0_2 x6_2).f4)) || (!((((rd_T24 t566 x6_2).f5).toList) == (((rd_T24 l0_2 x6_2).f5).toList)))))))) = true
              · rw [if_pos c26] at H
                exact absurd H (by simp)
              rw [if_neg c26] at H
              have c26b0 : (!(((rd_T24 t566 x6_2).f0) == ((rd_T24 l0_2 x6_2).f0)) || (!(((rd_T24 t566 x6_2).f1) == ((rd_T24 l0_2 x6_2).f1)) || (!(((rd_T24 t566 x6_2).f2) == ((rd_T24 l0_2 x6_2).f2)) || (!(((rd_T24 t566 x6_2).f3) == ((rd_T24 l0_2 x6_2).f3)) || (!(((rd_T24 t566 x6_2).f4) == ((rd_T24 l0_2 x6_2).f4)) || (!((((rd_T24 t566 x6_2).f5).toList) == (((rd_T24 l0_2 x6_2).f5).toList)))))))) = false := by simpa using c26
              clear c26
              by_cases c27 : ((rd_T24 t566 x6_2).f1) = (wrap64 (a0_1 + x6_2))
              rotate_left
              · rw [if_neg c27] at H
                exact absurd H (by simp)
              rw [if_pos c27] at H
              have c27b0 : (((rd_T24 t566 x6_2).f1) == (wrap64 (a0_1 + x6_2))) = true := beq_iff_eq.mpr c27
              have c27b1 : (((rd_T24 t566 x6_2).f1) != (wrap64 (a0_1 + x6_2))) = false := bne_eq_false_iff_eq.mpr c27
              clear c27
              have H' := A_ H
              clear H
              try go_wp2
              have n0_ := A_ (rd_ HO_5.out); have n1_ := A_ (bd_ BK562.out); have n2_ := A_ (wd_ HB.out); clear HO_5; clear BK562; clear HB; have HO_5 := n0_; have BK562 := n1_; have HB := n2_; clear n0_ n1_ n2_
              have p569 : 0 ≤ (x6_2 : Int) := of_decide_eq_true (by first | (with_reducible assumption) | assumption)
              have q569 : x6_2 < (t566.length : Int) := of_decide_eq_true (by first | (with_reducible assumption) | assumption)
              obtain ⟨ad569, e569, hx569_0, hx569_1, hx569_2, hx569_3, hx569_4, hx569_5⟩ := at_T24 (Kd.R_reads' HO_5.out).2.2 x6_2 p569 q569
              cases e569
              replace p569 := eq_true p569
              replace q569 := eq_true q569
              have p570 : 0 ≤ (x6_2 : Int) := of_decide_eq_true (by first | (with_reducible assumption) | assumption)
              have q570 : x6_2 < (l0_2.length : Int) := of_decide_eq_true (by first | (with_reducible assumption) | assumption)
              obtain ⟨ad570, e570, hx570_0, hx570_1, hx570_2, hx570_3, hx570_4, hx570_5⟩ := at_T24 HR0_2.out x6_2 p570 q570
              have hw570_5 := hx570_5
              have hw570_4 := hx570_4
              have hw570_3 := hx570_3
              have hw570_2 := hx570_2
              have hw570_1 := hx570_1
              have hw570_0 := hx570_0
              cases e570
              replace hx570_0 := (HB.out.cell (World.block_lt_of_cell? w _ hx570_0)).trans hx570_0
              replace hx570_1 := (HB.out.cell (World.block_lt_of_cell? w _ hx570_1)).trans hx570_1
              replace hx570_2 := (HB.out.cell (World.block_lt_of_cell? w _ hx570_2)).trans hx570_2
              replace hx570_3 := (HB.out.cell (World.block_lt_of_cell? w _ hx570_3)).trans hx570_3
              replace hx570_4 := (HB.out.cell (World.block_lt_of_cell? w _ hx570_4)).trans hx570_4
              replace hx570_5 := (HB.out.cell (World.block_lt_of_cell? w _ hx570_5)).trans hx570_5
              replace p570 := eq_true p570
              replace q570 := eq_true q570
              have p571 : 0 ≤ (x6_2 : Int) := of_decide_eq_true (by first | (with_reducible assumption) | assumption)
              have q571 : x6_2 < (t566.length : Int) := of_decide_eq_true (by first | (with_reducible assumption) | assumption)
              obtain ⟨ad571, e571, hx571_0, hx571_1, hx571_2, hx571_3, hx571_4, hx571_5⟩ := at_T24 (Kd.R_reads' HO_5.out).2.2 x6_2 p571 q571
              obtain rfl : ad569 = ad571 := (by injection e571)
              replace p571 := eq_true p571
              replace q571 := eq_true q571
              refine start_ (n := 22) (S := fun w' => w'.cell? ⟨gb562, 0, none⟩ = some (.int .i64 a0_0) ∧ w'.cell? ⟨gb562, 1, none⟩ = some (.int .i64 a0_1) ∧ w'.cell? ⟨gb562, 2, none⟩ = some (.slice (some ad570) l0_2.length c0_2) ∧ w'.cell? (ad569.add ((x6_2).toNat * 6)) = some (.int .i64 ((rd_T24 t566 x6_2).f0)) ∧ w'.cell? ⟨(ad569.add ((x6_2).toNat * 6)).block, (ad569.add ((x6_2).toNat * 6)).off + 1, none⟩ = some (.int .i64 ((rd_T24 t566 x6_2).f1)) ∧ w'.cell? ⟨(ad569.add ((x6_2).toNat * 6)).block, (ad569.add ((x6_2).toNat * 6)).off + 2, none⟩ = some (.int .i64 ((rd_T24 t566 x6_2).f2)) ∧ w'.cell? ⟨(ad569.add ((x6_2).toNat * 6)).block, (ad569.add ((x6_2).toNat * 6)).off + 3, none⟩ = some (.int .i64 ((rd_T24 t566 x6_2).f3)) ∧ w'.cell? ⟨(ad569.add ((x6_2).toNat * 6)).block, (ad569.add ((x6_2).toNat * 6)).off + 4, none⟩ = some (.int .i64 ((rd_T24 t566 x6_2).f4)) ∧ w'.cell? ⟨(ad569.add ((x6_2).toNat * 6)).block, (ad569.add ((x6_2).toNat * 6)).off + 5, none⟩ = some (.string ((rd_T24 t566 x6_2).f5)) ∧ w'.cell? (ad570.add ((x6_2).toNat * 6)) = some (.int .i64 ((rd_T24 l0_2 x6_2).f0)) ∧ w'.cell? ⟨(ad570.add ((x6_2).toNat * 6)).block, (ad570.add ((x6_2).toNat * 6)).off + 1, none⟩ = some (.int .i64 ((rd_T24 l0_2 x6_2).f1)) ∧ w'.cell? ⟨(ad570.add ((x6_2).toNat * 6)).block, (ad570.add ((x6_2).toNat * 6)).off + 2, none⟩ = some (.int .i64 ((rd_T24 l0_2 x6_2).f2)) ∧ w'.cell? ⟨(ad570.add ((x6_2).toNat * 6)).block, (ad570.add ((x6_2).toNat * 6)).off + 3, none⟩ = some (.int .i64 ((rd_T24 l0_2 x6_2).f3)) ∧ w'.cell? ⟨(ad570.add ((x6_2).toNat * 6)).block, (ad570.add ((x6_2).toNat * 6)).off + 4, none⟩ = some (.int .i64 ((rd_T24 l0_2 x6_2).f4)) ∧ w'.cell? ⟨(ad570.add ((x6_2).toNat * 6)).block, (ad570.add ((x6_2).toNat * 6)).off + 5, none⟩ = some (.string ((rd_T24 l0_2 x6_2).f5)) ∧ w'.cell? (ad569.add ((x6_2).toNat * 6)) = some (.int .i64 ((rd_T24 t566 x6_2).f0)) ∧ w'.cell? ⟨(ad569.add ((x6_2).toNat * 6)).block, (ad569.add ((x6_2).toNat * 6)).off + 1, none⟩ = some (.int .i64 ((rd_T24 t566 x6_2).f1)) ∧ w'.cell? ⟨(ad569.add ((x6_2).toNat * 6)).block, (ad569.add ((x6_2).toNat * 6)).off + 2, none⟩ = some (.int .i64 ((rd_T24 t566 x6_2).f2)) ∧ w'.cell? ⟨(ad569.add ((x6_2).toNat * 6)).block, (ad569.add ((x6_2).toNat * 6)).off + 3, none⟩ = some (.int .i64 ((rd_T24 t566 x6_2).f3)) ∧ w'.cell? ⟨(ad569.add ((x6_2).toNat * 6)).block, (ad569.add ((x6_2).toNat * 6)).off + 4, none⟩ = some (.int .i64 ((rd_T24 t566 x6_2).f4)) ∧ w'.cell? ⟨(ad569.add ((x6_2).toNat * 6)).block, (ad569.add ((x6_2).toNat * 6)).off + 5, none⟩ = some (.string ((rd_T24 t566 x6_2).f5))) (ds := []) #[F,F,F,F,F,F,F,F,F,F,F,F,F,F,F,F,F,F,F,F,F,F] (by kernel_rfl) rfl rfl ⟨(blk_cell BK562.out 0).trans rfl, (blk_cell BK562.out 1).trans rfl, (blk_cell BK562.out 2).trans rfl, hx569_0, hx569_1, hx569_2, hx569_3, hx569_4, hx569_5, ((HB.out.cell (World.block_lt_of_cell? w _ hw570_0)).trans hw570_0), ((HB.out.cell (World.block_lt_of_cell? w _ hw570_1)).trans hw570_1), ((HB.out.cell (World.block_lt_of_cell? w _ hw570_2)).trans hw570_2), ((HB.out.cell (World.block_lt_of_cell? w _ hw570_3)).trans hw570_3), ((HB.out.cell (World.block_lt_of_cell? w _ hw570_4)).trans hw570_4), ((HB.out.cell (World.block_lt_of_cell? w _ hw570_5)).trans hw570_5), hx571_0, hx571_1, hx571_2, hx571_3, hx571_4, hx571_5⟩ (fun hHeld => ?_); refine with_tabW hopperlaw05_QueueReady.tab9 hopperlaw05_QueueReady.bits9 (fun HT_ HW_ => ?_)
              generalize wr.drew = w28 at HO_5 BK562 HB hx569_0 hx569_1 hx569_2 hx569_3 hx569_4 hx569_5 hx570_0 hx570_1 hx570_2 hx570_3 hx570_4 hx570_5 hx571_0 hx571_1 hx571_2 hx571_3 hx571_4 hx571_5 hHeld ⊢
              refine pure_ (i := 0) (N := some 33) (v := ?_) (a' := ?_) #[T,F,F,F,F,F,F,F,F,F,F,F,F,F,F,F,F,F,F,F,F,F] rfl rfl (any_of HT_.out (by kernel_rfl)) (fun _ _ _ h => h) (Or.inl ⟨by rfl, ?_⟩) ?_ ?_
              rotate_left
              · intro w'
                go_simp
                with_reducible rfl
              rotate_left
              · simp only [Act.put, s0_, s1_, s2_, i64_w, i32_w]
                rfl
              refine pure_ (i := 1) (N := some 34) (v := ?_) (a' := ?_) #[T,T,F,F,F,F,F,F,F,F,F,F,F,F,F,F,F,F,F,F,F,F] rfl rfl (any_of HT_.out (by kernel_rfl)) (fun _ _ _ h => h) (Or.inl ⟨by rfl, ?_⟩) ?_ ?_
              rotate_left
              · intro w'
                go_simp
                with_reducible rfl
              rotate_left
              · simp only [Act.put, s0_, s1_, s2_, i64_w, i32_w]
                rfl
              refine pure_ (i := 2) (N := some 35) (v := ?_) (a' := ?_) #[T,T,T,F,F,F,F,F,F,F,F,F,F,F,F,F,F,F,F,F,F,F] rfl rfl (any_of HT_.out (by kernel_rfl)) (fun _ _ _ h => h) (Or.inl ⟨by rfl, ?_⟩) ?_ ?_
              rotate_left
              · intro w'
                go_simp
                with_reducible rfl
              rotate_left
              · simp only [Act.put, s0_, s1_, s2_, i64_w, i32_w]
                rfl
              refine pure_ (i := 4) (N := some 37) (v := ?_) (a' := ?_) #[T,T,T,F,T,F,F,F,F,F,F,F,F,F,F,F,F,F,F,F,F,F] rfl rfl (any_of HT_.out (by kernel_rfl)) (fun _ _ _ h => h) (Or.inl ⟨by rfl, ?_⟩) ?_ ?_
              rotate_left
              · intro w'
                go_simp
                with_reducible rfl
              rotate_left
              · simp only [Act.put, s0_, s1_, s2_, i64_w, i32_w]
                rfl
              refine pure_ (i := 6) (N := some 39) (v := ?_) (a' := ?_) #[T,T,T,F,T,F,T,F,F,F,F,F,F,F,F,F,F,F,F,F,F,F] rfl rfl (any_of HT_.out (by kernel_rfl)) (fun _ _ _ h => h) (Or.inl ⟨by rfl, ?_⟩) ?_ ?_
              rotate_left
              · intro w'
                go_simp
                with_reducible rfl
              rotate_left
              · simp only [Act.put, s0_, s1_, s2_, i64_w, i32_w]
                rfl
              refine take_ (i := 3) (N := some 36) (v := ?_) (a' := ?_) #[T,T,T,T,T,F,T,F,F,F,F,F,F,F,F,F,F,F,F,F,F,F] rfl rfl (take_ofW HT_.out HW_.out (by kernel_rfl)) (fun _ _ _ h => h) (Or.inl ⟨by rfl, ?_⟩) hHeld ?_ ?_
              rotate_left
              · rintro w' ⟨s0, s1, s2, s3, s4, s5, s6, s7, s8, s9, s10, s11, s12, s13, s14, s15, s16, s17, s18, s19, s20⟩
                (try simp only [Int.toNat_natCast] at s0 s1 s2 s3 s4 s5 s6 s7 s8 s9 s10 s11 s12 s13 s14 s15 s16 s17 s18 s19 s20)
                go_simp
                with_reducible rfl
              rotate_left
              · simp only [Act.put, s0_, s1_, s2_, i64_w, i32_w]
                rfl
              refine take_ (i := 5) (N := some 38) (v := ?_) (a' := ?_) #[T,T,T,T,T,T,T,F,F,F,F,F,F,F,F,F,F,F,F,F,F,F] rfl rfl (take_ofW HT_.out HW_.out (by kernel_rfl)) (fun _ _ _ h => h) (Or.inl ⟨by rfl, ?_⟩) hHeld ?_ ?_
              rotate_left
              · rintro w' ⟨s0, s1, s2, s3, s4, s5, s6, s7, s8, s9, s10, s11, s12, s13, s14, s15, s16, s17, s18, s19, s20⟩
                (try simp only [Int.toNat_natCast] at s0 s1 s2 s3 s4 s5 s6 s7 s8 s9 s10 s11 s12 s13 s14 s15 s16 s17 s18 s19 s20)
                go_simp
                with_reducible rfl
              rotate_left
              · simp only [Act.put, s0_, s1_, s2_, i64_w, i32_w]
                rfl
              refine pure_ (i := 7) (N := some 40) (v := ?_) (a' := ?_) #[T,T,T,T,T,T,T,T,F,F,F,F,F,F,F,F,F,F,F,F,F,F] rfl rfl (any_of HT_.out (by kernel_rfl)) (fun _ _ _ h => h) (Or.inl ⟨by rfl, ?_⟩) ?_ ?_
              rotate_left
              · intro w'
                go_simp
                with_reducible rfl
              rotate_left
              · simp only [Act.put, s0_, s1_, s2_, i64_w, i32_w]
                rfl
              refine take_ (i := 8) (N := some 41) (v := ?_) (a' := ?_) #[T,T,T,T,T,T,T,T,T,F,F,F,F,F,F,F,F,F,F,F,F,F] rfl rfl (take_ofW HT_.out HW_.out (by kernel_rfl)) (fun _ _ _ h => h) (Or.inl ⟨by rfl, ?_⟩) hHeld ?_ ?_
              rotate_left
              · rintro w' ⟨s0, s1, s2, s3, s4, s5, s6, s7, s8, s9, s10, s11, s12, s13, s14, s15, s16, s17, s18, s19, s20⟩
                (try simp only [Int.toNat_natCast] at s0 s1 s2 s3 s4 s5 s6 s7 s8 s9 s10 s11 s12 s13 s14 s15 s16 s17 s18 s19 s20)
                go_simp
                with_reducible rfl
              rotate_left
              · simp only [Act.put, s0_, s1_, s2_, i64_w, i32_w]
                rfl
              refine pure_ (i := 9) (N := some 42) (v := ?_) (a' := ?_) #[T,T,T,T,T,T,T,T,T,T,F,F,F,F,F,F,F,F,F,F,F,F] rfl rfl (any_of HT_.out (by kernel_rfl)) (fun _ _ _ h => h) (Or.inl ⟨by rfl, ?_⟩) ?_ ?_
              rotate_left
              · intro w'
                go_simp
                with_reducible rfl
              rotate_left
              · simp only [Act.put, s0_, s1_, s2_, i64_w, i32_w]
                rfl
              refine pure_ (i := 10) (N := some 43) (v := ?_) (a' := ?_) #[T,T,T,T,T,T,T,T,T,T,T,F,F,F,F,F,F,F,F,F,F,F] rfl rfl (any_of HT_.out (by kernel_rfl)) (fun _ _ _ h => h) (Or.inl ⟨by rfl, ?_⟩) ?_ ?_
              rotate_left
              · intro w'
                go_simp
                with_reducible rfl
              rotate_left
              · simp only [Act.put, s0_, s1_, s2_, i64_w, i32_w]
                rfl
              refine pure_ (i := 11) (N := some 44) (v := ?_) (a' := ?_) #[T,T,T,T,T,T,T,T,T,T,T,T,F,F,F,F,F,F,F,F,F,F] rfl rfl (any_of HT_.out (by kernel_rfl)) (fun _ _ _ h => h) (Or.inl ⟨by rfl, ?_⟩) ?_ ?_
              rotate_left
              · intro w'
                go_simp
                with_reducible rfl
              rotate_left
              · simp only [Act.put, s0_, s1_, s2_, i64_w, i32_w]
                rfl
              refine pure_ (i := 12) (N := some 45) (v := ?_) (a' := ?_) #[T,T,T,T,T,T,T,T,T,T,T,T,T,F,F,F,F,F,F,F,F,F] rfl rfl (any_of HT_.out (by kernel_rfl)) (fun _ _ _ h => h) (Or.inl ⟨by rfl, ?_⟩) ?_ ?_
              rotate_left
              · intro w'
                go_simp
                with_reducible rfl
              rotate_left
              · simp only [Act.put, s0_, s1_, s2_, i64_w, i32_w]
                rfl
              refine pure_ (i := 13) (N := some 46) (v := ?_) (a' := ?_) #[T,T,T,T,T,T,T,T,T,T,T,T,T,T,F,F,F,F,F,F,F,F] rfl rfl (any_of HT_.out (by kernel_rfl)) (fun _ _ _ h => h) (Or.inl ⟨by rfl, ?_⟩) ?_ ?_
              rotate_left
              · intro w'
                go_simp
                with_reducible rfl
              rotate_left
              · simp only [Act.put, s0_, s1_, s2_, i64_w, i32_w]
                rfl
              refine pure_ (i := 14) (N := some 47) (v := ?_) (a' := ?_) #[T,T,T,T,T,T,T,T,T,T,T,T,T,T,T,F,F,F,F,F,F,F] rfl rfl (any_of HT_.out (by kernel_rfl)) (fun _ _ _ h => h) (Or.inl ⟨by rfl, ?_⟩) ?_ ?_
              rotate_left
              · intro w'
                go_simp
                with_reducible rfl
              rotate_left
              · simp only [Act.put, s0_, s1_, s2_, i64_w, i32_w]
                rfl
              refine pure_ (i := 16) (N := some 49) (v := ?_) (a' := ?_) #[T,T,T,T,T,T,T,T,T,T,T,T,T,T,T,F,T,F,F,F,F,F] rfl rfl (any_of HT_.out (by kernel_rfl)) (fun _ _ _ h => h) (Or.inl ⟨by rfl, ?_⟩) ?_ ?_
              rotate_left
              · intro w'
                go_simp
                with_reducible rfl
              rotate_left
              · simp only [Act.put, s0_, s1_, s2_, i64_w, i32_w]
                rfl
              refine pure_ (i := 18) (N := some 51) (v := ?_) (a' := ?_) #[T,T,T,T,T,T,T,T,T,T,T,T,T,T,T,F,T,F,T,F,F,F] rfl rfl (any_of HT_.out (by kernel_rfl)) (fun _ _ _ h => h) (Or.inl ⟨by rfl, ?_⟩) ?_ ?_
              rotate_left
              · intro w'
                go_simp
                with_reducible rfl
              rotate_left
              · simp only [Act.put, s0_, s1_, s2_, i64_w, i32_w]
                rfl
              refine take_ (i := 15) (N := some 48) (v := ?_) (a' := ?_) #[T,T,T,T,T,T,T,T,T,T,T,T,T,T,T,T,T,F,T,F,F,F] rfl rfl (take_ofW HT_.out HW_.out (by kernel_rfl)) (fun _ _ _ h => h) (Or.inl ⟨by rfl, ?_⟩) hHeld ?_ ?_
              rotate_left
              · rintro w' ⟨s0, s1, s2, s3, s4, s5, s6, s7, s8, s9, s10, s11, s12, s13, s14, s15, s16, s17, s18, s19, s20⟩
                (try simp only [Int.toNat_natCast] at s0 s1 s2 s3 s4 s5 s6 s7 s8 s9 s10 s11 s12 s13 s14 s15 s16 s17 s18 s19 s20)
                go_simp
                with_reducible rfl
              rotate_left
              · simp only [Act.put, s0_, s1_, s2_, i64_w, i32_w]
                rfl
              refine take_ (i := 17) (N := some 50) (v := ?_) (a' := ?_) #[T,T,T,T,T,T,T,T,T,T,T,T,T,T,T,T,T,T,T,F,F,F] rfl rfl (take_ofW HT_.out HW_.out (by kernel_rfl)) (fun _ _ _ h => h) (Or.inl ⟨by rfl, ?_⟩) hHeld ?_ ?_
              rotate_left
              · rintro w' ⟨s0, s1, s2, s3, s4, s5, s6, s7, s8, s9, s10, s11, s12, s13, s14, s15, s16, s17, s18, s19, s20⟩
                (try simp only [Int.toNat_natCast] at s0 s1 s2 s3 s4 s5 s6 s7 s8 s9 s10 s11 s12 s13 s14 s15 s16 s17 s18 s19 s20)
                go_simp
                with_reducible rfl
              rotate_left
              · simp only [Act.put, s0_, s1_, s2_, i64_w, i32_w]
                rfl
              refine pure_ (i := 19) (N := some 52) (v := ?_) (a' := ?_) #[T,T,T,T,T,T,T,T,T,T,T,T,T,T,T,T,T,T,T,T,F,F] rfl rfl (any_of HT_.out (by kernel_rfl)) (fun _ _ _ h => h) (Or.inl ⟨by rfl, ?_⟩) ?_ ?_
              rotate_left
              · intro w'
                go_simp
                with_reducible rfl
              rotate_left
              · simp only [Act.put, s0_, s1_, s2_, i64_w, i32_w]
                rfl
              refine pure_ (i := 20) (N := some 53) (v := ?_) (a' := ?_) #[T,T,T,T,T,T,T,T,T,T,T,T,T,T,T,T,T,T,T,T,T,F] rfl rfl (any_of HT_.out (by kernel_rfl)) (fun _ _ _ h => h) (Or.inl ⟨by rfl, ?_⟩) ?_ ?_
              rotate_left
              · intro w'
                go_simp
                with_reducible rfl
              rotate_left
              · simp only [Act.put, s0_, s1_, s2_, i64_w, i32_w]
                rfl
              refine pure_ (i := 21) (N := some 54) (v := ?_) (a' := ?_) #[T,T,T,T,T,T,T,T,T,T,T,T,T,T,T,T,T,T,T,T,T,T] rfl rfl (any_of HT_.out (by kernel_rfl)) (fun _ _ _ h => h) (Or.inl ⟨by rfl, ?_⟩) ?_ ?_
              rotate_left
              · intro w'
                go_simp
                with_reducible rfl
              rotate_left
              · simp only [Act.put, s0_, s1_, s2_, i64_w, i32_w]
                rfl
              refine done_ (done_of HT_.out (by kernel_rfl)) ?_
              try go_wp2
              go_roundg k2
              case measure => have := HJ2.out; have := HK2.out; omega
              case rel => exact ⟨(wrap64 (x6_2 + 1)), (by first | rfl | (simp; done) | (simp [*]; done)), H', ⟨by have := HJ2.out; have := HK2.out; omega⟩, ⟨by (with_reducible repeat (first | apply ra_ | apply rn_ | apply rd_)); exact HO_5.out⟩, ⟨by (with_reducible repeat (first | refine bn_ ?_ _ | refine bd_ ?_ | refine ba_ ?_ _)); exact BK562.out⟩, ⟨by repeat (first | (with_reducible first | exact HB.out | apply wa_ | apply wn_ | apply wd_ | refine ws_ ?_ GE562.out) | exact HB.out)⟩⟩
            · rw [if_neg c23] at H
              have c23b0 : decide (x6_2 < (t566.length : Int)) = false := decide_eq_false c23
              clear c23
              replace H := Option.bind_eq_some_iff.mp H
              obtain ⟨⟨t572, t573, t574, t575, t576, t577, t578⟩, A290, H⟩ := H
              try dsimp only at H
              have A29 := A_ A290
              clear A290
              by_cases c30 : t578 = true
              · subst c30
                have H1 : (none) = some r := by rw [if_pos rfl] at H; exact H
                clear H
                have H := H1
                clear H1
                exact absurd H (by simp)
              replace c30 := Bool.eq_false_iff.mpr c30
              subst c30
              have H1 : (if (t566.length : Int) = (l0_2.length : Int) then ((hopperlaw05_live.f k2).bind fun t580 => (some t580)) else (if 0 ≤ (t566.length : Int) then (if (t566.length : Int) < (l0_2.length : Int) then (if ((rd_T24 l0_2 (t566.length : Int)).f1) > (wrap64 (a0_1 + (t566.length : Int))) then ((hopperlaw05_live.f k2).bind fun t582 => (some t582)) else (none)) else (none)) else (none))) = some r := by rw [if_neg (show ¬ (false = true) by decide)] at H; exact H
              clear H
              have H := H1
              clear H1
              by_cases c31 : (t566.length : Int) = (l0_2.length : Int)
              · rw [if_pos c31] at H
                have c31b0 : ((t566.length : Int) == (l0_2.length : Int)) = true := beq_iff_eq.mpr c31
                have c31b1 : ((t566.length : Int) != (l0_2.length : Int)) = false := bne_eq_false_iff_eq.mpr c31
                have c31b2 : (t566.length == l0_2.length) = true := by first | simpa using c31 | (simp at c31 ⊢; omega)
                clear c31
                replace H := Option.bind_eq_some_iff.mp H
                obtain ⟨t580, A320, H⟩ := H
                replace H : (some t580) = some r := H
                have A32 := A_ A320
                clear A320
                obtain rfl := Option.some.inj H
                have hcz33_0 : wr.cell? ⟨gb562, 0, none⟩ = some (.int .i64 a0_0) := (blk_cell BK562.out 0).trans rfl; have hcz33_1 : wr.cell? ⟨gb562, 1, none⟩ = some (.int .i64 a0_1) := (blk_cell BK562.out 1).trans rfl; have hcz33_2 : wr.cell? ⟨gb562, 2, none⟩ = some (.slice A0_2 l0_2.length c0_2) := (blk_cell BK562.out 2).trans rfl; have hfz33_0 := blk_frozen BK562.out 0; have hfz33_1 := blk_frozen BK562.out 1; have hfz33_2 := blk_frozen BK562.out 2
                try go_wp2_with (first | ((with_reducible refine gate_callee (f := 52) rfl ?_); refine goesL_ (some 62) rfl rfl Try.func52 (by kernel_rfl) rfl #[.agg #[.int .i64 a0_0, .int .i64 a0_1, .slice A0_2 l0_2.length c0_2], .int .i64 (wrap64 (a0_1 + (t566.length : Int)))] rfl (by (try simp only [m0_, m1_, m2_]); first | done | rfl) ?_; (with_reducible refine (queue_Find.calls a0_0 a0_1 _ _ l0_2 (wrap64 (a0_1 + (t566.length : Int))) t572 t573 t574 t575 t576 t577 false _ ?side1 ?side2 A29.out).mono ?_); (case side1 => repeat (first | exact (Kd.C_below HR0_2.out HB.out) | (with_reducible refine ca_ ?_ _) | (with_reducible refine cn_ ?_ _) | (with_reducible refine cd_ ?_))); (case side2 => exact HC0_2.out); rintro e w34 ⟨rfl, hb⟩; refine ⟨_, rfl, ?_⟩; have n0_ := A_ (Kd.R_below (by (with_reducible repeat (first | apply ra_ | apply rn_ | apply rd_)); exact HO_5.out) hb); have n1_ := A_ (blk_below (g := gb562) (o := .cells #[.int .i64 a0_0, .int .i64 a0_1, .slice A0_2 l0_2.length c0_2] 46 (0, 0)) (by (with_reducible repeat (first | refine bn_ ?_ _ | refine bd_ ?_ | refine ba_ ?_ _)); exact BK562.out) hb); have n2_ := A_ (below_step (by repeat (first | (with_reducible first | exact HB.out | apply wa_ | apply wn_ | apply wd_ | refine ws_ ?_ GE562.out) | exact HB.out)) hb); clear HO_5; clear BK562; clear HB; have HO_5 := n0_; have BK562 := n1_; have HB := n2_; clear n0_ n1_ n2_; (try clear hb); (try clear hb2); (try clear hk); (try clear hi)) | ((with_reducible refine gate_dst (N := 7) rfl ?_); (try (refine gate_guard (by rfl) ?_; dsimp only)); refine box_event ?hg (N := 7) ?hd (cs := #[.int .i64 0, .int .i64 0, .int .i64 0, .int .i64 0, .int .i64 0, .string (⟨#[]⟩ : ByteArray)]) (t := 24) ?hr ?_; (case hd => rfl); (case hg => rfl); (case hr => first | (go_simp; done) | (go_simp; rfl)); intro gb579 hg w35 hbox hb; have n0_ := A_ (Kd.R_below (Kd.R_elderB (by (with_reducible repeat (first | apply ra_ | apply rn_ | apply rd_)); exact HO_5.out) gb579 (Nat.le_of_eq hg.symm)) hb); have n1_ := A_ (blk_below (g := gb562) (o := .cells #[.int .i64 a0_0, .int .i64 a0_1, .slice A0_2 l0_2.length c0_2] 46 (0, 0)) (by (with_reducible repeat (first | refine bn_ ?_ _ | refine bd_ ?_ | refine ba_ ?_ _)); exact BK562.out) hb); have n2_ := A_ (below_step (by repeat (first | (with_reducible first | exact HB.out | apply wa_ | apply wn_ | apply wd_ | refine ws_ ?_ GE562.out) | exact HB.out)) hb); have n3_ := A_ (hbox); have n4_ := A_ ((by rw [hg]; exact (below_size (by repeat (first | (with_reducible first | exact HB.out | apply wa_ | apply wn_ | apply wd_ | refine ws_ ?_ GE562.out) | exact HB.out))) : w.heap.size ≤ gb579)); have n5_ := A_ ((by rw [hg]; exact (below_size (by repeat (first | (with_reducible first | exact HB.out | apply wa_ | apply wn_ | apply wd_ | refine ws_ ?_ GE562.out) | exact HB.out))) : w.heap.size ≤ gb579)); have n6_ := A_ ((by rw [hg]; exact Nat.ne_of_lt (blk_lt (g := gb562) (o := .cells #[.int .i64 a0_0, .int .i64 a0_1, .slice A0_2 l0_2.length c0_2] 46 (0, 0)) (by (with_reducible repeat (first | refine bn_ ?_ _ | refine bd_ ?_ | refine ba_ ?_ _)); exact BK562.out)) : gb562 ≠ gb579)); have n7_ := A_ ((by rw [hg]; exact Nat.ne_of_gt (blk_lt (g := gb562) (o := .cells #[.int .i64 a0_0, .int .i64 a0_1, .slice A0_2 l0_2.length c0_2] 46 (0, 0)) (by (with_reducible repeat (first | refine bn_ ?_ _ | refine bd_ ?_ | refine ba_ ?_ _)); exact BK562.out)) : gb579 ≠ gb562)); clear HO_5; clear BK562; clear HB; have HO_5 := n0_; have BK562 := n1_; have HB := n2_; have BK579 := n3_; have GW579 := n4_; have GE579 := n5_; have NB562_579 := n6_; have NB579_562 := n7_; clear n0_ n1_ n2_ n3_ n4_ n5_ n6_ n7_; clear hb hbox hg; have hnb36 := NB579_562.out; have hnc36 := NB562_579.out; have hcz37_0 : w35.cell? ⟨gb579, 0, none⟩ = some (.int .i64 0) := (blk_cell BK579.out 0).trans rfl; have hcz37_1 : w35.cell? ⟨gb579, 1, none⟩ = some (.int .i64 0) := (blk_cell BK579.out 1).trans rfl; have hcz37_2 : w35.cell? ⟨gb579, 2, none⟩ = some (.int .i64 0) := (blk_cell BK579.out 2).trans rfl; have hcz37_3 : w35.cell? ⟨gb579, 3, none⟩ = some (.int .i64 0) := (blk_cell BK579.out 3).trans rfl; have hcz37_4 : w35.cell? ⟨gb579, 4, none⟩ = some (.int .i64 0) := (blk_cell BK579.out 4).trans rfl; have hcz37_5 : w35.cell? ⟨gb579, 5, none⟩ = some (.string (⟨#[]⟩ : ByteArray)) := (blk_cell BK579.out 5).trans rfl; have hfz37_0 := blk_frozen BK579.out 0; have hfz37_1 := blk_frozen BK579.out 1; have hfz37_2 := blk_frozen BK579.out 2; have hfz37_3 := blk_frozen BK579.out 3; have hfz37_4 := blk_frozen BK579.out 4; have hfz37_5 := blk_frozen BK579.out 5))
                have n0_ : Aside0 (Kd.R k24 24 ((((((w35.setCell ⟨gb579, 0, none⟩ (.int .i64 t572)).setCell ⟨gb579, 1, none⟩ (.int .i64 t573)).setCell ⟨gb579, 2, none⟩ (.int .i64 t574)).setCell ⟨gb579, 3, none⟩ (.int .i64 t575)).setCell ⟨gb579, 4, none⟩ (.int .i64 t576)).setCell ⟨gb579, 5, none⟩ (.string t577)) w.heap.size (fun k_ => k_ ≠ gb579) (.slice Ao21 t566.length co21) t566) := ⟨by (with_reducible repeat (first | apply ra_ | apply rn_ | apply rd_)); exact Kd.R_mono (f6_ (g := gb579) (Kd.R_mono HO_5.out (fun k_ hk => (⟨hk, hk.2⟩ : _ ∧ k_ ≠ gb579))) (fun _ hk => hk.2) (.int .i64 t572) (.int .i64 t573) (.int .i64 t574) (.int .i64 t575) (.int .i64 t576) (.string t577)) (fun _ hk => hk.1.2)⟩; have n1_ : Aside0 (((((((w35.setCell ⟨gb579, 0, none⟩ (.int .i64 t572)).setCell ⟨gb579, 1, none⟩ (.int .i64 t573)).setCell ⟨gb579, 2, none⟩ (.int .i64 t574)).setCell ⟨gb579, 3, none⟩ (.int .i64 t575)).setCell ⟨gb579, 4, none⟩ (.int .i64 t576)).setCell ⟨gb579, 5, none⟩ (.string t577)).heap[gb562]? = some (.cells #[.int .i64 a0_0, .int .i64 a0_1, .slice A0_2 l0_2.length c0_2] 46 (0, 0))) := ⟨by (with_reducible repeat (first | refine bn_ ?_ _ | refine bd_ ?_ | refine ba_ ?_ _)); refine blk_far ?_ NB562_579.out _; (with_reducible repeat (first | refine bn_ ?_ _ | refine bd_ ?_ | refine ba_ ?_ _)); refine blk_far ?_ NB562_579.out _; (with_reducible repeat (first | refine bn_ ?_ _ | refine bd_ ?_ | refine ba_ ?_ _)); refine blk_far ?_ NB562_579.out _; (with_reducible repeat (first | refine bn_ ?_ _ | refine bd_ ?_ | refine ba_ ?_ _)); refine blk_far ?_ NB562_579.out _; (with_reducible repeat (first | refine bn_ ?_ _ | refine bd_ ?_ | refine ba_ ?_ _)); refine blk_far ?_ NB562_579.out _; (with_reducible repeat (first | refine bn_ ?_ _ | refine bd_ ?_ | refine ba_ ?_ _)); refine blk_far ?_ NB562_579.out _; (with_reducible repeat (first | refine bn_ ?_ _ | refine bd_ ?_ | refine ba_ ?_ _)); exact BK562.out⟩; have n2_ : Aside0 (((((((w35.setCell ⟨gb579, 0, none⟩ (.int .i64 t572)).setCell ⟨gb579, 1, none⟩ (.int .i64 t573)).setCell ⟨gb579, 2, none⟩ (.int .i64 t574)).setCell ⟨gb579, 3, none⟩ (.int .i64 t575)).setCell ⟨gb579, 4, none⟩ (.int .i64 t576)).setCell ⟨gb579, 5, none⟩ (.string t577)).heap[gb579]? = some (.cells #[.int .i64 t572, .int .i64 t573, .int .i64 t574, .int .i64 t575, .int .i64 t576, .string t577] 24 (0, 0))) := ⟨by (with_reducible repeat (first | refine bn_ ?_ _ | refine bd_ ?_ | refine ba_ ?_ _)); refine blk_put (cs := #[.int .i64 t572, .int .i64 t573, .int .i64 t574, .int .i64 t575, .int .i64 t576, .string (⟨#[]⟩ : ByteArray)]) ?_ 5 _ rfl; (with_reducible repeat (first | refine bn_ ?_ _ | refine bd_ ?_ | refine ba_ ?_ _)); refine blk_put (cs := #[.int .i64 t572, .int .i64 t573, .int .i64 t574, .int .i64 t575, .int .i64 0, .string (⟨#[]⟩ : ByteArray)]) ?_ 4 _ rfl; (with_reducible repeat (first | refine bn_ ?_ _ | refine bd_ ?_ | refine ba_ ?_ _)); refine blk_put (cs := #[.int .i64 t572, .int .i64 t573, .int .i64 t574, .int .i64 0, .int .i64 0, .string (⟨#[]⟩ : ByteArray)]) ?_ 3 _ rfl; (with_reducible repeat (first | refine bn_ ?_ _ | refine bd_ ?_ | refine ba_ ?_ _)); refine blk_put (cs := #[.int .i64 t572, .int .i64 t573, .int .i64 0, .int .i64 0, .int .i64 0, .string (⟨#[]⟩ : ByteArray)]) ?_ 2 _ rfl; (with_reducible repeat (first | refine bn_ ?_ _ | refine bd_ ?_ | refine ba_ ?_ _)); refine blk_put (cs := #[.int .i64 t572, .int .i64 0, .int .i64 0, .int .i64 0, .int .i64 0, .string (⟨#[]⟩ : ByteArray)]) ?_ 1 _ rfl; (with_reducible repeat (first | refine bn_ ?_ _ | refine bd_ ?_ | refine ba_ ?_ _)); refine blk_put (cs := #[.int .i64 0, .int .i64 0, .int .i64 0, .int .i64 0, .int .i64 0, .string (⟨#[]⟩ : ByteArray)]) ?_ 0 _ rfl; (with_reducible repeat (first | refine bn_ ?_ _ | refine bd_ ?_ | refine ba_ ?_ _)); exact BK579.out⟩; have n3_ : Aside0 (Below w.heap.size w ((((((w35.setCell ⟨gb579, 0, none⟩ (.int .i64 t572)).setCell ⟨gb579, 1, none⟩ (.int .i64 t573)).setCell ⟨gb579, 2, none⟩ (.int .i64 t574)).setCell ⟨gb579, 3, none⟩ (.int .i64 t575)).setCell ⟨gb579, 4, none⟩ (.int .i64 t576)).setCell ⟨gb579, 5, none⟩ (.string t577))) := ⟨by repeat (first | (with_reducible first | exact HB.out | apply wa_ | apply wn_ | apply wd_ | refine ws_ ?_ GE562.out | refine ws_ ?_ GE579.out) | exact HB.out)⟩
                (try clear HO_5)
                (try clear BK562)
                (try clear BK579)
                (try clear HB)
                generalize ((((((w35.setCell ⟨gb579, 0, none⟩ (.int .i64 t572)).setCell ⟨gb579, 1, none⟩ (.int .i64 t573)).setCell ⟨gb579, 2, none⟩ (.int .i64 t574)).setCell ⟨gb579, 3, none⟩ (.int .i64 t575)).setCell ⟨gb579, 4, none⟩ (.int .i64 t576)).setCell ⟨gb579, 5, none⟩ (.string t577)) = w38 at n0_ n1_ n2_ n3_ ⊢
                have HO_5 := n0_; have BK562 := n1_; have BK579 := n2_; have HB := n3_; clear n0_ n1_ n2_ n3_; have n0_ := A_ (rd_ HO_5.out); have n1_ := A_ (bd_ BK562.out); have n2_ := A_ (bd_ BK579.out); have n3_ := A_ (wd_ HB.out); clear HO_5; clear BK562; clear BK579; clear HB; have HO_5 := n0_; have BK562 := n1_; have BK579 := n2_; have HB := n3_; clear n0_ n1_ n2_ n3_
                refine start_ (n := 29) (S := fun w' => w'.cell? ⟨gb562, 0, none⟩ = some (.int .i64 a0_0) ∧ w'.cell? ⟨gb562, 1, none⟩ = some (.int .i64 a0_1) ∧ w'.cell? ⟨gb562, 2, none⟩ = some (.slice A0_2 l0_2.length c0_2)) (ds := []) #[F,F,F,F,F,F,F,F,F,F,F,F,F,F,F,F,F,F,F,F,F,F,F,F,F,F,F,F,F] (by kernel_rfl) rfl rfl ⟨(blk_cell BK562.out 0).trans rfl, (blk_cell BK562.out 1).trans rfl, (blk_cell BK562.out 2).trans rfl⟩ (fun hHeld => ?_); refine with_tabW hopperlaw05_QueueReady.tab12 hopperlaw05_QueueReady.bits12 (fun HT_ HW_ => ?_)
                generalize w38.drew = w39 at HO_5 BK562 BK579 HB hHeld ⊢
                refine pure_ (i := 0) (N := some 65) (v := ?_) (a' := ?_) #[T,F,F,F,F,F,F,F,F,F,F,F,F,F,F,F,F,F,F,F,F,F,F,F,F,F,F,F,F] rfl rfl (any_of HT_.out (by kernel_rfl)) (fun _ _ _ h => h) (Or.inl ⟨by rfl, ?_⟩) ?_ ?_
                rotate_left
                · intro w'
                  go_simp
                  with_reducible rfl
                rotate_left
                · simp only [Act.put, s0_, s1_, s2_, i64_w, i32_w]
                  rfl
                refine pure_ (i := 1) (N := some 66) (v := ?_) (a' := ?_) #[T,T,F,F,F,F,F,F,F,F,F,F,F,F,F,F,F,F,F,F,F,F,F,F,F,F,F,F,F] rfl rfl (any_of HT_.out (by kernel_rfl)) (fun _ _ _ h => h) (Or.inl ⟨by rfl, ?_⟩) ?_ ?_
                rotate_left
                · intro w'
                  go_simp
                  with_reducible rfl
                rotate_left
                · simp only [Act.put, s0_, s1_, s2_, i64_w, i32_w]
                  rfl
                refine pure_ (i := 2) (N := some 67) (v := ?_) (a' := ?_) #[T,T,T,F,F,F,F,F,F,F,F,F,F,F,F,F,F,F,F,F,F,F,F,F,F,F,F,F,F] rfl rfl (any_of HT_.out (by kernel_rfl)) (fun _ _ _ h => h) (Or.inl ⟨by rfl, ?_⟩) ?_ ?_
                rotate_left
                · intro w'
                  go_simp
                  with_reducible rfl
                rotate_left
                · simp only [Act.put, s0_, s1_, s2_, i64_w, i32_w]
                  rfl
                refine pure_ (i := 3) (N := some 68) (v := ?_) (a' := ?_) #[T,T,T,T,F,F,F,F,F,F,F,F,F,F,F,F,F,F,F,F,F,F,F,F,F,F,F,F,F] rfl rfl (any_of HT_.out (by kernel_rfl)) (fun _ _ _ h => h) (Or.inl ⟨by rfl, ?_⟩) ?_ ?_
                rotate_left
                · intro w'
                  go_simp
                  with_reducible rfl
                rotate_left
                · simp only [Act.put, s0_, s1_, s2_, i64_w, i32_w]
                  rfl
                refine pure_ (i := 4) (N := some 69) (v := ?_) (a' := ?_) #[T,T,T,T,T,F,F,F,F,F,F,F,F,F,F,F,F,F,F,F,F,F,F,F,F,F,F,F,F] rfl rfl (any_of HT_.out (by kernel_rfl)) (fun _ _ _ h => h) (Or.inl ⟨by rfl, ?_⟩) ?_ ?_
                rotate_left
                · intro w'
                  go_simp
                  with_reducible rfl
                rotate_left
                · simp only [Act.put, s0_, s1_, s2_, i64_w, i32_w]
                  rfl
                refine pure_ (i := 5) (N := some 70) (v := ?_) (a' := ?_) #[T,T,T,T,T,T,F,F,F,F,F,F,F,F,F,F,F,F,F,F,F,F,F,F,F,F,F,F,F] rfl rfl (any_of HT_.out (by kernel_rfl)) (fun _ _ _ h => h) (Or.inl ⟨by rfl, ?_⟩) ?_ ?_
                rotate_left
                · intro w'
                  go_simp
                  with_reducible rfl
                rotate_left
                · simp only [Act.put, s0_, s1_, s2_, i64_w, i32_w]
                  rfl
                refine take_ (i := 6) (N := some 71) (v := ?_) (a' := ?_) #[T,T,T,T,T,T,T,F,F,F,F,F,F,F,F,F,F,F,F,F,F,F,F,F,F,F,F,F,F] rfl rfl (take_ofW HT_.out HW_.out (by kernel_rfl)) (fun _ _ _ h => h) (Or.inl ⟨by rfl, ?_⟩) hHeld ?_ ?_
                rotate_left
                · rintro w' ⟨s0, s1, s2⟩
                  (try simp only [Int.toNat_natCast] at s0 s1 s2)
                  go_simp
                  with_reducible rfl
                rotate_left
                · simp only [Act.put, s0_, s1_, s2_, i64_w, i32_w]
                  rfl
                refine pure_ (i := 7) (N := some 72) (v := ?_) (a' := ?_) #[T,T,T,T,T,T,T,T,F,F,F,F,F,F,F,F,F,F,F,F,F,F,F,F,F,F,F,F,F] rfl rfl (any_of HT_.out (by kernel_rfl)) (fun _ _ _ h => h) (Or.inl ⟨by rfl, ?_⟩) ?_ ?_
                rotate_left
                · intro w'
                  go_simp
                  with_reducible rfl
                rotate_left
                · simp only [Act.put, s0_, s1_, s2_, i64_w, i32_w]
                  rfl
                refine pure_ (i := 8) (N := some 73) (v := ?_) (a' := ?_) #[T,T,T,T,T,T,T,T,T,F,F,F,F,F,F,F,F,F,F,F,F,F,F,F,F,F,F,F,F] rfl rfl (any_of HT_.out (by kernel_rfl)) (fun _ _ _ h => h) (Or.inl ⟨by rfl, ?_⟩) ?_ ?_
                rotate_left
                · intro w'
                  go_simp
                  with_reducible rfl
                rotate_left
                · simp only [Act.put, s0_, s1_, s2_, i64_w, i32_w]
                  rfl
                refine pure_ (i := 9) (N := some 74) (v := ?_) (a' := ?_) #[T,T,T,T,T,T,T,T,T,T,F,F,F,F,F,F,F,F,F,F,F,F,F,F,F,F,F,F,F] rfl rfl (any_of HT_.out (by kernel_rfl)) (fun _ _ _ h => h) (Or.inl ⟨by rfl, ?_⟩) ?_ ?_
                rotate_left
                · intro w'
                  go_simp
                  with_reducible rfl
                rotate_left
                · simp only [Act.put, s0_, s1_, s2_, i64_w, i32_w]
                  rfl
                refine pure_ (i := 10) (N := some 75) (v := undef) (a' := ?_) #[T,T,T,T,T,T,T,T,T,T,T,F,F,F,F,F,F,F,F,F,F,F,F,F,F,F,F,F,F] rfl rfl (any_of HT_.out (by kernel_rfl)) (fun _ _ _ h => h) (Or.inr ⟨by rfl, rfl⟩) ?_ ?_
                rotate_left
                · simp only [Act.put, s0_, s1_, s2_, i64_w, i32_w]
                  rfl
                refine pure_ (i := 11) (N := some 76) (v := undef) (a' := ?_) #[T,T,T,T,T,T,T,T,T,T,T,T,F,F,F,F,F,F,F,F,F,F,F,F,F,F,F,F,F] rfl rfl (any_of HT_.out (by kernel_rfl)) (fun _ _ _ h => h) (Or.inr ⟨by rfl, rfl⟩) ?_ ?_
                rotate_left
                · simp only [Act.put, s0_, s1_, s2_, i64_w, i32_w]
                  rfl
                refine pure_ (i := 12) (N := some 77) (v := undef) (a' := ?_) #[T,T,T,T,T,T,T,T,T,T,T,T,T,F,F,F,F,F,F,F,F,F,F,F,F,F,F,F,F] rfl rfl (any_of HT_.out (by kernel_rfl)) (fun _ _ _ h => h) (Or.inr ⟨by rfl, rfl⟩) ?_ ?_
                rotate_left
                · simp only [Act.put, s0_, s1_, s2_, i64_w, i32_w]
                  rfl
                refine pure_ (i := 13) (N := some 78) (v := undef) (a' := ?_) #[T,T,T,T,T,T,T,T,T,T,T,T,T,T,F,F,F,F,F,F,F,F,F,F,F,F,F,F,F] rfl rfl (any_of HT_.out (by kernel_rfl)) (fun _ _ _ h => h) (Or.inr ⟨by rfl, rfl⟩) ?_ ?_
                rotate_left
                · simp only [Act.put, s0_, s1_, s2_, i64_w, i32_w]
                  rfl
                refine pure_ (i := 14) (N := some 79) (v := undef) (a' := ?_) #[T,T,T,T,T,T,T,T,T,T,T,T,T,T,T,F,F,F,F,F,F,F,F,F,F,F,F,F,F] rfl rfl (any_of HT_.out (by kernel_rfl)) (fun _ _ _ h => h) (Or.inr ⟨by rfl, rfl⟩) ?_ ?_
                rotate_left
                · simp only [Act.put, s0_, s1_, s2_, i64_w, i32_w]
                  rfl
                refine pure_ (i := 15) (N := some 80) (v := undef) (a' := ?_) #[T,T,T,T,T,T,T,T,T,T,T,T,T,T,T,T,F,F,F,F,F,F,F,F,F,F,F,F,F] rfl rfl (any_of HT_.out (by kernel_rfl)) (fun _ _ _ h => h) (Or.inr ⟨by rfl, rfl⟩) ?_ ?_
                rotate_left
                · simp only [Act.put, s0_, s1_, s2_, i64_w, i32_w]
                  rfl
                refine pure_ (i := 16) (N := some 81) (v := undef) (a' := ?_) #[T,T,T,T,T,T,T,T,T,T,T,T,T,T,T,T,T,F,F,F,F,F,F,F,F,F,F,F,F] rfl rfl (any_of HT_.out (by kernel_rfl)) (fun _ _ _ h => h) (Or.inr ⟨by rfl, rfl⟩) ?_ ?_
                rotate_left
                · simp only [Act.put, s0_, s1_, s2_, i64_w, i32_w]
                  rfl
                refine pure_ (i := 17) (N := some 82) (v := undef) (a' := ?_) #[T,T,T,T,T,T,T,T,T,T,T,T,T,T,T,T,T,T,F,F,F,F,F,F,F,F,F,F,F] rfl rfl (any_of HT_.out (by kernel_rfl)) (fun _ _ _ h => h) (Or.inr ⟨by rfl, rfl⟩) ?_ ?_
                rotate_left
                · simp only [Act.put, s0_, s1_, s2_, i64_w, i32_w]
                  rfl
                refine pure_ (i := 18) (N := some 83) (v := undef) (a' := ?_) #[T,T,T,T,T,T,T,T,T,T,T,T,T,T,T,T,T,T,T,F,F,F,F,F,F,F,F,F,F] rfl rfl (any_of HT_.out (by kernel_rfl)) (fun _ _ _ h => h) (Or.inr ⟨by rfl, rfl⟩) ?_ ?_
                rotate_left
                · simp only [Act.put, s0_, s1_, s2_, i64_w, i32_w]
                  rfl
                refine pure_ (i := 19) (N := some 84) (v := undef) (a' := ?_) #[T,T,T,T,T,T,T,T,T,T,T,T,T,T,T,T,T,T,T,T,F,F,F,F,F,F,F,F,F] rfl rfl (any_of HT_.out (by kernel_rfl)) (fun _ _ _ h => h) (Or.inr ⟨by rfl, rfl⟩) ?_ ?_
                rotate_left
                · simp only [Act.put, s0_, s1_, s2_, i64_w, i32_w]
                  rfl
                refine pure_ (i := 20) (N := some 85) (v := undef) (a' := ?_) #[T,T,T,T,T,T,T,T,T,T,T,T,T,T,T,T,T,T,T,T,T,F,F,F,F,F,F,F,F] rfl rfl (any_of HT_.out (by kernel_rfl)) (fun _ _ _ h => h) (Or.inr ⟨by rfl, rfl⟩) ?_ ?_
                rotate_left
                · simp only [Act.put, s0_, s1_, s2_, i64_w, i32_w]
                  rfl
                refine pure_ (i := 21) (N := some 86) (v := undef) (a' := ?_) #[T,T,T,T,T,T,T,T,T,T,T,T,T,T,T,T,T,T,T,T,T,T,F,F,F,F,F,F,F] rfl rfl (any_of HT_.out (by kernel_rfl)) (fun _ _ _ h => h) (Or.inr ⟨by rfl, rfl⟩) ?_ ?_
                rotate_left
                · simp only [Act.put, s0_, s1_, s2_, i64_w, i32_w]
                  rfl
                refine pure_ (i := 22) (N := some 87) (v := undef) (a' := ?_) #[T,T,T,T,T,T,T,T,T,T,T,T,T,T,T,T,T,T,T,T,T,T,T,F,F,F,F,F,F] rfl rfl (any_of HT_.out (by kernel_rfl)) (fun _ _ _ h => h) (Or.inr ⟨by rfl, rfl⟩) ?_ ?_
                rotate_left
                · simp only [Act.put, s0_, s1_, s2_, i64_w, i32_w]
                  rfl
                refine pure_ (i := 23) (N := some 88) (v := ?_) (a' := ?_) #[T,T,T,T,T,T,T,T,T,T,T,T,T,T,T,T,T,T,T,T,T,T,T,T,F,F,F,F,F] rfl rfl (any_of HT_.out (by kernel_rfl)) (fun _ _ _ h => h) (Or.inl ⟨by rfl, ?_⟩) ?_ ?_
                rotate_left
                · intro w'
                  go_simp
                  with_reducible rfl
                rotate_left
                · simp only [Act.put, s0_, s1_, s2_, i64_w, i32_w]
                  rfl
                refine pure_ (i := 24) (N := some 89) (v := ?_) (a' := ?_) #[T,T,T,T,T,T,T,T,T,T,T,T,T,T,T,T,T,T,T,T,T,T,T,T,T,F,F,F,F] rfl rfl (any_of HT_.out (by kernel_rfl)) (fun _ _ _ h => h) (Or.inl ⟨by rfl, ?_⟩) ?_ ?_
                rotate_left
                · intro w'
                  go_simp
                  with_reducible rfl
                rotate_left
                · simp only [Act.put, s0_, s1_, s2_, i64_w, i32_w]
                  rfl
                refine pure_ (i := 25) (N := some 90) (v := ?_) (a' := ?_) #[T,T,T,T,T,T,T,T,T,T,T,T,T,T,T,T,T,T,T,T,T,T,T,T,T,T,F,F,F] rfl rfl (any_of HT_.out (by kernel_rfl)) (fun _ _ _ h => h) (Or.inl ⟨by rfl, ?_⟩) ?_ ?_
                rotate_left
                · intro w'
                  go_simp
                  with_reducible rfl
                rotate_left
                · simp only [Act.put, s0_, s1_, s2_, i64_w, i32_w]
                  rfl
                refine one_ (i := 26) (N := some 91) #[T,T,T,T,T,T,T,T,T,T,T,T,T,T,T,T,T,T,T,T,T,T,T,T,T,T,T,F,F] rfl rfl (one_of HT_.out (by kernel_rfl)) (by decide) (fun K hK => ?_)
                refine goes_ Try.func51 (by kernel_rfl) rfl #[] (by rfl) rfl rfl (by (try simp only [m0_, m1_, m2_]); first | done | rfl) ?_
                with_reducible refine (hopperlaw05_live.calls k2  t580 _ A32.out).mono ?_
                rintro e w40 ⟨rfl, hb⟩
                refine ⟨_, rfl, ?_⟩
                have n0_ := A_ (Kd.R_below (by (with_reducible repeat (first | apply ra_ | apply rn_ | apply rd_)); exact HO_5.out) hb); have n1_ := A_ (blk_below (g := gb562) (o := .cells #[.int .i64 a0_0, .int .i64 a0_1, .slice A0_2 l0_2.length c0_2] 46 (0, 0)) (by (with_reducible repeat (first | refine bn_ ?_ _ | refine bd_ ?_ | refine ba_ ?_ _)); exact BK562.out) hb); have n2_ := A_ (blk_below (g := gb579) (o := .cells #[.int .i64 t572, .int .i64 t573, .int .i64 t574, .int .i64 t575, .int .i64 t576, .string t577] 24 (0, 0)) (by (with_reducible repeat (first | refine bn_ ?_ _ | refine bd_ ?_ | refine ba_ ?_ _)); exact BK579.out) hb); have n3_ := A_ (below_step (by repeat (first | (with_reducible first | exact HB.out | apply wa_ | apply wn_ | apply wd_ | refine ws_ ?_ GE562.out | refine ws_ ?_ GE579.out) | exact HB.out)) hb); clear HO_5; clear BK562; clear BK579; clear HB; have HO_5 := n0_; have BK562 := n1_; have BK579 := n2_; have HB := n3_; clear n0_ n1_ n2_ n3_
                (try clear hb)
                (try clear hb2)
                (try clear hk)
                (try clear hi)
                refine hK.out _ _ ⟨(blk_cell BK562.out 0).trans rfl, (blk_cell BK562.out 1).trans rfl, (blk_cell BK562.out 2).trans rfl⟩ (fun hHeld => ?_)
                clear hK K
                refine norm_ (a' := ?_) ?_ ?_
                rotate_left
                · show Act.put _ (some 91) _ = _
                  simp only [Act.put, s0_, s1_, s2_, i64_w, i32_w]
                  rfl
                refine pure_ (i := 27) (N := some 92) (v := ?_) (a' := ?_) #[T,T,T,T,T,T,T,T,T,T,T,T,T,T,T,T,T,T,T,T,T,T,T,T,T,T,T,T,F] rfl rfl (any_of HT_.out (by kernel_rfl)) (fun _ _ _ h => h) (Or.inl ⟨by rfl, ?_⟩) ?_ ?_
                rotate_left
                · intro w'
                  go_simp
                  with_reducible rfl
                rotate_left
                · simp only [Act.put, s0_, s1_, s2_, i64_w, i32_w]
                  rfl
                refine pure_ (i := 28) (N := some 4) (v := ?_) (a' := ?_) #[T,T,T,T,T,T,T,T,T,T,T,T,T,T,T,T,T,T,T,T,T,T,T,T,T,T,T,T,T] rfl rfl (any_of HT_.out (by kernel_rfl)) (fun _ _ _ h => h) (Or.inl ⟨by rfl, ?_⟩) ?_ ?_
                rotate_left
                · intro w'
                  go_simp
                  with_reducible rfl
                rotate_left
                · simp only [Act.put, s0_, s1_, s2_, i64_w, i32_w]
                  rfl
                refine done_ (done_of HT_.out (by kernel_rfl)) ?_
                try go_wp2
                go_ret
                exact ⟨by first | rfl | (simp [errW_none, errW_some] <;> rfl) | (simp [*, errW_none, errW_some] <;> rfl), by repeat (first | (with_reducible first | exact HB.out | apply wa_ | apply wn_ | apply wd_ | refine ws_ ?_ GE562.out | refine ws_ ?_ GE579.out) | exact HB.out)⟩
              · rw [if_neg c31] at H
                have c31b0 : ((t566.length : Int) == (l0_2.length : Int)) = false := beq_eq_false_iff_ne.mpr c31
                have c31b1 : ((t566.length : Int) != (l0_2.length : Int)) = true := bne_iff_ne.mpr c31
                have c31b2 : (t566.length == l0_2.length) = false := by first | simpa using c31 | (simp at c31 ⊢; omega)
                by_cases c41 : 0 ≤ (t566.length : Int)
                rotate_left
                · rw [if_neg c41] at H
                  exact absurd H (by simp)

                rw [if_pos c41] at H
                have c41b0 : decide (0 ≤ (t566.length : Int)) = true := decide_eq_true c41
                have c41b1 : decide (0 ≤ t566.length) = true := decide_eq_true (by omega)
                clear c41
                by_cases c42 : (t566.length : Int) < (l0_2.length : Int)
                rotate_left
                · rw [if_neg c42] at H
                  exact absurd H (by simp)
                rw [if_pos c42] at H
                have c42b0 : decide ((t566.length : Int) < (l0_2.length : Int)) = true := decide_eq_true c42
                have c42b1 : decide (t566.length < l0_2.length) = true := decide_eq_true (Int.ofNat_lt.mp c42)
                clear c42
                by_cases c43 : ((rd_T24 l0_2 (t566.length : Int)).f1) > (wrap64 (a0_1 + (t566.length : Int)))
                rotate_left
                · rw [if_neg c43] at H
                  exact absurd H (by simp)
                rw [if_pos c43] at H
                have c43b0 : decide ((wrap64 (a0_1 + (t566.length : Int))) < ((rd_T24 l0_2 (t566.length : Int)).f1)) = true := decide_eq_true c43
                clear c43
                replace H := Option.bind_eq_some_iff.mp H
                obtain ⟨t582, A440, H⟩ := H
                replace H : (some t582) = some r := H
                have A44 := A_ A440
                clear A440
                obtain rfl := Option.some.inj H
                have hcz45_0 : wr.cell? ⟨gb562, 0, none⟩ = some (.int .i64 a0_0) := (blk_cell BK562.out 0).trans rfl; have hcz45_1 : wr.cell? ⟨gb562, 1, none⟩ = some (.int .i64 a0_1) := (blk_cell BK562.out 1).trans rfl; have hcz45_2 : wr.cell? ⟨gb562, 2, none⟩ = some (.slice A0_2 l0_2.length c0_2) := (blk_cell BK562.out 2).trans rfl; have hfz45_0 := blk_frozen BK562.out 0; have hfz45_1 := blk_frozen BK562.out 1; have hfz45_2 := blk_frozen BK562.out 2
                try go_wp2_with (first | ((with_reducible refine gate_callee (f := 52) rfl ?_); refine goesL_ (some 62) rfl rfl Try.func52 (by kernel_rfl) rfl #[.agg #[.int .i64 a0_0, .int .i64 a0_1, .slice A0_2 l0_2.length c0_2], .int .i64 (wrap64 (a0_1 + (t566.length : Int)))] rfl (by (try simp only [m0_, m1_, m2_]); first | done | rfl) ?_; (with_reducible refine (queue_Find.calls a0_0 a0_1 _ _ l0_2 (wrap64 (a0_1 + (t566.length : Int))) t572 t573 t574 t575 t576 t577 false _ ?side1 ?side2 A29.out).mono ?_); (case side1 => repeat (first | exact (Kd.C_below HR0_2.out HB.out) | (with_reducible refine ca_ ?_ _) | (with_reducible refine cn_ ?_ _) | (with_reducible refine cd_ ?_))); (case side2 => exact HC0_2.out); rintro e w46 ⟨rfl, hb⟩; refine ⟨_, rfl, ?_⟩; have n0_ := A_ (Kd.R_below (by (with_reducible repeat (first | apply ra_ | apply rn_ | apply rd_)); exact HO_5.out) hb); have n1_ := A_ (blk_below (g := gb562) (o := .cells #[.int .i64 a0_0, .int .i64 a0_1, .slice A0_2 l0_2.length c0_2] 46 (0, 0)) (by (with_reducible repeat (first | refine bn_ ?_ _ | refine bd_ ?_ | refine ba_ ?_ _)); exact BK562.out) hb); have n2_ := A_ (below_step (by repeat (first | (with_reducible first | exact HB.out | apply wa_ | apply wn_ | apply wd_ | refine ws_ ?_ GE562.out) | exact HB.out)) hb); clear HO_5; clear BK562; clear HB; have HO_5 := n0_; have BK562 := n1_; have HB := n2_; clear n0_ n1_ n2_; (try clear hb); (try clear hb2); (try clear hk); (try clear hi)) | ((with_reducible refine gate_dst (N := 7) rfl ?_); (try (refine gate_guard (by rfl) ?_; dsimp only)); refine box_event ?hg (N := 7) ?hd (cs := #[.int .i64 0, .int .i64 0, .int .i64 0, .int .i64 0, .int .i64 0, .string (⟨#[]⟩ : ByteArray)]) (t := 24) ?hr ?_; (case hd => rfl); (case hg => rfl); (case hr => first | (go_simp; done) | (go_simp; rfl)); intro gb579 hg w47 hbox hb; have n0_ := A_ (Kd.R_below (Kd.R_elderB (by (with_reducible repeat (first | apply ra_ | apply rn_ | apply rd_)); exact HO_5.out) gb579 (Nat.le_of_eq hg.symm)) hb); have n1_ := A_ (blk_below (g := gb562) (o := .cells #[.int .i64 a0_0, .int .i64 a0_1, .slice A0_2 l0_2.length c0_2] 46 (0, 0)) (by (with_reducible repeat (first | refine bn_ ?_ _ | refine bd_ ?_ | refine ba_ ?_ _)); exact BK562.out) hb); have n2_ := A_ (below_step (by repeat (first | (with_reducible first | exact HB.out | apply wa_ | apply wn_ | apply wd_ | refine ws_ ?_ GE562.out) | exact HB.out)) hb); have n3_ := A_ (hbox); have n4_ := A_ ((by rw [hg]; exact (below_size (by repeat (first | (with_reducible first | exact HB.out | apply wa_ | apply wn_ | apply wd_ | refine ws_ ?_ GE562.out) | exact HB.out))) : w.heap.size ≤ gb579)); have n5_ := A_ ((by rw [hg]; exact (below_size (by repeat (first | (with_reducible first | exact HB.out | apply wa_ | apply wn_ | apply wd_ | refine ws_ ?_ GE562.out) | exact HB.out))) : w.heap.size ≤ gb579)); have n6_ := A_ ((by rw [hg]; exact Nat.ne_of_lt (blk_lt (g := gb562) (o := .cells #[.int .i64 a0_0, .int .i64 a0_1, .slice A0_2 l0_2.length c0_2] 46 (0, 0)) (by (with_reducible repeat (first | refine bn_ ?_ _ | refine bd_ ?_ | refine ba_ ?_ _)); exact BK562.out)) : gb562 ≠ gb579)); have n7_ := A_ ((by rw [hg]; exact Nat.ne_of_gt (blk_lt (g := gb562) (o := .cells #[.int .i64 a0_0, .int .i64 a0_1, .slice A0_2 l0_2.length c0_2] 46 (0, 0)) (by (with_reducible repeat (first | refine bn_ ?_ _ | refine bd_ ?_ | refine ba_ ?_ _)); exact BK562.out)) : gb579 ≠ gb562)); clear HO_5; clear BK562; clear HB; have HO_5 := n0_; have BK562 := n1_; have HB := n2_; have BK579 := n3_; have GW579 := n4_; have GE579 := n5_; have NB562_579 := n6_; have NB579_562 := n7_; clear n0_ n1_ n2_ n3_ n4_ n5_ n6_ n7_; clear hb hbox hg; have hnb48 := NB579_562.out; have hnc48 := NB562_579.out; have hcz49_0 : w47.cell? ⟨gb579, 0, none⟩ = some (.int .i64 0) := (blk_cell BK579.out 0).trans rfl; have hcz49_1 : w47.cell? ⟨gb579, 1, none⟩ = some (.int .i64 0) := (blk_cell BK579.out 1).trans rfl; have hcz49_2 : w47.cell? ⟨gb579, 2, none⟩ = some (.int .i64 0) := (blk_cell BK579.out 2).trans rfl; have hcz49_3 : w47.cell? ⟨gb579, 3, none⟩ = some (.int .i64 0) := (blk_cell BK579.out 3).trans rfl; have hcz49_4 : w47.cell? ⟨gb579, 4, none⟩ = some (.int .i64 0) := (blk_cell BK579.out 4).trans rfl; have hcz49_5 : w47.cell? ⟨gb579, 5, none⟩ = some (.string (⟨#[]⟩ : ByteArray)) := (blk_cell BK579.out 5).trans rfl; have hfz49_0 := blk_frozen BK579.out 0; have hfz49_1 := blk_frozen BK579.out 1; have hfz49_2 := blk_frozen BK579.out 2; have hfz49_3 := blk_frozen BK579.out 3; have hfz49_4 := blk_frozen BK579.out 4; have hfz49_5 := blk_frozen BK579.out 5))
                have n0_ : Aside0 (Kd.R k24 24 ((((((w47.setCell ⟨gb579, 0, none⟩ (.int .i64 t572)).setCell ⟨gb579, 1, none⟩ (.int .i64 t573)).setCell ⟨gb579, 2, none⟩ (.int .i64 t574)).setCell ⟨gb579, 3, none⟩ (.int .i64 t575)).setCell ⟨gb579, 4, none⟩ (.int .i64 t576)).setCell ⟨gb579, 5, none⟩ (.string t577)) w.heap.size (fun k_ => k_ ≠ gb579) (.slice Ao21 t566.length co21) t566) := ⟨by (with_reducible repeat (first | apply ra_ | apply rn_ | apply rd_)); exact Kd.R_mono (f6_ (g := gb579) (Kd.R_mono HO_5.out (fun k_ hk => (⟨hk, hk.2⟩ : _ ∧ k_ ≠ gb579))) (fun _ hk => hk.2) (.int .i64 t572) (.int .i64 t573) (.int .i64 t574) (.int .i64 t575) (.int .i64 t576) (.string t577)) (fun _ hk => hk.1.2)⟩; have n1_ : Aside0 (((((((w47.setCell ⟨gb579, 0, none⟩ (.int .i64 t572)).setCell ⟨gb579, 1, none⟩ (.int .i64 t573)).setCell ⟨gb579, 2, none⟩ (.int .i64 t574)).setCell ⟨gb579, 3, none⟩ (.int .i64 t575)).setCell ⟨gb579, 4, none⟩ (.int .i64 t576)).setCell ⟨gb579, 5, none⟩ (.string t577)).heap[gb562]? = some (.cells #[.int .i64 a0_0, .int .i64 a0_1, .slice A0_2 l0_2.length c0_2] 46 (0, 0))) := ⟨by (with_reducible repeat (first | refine bn_ ?_ _ | refine bd_ ?_ | refine ba_ ?_ _)); refine blk_far ?_ NB562_579.out _; (with_reducible repeat (first | refine bn_ ?_ _ | refine bd_ ?_ | refine ba_ ?_ _)); refine blk_far ?_ NB562_579.out _; (with_reducible repeat (first | refine bn_ ?_ _ | refine bd_ ?_ | refine ba_ ?_ _)); refine blk_far ?_ NB562_579.out _; (with_reducible repeat (first | refine bn_ ?_ _ | refine bd_ ?_ | refine ba_ ?_ _)); refine blk_far ?_ NB562_579.out _; (with_reducible repeat (first | refine bn_ ?_ _ | refine bd_ ?_ | refine ba_ ?_ _)); refine blk_far ?_ NB562_579.out _; (with_reducible repeat (first | refine bn_ ?_ _ | refine bd_ ?_ | refine ba_ ?_ _)); refine blk_far ?_ NB562_579.out _; (with_reducible repeat (first | refine bn_ ?_ _ | refine bd_ ?_ | refine ba_ ?_ _)); exact BK562.out⟩; have n2_ : Aside0 (((((((w47.setCell ⟨gb579, 0, none⟩ (.int .i64 t572)).setCell ⟨gb579, 1, none⟩ (.int .i64 t573)).setCell ⟨gb579, 2, none⟩ (.int .i64 t574)).setCell ⟨gb579, 3, none⟩ (.int .i64 t575)).setCell ⟨gb579, 4, none⟩ (.int .i64 t576)).setCell ⟨gb579, 5, none⟩ (.string t577)).heap[gb579]? = some (.cells #[.int .i64 t572, .int .i64 t573, .int .i64 t574, .int .i64 t575, .int .i64 t576, .string t577] 24 (0, 0))) := ⟨by (with_reducible repeat (first | refine bn_ ?_ _ | refine bd_ ?_ | refine ba_ ?_ _)); refine blk_put (cs := #[.int .i64 t572, .int .i64 t573, .int .i64 t574, .int .i64 t575, .int .i64 t576, .string (⟨#[]⟩ : ByteArray)]) ?_ 5 _ rfl; (with_reducible repeat (first | refine bn_ ?_ _ | refine bd_ ?_ | refine ba_ ?_ _)); refine blk_put (cs := #[.int .i64 t572, .int .i64 t573, .int .i64 t574, .int .i64 t575, .int .i64 0, .string (⟨#[]⟩ : ByteArray)]) ?_ 4 _ rfl; (with_reducible repeat (first | refine bn_ ?_ _ | refine bd_ ?_ | refine ba_ ?_ _)); refine blk_put (cs := #[.int .i64 t572, .int .i64 t573, .int .i64 t574, .int .i64 0, .int .i64 0, .string (⟨#[]⟩ : ByteArray)]) ?_ 3 _ rfl; (with_reducible repeat (first | refine bn_ ?_ _ | refine bd_ ?_ | refine ba_ ?_ _)); refine blk_put (cs := #[.int .i64 t572, .int .i64 t573, .int .i64 0, .int .i64 0, .int .i64 0, .string (⟨#[]⟩ : ByteArray)]) ?_ 2 _ rfl; (with_reducible repeat (first | refine bn_ ?_ _ | refine bd_ ?_ | refine ba_ ?_ _)); refine blk_put (cs := #[.int .i64 t572, .int .i64 0, .int .i64 0, .int .i64 0, .int .i64 0, .string (⟨#[]⟩ : ByteArray)]) ?_ 1 _ rfl; (with_reducible repeat (first | refine bn_ ?_ _ | refine bd_ ?_ | refine ba_ ?_ _)); refine blk_put (cs := #[.int .i64 0, .int .i64 0, .int .i64 0, .int .i64 0, .int .i64 0, .string (⟨#[]⟩ : ByteArray)]) ?_ 0 _ rfl; (with_reducible repeat (first | refine bn_ ?_ _ | refine bd_ ?_ | refine ba_ ?_ _)); exact BK579.out⟩; have n3_ : Aside0 (Below w.heap.size w ((((((w47.setCell ⟨gb579, 0, none⟩ (.int .i64 t572)).setCell ⟨gb579, 1, none⟩ (.int .i64 t573)).setCell ⟨gb579, 2, none⟩ (.int .i64 t574)).setCell ⟨gb579, 3, none⟩ (.int .i64 t575)).setCell ⟨gb579, 4, none⟩ (.int .i64 t576)).setCell ⟨gb579, 5, none⟩ (.string t577))) := ⟨by repeat (first | (with_reducible first | exact HB.out | apply wa_ | apply wn_ | apply wd_ | refine ws_ ?_ GE562.out | refine ws_ ?_ GE579.out) | exact HB.out)⟩
                (try clear HO_5)
                (try clear BK562)
                (try clear BK579)
                (try clear HB)
                generalize ((((((w47.setCell ⟨gb579, 0, none⟩ (.int .i64 t572)).setCell ⟨gb579, 1, none⟩ (.int .i64 t573)).setCell ⟨gb579, 2, none⟩ (.int .i64 t574)).setCell ⟨gb579, 3, none⟩ (.int .i64 t575)).setCell ⟨gb579, 4, none⟩ (.int .i64 t576)).setCell ⟨gb579, 5, none⟩ (.string t577)) = w50 at n0_ n1_ n2_ n3_ ⊢
                have HO_5 := n0_; have BK562 := n1_; have BK579 := n2_; have HB := n3_; clear n0_ n1_ n2_ n3_; have n0_ := A_ (rd_ HO_5.out); have n1_ := A_ (bd_ BK562.out); have n2_ := A_ (bd_ BK579.out); have n3_ := A_ (wd_ HB.out); clear HO_5; clear BK562; clear BK579; clear HB; have HO_5 := n0_; have BK562 := n1_; have BK579 := n2_; have HB := n3_; clear n0_ n1_ n2_ n3_
                have p581 : 0 ≤ ((t566.length : Int) : Int) := of_decide_eq_true (by first | (with_reducible assumption) | assumption)
                have q581 : (t566.length : Int) < (l0_2.length : Int) := of_decide_eq_true (by first | (with_reducible assumption) | assumption)
                obtain ⟨ad581, e581, hx581_0, hx581_1, hx581_2, hx581_3, hx581_4, hx581_5⟩ := at_T24 HR0_2.out (t566.length : Int) p581 q581
                have hw581_5 := hx581_5
                have hw581_4 := hx581_4
                have hw581_3 := hx581_3
                have hw581_2 := hx581_2
                have hw581_1 := hx581_1
                have hw581_0 := hx581_0
                cases e581
                replace hx581_0 := (HB.out.cell (World.block_lt_of_cell? w _ hx581_0)).trans hx581_0
                replace hx581_1 := (HB.out.cell (World.block_lt_of_cell? w _ hx581_1)).trans hx581_1
                replace hx581_2 := (HB.out.cell (World.block_lt_of_cell? w _ hx581_2)).trans hx581_2
                replace hx581_3 := (HB.out.cell (World.block_lt_of_cell? w _ hx581_3)).trans hx581_3
                replace hx581_4 := (HB.out.cell (World.block_lt_of_cell? w _ hx581_4)).trans hx581_4
                replace hx581_5 := (HB.out.cell (World.block_lt_of_cell? w _ hx581_5)).trans hx581_5
                (try simp only [Go.IntWalk.toNatUp] at hx581_0)
                (try simp only [Go.IntWalk.toNatUp] at hx581_1)
                (try simp only [Go.IntWalk.toNatUp] at hx581_2)
                (try simp only [Go.IntWalk.toNatUp] at hx581_3)
                (try simp only [Go.IntWalk.toNatUp] at hx581_4)
                (try simp only [Go.IntWalk.toNatUp] at hx581_5)
                replace p581 := eq_true p581
                replace q581 := eq_true q581
                refine start_ (n := 29) (S := fun w' => w'.cell? ⟨gb562, 0, none⟩ = some (.int .i64 a0_0) ∧ w'.cell? ⟨gb562, 1, none⟩ = some (.int .i64 a0_1) ∧ w'.cell? ⟨gb562, 2, none⟩ = some (.slice (some ad581) l0_2.length c0_2) ∧ w'.cell? (ad581.add (((t566.length : Int)).toNat * 6)) = some (.int .i64 ((rd_T24 l0_2 (t566.length : Int)).f0)) ∧ w'.cell? ⟨(ad581.add (((t566.length : Int)).toNat * 6)).block, (ad581.add (((t566.length : Int)).toNat * 6)).off + 1, none⟩ = some (.int .i64 ((rd_T24 l0_2 (t566.length : Int)).f1)) ∧ w'.cell? ⟨(ad581.add (((t566.length : Int)).toNat * 6)).block, (ad581.add (((t566.length : Int)).toNat * 6)).off + 2, none⟩ = some (.int .i64 ((rd_T24 l0_2 (t566.length : Int)).f2)) ∧ w'.cell? ⟨(ad581.add (((t566.length : Int)).toNat * 6)).block, (ad581.add (((t566.length : Int)).toNat * 6)).off + 3, none⟩ = some (.int .i64 ((rd_T24 l0_2 (t566.length : Int)).f3)) ∧ w'.cell? ⟨(ad581.add (((t566.length : Int)).toNat * 6)).block, (ad581.add (((t566.length : Int)).toNat * 6)).off + 4, none⟩ = some (.int .i64 ((rd_T24 l0_2 (t566.length : Int)).f4)) ∧ w'.cell? ⟨(ad581.add (((t566.length : Int)).toNat * 6)).block, (ad581.add (((t566.length : Int)).toNat * 6)).off + 5, none⟩ = some (.string ((rd_T24 l0_2 (t566.length : Int)).f5))) (ds := []) #[F,F,F,F,F,F,F,F,F,F,F,F,F,F,F,F,F,F,F,F,F,F,F,F,F,F,F,F,F] (by kernel_rfl) rfl rfl ⟨(blk_cell BK562.out 0).trans rfl, (blk_cell BK562.out 1).trans rfl, (blk_cell BK562.out 2).trans rfl, ((HB.out.cell (World.block_lt_of_cell? w _ hw581_0)).trans hw581_0), ((HB.out.cell (World.block_lt_of_cell? w _ hw581_1)).trans hw581_1), ((HB.out.cell (World.block_lt_of_cell? w _ hw581_2)).trans hw581_2), ((HB.out.cell (World.block_lt_of_cell? w _ hw581_3)).trans hw581_3), ((HB.out.cell (World.block_lt_of_cell? w _ hw581_4)).trans hw581_4), ((HB.out.cell (World.block_lt_of_cell? w _ hw581_5)).trans hw581_5)⟩ (fun hHeld => ?_); refine with_tabW hopperlaw05_QueueReady.tab12 hopperlaw05_QueueReady.bits12 (fun HT_ HW_ => ?_)
                generalize w50.drew = w51 at HO_5 BK562 BK579 HB hx581_0 hx581_1 hx581_2 hx581_3 hx581_4 hx581_5 hHeld ⊢
                refine pure_ (i := 0) (N := some 65) (v := ?_) (a' := ?_) #[T,F,F,F,F,F,F,F,F,F,F,F,F,F,F,F,F,F,F,F,F,F,F,F,F,F,F,F,F] rfl rfl (any_of HT_.out (by kernel_rfl)) (fun _ _ _ h => h) (Or.inl ⟨by rfl, ?_⟩) ?_ ?_
                rotate_left
                · intro w'
                  go_simp
                  with_reducible rfl
                rotate_left
                · simp only [Act.put, s0_, s1_, s2_, i64_w, i32_w]
                  rfl
                refine pure_ (i := 1) (N := some 66) (v := ?_) (a' := ?_) #[T,T,F,F,F,F,F,F,F,F,F,F,F,F,F,F,F,F,F,F,F,F,F,F,F,F,F,F,F] rfl rfl (any_of HT_.out (by kernel_rfl)) (fun _ _ _ h => h) (Or.inl ⟨by rfl, ?_⟩) ?_ ?_
                rotate_left
                · intro w'
                  go_simp
                  with_reducible rfl
                rotate_left
                · simp only [Act.put, s0_, s1_, s2_, i64_w, i32_w]
                  rfl
                refine pure_ (i := 2) (N := some 67) (v := ?_) (a' := ?_) #[T,T,T,F,F,F,F,F,F,F,F,F,F,F,F,F,F,F,F,F,F,F,F,F,F,F,F,F,F] rfl rfl (any_of HT_.out (by kernel_rfl)) (fun _ _ _ h => h) (Or.inl ⟨by rfl, ?_⟩) ?_ ?_
                rotate_left
                · intro w'
                  go_simp
                  with_reducible rfl
                rotate_left
                · simp only [Act.put, s0_, s1_, s2_, i64_w, i32_w]
                  rfl
                refine pure_ (i := 3) (N := some 68) (v := ?_) (a' := ?_) #[T,T,T,T,F,F,F,F,F,F,F,F,F,F,F,F,F,F,F,F,F,F,F,F,F,F,F,F,F] rfl rfl (any_of HT_.out (by kernel_rfl)) (fun _ _ _ h => h) (Or.inl ⟨by rfl, ?_⟩) ?_ ?_
                rotate_left
                · intro w'
                  go_simp
                  with_reducible rfl
                rotate_left
                · simp only [Act.put, s0_, s1_, s2_, i64_w, i32_w]
                  rfl
                refine pure_ (i := 4) (N := some 69) (v := ?_) (a' := ?_) #[T,T,T,T,T,F,F,F,F,F,F,F,F,F,F,F,F,F,F,F,F,F,F,F,F,F,F,F,F] rfl rfl (any_of HT_.out (by kernel_rfl)) (fun _ _ _ h => h) (Or.inl ⟨by rfl, ?_⟩) ?_ ?_
                rotate_left
                · intro w'
                  go_simp
                  with_reducible rfl
                rotate_left
                · simp only [Act.put, s0_, s1_, s2_, i64_w, i32_w]
                  rfl
                refine pure_ (i := 5) (N := some 70) (v := ?_) (a' := ?_) #[T,T,T,T,T,T,F,F,F,F,F,F,F,F,F,F,F,F,F,F,F,F,F,F,F,F,F,F,F] rfl rfl (any_of HT_.out (by kernel_rfl)) (fun _ _ _ h => h) (Or.inl ⟨by rfl, ?_⟩) ?_ ?_
                rotate_left
                · intro w'
                  go_simp
                  with_reducible rfl
                rotate_left
                · simp only [Act.put, s0_, s1_, s2_, i64_w, i32_w]
                  rfl
                refine take_ (i := 6) (N := some 71) (v := ?_) (a' := ?_) #[T,T,T,T,T,T,T,F,F,F,F,F,F,F,F,F,F,F,F,F,F,F,F,F,F,F,F,F,F] rfl rfl (take_ofW HT_.out HW_.out (by kernel_rfl)) (fun _ _ _ h => h) (Or.inl ⟨by rfl, ?_⟩) hHeld ?_ ?_
                rotate_left
                · rintro w' ⟨s0, s1, s2, s3, s4, s5, s6, s7, s8⟩
                  (try simp only [Int.toNat_natCast] at s0 s1 s2 s3 s4 s5 s6 s7 s8)
                  go_simp
                  with_reducible rfl
                rotate_left
                · simp only [Act.put, s0_, s1_, s2_, i64_w, i32_w]
                  rfl
                refine pure_ (i := 7) (N := some 72) (v := ?_) (a' := ?_) #[T,T,T,T,T,T,T,T,F,F,F,F,F,F,F,F,F,F,F,F,F,F,F,F,F,F,F,F,F] rfl rfl (any_of HT_.out (by kernel_rfl)) (fun _ _ _ h => h) (Or.inl ⟨by rfl, ?_⟩) ?_ ?_
                rotate_left
                · intro w'
                  go_simp
                  with_reducible rfl
                rotate_left
                · simp only [Act.put, s0_, s1_, s2_, i64_w, i32_w]
                  rfl
                refine pure_ (i := 8) (N := some 73) (v := ?_) (a' := ?_) #[T,T,T,T,T,T,T,T,T,F,F,F,F,F,F,F,F,F,F,F,F,F,F,F,F,F,F,F,F] rfl rfl (any_of HT_.out (by kernel_rfl)) (fun _ _ _ h => h) (Or.inl ⟨by rfl, ?_⟩) ?_ ?_
                rotate_left
                · intro w'
                  go_simp
                  with_reducible rfl
                rotate_left
                · simp only [Act.put, s0_, s1_, s2_, i64_w, i32_w]
                  rfl
                refine pure_ (i := 9) (N := some 74) (v := ?_) (a' := ?_) #[T,T,T,T,T,T,T,T,T,T,F,F,F,F,F,F,F,F,F,F,F,F,F,F,F,F,F,F,F] rfl rfl (any_of HT_.out (by kernel_rfl)) (fun _ _ _ h => h) (Or.inl ⟨by rfl, ?_⟩) ?_ ?_
                rotate_left
                · intro w'
                  go_simp
                  with_reducible rfl
                rotate_left
                · simp only [Act.put, s0_, s1_, s2_, i64_w, i32_w]
                  rfl
                refine pure_ (i := 10) (N := some 75) (v := ?_) (a' := ?_) #[T,T,T,T,T,T,T,T,T,T,T,F,F,F,F,F,F,F,F,F,F,F,F,F,F,F,F,F,F] rfl rfl (any_of HT_.out (by kernel_rfl)) (fun _ _ _ h => h) (Or.inl ⟨by rfl, ?_⟩) ?_ ?_
                rotate_left
                · intro w'
                  go_simp
                  with_reducible rfl
                rotate_left
                · simp only [Act.put, s0_, s1_, s2_, i64_w, i32_w]
                  rfl
                refine pure_ (i := 12) (N := some 77) (v := ?_) (a' := ?_) #[T,T,T,T,T,T,T,T,T,T,T,F,T,F,F,F,F,F,F,F,F,F,F,F,F,F,F,F,F] rfl rfl (any_of HT_.out (by kernel_rfl)) (fun _ _ _ h => h) (Or.inl ⟨by rfl, ?_⟩) ?_ ?_
                rotate_left
                · intro w'
                  go_simp
                  with_reducible rfl
                rotate_left
                · simp only [Act.put, s0_, s1_, s2_, i64_w, i32_w]
                  rfl
                refine pure_ (i := 13) (N := some 78) (v := ?_) (a' := ?_) #[T,T,T,T,T,T,T,T,T,T,T,F,T,T,F,F,F,F,F,F,F,F,F,F,F,F,F,F,F] rfl rfl (any_of HT_.out (by kernel_rfl)) (fun _ _ _ h => h) (Or.inl ⟨by rfl, ?_⟩) ?_ ?_
                rotate_left
                · intro w'
                  go_simp
                  with_reducible rfl
                rotate_left
                · simp only [Act.put, s0_, s1_, s2_, i64_w, i32_w]
                  rfl
                refine pure_ (i := 17) (N := some 82) (v := ?_) (a' := ?_) #[T,T,T,T,T,T,T,T,T,T,T,F,T,T,F,F,F,T,F,F,F,F,F,F,F,F,F,F,F] rfl rfl (any_of HT_.out (by kernel_rfl)) (fun _ _ _ h => h) (Or.inl ⟨by rfl, ?_⟩) ?_ ?_
                rotate_left
                · intro w'
                  go_simp
                  with_reducible rfl
                rotate_left
                · simp only [Act.put, s0_, s1_, s2_, i64_w, i32_w]
                  rfl
                refine pure_ (i := 19) (N := some 84) (v := ?_) (a' := ?_) #[T,T,T,T,T,T,T,T,T,T,T,F,T,T,F,F,F,T,F,T,F,F,F,F,F,F,F,F,F] rfl rfl (any_of HT_.out (by kernel_rfl)) (fun _ _ _ h => h) (Or.inl ⟨by rfl, ?_⟩) ?_ ?_
                rotate_left
                · intro w'
                  go_simp
                  with_reducible rfl
                rotate_left
                · simp only [Act.put, s0_, s1_, s2_, i64_w, i32_w]
                  rfl
                refine pure_ (i := 20) (N := some 85) (v := ?_) (a' := ?_) #[T,T,T,T,T,T,T,T,T,T,T,F,T,T,F,F,F,T,F,T,T,F,F,F,F,F,F,F,F] rfl rfl (any_of HT_.out (by kernel_rfl)) (fun _ _ _ h => h) (Or.inl ⟨by rfl, ?_⟩) ?_ ?_
                rotate_left
                · intro w'
                  go_simp
                  with_reducible rfl
                rotate_left
                · simp only [Act.put, s0_, s1_, s2_, i64_w, i32_w]
                  rfl
                refine take_ (i := 11) (N := some 76) (v := ?_) (a' := ?_) #[T,T,T,T,T,T,T,T,T,T,T,T,T,T,F,F,F,T,F,T,T,F,F,F,F,F,F,F,F] rfl rfl (take_ofW HT_.out HW_.out (by kernel_rfl)) (fun _ _ _ h => h) (Or.inl ⟨by rfl, ?_⟩) hHeld ?_ ?_
                rotate_left
                · rintro w' ⟨s0, s1, s2, s3, s4, s5, s6, s7, s8⟩
                  (try simp only [Int.toNat_natCast] at s0 s1 s2 s3 s4 s5 s6 s7 s8)
                  go_simp
                  with_reducible rfl
                rotate_left
                · simp only [Act.put, s0_, s1_, s2_, i64_w, i32_w]
                  rfl
                refine pure_ (i := 14) (N := some 79) (v := ?_) (a' := ?_) #[T,T,T,T,T,T,T,T,T,T,T,T,T,T,T,F,F,T,F,T,T,F,F,F,F,F,F,F,F] rfl rfl (any_of HT_.out (by kernel_rfl)) (fun _ _ _ h => h) (Or.inl ⟨by rfl, ?_⟩) ?_ ?_
                rotate_left
                · intro w'
                  go_simp
                  with_reducible rfl
                rotate_left
                · simp only [Act.put, s0_, s1_, s2_, i64_w, i32_w]
                  rfl
                refine pure_ (i := 15) (N := some 80) (v := ?_) (a' := ?_) #[T,T,T,T,T,T,T,T,T,T,T,T,T,T,T,T,F,T,F,T,T,F,F,F,F,F,F,F,F] rfl rfl (any_of HT_.out (by kernel_rfl)) (fun _ _ _ h => h) (Or.inl ⟨by rfl, ?_⟩) ?_ ?_
                rotate_left
                · intro w'
                  go_simp
                  with_reducible rfl
                rotate_left
                · simp only [Act.put, s0_, s1_, s2_, i64_w, i32_w]
                  rfl
                refine take_ (i := 16) (N := some 81) (v := ?_) (a' := ?_) #[T,T,T,T,T,T,T,T,T,T,T,T,T,T,T,T,T,T,F,T,T,F,F,F,F,F,F,F,F] rfl rfl (take_ofW HT_.out HW_.out (by kernel_rfl)) (fun _ _ _ h => h) (Or.inl ⟨by rfl, ?_⟩) hHeld ?_ ?_
                rotate_left
                · rintro w' ⟨s0, s1, s2, s3, s4, s5, s6, s7, s8⟩
                  (try simp only [Int.toNat_natCast] at s0 s1 s2 s3 s4 s5 s6 s7 s8)
                  go_simp
                  with_reducible rfl
                rotate_left
                · simp only [Act.put, s0_, s1_, s2_, i64_w, i32_w]
                  rfl
                refine take_ (i := 18) (N := some 83) (v := ?_) (a' := ?_) #[T,T,T,T,T,T,T,T,T,T,T,T,T,T,T,T,T,T,T,T,T,F,F,F,F,F,F,F,F] rfl rfl (take_ofW HT_.out HW_.out (by kernel_rfl)) (fun _ _ _ h => h) (Or.inl ⟨by rfl, ?_⟩) hHeld ?_ ?_
                rotate_left
                · rintro w' ⟨s0, s1, s2, s3, s4, s5, s6, s7, s8⟩
                  (try simp only [Int.toNat_natCast] at s0 s1 s2 s3 s4 s5 s6 s7 s8)
                  go_simp
                  with_reducible rfl
                rotate_left
                · simp only [Act.put, s0_, s1_, s2_, i64_w, i32_w]
                  rfl
                refine pure_ (i := 21) (N := some 86) (v := ?_) (a' := ?_) #[T,T,T,T,T,T,T,T,T,T,T,T,T,T,T,T,T,T,T,T,T,T,F,F,F,F,F,F,F] rfl rfl (any_of HT_.out (by kernel_rfl)) (fun _ _ _ h => h) (Or.inl ⟨by rfl, ?_⟩) ?_ ?_
                rotate_left
                · intro w'
                  go_simp
                  with_reducible rfl
                rotate_left
                · simp only [Act.put, s0_, s1_, s2_, i64_w, i32_w]
                  rfl
                refine pure_ (i := 22) (N := some 87) (v := ?_) (a' := ?_) #[T,T,T,T,T,T,T,T,T,T,T,T,T,T,T,T,T,T,T,T,T,T,T,F,F,F,F,F,F] rfl rfl (any_of HT_.out (by kernel_rfl)) (fun _ _ _ h => h) (Or.inl ⟨by rfl, ?_⟩) ?_ ?_
                rotate_left
                · intro w'
                  go_simp
                  with_reducible rfl
                rotate_left
                · simp only [Act.put, s0_, s1_, s2_, i64_w, i32_w]
                  rfl
                refine pure_ (i := 23) (N := some 88) (v := ?_) (a' := ?_) #[T,T,T,T,T,T,T,T,T,T,T,T,T,T,T,T,T,T,T,T,T,T,T,T,F,F,F,F,F] rfl rfl (any_of HT_.out (by kernel_rfl)) (fun _ _ _ h => h) (Or.inl ⟨by rfl, ?_⟩) ?_ ?_
                rotate_left
                · intro w'
                  go_simp
                  with_reducible rfl
                rotate_left
                · simp only [Act.put, s0_, s1_, s2_, i64_w, i32_w]
                  rfl
                refine pure_ (i := 24) (N := some 89) (v := ?_) (a' := ?_) #[T,T,T,T,T,T,T,T,T,T,T,T,T,T,T,T,T,T,T,T,T,T,T,T,T,F,F,F,F] rfl rfl (any_of HT_.out (by kernel_rfl)) (fun _ _ _ h => h) (Or.inl ⟨by rfl, ?_⟩) ?_ ?_
                rotate_left
                · intro w'
                  go_simp
                  with_reducible rfl
                rotate_left
                · simp only [Act.put, s0_, s1_, s2_, i64_w, i32_w]
                  rfl
                refine pure_ (i := 25) (N := some 90) (v := ?_) (a' := ?_) #[T,T,T,T,T,T,T,T,T,T,T,T,T,T,T,T,T,T,T,T,T,T,T,T,T,T,F,F,F] rfl rfl (any_of HT_.out (by kernel_rfl)) (fun _ _ _ h => h) (Or.inl ⟨by rfl, ?_⟩) ?_ ?_
                rotate_left
                · intro w'
                  go_simp
                  with_reducible rfl
                rotate_left
                · simp only [Act.put, s0_, s1_, s2_, i64_w, i32_w]
                  rfl
                refine one_ (i := 26) (N := some 91) #[T,T,T,T,T,T,T,T,T,T,T,T,T,T,T,T,T,T,T,T,T,T,T,T,T,T,T,F,F] rfl rfl (one_of HT_.out (by kernel_rfl)) (by decide) (fun K hK => ?_)
                refine goes_ Try.func51 (by kernel_rfl) rfl #[] (by rfl) rfl rfl (by (try simp only [m0_, m1_, m2_]); first | done | rfl) ?_
                with_reducible refine (hopperlaw05_live.calls k2  t582 _ A44.out).mono ?_
                rintro e w52 ⟨rfl, hb⟩
                refine ⟨_, rfl, ?_⟩
                have n0_ := A_ (Kd.R_below (by (with_reducible repeat (first | apply ra_ | apply rn_ | apply rd_)); exact HO_5.out) hb); have n1_ := A_ (blk_below (g := gb562) (o := .cells #[.int .i64 a0_0, .int .i64 a0_1, .slice (some ad581) l0_2.length c0_2] 46 (0, 0)) (by (with_reducible repeat (first | refine bn_ ?_ _ | refine bd_ ?_ | refine ba_ ?_ _)); exact BK562.out) hb); have n2_ := A_ (blk_below (g := gb579) (o := .cells #[.int .i64 t572, .int .i64 t573, .int .i64 t574, .int .i64 t575, .int .i64 t576, .string t577] 24 (0, 0)) (by (with_reducible repeat (first | refine bn_ ?_ _ | refine bd_ ?_ | refine ba_ ?_ _)); exact BK579.out) hb); have n3_ := A_ (below_step (by repeat (first | (with_reducible first | exact HB.out | apply wa_ | apply wn_ | apply wd_ | refine ws_ ?_ GE562.out | refine ws_ ?_ GE579.out) | exact HB.out)) hb); clear HO_5; clear BK562; clear BK579; clear HB; have HO_5 := n0_; have BK562 := n1_; have BK579 := n2_; have HB := n3_; clear n0_ n1_ n2_ n3_
                (try clear hb)
                (try clear hb2)
                (try clear hk)
                (try clear hi)
                refine hK.out _ _ ⟨(blk_cell BK562.out 0).trans rfl, (blk_cell BK562.out 1).trans rfl, (blk_cell BK562.out 2).trans rfl, ((HB.out.cell (World.block_lt_of_cell? w _ hw581_0)).trans hw581_0), ((HB.out.cell (World.block_lt_of_cell? w _ hw581_1)).trans hw581_1), ((HB.out.cell (World.block_lt_of_cell? w _ hw581_2)).trans hw581_2), ((HB.out.cell (World.block_lt_of_cell? w _ hw581_3)).trans hw581_3), ((HB.out.cell (World.block_lt_of_cell? w _ hw581_4)).trans hw581_4), ((HB.out.cell (World.block_lt_of_cell? w _ hw581_5)).trans hw581_5)⟩ (fun hHeld => ?_)
                clear hK K
                refine norm_ (a' := ?_) ?_ ?_
                rotate_left
                · show Act.put _ (some 91) _ = _
                  simp only [Act.put, s0_, s1_, s2_, i64_w, i32_w]
                  rfl
                refine pure_ (i := 27) (N := some 92) (v := ?_) (a' := ?_) #[T,T,T,T,T,T,T,T,T,T,T,T,T,T,T,T,T,T,T,T,T,T,T,T,T,T,T,T,F] rfl rfl (any_of HT_.out (by kernel_rfl)) (fun _ _ _ h => h) (Or.inl ⟨by rfl, ?_⟩) ?_ ?_
                rotate_left
                · intro w'
                  go_simp
                  with_reducible rfl
                rotate_left
                · simp only [Act.put, s0_, s1_, s2_, i64_w, i32_w]
                  rfl
                refine pure_ (i := 28) (N := some 4) (v := ?_) (a' := ?_) #[T,T,T,T,T,T,T,T,T,T,T,T,T,T,T,T,T,T,T,T,T,T,T,T,T,T,T,T,T] rfl rfl (any_of HT_.out (by kernel_rfl)) (fun _ _ _ h => h) (Or.inl ⟨by rfl, ?_⟩) ?_ ?_
                rotate_left
                · intro w'
                  go_simp
                  with_reducible rfl
                rotate_left
                · simp only [Act.put, s0_, s1_, s2_, i64_w, i32_w]
                  rfl
                refine done_ (done_of HT_.out (by kernel_rfl)) ?_
                try go_wp2
                go_ret
                exact ⟨by first | rfl | (simp [errW_none, errW_some] <;> rfl) | (simp [*, errW_none, errW_some] <;> rfl), by repeat (first | (with_reducible first | exact HB.out | apply wa_ | apply wn_ | apply wd_ | refine ws_ ?_ GE562.out | refine ws_ ?_ GE579.out) | exact HB.out)⟩
open Go.Proofs.Ytehncbhmdgdkjaa.Row (okI okB okS okL) in
/-- THE ONE PURE STATEMENT of hopperlaw05_QueueReady. -/
def hopperlaw05_QueueReady.Pure : Prop := ∀ (a0_0 : Int) (a0_1 : Int) (l0_2 : List (S24)) (a1 : Int), ok46 (⟨a0_0, a0_1, l0_2⟩ : S46) → (okI .i64) a1 → ∃ k, hopperlaw05_QueueReady.f k a0_0 a0_1 l0_2 a1 = some true

end Go.Proofs.Ytehncbhmdgdkjaa.Q
