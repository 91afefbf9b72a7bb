/- Written by this session's own program over the kit's print: functions of Go told as plain functions, or the row of one statement; proved for every input, with no condition of ours. -/
import Derived.Test.YtehncbhmdgdkjaaQx0
import Derived.Test.YtehncbhmdgdkjaaQx7
namespace Go.Proofs.Ytehncbhmdgdkjaa.Q
open Go.RowKit Go.Proofs.YtehncbhmdgdkjaaW.PrintWords Go.Proofs.YtehncbhmdgdkjaaW.PrintLast Go.Proofs.YtehncbhmdgdkjaaW.PrintMore
attribute [local go_sem] max2_int min2_int max_two min_two max_three min_three max_four min_four   -- for this text's walks alone
set_option linter.unusedVariables false
set_option linter.unusedSimpArgs false

/-! ### queue_Check: function 54 -/
mutual
def queue_Check.j0 : Nat → Bool → Int → Int → List (S24) → Option (Bool)
  | 0, _, _, _, _ => none
  | k + 1, x29, x133000, x133001, x133002 => if x29 = true then (some false) else (queue_Check.l0 k x133001 x133002 (x133002.length : Int) 0 x133000 x133001 x133002)
def queue_Check.l0 : Nat → Int → List (S24) → Int → Int → Int → Int → List (S24) → Option (Bool)
  | 0, _, _, _, _, _, _, _ => none
  | k + 1, x5, x33, x34, x35, x133000, x133001, x133002 => if x35 < x34 then (if 0 ≤ x35 then (if x35 < (x33.length : Int) then ((txn_Check.f ((rd_T24 x33 x35).f0) ((rd_T24 x33 x35).f1) ((rd_T24 x33 x35).f2) ((rd_T24 x33 x35).f3) ((rd_T24 x33 x35).f4) ((rd_T24 x33 x35).f5)).bind fun t138 => (if t138 = true then (if ((rd_T24 x33 x35).f0) = x133000 then (if ((rd_T24 x33 x35).f1) < x5 then (some false) else (queue_Check.l0 k (wrap64 (((rd_T24 x33 x35).f1) + 1)) x33 x34 (wrap64 (x35 + 1)) x133000 x133001 x133002)) else (some false)) else (some false))) else (none)) else (none)) else (some true)
end
def queue_Check.f (k : Nat) (a0_0 : Int) (a0_1 : Int) (l0_2 : List (S24)) (a1 : Int) : Option (Bool) := (queue_in.f a0_0 0 255).bind fun t133 => (if t133 = true then ((queue_in.f a0_1 0 4294967295).bind fun t134 => (if t134 = true then ((queue_in.f a1 1 16).bind fun t135 => (if t135 = true then (queue_Check.j0 k (decide ((l0_2.length : Int) > a1)) a0_0 a0_1 l0_2) else (queue_Check.j0 k true a0_0 a0_1 l0_2))) else (queue_Check.j0 k true a0_0 a0_1 l0_2))) else (queue_Check.j0 k true a0_0 a0_1 l0_2))
theorem queue_Check.mono_l : ∀ k, (∀ y0 y1 y2 y3, LeO (queue_Check.j0 k y0 y1 y2 y3) (queue_Check.j0 (k + 1) y0 y1 y2 y3)) ∧ (∀ y0 y1 y2 y3 y4 y5 y6, LeO (queue_Check.l0 k y0 y1 y2 y3 y4 y5 y6) (queue_Check.l0 (k + 1) y0 y1 y2 y3 y4 y5 y6))
  | 0 => ⟨fun _ _ _ _ r h => by simp [queue_Check.j0] at h, fun _ _ _ _ _ _ _ r h => by simp [queue_Check.l0] at h⟩
  | k + 1 => by
    obtain ⟨ih0, ih1⟩ := queue_Check.mono_l k
    refine ⟨?_, ?_⟩
    · intro y0 y1 y2 y3
      unfold queue_Check.j0
      repeat' first
      | (with_reducible exact ih0 _ _ _ _)
      | (with_reducible exact ih1 _ _ _ _ _ _ _)
      | (with_reducible exact LeO.refl _)
      | (with_reducible exact LeO.none _)
      | (with_reducible refine LeO.ite ?_ ?_)
      | (with_reducible refine LeO.bind ?_ (fun _ => ?_))
      | exact ih0 _ _ _ _
      | exact ih1 _ _ _ _ _ _ _
      | exact LeO.none _
      | refine LeO.ite ?_ ?_
      | refine LeO.bind ?_ (fun _ => ?_)
    · intro y0 y1 y2 y3 y4 y5 y6
      unfold queue_Check.l0
      repeat' first
      | (with_reducible exact ih0 _ _ _ _)
      | (with_reducible exact ih1 _ _ _ _ _ _ _)
      | (with_reducible exact LeO.refl _)
      | (with_reducible exact LeO.none _)
      | (with_reducible refine LeO.ite ?_ ?_)
      | (with_reducible refine LeO.bind ?_ (fun _ => ?_))
      | exact ih0 _ _ _ _
      | exact ih1 _ _ _ _ _ _ _
      | exact LeO.none _
      | refine LeO.ite ?_ ?_
      | refine LeO.bind ?_ (fun _ => ?_)
theorem queue_Check.mono : ∀ a0 a1 a2 a3 k, LeO (queue_Check.f k a0 a1 a2 a3) (queue_Check.f (k + 1) a0 a1 a2 a3) := by
  intro a0 a1 a2 a3 k
  obtain ⟨ih0, ih1⟩ := queue_Check.mono_l k
  unfold queue_Check.f
  repeat' first
      | (with_reducible exact ih0 _ _ _ _)
      | (with_reducible exact ih1 _ _ _ _ _ _ _)
      | (with_reducible exact LeO.refl _)
      | (with_reducible exact LeO.none _)
      | (with_reducible refine LeO.ite ?_ ?_)
      | (with_reducible refine LeO.bind ?_ (fun _ => ?_))
      | exact ih0 _ _ _ _
      | exact ih1 _ _ _ _ _ _ _
      | exact LeO.none _
      | refine LeO.ite ?_ ?_
      | refine LeO.bind ?_ (fun _ => ?_)
theorem queue_Check.six_ {a b c d e x y z u v : Int} {s t : List UInt8} (h : (a == x && (b == y && (c == z && (d == u && (e == v && (s == t)))))) = true) : (a = x) = True ∧ (b = y) = True ∧ (c = z) = True ∧ (d = u) = True ∧ (e = v) = True ∧ (s = t) = True := by
  simp only [Bool.and_eq_true, beq_iff_eq] at h
  simp [h]
abbrev queue_Check.T : Bool := true
abbrev queue_Check.F : Bool := false
theorem queue_Check.on_ {W W' : World} {p : Addr} {v : Value} (hb : Below W.heap.size W W') (h : W.cell? p = some v) : W'.cell? p = some v := (hb.cell (World.block_lt_of_cell? _ _ h)).trans h
theorem queue_Check.f6_ {α : Type} {d : Kd α} {e base g : Nat} {w : World} {ok : Nat → Prop} {v : Value} {xs : List α} (h : Kd.R d e w base ok v xs) (hok : ∀ k, ok k → k ≠ g) (a0 a1 a2 a3 a4 a5 : Value) : Kd.R d e ((((((w.setCell ⟨g, 0, none⟩ a0).setCell ⟨g, 1, none⟩ a1).setCell ⟨g, 2, none⟩ a2).setCell ⟨g, 3, none⟩ a3).setCell ⟨g, 4, none⟩ a4).setCell ⟨g, 5, none⟩ a5) base ok v xs := Kd.R_far (p := ⟨g, 5, none⟩) (Kd.R_far (p := ⟨g, 4, none⟩) (Kd.R_far (p := ⟨g, 3, none⟩) (Kd.R_far (p := ⟨g, 2, none⟩) (Kd.R_far (p := ⟨g, 1, none⟩) (Kd.R_far (p := ⟨g, 0, none⟩) h hok a0) hok a1) hok a2) hok a3) hok a4) hok a5
abbrev queue_Check.bn_ := @blk_drewN
abbrev queue_Check.bd_ := @blk_drew
abbrev queue_Check.ba_ := @blk_alloc
abbrev queue_Check.wa_ := @below_alloc
abbrev queue_Check.wn_ := @pw_below_drewN
abbrev queue_Check.wd_ := @below_drew1
abbrev queue_Check.ws_ := @below_set
abbrev queue_Check.A_ := @Aside0.mk
abbrev queue_Check.m0_ := @List.map_toArray
abbrev queue_Check.m1_ := @List.map_cons
abbrev queue_Check.m2_ := @List.map_nil
set_option maxHeartbeats 8000000 in
set_option maxRecDepth 100000 in
theorem queue_Check.calls (k : Nat) (a0_0 : Int) (a0_1 : Int) (A0_2 : Option Addr) (c0_2 : Nat) (l0_2 : List (S24)) (a1 : Int) (r : Bool) (w : World) (hr0_2 : Kd.C k24 w A0_2 l0_2.length l0_2) (hc0_2 : l0_2.length ≤ c0_2) (h : queue_Check.f k a0_0 a0_1 l0_2 a1 = some r) :
    Calls Try.prog 54 #[.agg #[.int .i64 a0_0, .int .i64 a0_1, .slice A0_2 l0_2.length c0_2], .int .i64 a1] w fun e w' => e = .returned (.bool r) ∧ Below w.heap.size w w' := by
  have hu46 := Try.underlying46
  have hu24 := Try.underlying24
  have HR0_2 := A_ hr0_2
  have HC0_2 := A_ hc0_2
  clear hr0_2 hc0_2; have HB := A_ (Below.refl w.heap.size w)
  have H : ((queue_in.f a0_0 0 255).bind fun t133 => (if t133 = true then ((queue_in.f a0_1 0 4294967295).bind fun t134 => (if t134 = true then ((queue_in.f a1 1 16).bind fun t135 => (if t135 = true then (queue_Check.j0 k (decide ((l0_2.length : Int) > a1)) a0_0 a0_1 l0_2) else (queue_Check.j0 k true a0_0 a0_1 l0_2))) else (queue_Check.j0 k true a0_0 a0_1 l0_2))) else (queue_Check.j0 k true a0_0 a0_1 l0_2))) = some r := h
  clear h
  have HC3 := A_ H
  clear H
  go_enter Try.func54, Try.ntmps54
  go_upto_region 1 with (first | ((with_reducible refine gate_dst (N := 2) rfl ?_); (try (refine gate_guard (by rfl) ?_; dsimp only)); refine box_event ?hg (N := 2) ?hd (cs := #[.int .i64 a0_0, .int .i64 a0_1, .slice A0_2 l0_2.length c0_2]) (t := 46) ?hr ?_; (case hd => rfl); (case hg => rfl); (case hr => first | (go_simp; done) | (go_simp; rfl)); intro gb132 hg w4 hbox hb; have n0_ := A_ (below_step (by repeat (first | (with_reducible first | exact HB.out | apply wa_ | apply wn_ | apply wd_) | exact HB.out)) hb); have n1_ := A_ (hbox); have n2_ := A_ ((by rw [hg]; exact (below_size (by repeat (first | (with_reducible first | exact HB.out | apply wa_ | apply wn_ | apply wd_) | exact HB.out))) : w.heap.size ≤ gb132)); have n3_ := A_ ((by rw [hg]; exact (below_size (by repeat (first | (with_reducible first | exact HB.out | apply wa_ | apply wn_ | apply wd_) | exact HB.out))) : w.heap.size ≤ gb132)); clear HB; have HB := n0_; have BK132 := n1_; have GW132 := n2_; have GE132 := n3_; clear n0_ n1_ n2_ n3_; clear hb hbox hg))
  (try simp only [Act.put, List.setIfInBounds_toArray, List.set_cons_zero, List.set_cons_succ])
  go_cut [29] (fun v29 wc => ∃ (kq : Nat) (x29_2 : Bool), v29 = .bool x29_2 ∧ Aside0 (queue_Check.j0 kq x29_2 a0_0 a0_1 l0_2 = some r) ∧ Aside0 (kq ≤ k) ∧ Aside0 (wc.heap[gb132]? = some (.cells #[.int .i64 a0_0, .int .i64 a0_1, (.slice A0_2 l0_2.length c0_2)] 46 (0, 0))) ∧ Aside0 (Below w.heap.size w wc))
  case first =>
    have H := HC3.out
    clear HC3
    replace H := Option.bind_eq_some_iff.mp H
    obtain ⟨t133, A50, H⟩ := H
    try dsimp only at H
    have A5 := A_ A50
    clear A50
    by_cases c6 : t133 = true
    · subst c6
      have H1 : ((queue_in.f a0_1 0 4294967295).bind fun t134 => (if t134 = true then ((queue_in.f a1 1 16).bind fun t135 => (if t135 = true then (queue_Check.j0 k (decide ((l0_2.length : Int) > a1)) a0_0 a0_1 l0_2) else (queue_Check.j0 k true a0_0 a0_1 l0_2))) else (queue_Check.j0 k true a0_0 a0_1 l0_2))) = some r := by rw [if_pos rfl] at H; exact H
      clear H
      have H := H1
      clear H1
      replace H := Option.bind_eq_some_iff.mp H
      obtain ⟨t134, A70, H⟩ := H
      try dsimp only at H
      have A7 := A_ A70
      clear A70
      by_cases c8 : t134 = true
      · subst c8
        have H1 : ((queue_in.f a1 1 16).bind fun t135 => (if t135 = true then (queue_Check.j0 k (decide ((l0_2.length : Int) > a1)) a0_0 a0_1 l0_2) else (queue_Check.j0 k true a0_0 a0_1 l0_2))) = some r := by rw [if_pos rfl] at H; exact H
        clear H
        have H := H1
        clear H1
        replace H := Option.bind_eq_some_iff.mp H
        obtain ⟨t135, A90, H⟩ := H
        try dsimp only at H
        have A9 := A_ A90
        clear A90
        by_cases c10 : t135 = true
        · subst c10
          have H1 : (queue_Check.j0 k (decide ((l0_2.length : Int) > a1)) a0_0 a0_1 l0_2) = some r := by rw [if_pos rfl] at H; exact H
          clear H
          have H := H1
          clear H1
          have H' := A_ H
          clear H; have hcz11_0 : w4.cell? ⟨gb132, 0, none⟩ = some (.int .i64 a0_0) := (blk_cell BK132.out 0).trans rfl; have hcz11_1 : w4.cell? ⟨gb132, 1, none⟩ = some (.int .i64 a0_1) := (blk_cell BK132.out 1).trans rfl; have hcz11_2 : w4.cell? ⟨gb132, 2, none⟩ = some (.slice A0_2 l0_2.length c0_2) := (blk_cell BK132.out 2).trans rfl; have hfz11_0 := blk_frozen BK132.out 0; have hfz11_1 := blk_frozen BK132.out 1; have hfz11_2 := blk_frozen BK132.out 2
          go_wp2_with (first | ((with_reducible refine gate_callee (f := 101) rfl ?_); refine goesL_ (some 10) rfl rfl Try.func101 (by kernel_rfl) rfl #[.int .i64 a0_0, .int .i64 0, .int .i64 255] rfl (by (try simp only [m0_, m1_, m2_]); first | done | rfl) ?_; (with_reducible refine (queue_in.calls a0_0 0 255 true _ A5.out).mono ?_); rintro e w' ⟨rfl, ⟨nd, rfl⟩⟩; refine ⟨_, rfl, ?_⟩) | (go_at_call 101; (with_reducible refine (queue_in.calls a0_1 0 4294967295 true _ A7.out).mono ?_); rintro e w' ⟨rfl, ⟨nd, rfl⟩⟩) | (go_at_call 101; (with_reducible refine (queue_in.calls a1 1 16 true _ A9.out).mono ?_); rintro e w' ⟨rfl, ⟨nd, rfl⟩⟩))
          go_meet
          case rel => exact ⟨_, (decide ((l0_2.length : Int) > a1)), (by first | rfl | (simp; done) | (simp [*]; done)), H', ⟨by first | omega | exact Nat.le_refl _⟩, ⟨by (with_reducible repeat (first | refine bn_ ?_ _ | refine bd_ ?_ | refine ba_ ?_ _)); exact BK132.out⟩, ⟨by repeat (first | (with_reducible first | exact HB.out | apply wa_ | apply wn_ | apply wd_ | refine ws_ ?_ GE132.out) | exact HB.out)⟩⟩
        · replace c10 := Bool.eq_false_iff.mpr c10
          subst c10
          have H1 : (queue_Check.j0 k true a0_0 a0_1 l0_2) = some r := by rw [if_neg (show ¬ (false = true) by decide)] at H; exact H
          clear H
          have H := H1
          clear H1
          have H' := A_ H
          clear H; have hcz12_0 : w4.cell? ⟨gb132, 0, none⟩ = some (.int .i64 a0_0) := (blk_cell BK132.out 0).trans rfl; have hcz12_1 : w4.cell? ⟨gb132, 1, none⟩ = some (.int .i64 a0_1) := (blk_cell BK132.out 1).trans rfl; have hcz12_2 : w4.cell? ⟨gb132, 2, none⟩ = some (.slice A0_2 l0_2.length c0_2) := (blk_cell BK132.out 2).trans rfl; have hfz12_0 := blk_frozen BK132.out 0; have hfz12_1 := blk_frozen BK132.out 1; have hfz12_2 := blk_frozen BK132.out 2
          go_wp2_with (first | ((with_reducible refine gate_callee (f := 101) rfl ?_); refine goesL_ (some 10) rfl rfl Try.func101 (by kernel_rfl) rfl #[.int .i64 a0_0, .int .i64 0, .int .i64 255] rfl (by (try simp only [m0_, m1_, m2_]); first | done | rfl) ?_; (with_reducible refine (queue_in.calls a0_0 0 255 true _ A5.out).mono ?_); rintro e w' ⟨rfl, ⟨nd, rfl⟩⟩; refine ⟨_, rfl, ?_⟩) | (go_at_call 101; (with_reducible refine (queue_in.calls a0_1 0 4294967295 true _ A7.out).mono ?_); rintro e w' ⟨rfl, ⟨nd, rfl⟩⟩) | (go_at_call 101; (with_reducible refine (queue_in.calls a1 1 16 false _ A9.out).mono ?_); rintro e w' ⟨rfl, ⟨nd, rfl⟩⟩))
          go_meet
          case rel => exact ⟨_, (true), (by first | rfl | (simp; done) | (simp [*]; done)), H', ⟨by first | omega | exact Nat.le_refl _⟩, ⟨by (with_reducible repeat (first | refine bn_ ?_ _ | refine bd_ ?_ | refine ba_ ?_ _)); exact BK132.out⟩, ⟨by repeat (first | (with_reducible first | exact HB.out | apply wa_ | apply wn_ | apply wd_ | refine ws_ ?_ GE132.out) | exact HB.out)⟩⟩
      · replace c8 := Bool.eq_false_iff.mpr c8
        subst c8
        have H1 : (queue_Check.j0 k true a0_0 a0_1 l0_2) = some r := by rw [if_neg (show ¬ (false = true) by decide)] at H; exact H
        clear H
        have H := H1
        clear H1
        have H' := A_ H
        clear H; have hcz13_0 : w4.cell? ⟨gb132, 0, none⟩ = some (.int .i64 a0_0) := (blk_cell BK132.out 0).trans rfl; have hcz13_1 : w4.cell? ⟨gb132, 1, none⟩ = some (.int .i64 a0_1) := (blk_cell BK132.out 1).trans rfl; have hcz13_2 : w4.cell? ⟨gb132, 2, none⟩ = some (.slice A0_2 l0_2.length c0_2) := (blk_cell BK132.out 2).trans rfl; have hfz13_0 := blk_frozen BK132.out 0; have hfz13_1 := blk_frozen BK132.out 1; have hfz13_2 := blk_frozen BK132.out 2
        go_wp2_with (first | ((with_reducible refine gate_callee (f := 101) rfl ?_); refine goesL_ (some 10) rfl rfl Try.func101 (by kernel_rfl) rfl #[.int .i64 a0_0, .int .i64 0, .int .i64 255] rfl (by (try simp only [m0_, m1_, m2_]); first | done | rfl) ?_; (with_reducible refine (queue_in.calls a0_0 0 255 true _ A5.out).mono ?_); rintro e w' ⟨rfl, ⟨nd, rfl⟩⟩; refine ⟨_, rfl, ?_⟩) | (go_at_call 101; (with_reducible refine (queue_in.calls a0_1 0 4294967295 false _ A7.out).mono ?_); rintro e w' ⟨rfl, ⟨nd, rfl⟩⟩))
        go_meet
        case rel => exact ⟨_, (true), (by first | rfl | (simp; done) | (simp [*]; done)), H', ⟨by first | omega | exact Nat.le_refl _⟩, ⟨by (with_reducible repeat (first | refine bn_ ?_ _ | refine bd_ ?_ | refine ba_ ?_ _)); exact BK132.out⟩, ⟨by repeat (first | (with_reducible first | exact HB.out | apply wa_ | apply wn_ | apply wd_ | refine ws_ ?_ GE132.out) | exact HB.out)⟩⟩
    · replace c6 := Bool.eq_false_iff.mpr c6
      subst c6
      have H1 : (queue_Check.j0 k true a0_0 a0_1 l0_2) = some r := by rw [if_neg (show ¬ (false = true) by decide)] at H; exact H
      clear H
      have H := H1
      clear H1
      have H' := A_ H
      clear H; have hcz14_0 : w4.cell? ⟨gb132, 0, none⟩ = some (.int .i64 a0_0) := (blk_cell BK132.out 0).trans rfl; have hcz14_1 : w4.cell? ⟨gb132, 1, none⟩ = some (.int .i64 a0_1) := (blk_cell BK132.out 1).trans rfl; have hcz14_2 : w4.cell? ⟨gb132, 2, none⟩ = some (.slice A0_2 l0_2.length c0_2) := (blk_cell BK132.out 2).trans rfl; have hfz14_0 := blk_frozen BK132.out 0; have hfz14_1 := blk_frozen BK132.out 1; have hfz14_2 := blk_frozen BK132.out 2
      go_wp2_with (first | ((with_reducible refine gate_callee (f := 101) rfl ?_); refine goesL_ (some 10) rfl rfl Try.func101 (by kernel_rfl) rfl #[.int .i64 a0_0, .int .i64 0, .int .i64 255] rfl (by (try simp only [m0_, m1_, m2_]); first | done | rfl) ?_; (with_reducible refine (queue_in.calls a0_0 0 255 false _ A5.out).mono ?_); rintro e w' ⟨rfl, ⟨nd, rfl⟩⟩; refine ⟨_, rfl, ?_⟩))
      go_meet
      case rel => exact ⟨_, (true), (by first | rfl | (simp; done) | (simp [*]; done)), H', ⟨by first | omega | exact Nat.le_refl _⟩, ⟨by (with_reducible repeat (first | refine bn_ ?_ _ | refine bd_ ?_ | refine ba_ ?_ _)); exact BK132.out⟩, ⟨by repeat (first | (with_reducible first | exact HB.out | apply wa_ | apply wn_ | apply wd_ | refine ws_ ?_ GE132.out) | exact HB.out)⟩⟩
  case rest =>
    clear HC3; (try clear c1); (try clear p2); (try clear c5); (try clear c6); (try clear c8); (try clear c10); (try clear hcz11_0); (try clear hcz11_1); (try clear hcz11_2); (try clear hcz12_0); (try clear hcz12_1); (try clear hcz12_2); (try clear hcz13_0); (try clear hcz13_1); (try clear hcz13_2); (try clear hcz14_0); (try clear hcz14_1); (try clear hcz14_2); (try clear hfz11_0); (try clear hfz11_1); (try clear hfz11_2); (try clear hfz12_0); (try clear hfz12_1); (try clear hfz12_2); (try clear hfz13_0); (try clear hfz13_1); (try clear hfz13_2); (try clear hfz14_0); (try clear hfz14_1); (try clear hfz14_2)
    obtain ⟨kq, x29_2, rfl, HA, HJ2, BK132, HB⟩ := hcut
    cases kq with
    | zero => exact absurd HA.out (by simp [queue_Check.j0])
    | succ kj2 =>
      have H := HA.out
      clear HA
      simp only [queue_Check.j0] at H
      by_cases c15 : x29_2 = true
      · subst c15
        have H1 : (some false) = some r := by rw [if_pos rfl] at H; exact H
        clear H
        have H := H1
        clear H1
        obtain rfl := Option.some.inj H
        go_wp2
        go_ret
        exact ⟨by first | rfl | (simp [errW_none, errW_some] <;> rfl) | (simp [*, errW_none, errW_some] <;> rfl), by repeat (first | (with_reducible first | exact HB.out | apply wa_ | apply wn_ | apply wd_ | refine ws_ ?_ GE132.out) | exact HB.out)⟩
      replace c15 := Bool.eq_false_iff.mpr c15
      subst c15
      have H1 : (queue_Check.l0 kj2 a0_1 l0_2 (l0_2.length : Int) 0 a0_0 a0_1 l0_2) = some r := by rw [if_neg (show ¬ (false = true) by decide)] at H; exact H
      clear H
      have H := H1
      clear H1
      have H' := A_ H
      clear H; have hcz16_0 : wc.cell? ⟨gb132, 0, none⟩ = some (.int .i64 a0_0) := (blk_cell BK132.out 0).trans rfl; have hcz16_1 : wc.cell? ⟨gb132, 1, none⟩ = some (.int .i64 a0_1) := (blk_cell BK132.out 1).trans rfl; have hcz16_2 : wc.cell? ⟨gb132, 2, none⟩ = some (.slice A0_2 l0_2.length c0_2) := (blk_cell BK132.out 2).trans rfl; have hfz16_0 := blk_frozen BK132.out 0; have hfz16_1 := blk_frozen BK132.out 1; have hfz16_2 := blk_frozen BK132.out 2
      go_wp2
      go_loopg [5, 35] kj2 (fun kq v5 v35 w' => ∃ (x5_2 : Int) (x35_2 : Int), v5 = .int .i64 x5_2 ∧ v35 = .int .i64 x35_2 ∧ Aside0 (queue_Check.l0 kq x5_2 l0_2 (l0_2.length : Int) x35_2 a0_0 a0_1 l0_2 = some r) ∧ Aside0 (kq ≤ kj2) ∧ Aside0 (w'.heap[gb132]? = some (.cells #[.int .i64 a0_0, .int .i64 a0_1, (.slice A0_2 l0_2.length c0_2)] 46 (0, 0))) ∧ Aside0 (Below w.heap.size w w'))
      case atStart => exact ⟨(a0_1), (0), (by first | rfl | (simp; done) | (simp [*]; done)), (by first | rfl | (simp; done) | (simp [*]; done)), H', ⟨Nat.le_refl _⟩, ⟨by (with_reducible repeat (first | refine bn_ ?_ _ | refine bd_ ?_ | refine ba_ ?_ _)); exact BK132.out⟩, ⟨by repeat (first | (with_reducible first | exact HB.out | apply wa_ | apply wn_ | apply wd_ | refine ws_ ?_ GE132.out) | exact HB.out)⟩⟩
      case round =>
        clear H'; (try clear c1); (try clear p2); (try clear c5); (try clear c6); (try clear c8); (try clear c10); (try clear c15); (try clear hcz11_0); (try clear hcz11_1); (try clear hcz11_2); (try clear hcz12_0); (try clear hcz12_1); (try clear hcz12_2); (try clear hcz13_0); (try clear hcz13_1); (try clear hcz13_2); (try clear hcz14_0); (try clear hcz14_1); (try clear hcz14_2); (try clear hcz16_0); (try clear hcz16_1); (try clear hcz16_2); (try clear hfz11_0); (try clear hfz11_1); (try clear hfz11_2); (try clear hfz12_0); (try clear hfz12_1); (try clear hfz12_2); (try clear hfz13_0); (try clear hfz13_1); (try clear hfz13_2); (try clear hfz14_0); (try clear hfz14_1); (try clear hfz14_2); (try clear hfz16_0); (try clear hfz16_1); (try clear hfz16_2); (try clear p2)
        obtain ⟨x5_2, x35_2, rfl, rfl, HA, HK2, BK132, HB⟩ := hrel
        cases gk with
        | zero => exact absurd HA.out (by simp [queue_Check.l0])
        | succ k2 =>
          have H := HA.out
          clear HA
          simp only [queue_Check.l0] at H
          by_cases c17 : x35_2 < (l0_2.length : Int)
          rotate_left
          · rw [if_neg c17] at H
            have c17b0 : decide (x35_2 < (l0_2.length : Int)) = false := decide_eq_false c17
            clear c17
            obtain rfl := Option.some.inj H
            go_wp2
            go_ret
            exact ⟨by first | rfl | (simp [errW_none, errW_some] <;> rfl) | (simp [*, errW_none, errW_some] <;> rfl), by repeat (first | (with_reducible first | exact HB.out | apply wa_ | apply wn_ | apply wd_ | refine ws_ ?_ GE132.out) | exact HB.out)⟩

          rw [if_pos c17] at H
          have c17b0 : decide (x35_2 < (l0_2.length : Int)) = true := decide_eq_true c17
          clear c17
          by_cases c18 : 0 ≤ x35_2
          rotate_left
          · rw [if_neg c18] at H
            exact absurd H (by simp)
          rw [if_pos c18] at H
          have c18b0 : decide (0 ≤ x35_2) = true := decide_eq_true c18
          clear c18
          by_cases c19 : x35_2 < (l0_2.length : Int)
          rotate_left
          · rw [if_neg c19] at H
            exact absurd H (by simp)
          rw [if_pos c19] at H
          have c19b0 : decide (x35_2 < (l0_2.length : Int)) = true := decide_eq_true c19
          clear c19
          replace H := Option.bind_eq_some_iff.mp H
          obtain ⟨t138, A200, H⟩ := H
          try dsimp only at H
          have A20 := A_ A200
          clear A200
          by_cases c21 : t138 = true
          · subst c21
            have H1 : (if ((rd_T24 l0_2 x35_2).f0) = a0_0 then (if ((rd_T24 l0_2 x35_2).f1) < x5_2 then (some false) else (queue_Check.l0 k2 (wrap64 (((rd_T24 l0_2 x35_2).f1) + 1)) l0_2 (l0_2.length : Int) (wrap64 (x35_2 + 1)) a0_0 a0_1 l0_2)) else (some false)) = some r := by rw [if_pos rfl] at H; exact H
            clear H
            have H := H1
            clear H1
            by_cases c22 : ((rd_T24 l0_2 x35_2).f0) = a0_0
            · rw [if_pos c22] at H
              have c22b0 : (((rd_T24 l0_2 x35_2).f0) == a0_0) = true := beq_iff_eq.mpr c22
              have c22b1 : (((rd_T24 l0_2 x35_2).f0) != a0_0) = false := bne_eq_false_iff_eq.mpr c22
              clear c22
              by_cases c23 : ((rd_T24 l0_2 x35_2).f1) < x5_2
              · rw [if_pos c23] at H
                have c23b0 : decide (((rd_T24 l0_2 x35_2).f1) < x5_2) = true := decide_eq_true c23
                clear c23
                obtain rfl := Option.some.inj H
                have p136 : 0 ≤ (x35_2 : Int) := of_decide_eq_true (by first | (with_reducible assumption) | assumption)
                have q136 : x35_2 < (l0_2.length : Int) := of_decide_eq_true (by first | (with_reducible assumption) | assumption)
                obtain ⟨ad136, e136, hx136_0, hx136_1, hx136_2, hx136_3, hx136_4, hx136_5⟩ := at_T24 HR0_2.out x35_2 p136 q136
                cases e136
                replace hx136_0 := (HB.out.cell (World.block_lt_of_cell? w _ hx136_0)).trans hx136_0
                replace hx136_1 := (HB.out.cell (World.block_lt_of_cell? w _ hx136_1)).trans hx136_1
                replace hx136_2 := (HB.out.cell (World.block_lt_of_cell? w _ hx136_2)).trans hx136_2
                replace hx136_3 := (HB.out.cell (World.block_lt_of_cell? w _ hx136_3)).trans hx136_3
                replace hx136_4 := (HB.out.cell (World.block_lt_of_cell? w _ hx136_4)).trans hx136_4
                replace hx136_5 := (HB.out.cell (World.block_lt_of_cell? w _ hx136_5)).trans hx136_5
                replace p136 := eq_true p136
                replace q136 := eq_true q136
                go_wp2_with (first | ((with_reducible refine gate_dst (N := 7) rfl ?_); (try (refine gate_guard (by rfl) ?_; dsimp only)); refine box_event ?hg (N := 7) ?hd (cs := #[.int .i64 0, .int .i64 0, .int .i64 0, .int .i64 0, .int .i64 0, .string (⟨#[]⟩ : ByteArray)]) (t := 24) ?hr ?_; (case hd => rfl); (case hg => rfl); (case hr => first | (go_simp; done) | (go_simp; rfl)); intro gb137 hg w24 hbox hb; have n0_ := A_ (blk_below (g := gb132) (o := .cells #[.int .i64 a0_0, .int .i64 a0_1, .slice (some ad136) l0_2.length c0_2] 46 (0, 0)) (by (with_reducible repeat (first | refine bn_ ?_ _ | refine bd_ ?_ | refine ba_ ?_ _)); exact BK132.out) hb); have n1_ := A_ (below_step (by repeat (first | (with_reducible first | exact HB.out | apply wa_ | apply wn_ | apply wd_ | refine ws_ ?_ GE132.out) | exact HB.out)) hb); have n2_ := A_ (hbox); have n3_ := A_ ((by rw [hg]; exact (below_size (by repeat (first | (with_reducible first | exact HB.out | apply wa_ | apply wn_ | apply wd_ | refine ws_ ?_ GE132.out) | exact HB.out))) : w.heap.size ≤ gb137)); have n4_ := A_ ((by rw [hg]; exact (below_size (by repeat (first | (with_reducible first | exact HB.out | apply wa_ | apply wn_ | apply wd_ | refine ws_ ?_ GE132.out) | exact HB.out))) : w.heap.size ≤ gb137)); have n5_ := A_ ((by rw [hg]; exact Nat.ne_of_lt (blk_lt (g := gb132) (o := .cells #[.int .i64 a0_0, .int .i64 a0_1, .slice (some ad136) l0_2.length c0_2] 46 (0, 0)) (by (with_reducible repeat (first | refine bn_ ?_ _ | refine bd_ ?_ | refine ba_ ?_ _)); exact BK132.out)) : gb132 ≠ gb137)); have n6_ := A_ ((by rw [hg]; exact Nat.ne_of_gt (blk_lt (g := gb132) (o := .cells #[.int .i64 a0_0, .int .i64 a0_1, .slice (some ad136) l0_2.length c0_2] 46 (0, 0)) (by (with_reducible repeat (first | refine bn_ ?_ _ | refine bd_ ?_ | refine ba_ ?_ _)); exact BK132.out)) : gb137 ≠ gb132)); clear BK132; clear HB; have BK132 := n0_; have HB := n1_; have BK137 := n2_; have GW137 := n3_; have GE137 := n4_; have NB132_137 := n5_; have NB137_132 := n6_; clear n0_ n1_ n2_ n3_ n4_ n5_ n6_; clear hb hbox hg; have hnb25 := NB137_132.out; have hnc25 := NB132_137.out; have hcz26_0 : w24.cell? ⟨gb137, 0, none⟩ = some (.int .i64 0) := (blk_cell BK137.out 0).trans rfl; have hcz26_1 : w24.cell? ⟨gb137, 1, none⟩ = some (.int .i64 0) := (blk_cell BK137.out 1).trans rfl; have hcz26_2 : w24.cell? ⟨gb137, 2, none⟩ = some (.int .i64 0) := (blk_cell BK137.out 2).trans rfl; have hcz26_3 : w24.cell? ⟨gb137, 3, none⟩ = some (.int .i64 0) := (blk_cell BK137.out 3).trans rfl; have hcz26_4 : w24.cell? ⟨gb137, 4, none⟩ = some (.int .i64 0) := (blk_cell BK137.out 4).trans rfl; have hcz26_5 : w24.cell? ⟨gb137, 5, none⟩ = some (.string (⟨#[]⟩ : ByteArray)) := (blk_cell BK137.out 5).trans rfl; have hfz26_0 := blk_frozen BK137.out 0; have hfz26_1 := blk_frozen BK137.out 1; have hfz26_2 := blk_frozen BK137.out 2; have hfz26_3 := blk_frozen BK137.out 3; have hfz26_4 := blk_frozen BK137.out 4; have hfz26_5 := blk_frozen BK137.out 5) | ((with_reducible refine gate_callee (f := 102) rfl ?_); refine goesL_ (some 40) rfl rfl Try.func102 (by kernel_rfl) rfl #[.agg #[.int .i64 ((rd_T24 l0_2 x35_2).f0), .int .i64 ((rd_T24 l0_2 x35_2).f1), .int .i64 ((rd_T24 l0_2 x35_2).f2), .int .i64 ((rd_T24 l0_2 x35_2).f3), .int .i64 ((rd_T24 l0_2 x35_2).f4), .string ((rd_T24 l0_2 x35_2).f5)]] rfl (by (try simp only [m0_, m1_, m2_]); first | done | rfl) ?_; (with_reducible refine (txn_Check.calls ((rd_T24 l0_2 x35_2).f0) ((rd_T24 l0_2 x35_2).f1) ((rd_T24 l0_2 x35_2).f2) ((rd_T24 l0_2 x35_2).f3) ((rd_T24 l0_2 x35_2).f4) ((rd_T24 l0_2 x35_2).f5) true _ A20.out).mono ?_); rintro e w27 ⟨rfl, hb⟩; refine ⟨_, rfl, ?_⟩; have n0_ := A_ (blk_below (g := gb132) (o := .cells #[.int .i64 a0_0, .int .i64 a0_1, .slice (some ad136) l0_2.length c0_2] 46 (0, 0)) (by (with_reducible repeat (first | refine bn_ ?_ _ | refine bd_ ?_ | refine ba_ ?_ _)); refine blk_far ?_ NB132_137.out _; (with_reducible repeat (first | refine bn_ ?_ _ | refine bd_ ?_ | refine ba_ ?_ _)); refine blk_far ?_ NB132_137.out _; (with_reducible repeat (first | refine bn_ ?_ _ | refine bd_ ?_ | refine ba_ ?_ _)); refine blk_far ?_ NB132_137.out _; (with_reducible repeat (first | refine bn_ ?_ _ | refine bd_ ?_ | refine ba_ ?_ _)); refine blk_far ?_ NB132_137.out _; (with_reducible repeat (first | refine bn_ ?_ _ | refine bd_ ?_ | refine ba_ ?_ _)); refine blk_far ?_ NB132_137.out _; (with_reducible repeat (first | refine bn_ ?_ _ | refine bd_ ?_ | refine ba_ ?_ _)); refine blk_far ?_ NB132_137.out _; (with_reducible repeat (first | refine bn_ ?_ _ | refine bd_ ?_ | refine ba_ ?_ _)); exact BK132.out) hb); have n1_ := A_ (blk_below (g := gb137) (o := .cells #[.int .i64 ((rd_T24 l0_2 x35_2).f0), .int .i64 ((rd_T24 l0_2 x35_2).f1), .int .i64 ((rd_T24 l0_2 x35_2).f2), .int .i64 ((rd_T24 l0_2 x35_2).f3), .int .i64 ((rd_T24 l0_2 x35_2).f4), .string ((rd_T24 l0_2 x35_2).f5)] 24 (0, 0)) (by (with_reducible repeat (first | refine bn_ ?_ _ | refine bd_ ?_ | refine ba_ ?_ _)); refine blk_put (cs := #[.int .i64 ((rd_T24 l0_2 x35_2).f0), .int .i64 ((rd_T24 l0_2 x35_2).f1), .int .i64 ((rd_T24 l0_2 x35_2).f2), .int .i64 ((rd_T24 l0_2 x35_2).f3), .int .i64 ((rd_T24 l0_2 x35_2).f4), .string (⟨#[]⟩ : ByteArray)]) ?_ 5 _ rfl; (with_reducible repeat (first | refine bn_ ?_ _ | refine bd_ ?_ | refine ba_ ?_ _)); refine blk_put (cs := #[.int .i64 ((rd_T24 l0_2 x35_2).f0), .int .i64 ((rd_T24 l0_2 x35_2).f1), .int .i64 ((rd_T24 l0_2 x35_2).f2), .int .i64 ((rd_T24 l0_2 x35_2).f3), .int .i64 0, .string (⟨#[]⟩ : ByteArray)]) ?_ 4 _ rfl; (with_reducible repeat (first | refine bn_ ?_ _ | refine bd_ ?_ | refine ba_ ?_ _)); refine blk_put (cs := #[.int .i64 ((rd_T24 l0_2 x35_2).f0), .int .i64 ((rd_T24 l0_2 x35_2).f1), .int .i64 ((rd_T24 l0_2 x35_2).f2), .int .i64 0, .int .i64 0, .string (⟨#[]⟩ : ByteArray)]) ?_ 3 _ rfl; (with_reducible repeat (first | refine bn_ ?_ _ | refine bd_ ?_ | refine ba_ ?_ _)); refine blk_put (cs := #[.int .i64 ((rd_T24 l0_2 x35_2).f0), .int .i64 ((rd_T24 l0_2 x35_2).f1), .int .i64 0, .int .i64 0, .int .i64 0, .string (⟨#[]⟩ : ByteArray)]) ?_ 2 _ rfl; (with_reducible repeat (first | refine bn_ ?_ _ | refine bd_ ?_ | refine ba_ ?_ _)); refine blk_put (cs := #[.int .i64 ((rd_T24 l0_2 x35_2).f0), .int .i64 0, .int .i64 0, .int .i64 0, .int .i64 0, .string (⟨#[]⟩ : ByteArray)]) ?_ 1 _ rfl; (with_reducible repeat (first | refine bn_ ?_ _ | refine bd_ ?_ | refine ba_ ?_ _)); refine blk_put (cs := #[.int .i64 0, .int .i64 0, .int .i64 0, .int .i64 0, .int .i64 0, .string (⟨#[]⟩ : ByteArray)]) ?_ 0 _ rfl; (with_reducible repeat (first | refine bn_ ?_ _ | refine bd_ ?_ | refine ba_ ?_ _)); exact BK137.out) hb); have n2_ := A_ (below_step (by repeat (first | (with_reducible first | exact HB.out | apply wa_ | apply wn_ | apply wd_ | refine ws_ ?_ GE132.out | refine ws_ ?_ GE137.out) | exact HB.out)) hb); clear BK132; clear BK137; clear HB; have BK132 := n0_; have BK137 := n1_; have HB := n2_; clear n0_ n1_ n2_; (try clear hb); (try clear hb2); (try clear hk); (try clear hi); have hcz28_0 : w27.cell? ⟨gb137, 0, none⟩ = some (.int .i64 ((rd_T24 l0_2 x35_2).f0)) := (blk_cell BK137.out 0).trans rfl; have hcz28_1 : w27.cell? ⟨gb137, 1, none⟩ = some (.int .i64 ((rd_T24 l0_2 x35_2).f1)) := (blk_cell BK137.out 1).trans rfl; have hcz28_2 : w27.cell? ⟨gb137, 2, none⟩ = some (.int .i64 ((rd_T24 l0_2 x35_2).f2)) := (blk_cell BK137.out 2).trans rfl; have hcz28_3 : w27.cell? ⟨gb137, 3, none⟩ = some (.int .i64 ((rd_T24 l0_2 x35_2).f3)) := (blk_cell BK137.out 3).trans rfl; have hcz28_4 : w27.cell? ⟨gb137, 4, none⟩ = some (.int .i64 ((rd_T24 l0_2 x35_2).f4)) := (blk_cell BK137.out 4).trans rfl; have hcz28_5 : w27.cell? ⟨gb137, 5, none⟩ = some (.string ((rd_T24 l0_2 x35_2).f5)) := (blk_cell BK137.out 5).trans rfl; have hfz28_0 := blk_frozen BK137.out 0; have hfz28_1 := blk_frozen BK137.out 1; have hfz28_2 := blk_frozen BK137.out 2; have hfz28_3 := blk_frozen BK137.out 3; have hfz28_4 := blk_frozen BK137.out 4; have hfz28_5 := blk_frozen BK137.out 5; have hcz29_0 : w27.cell? ⟨gb132, 0, none⟩ = some (.int .i64 a0_0) := (blk_cell BK132.out 0).trans rfl; have hcz29_1 : w27.cell? ⟨gb132, 1, none⟩ = some (.int .i64 a0_1) := (blk_cell BK132.out 1).trans rfl; have hcz29_2 : w27.cell? ⟨gb132, 2, none⟩ = some (.slice (some ad136) l0_2.length c0_2) := (blk_cell BK132.out 2).trans rfl; have hfz29_0 := blk_frozen BK132.out 0; have hfz29_1 := blk_frozen BK132.out 1; have hfz29_2 := blk_frozen BK132.out 2))
                go_ret
                exact ⟨by first | rfl | (simp [errW_none, errW_some] <;> rfl) | (simp [*, errW_none, errW_some] <;> rfl), by repeat (first | (with_reducible first | exact HB.out | apply wa_ | apply wn_ | apply wd_ | refine ws_ ?_ GE132.out | refine ws_ ?_ GE137.out) | exact HB.out)⟩
              · rw [if_neg c23] at H
                have c23b0 : decide (((rd_T24 l0_2 x35_2).f1) < x5_2) = false := decide_eq_false c23
                clear c23
                have H' := A_ H
                clear H
                have p136 : 0 ≤ (x35_2 : Int) := of_decide_eq_true (by first | (with_reducible assumption) | assumption)
                have q136 : x35_2 < (l0_2.length : Int) := of_decide_eq_true (by first | (with_reducible assumption) | assumption)
                obtain ⟨ad136, e136, hx136_0, hx136_1, hx136_2, hx136_3, hx136_4, hx136_5⟩ := at_T24 HR0_2.out x35_2 p136 q136
                cases e136
                replace hx136_0 := (HB.out.cell (World.block_lt_of_cell? w _ hx136_0)).trans hx136_0
                replace hx136_1 := (HB.out.cell (World.block_lt_of_cell? w _ hx136_1)).trans hx136_1
                replace hx136_2 := (HB.out.cell (World.block_lt_of_cell? w _ hx136_2)).trans hx136_2
                replace hx136_3 := (HB.out.cell (World.block_lt_of_cell? w _ hx136_3)).trans hx136_3
                replace hx136_4 := (HB.out.cell (World.block_lt_of_cell? w _ hx136_4)).trans hx136_4
                replace hx136_5 := (HB.out.cell (World.block_lt_of_cell? w _ hx136_5)).trans hx136_5
                replace p136 := eq_true p136
                replace q136 := eq_true q136
                go_wp2_with (first | ((with_reducible refine gate_dst (N := 7) rfl ?_); (try (refine gate_guard (by rfl) ?_; dsimp only)); refine box_event ?hg (N := 7) ?hd (cs := #[.int .i64 0, .int .i64 0, .int .i64 0, .int .i64 0, .int .i64 0, .string (⟨#[]⟩ : ByteArray)]) (t := 24) ?hr ?_; (case hd => rfl); (case hg => rfl); (case hr => first | (go_simp; done) | (go_simp; rfl)); intro gb137 hg w30 hbox hb; have n0_ := A_ (blk_below (g := gb132) (o := .cells #[.int .i64 a0_0, .int .i64 a0_1, .slice (some ad136) l0_2.length c0_2] 46 (0, 0)) (by (with_reducible repeat (first | refine bn_ ?_ _ | refine bd_ ?_ | refine ba_ ?_ _)); exact BK132.out) hb); have n1_ := A_ (below_step (by repeat (first | (with_reducible first | exact HB.out | apply wa_ | apply wn_ | apply wd_ | refine ws_ ?_ GE132.out) | exact HB.out)) hb); have n2_ := A_ (hbox); have n3_ := A_ ((by rw [hg]; exact (below_size (by repeat (first | (with_reducible first | exact HB.out | apply wa_ | apply wn_ | apply wd_ | refine ws_ ?_ GE132.out) | exact HB.out))) : w.heap.size ≤ gb137)); have n4_ := A_ ((by rw [hg]; exact (below_size (by repeat (first | (with_reducible first | exact HB.out | apply wa_ | apply wn_ | apply wd_ | refine ws_ ?_ GE132.out) | exact HB.out))) : w.heap.size ≤ gb137)); have n5_ := A_ ((by rw [hg]; exact Nat.ne_of_lt (blk_lt (g := gb132) (o := .cells #[.int .i64 a0_0, .int .i64 a0_1, .slice (some ad136) l0_2.length c0_2] 46 (0, 0)) (by (with_reducible repeat (first | refine bn_ ?_ _ | refine bd_ ?_ | refine ba_ ?_ _)); exact BK132.out)) : gb132 ≠ gb137)); have n6_ := A_ ((by rw [hg]; exact Nat.ne_of_gt (blk_lt (g := gb132) (o := .cells #[.int .i64 a0_0, .int .i64 a0_1, .slice (some ad136) l0_2.length c0_2] 46 (0, 0)) (by (with_reducible repeat (first | refine bn_ ?_ _ | refine bd_ ?_ | refine ba_ ?_ _)); exact BK132.out)) : gb137 ≠ gb132)); clear BK132; clear HB; have BK132 := n0_; have HB := n1_; have BK137 := n2_; have GW137 := n3_; have GE137 := n4_; have NB132_137 := n5_; have NB137_132 := n6_; clear n0_ n1_ n2_ n3_ n4_ n5_ n6_; clear hb hbox hg; have hnb31 := NB137_132.out; have hnc31 := NB132_137.out; have hcz32_0 : w30.cell? ⟨gb137, 0, none⟩ = some (.int .i64 0) := (blk_cell BK137.out 0).trans rfl; have hcz32_1 : w30.cell? ⟨gb137, 1, none⟩ = some (.int .i64 0) := (blk_cell BK137.out 1).trans rfl; have hcz32_2 : w30.cell? ⟨gb137, 2, none⟩ = some (.int .i64 0) := (blk_cell BK137.out 2).trans rfl; have hcz32_3 : w30.cell? ⟨gb137, 3, none⟩ = some (.int .i64 0) := (blk_cell BK137.out 3).trans rfl; have hcz32_4 : w30.cell? ⟨gb137, 4, none⟩ = some (.int .i64 0) := (blk_cell BK137.out 4).trans rfl; have hcz32_5 : w30.cell? ⟨gb137, 5, none⟩ = some (.string (⟨#[]⟩ : ByteArray)) := (blk_cell BK137.out 5).trans rfl; have hfz32_0 := blk_frozen BK137.out 0; have hfz32_1 := blk_frozen BK137.out 1; have hfz32_2 := blk_frozen BK137.out 2; have hfz32_3 := blk_frozen BK137.out 3; have hfz32_4 := blk_frozen BK137.out 4; have hfz32_5 := blk_frozen BK137.out 5) | ((with_reducible refine gate_callee (f := 102) rfl ?_); refine goesL_ (some 40) rfl rfl Try.func102 (by kernel_rfl) rfl #[.agg #[.int .i64 ((rd_T24 l0_2 x35_2).f0), .int .i64 ((rd_T24 l0_2 x35_2).f1), .int .i64 ((rd_T24 l0_2 x35_2).f2), .int .i64 ((rd_T24 l0_2 x35_2).f3), .int .i64 ((rd_T24 l0_2 x35_2).f4), .string ((rd_T24 l0_2 x35_2).f5)]] rfl (by (try simp only [m0_, m1_, m2_]); first | done | rfl) ?_; (with_reducible refine (txn_Check.calls ((rd_T24 l0_2 x35_2).f0) ((rd_T24 l0_2 x35_2).f1) ((rd_T24 l0_2 x35_2).f2) ((rd_T24 l0_2 x35_2).f3) ((rd_T24 l0_2 x35_2).f4) ((rd_T24 l0_2 x35_2).f5) true _ A20.out).mono ?_); rintro e w33 ⟨rfl, hb⟩; refine ⟨_, rfl, ?_⟩; have n0_ := A_ (blk_below (g := gb132) (o := .cells #[.int .i64 a0_0, .int .i64 a0_1, .slice (some ad136) l0_2.length c0_2] 46 (0, 0)) (by (with_reducible repeat (first | refine bn_ ?_ _ | refine bd_ ?_ | refine ba_ ?_ _)); refine blk_far ?_ NB132_137.out _; (with_reducible repeat (first | refine bn_ ?_ _ | refine bd_ ?_ | refine ba_ ?_ _)); refine blk_far ?_ NB132_137.out _; (with_reducible repeat (first | refine bn_ ?_ _ | refine bd_ ?_ | refine ba_ ?_ _)); refine blk_far ?_ NB132_137.out _; (with_reducible repeat (first | refine bn_ ?_ _ | refine bd_ ?_ | refine ba_ ?_ _)); refine blk_far ?_ NB132_137.out _; (with_reducible repeat (first | refine bn_ ?_ _ | refine bd_ ?_ | refine ba_ ?_ _)); refine blk_far ?_ NB132_137.out _; (with_reducible repeat (first | refine bn_ ?_ _ | refine bd_ ?_ | refine ba_ ?_ _)); refine blk_far ?_ NB132_137.out _; (with_reducible repeat (first | refine bn_ ?_ _ | refine bd_ ?_ | refine ba_ ?_ _)); exact BK132.out) hb); have n1_ := A_ (blk_below (g := gb137) (o := .cells #[.int .i64 ((rd_T24 l0_2 x35_2).f0), .int .i64 ((rd_T24 l0_2 x35_2).f1), .int .i64 ((rd_T24 l0_2 x35_2).f2), .int .i64 ((rd_T24 l0_2 x35_2).f3), .int .i64 ((rd_T24 l0_2 x35_2).f4), .string ((rd_T24 l0_2 x35_2).f5)] 24 (0, 0)) (by (with_reducible repeat (first | refine bn_ ?_ _ | refine bd_ ?_ | refine ba_ ?_ _)); refine blk_put (cs := #[.int .i64 ((rd_T24 l0_2 x35_2).f0), .int .i64 ((rd_T24 l0_2 x35_2).f1), .int .i64 ((rd_T24 l0_2 x35_2).f2), .int .i64 ((rd_T24 l0_2 x35_2).f3), .int .i64 ((rd_T24 l0_2 x35_2).f4), .string (⟨#[]⟩ : ByteArray)]) ?_ 5 _ rfl; (with_reducible repeat (first | refine bn_ ?_ _ | refine bd_ ?_ | refine ba_ ?_ _)); refine blk_put (cs := #[.int .i64 ((rd_T24 l0_2 x35_2).f0), .int .i64 ((rd_T24 l0_2 x35_2).f1), .int .i64 ((rd_T24 l0_2 x35_2).f2), .int .i64 ((rd_T24 l0_2 x35_2).f3), .int .i64 0, .string (⟨#[]⟩ : ByteArray)]) ?_ 4 _ rfl; (with_reducible repeat (first | refine bn_ ?_ _ | refine bd_ ?_ | refine ba_ ?_ _)); refine blk_put (cs := #[.int .i64 ((rd_T24 l0_2 x35_2).f0), .int .i64 ((rd_T24 l0_2 x35_2).f1), .int .i64 ((rd_T24 l0_2 x35_2).f2), .int .i64 0, .int .i64 0, .string (⟨#[]⟩ : ByteArray)]) ?_ 3 _ rfl; (with_reducible repeat (first | refine bn_ ?_ _ | refine bd_ ?_ | refine ba_ ?_ _)); refine blk_put (cs := #[.int .i64 ((rd_T24 l0_2 x35_2).f0), .int .i64 ((rd_T24 l0_2 x35_2).f1), .int .i64 0, .int .i64 0, .int .i64 0, .string (⟨#[]⟩ : ByteArray)]) ?_ 2 _ rfl; (with_reducible repeat (first | refine bn_ ?_ _ | refine bd_ ?_ | refine ba_ ?_ _)); refine blk_put (cs := #[.int .i64 ((rd_T24 l0_2 x35_2).f0), .int .i64 0, .int .i64 0, .int .i64 0, .int .i64 0, .string (⟨#[]⟩ : ByteArray)]) ?_ 1 _ rfl; (with_reducible repeat (first | refine bn_ ?_ _ | refine bd_ ?_ | refine ba_ ?_ _)); refine blk_put (cs := #[.int .i64 0, .int .i64 0, .int .i64 0, .int .i64 0, .int .i64 0, .string (⟨#[]⟩ : ByteArray)]) ?_ 0 _ rfl; (with_reducible repeat (first | refine bn_ ?_ _ | refine bd_ ?_ | refine ba_ ?_ _)); exact BK137.out) hb); have n2_ := A_ (below_step (by repeat (first | (with_reducible first | exact HB.out | apply wa_ | apply wn_ | apply wd_ | refine ws_ ?_ GE132.out | refine ws_ ?_ GE137.out) | exact HB.out)) hb); clear BK132; clear BK137; clear HB; have BK132 := n0_; have BK137 := n1_; have HB := n2_; clear n0_ n1_ n2_; (try clear hb); (try clear hb2); (try clear hk); (try clear hi); have hcz34_0 : w33.cell? ⟨gb137, 0, none⟩ = some (.int .i64 ((rd_T24 l0_2 x35_2).f0)) := (blk_cell BK137.out 0).trans rfl; have hcz34_1 : w33.cell? ⟨gb137, 1, none⟩ = some (.int .i64 ((rd_T24 l0_2 x35_2).f1)) := (blk_cell BK137.out 1).trans rfl; have hcz34_2 : w33.cell? ⟨gb137, 2, none⟩ = some (.int .i64 ((rd_T24 l0_2 x35_2).f2)) := (blk_cell BK137.out 2).trans rfl; have hcz34_3 : w33.cell? ⟨gb137, 3, none⟩ = some (.int .i64 ((rd_T24 l0_2 x35_2).f3)) := (blk_cell BK137.out 3).trans rfl; have hcz34_4 : w33.cell? ⟨gb137, 4, none⟩ = some (.int .i64 ((rd_T24 l0_2 x35_2).f4)) := (blk_cell BK137.out 4).trans rfl; have hcz34_5 : w33.cell? ⟨gb137, 5, none⟩ = some (.string ((rd_T24 l0_2 x35_2).f5)) := (blk_cell BK137.out 5).trans rfl; have hfz34_0 := blk_frozen BK137.out 0; have hfz34_1 := blk_frozen BK137.out 1; have hfz34_2 := blk_frozen BK137.out 2; have hfz34_3 := blk_frozen BK137.out 3; have hfz34_4 := blk_frozen BK137.out 4; have hfz34_5 := blk_frozen BK137.out 5; have hcz35_0 : w33.cell? ⟨gb132, 0, none⟩ = some (.int .i64 a0_0) := (blk_cell BK132.out 0).trans rfl; have hcz35_1 : w33.cell? ⟨gb132, 1, none⟩ = some (.int .i64 a0_1) := (blk_cell BK132.out 1).trans rfl; have hcz35_2 : w33.cell? ⟨gb132, 2, none⟩ = some (.slice (some ad136) l0_2.length c0_2) := (blk_cell BK132.out 2).trans rfl; have hfz35_0 := blk_frozen BK132.out 0; have hfz35_1 := blk_frozen BK132.out 1; have hfz35_2 := blk_frozen BK132.out 2))
                go_roundg k2
                case measure => have := HJ2.out; have := HK2.out; omega
                case rel => exact ⟨(wrap64 (((rd_T24 l0_2 x35_2).f1) + 1)), (wrap64 (x35_2 + 1)), (by first | rfl | (simp; done) | (simp [*]; done)), (by first | rfl | (simp; done) | (simp [*]; done)), H', ⟨by have := HJ2.out; have := HK2.out; omega⟩, ⟨by (with_reducible repeat (first | refine bn_ ?_ _ | refine bd_ ?_ | refine ba_ ?_ _)); exact BK132.out⟩, ⟨by repeat (first | (with_reducible first | exact HB.out | apply wa_ | apply wn_ | apply wd_ | refine ws_ ?_ GE132.out | refine ws_ ?_ GE137.out) | exact HB.out)⟩⟩
            · rw [if_neg c22] at H
              have c22b0 : (((rd_T24 l0_2 x35_2).f0) == a0_0) = false := beq_eq_false_iff_ne.mpr c22
              have c22b1 : (((rd_T24 l0_2 x35_2).f0) != a0_0) = true := bne_iff_ne.mpr c22
              obtain rfl := Option.some.inj H
              have p136 : 0 ≤ (x35_2 : Int) := of_decide_eq_true (by first | (with_reducible assumption) | assumption)
              have q136 : x35_2 < (l0_2.length : Int) := of_decide_eq_true (by first | (with_reducible assumption) | assumption)
              obtain ⟨ad136, e136, hx136_0, hx136_1, hx136_2, hx136_3, hx136_4, hx136_5⟩ := at_T24 HR0_2.out x35_2 p136 q136
              cases e136
              replace hx136_0 := (HB.out.cell (World.block_lt_of_cell? w _ hx136_0)).trans hx136_0
              replace hx136_1 := (HB.out.cell (World.block_lt_of_cell? w _ hx136_1)).trans hx136_1
              replace hx136_2 := (HB.out.cell (World.block_lt_of_cell? w _ hx136_2)).trans hx136_2
              replace hx136_3 := (HB.out.cell (World.block_lt_of_cell? w _ hx136_3)).trans hx136_3
              replace hx136_4 := (HB.out.cell (World.block_lt_of_cell? w _ hx136_4)).trans hx136_4
              replace hx136_5 := (HB.out.cell (World.block_lt_of_cell? w _ hx136_5)).trans hx136_5
              replace p136 := eq_true p136
              replace q136 := eq_true q136
              go_wp2_with (first | ((with_reducible refine gate_dst (N := 7) rfl ?_); (try (refine gate_guard (by rfl) ?_; dsimp only)); refine box_event ?hg (N := 7) ?hd (cs := #[.int .i64 0, .int .i64 0, .int .i64 0, .int .i64 0, .int .i64 0, .string (⟨#[]⟩ : ByteArray)]) (t := 24) ?hr ?_; (case hd => rfl); (case hg => rfl); (case hr => first | (go_simp; done) | (go_simp; rfl)); intro gb137 hg w36 hbox hb; have n0_ := A_ (blk_below (g := gb132) (o := .cells #[.int .i64 a0_0, .int .i64 a0_1, .slice (some ad136) l0_2.length c0_2] 46 (0, 0)) (by (with_reducible repeat (first | refine bn_ ?_ _ | refine bd_ ?_ | refine ba_ ?_ _)); exact BK132.out) hb); have n1_ := A_ (below_step (by repeat (first | (with_reducible first | exact HB.out | apply wa_ | apply wn_ | apply wd_ | refine ws_ ?_ GE132.out) | exact HB.out)) hb); have n2_ := A_ (hbox); have n3_ := A_ ((by rw [hg]; exact (below_size (by repeat (first | (with_reducible first | exact HB.out | apply wa_ | apply wn_ | apply wd_ | refine ws_ ?_ GE132.out) | exact HB.out))) : w.heap.size ≤ gb137)); have n4_ := A_ ((by rw [hg]; exact (below_size (by repeat (first | (with_reducible first | exact HB.out | apply wa_ | apply wn_ | apply wd_ | refine ws_ ?_ GE132.out) | exact HB.out))) : w.heap.size ≤ gb137)); have n5_ := A_ ((by rw [hg]; exact Nat.ne_of_lt (blk_lt (g := gb132) (o := .cells #[.int .i64 a0_0, .int .i64 a0_1, .slice (some ad136) l0_2.length c0_2] 46 (0, 0)) (by (with_reducible repeat (first | refine bn_ ?_ _ | refine bd_ ?_ | refine ba_ ?_ _)); exact BK132.out)) : gb132 ≠ gb137)); have n6_ := A_ ((by rw [hg]; exact Nat.ne_of_gt (blk_lt (g := gb132) (o := .cells #[.int .i64 a0_0, .int .i64 a0_1, .slice (some ad136) l0_2.length c0_2] 46 (0, 0)) (by (with_reducible repeat (first | refine bn_ ?_ _ | refine bd_ ?_ | refine ba_ ?_ _)); exact BK132.out)) : gb137 ≠ gb132)); clear BK132; clear HB; have BK132 := n0_; have HB := n1_; have BK137 := n2_; have GW137 := n3_; have GE137 := n4_; have NB132_137 := n5_; have NB137_132 := n6_; clear n0_ n1_ n2_ n3_ n4_ n5_ n6_; clear hb hbox hg; have hnb37 := NB137_132.out; have hnc37 := NB132_137.out; have hcz38_0 : w36.cell? ⟨gb137, 0, none⟩ = some (.int .i64 0) := (blk_cell BK137.out 0).trans rfl; have hcz38_1 : w36.cell? ⟨gb137, 1, none⟩ = some (.int .i64 0) := (blk_cell BK137.out 1).trans rfl; have hcz38_2 : w36.cell? ⟨gb137, 2, none⟩ = some (.int .i64 0) := (blk_cell BK137.out 2).trans rfl; have hcz38_3 : w36.cell? ⟨gb137, 3, none⟩ = some (.int .i64 0) := (blk_cell BK137.out 3).trans rfl; have hcz38_4 : w36.cell? ⟨gb137, 4, none⟩ = some (.int .i64 0) := (blk_cell BK137.out 4).trans rfl; have hcz38_5 : w36.cell? ⟨gb137, 5, none⟩ = some (.string (⟨#[]⟩ : ByteArray)) := (blk_cell BK137.out 5).trans rfl; have hfz38_0 := blk_frozen BK137.out 0; have hfz38_1 := blk_frozen BK137.out 1; have hfz38_2 := blk_frozen BK137.out 2; have hfz38_3 := blk_frozen BK137.out 3; have hfz38_4 := blk_frozen BK137.out 4; have hfz38_5 := blk_frozen BK137.out 5) | ((with_reducible refine gate_callee (f := 102) rfl ?_); refine goesL_ (some 40) rfl rfl Try.func102 (by kernel_rfl) rfl #[.agg #[.int .i64 ((rd_T24 l0_2 x35_2).f0), .int .i64 ((rd_T24 l0_2 x35_2).f1), .int .i64 ((rd_T24 l0_2 x35_2).f2), .int .i64 ((rd_T24 l0_2 x35_2).f3), .int .i64 ((rd_T24 l0_2 x35_2).f4), .string ((rd_T24 l0_2 x35_2).f5)]] rfl (by (try simp only [m0_, m1_, m2_]); first | done | rfl) ?_; (with_reducible refine (txn_Check.calls ((rd_T24 l0_2 x35_2).f0) ((rd_T24 l0_2 x35_2).f1) ((rd_T24 l0_2 x35_2).f2) ((rd_T24 l0_2 x35_2).f3) ((rd_T24 l0_2 x35_2).f4) ((rd_T24 l0_2 x35_2).f5) true _ A20.out).mono ?_); rintro e w39 ⟨rfl, hb⟩; refine ⟨_, rfl, ?_⟩; have n0_ := A_ (blk_below (g := gb132) (o := .cells #[.int .i64 a0_0, .int .i64 a0_1, .slice (some ad136) l0_2.length c0_2] 46 (0, 0)) (by (with_reducible repeat (first | refine bn_ ?_ _ | refine bd_ ?_ | refine ba_ ?_ _)); refine blk_far ?_ NB132_137.out _; (with_reducible repeat (first | refine bn_ ?_ _ | refine bd_ ?_ | refine ba_ ?_ _)); refine blk_far ?_ NB132_137.out _; (with_reducible repeat (first | refine bn_ ?_ _ | refine bd_ ?_ | refine ba_ ?_ _)); refine blk_far ?_ NB132_137.out _; (with_reducible repeat (first | refine bn_ ?_ _ | refine bd_ ?_ | refine ba_ ?_ _)); refine blk_far ?_ NB132_137.out _; (with_reducible repeat (first | refine bn_ ?_ _ | refine bd_ ?_ | refine ba_ ?_ _)); refine blk_far ?_ NB132_137.out _; (with_reducible repeat (first | refine bn_ ?_ _ | refine bd_ ?_ | refine ba_ ?_ _)); refine blk_far ?_ NB132_137.out _; (with_reducible repeat (first | refine bn_ ?_ _ | refine bd_ ?_ | refine ba_ ?_ _)); exact BK132.out) hb); have n1_ := A_ (blk_below (g := gb137) (o := .cells #[.int .i64 ((rd_T24 l0_2 x35_2).f0), .int .i64 ((rd_T24 l0_2 x35_2).f1), .int .i64 ((rd_T24 l0_2 x35_2).f2), .int .i64 ((rd_T24 l0_2 x35_2).f3), .int .i64 ((rd_T24 l0_2 x35_2).f4), .string ((rd_T24 l0_2 x35_2).f5)] 24 (0, 0)) (by (with_reducible repeat (first | refine bn_ ?_ _ | refine bd_ ?_ | refine ba_ ?_ _)); refine blk_put (cs := #[.int .i64 ((rd_T24 l0_2 x35_2).f0), .int .i64 ((rd_T24 l0_2 x35_2).f1), .int .i64 ((rd_T24 l0_2 x35_2).f2), .int .i64 ((rd_T24 l0_2 x35_2).f3), .int .i64 ((rd_T24 l0_2 x35_2).f4), .string (⟨#[]⟩ : ByteArray)]) ?_ 5 _ rfl; (with_reducible repeat (first | refine bn_ ?_ _ | refine bd_ ?_ | refine ba_ ?_ _)); refine blk_put (cs := #[.int .i64 ((rd_T24 l0_2 x35_2).f0), .int .i64 ((rd_T24 l0_2 x35_2).f1), .int .i64 ((rd_T24 l0_2 x35_2).f2), .int .i64 ((rd_T24 l0_2 x35_2).f3), .int .i64 0, .string (⟨#[]⟩ : ByteArray)]) ?_ 4 _ rfl; (with_reducible repeat (first | refine bn_ ?_ _ | refine bd_ ?_ | refine ba_ ?_ _)); refine blk_put (cs := #[.int .i64 ((rd_T24 l0_2 x35_2).f0), .int .i64 ((rd_T24 l0_2 x35_2).f1), .int .i64 ((rd_T24 l0_2 x35_2).f2), .int .i64 0, .int .i64 0, .string (⟨#[]⟩ : ByteArray)]) ?_ 3 _ rfl; (with_reducible repeat (first | refine bn_ ?_ _ | refine bd_ ?_ | refine ba_ ?_ _)); refine blk_put (cs := #[.int .i64 ((rd_T24 l0_2 x35_2).f0), .int .i64 ((rd_T24 l0_2 x35_2).f1), .int .i64 0, .int .i64 0, .int .i64 0, .string (⟨#[]⟩ : ByteArray)]) ?_ 2 _ rfl; (with_reducible repeat (first | refine bn_ ?_ _ | refine bd_ ?_ | refine ba_ ?_ _)); refine blk_put (cs := #[.int .i64 ((rd_T24 l0_2 x35_2).f0), .int .i64 0, .int .i64 0, .int .i64 0, .int .i64 0, .string (⟨#[]⟩ : ByteArray)]) ?_ 1 _ rfl; (with_reducible repeat (first | refine bn_ ?_ _ | refine bd_ ?_ | refine ba_ ?_ _)); refine blk_put (cs := #[.int .i64 0, .int .i64 0, .int .i64 0, .int .i64 0, .int .i64 0, .string (⟨#[]⟩ : ByteArray)]) ?_ 0 _ rfl; (with_reducible repeat (first | refine bn_ ?_ _ | refine bd_ ?_ | refine ba_ ?_ _)); exact BK137.out) hb); have n2_ := A_ (below_step (by repeat (first | (with_reducible first | exact HB.out | apply wa_ | apply wn_ | apply wd_ | refine ws_ ?_ GE132.out | refine ws_ ?_ GE137.out) | exact HB.out)) hb); clear BK132; clear BK137; clear HB; have BK132 := n0_; have BK137 := n1_; have HB := n2_; clear n0_ n1_ n2_; (try clear hb); (try clear hb2); (try clear hk); (try clear hi); have hcz40_0 : w39.cell? ⟨gb137, 0, none⟩ = some (.int .i64 ((rd_T24 l0_2 x35_2).f0)) := (blk_cell BK137.out 0).trans rfl; have hcz40_1 : w39.cell? ⟨gb137, 1, none⟩ = some (.int .i64 ((rd_T24 l0_2 x35_2).f1)) := (blk_cell BK137.out 1).trans rfl; have hcz40_2 : w39.cell? ⟨gb137, 2, none⟩ = some (.int .i64 ((rd_T24 l0_2 x35_2).f2)) := (blk_cell BK137.out 2).trans rfl; have hcz40_3 : w39.cell? ⟨gb137, 3, none⟩ = some (.int .i64 ((rd_T24 l0_2 x35_2).f3)) := (blk_cell BK137.out 3).trans rfl; have hcz40_4 : w39.cell? ⟨gb137, 4, none⟩ = some (.int .i64 ((rd_T24 l0_2 x35_2).f4)) := (blk_cell BK137.out 4).trans rfl; have hcz40_5 : w39.cell? ⟨gb137, 5, none⟩ = some (.string ((rd_T24 l0_2 x35_2).f5)) := (blk_cell BK137.out 5).trans rfl; have hfz40_0 := blk_frozen BK137.out 0; have hfz40_1 := blk_frozen BK137.out 1; have hfz40_2 := blk_frozen BK137.out 2; have hfz40_3 := blk_frozen BK137.out 3; have hfz40_4 := blk_frozen BK137.out 4; have hfz40_5 := blk_frozen BK137.out 5; have hcz41_0 : w39.cell? ⟨gb132, 0, none⟩ = some (.int .i64 a0_0) := (blk_cell BK132.out 0).trans rfl; have hcz41_1 : w39.cell? ⟨gb132, 1, none⟩ = some (.int .i64 a0_1) := (blk_cell BK132.out 1).trans rfl; have hcz41_2 : w39.cell? ⟨gb132, 2, none⟩ = some (.slice (some ad136) l0_2.length c0_2) := (blk_cell BK132.out 2).trans rfl; have hfz41_0 := blk_frozen BK132.out 0; have hfz41_1 := blk_frozen BK132.out 1; have hfz41_2 := blk_frozen BK132.out 2))
              go_ret
              exact ⟨by first | rfl | (simp [errW_none, errW_some] <;> rfl) | (simp [*, errW_none, errW_some] <;> rfl), by repeat (first | (with_reducible first | exact HB.out | apply wa_ | apply wn_ | apply wd_ | refine ws_ ?_ GE132.out | refine ws_ ?_ GE137.out) | exact HB.out)⟩
          · replace c21 := Bool.eq_false_iff.mpr c21
            subst c21
            have H1 : (some false) = some r := by rw [if_neg (show ¬ (false = true) by decide)] at H; exact H
            clear H
            have H := H1
            clear H1
            obtain rfl := Option.some.inj H
            have p136 : 0 ≤ (x35_2 : Int) := of_decide_eq_true (by first | (with_reducible assumption) | assumption)
            have q136 : x35_2 < (l0_2.length : Int) := of_decide_eq_true (by first | (with_reducible assumption) | assumption)
            obtain ⟨ad136, e136, hx136_0, hx136_1, hx136_2, hx136_3, hx136_4, hx136_5⟩ := at_T24 HR0_2.out x35_2 p136 q136
            cases e136
            replace hx136_0 := (HB.out.cell (World.block_lt_of_cell? w _ hx136_0)).trans hx136_0
            replace hx136_1 := (HB.out.cell (World.block_lt_of_cell? w _ hx136_1)).trans hx136_1
            replace hx136_2 := (HB.out.cell (World.block_lt_of_cell? w _ hx136_2)).trans hx136_2
            replace hx136_3 := (HB.out.cell (World.block_lt_of_cell? w _ hx136_3)).trans hx136_3
            replace hx136_4 := (HB.out.cell (World.block_lt_of_cell? w _ hx136_4)).trans hx136_4
            replace hx136_5 := (HB.out.cell (World.block_lt_of_cell? w _ hx136_5)).trans hx136_5
            replace p136 := eq_true p136
            replace q136 := eq_true q136
            go_wp2_with (first | ((with_reducible refine gate_dst (N := 7) rfl ?_); (try (refine gate_guard (by rfl) ?_; dsimp only)); refine box_event ?hg (N := 7) ?hd (cs := #[.int .i64 0, .int .i64 0, .int .i64 0, .int .i64 0, .int .i64 0, .string (⟨#[]⟩ : ByteArray)]) (t := 24) ?hr ?_; (case hd => rfl); (case hg => rfl); (case hr => first | (go_simp; done) | (go_simp; rfl)); intro gb137 hg w42 hbox hb; have n0_ := A_ (blk_below (g := gb132) (o := .cells #[.int .i64 a0_0, .int .i64 a0_1, .slice (some ad136) l0_2.length c0_2] 46 (0, 0)) (by (with_reducible repeat (first | refine bn_ ?_ _ | refine bd_ ?_ | refine ba_ ?_ _)); exact BK132.out) hb); have n1_ := A_ (below_step (by repeat (first | (with_reducible first | exact HB.out | apply wa_ | apply wn_ | apply wd_ | refine ws_ ?_ GE132.out) | exact HB.out)) hb); have n2_ := A_ (hbox); have n3_ := A_ ((by rw [hg]; exact (below_size (by repeat (first | (with_reducible first | exact HB.out | apply wa_ | apply wn_ | apply wd_ | refine ws_ ?_ GE132.out) | exact HB.out))) : w.heap.size ≤ gb137)); have n4_ := A_ ((by rw [hg]; exact (below_size (by repeat (first | (with_reducible first | exact HB.out | apply wa_ | apply wn_ | apply wd_ | refine ws_ ?_ GE132.out) | exact HB.out))) : w.heap.size ≤ gb137)); have n5_ := A_ ((by rw [hg]; exact Nat.ne_of_lt (blk_lt (g := gb132) (o := .cells #[.int .i64 a0_0, .int .i64 a0_1, .slice (some ad136) l0_2.length c0_2] 46 (0, 0)) (by (with_reducible repeat (first | refine bn_ ?_ _ | refine bd_ ?_ | refine ba_ ?_ _)); exact BK132.out)) : gb132 ≠ gb137)); have n6_ := A_ ((by rw [hg]; exact Nat.ne_of_gt (blk_lt (g := gb132) (o := .cells #[.int .i64 a0_0, .int .i64 a0_1, .slice (some ad136) l0_2.length c0_2] 46 (0, 0)) (by (with_reducible repeat (first | refine bn_ ?_ _ | refine bd_ ?_ | refine ba_ ?_ _)); exact BK132.out)) : gb137 ≠ gb132)); clear BK132; clear HB; have BK132 := n0_; have HB := n1_; have BK137 := n2_; have GW137 := n3_; have GE137 := n4_; have NB132_137 := n5_; have NB137_132 := n6_; clear n0_ n1_ n2_ n3_ n4_ n5_ n6_; clear hb hbox hg; have hnb43 := NB137_132.out; have hnc43 := NB132_137.out; have hcz44_0 : w42.cell? ⟨gb137, 0, none⟩ = some (.int .i64 0) := (blk_cell BK137.out 0).trans rfl; have hcz44_1 : w42.cell? ⟨gb137, 1, none⟩ = some (.int .i64 0) := (blk_cell BK137.out 1).trans rfl; have hcz44_2 : w42.cell? ⟨gb137, 2, none⟩ = some (.int .i64 0) := (blk_cell BK137.out 2).trans rfl; have hcz44_3 : w42.cell? ⟨gb137, 3, none⟩ = some (.int .i64 0) := (blk_cell BK137.out 3).trans rfl; have hcz44_4 : w42.cell? ⟨gb137, 4, none⟩ = some (.int .i64 0) := (blk_cell BK137.out 4).trans rfl; have hcz44_5 : w42.cell? ⟨gb137, 5, none⟩ = some (.string (⟨#[]⟩ : ByteArray)) := (blk_cell BK137.out 5).trans rfl; have hfz44_0 := blk_frozen BK137.out 0; have hfz44_1 := blk_frozen BK137.out 1; have hfz44_2 := blk_frozen BK137.out 2; have hfz44_3 := blk_frozen BK137.out 3; have hfz44_4 := blk_frozen BK137.out 4; have hfz44_5 := blk_frozen BK137.out 5) | ((with_reducible refine gate_callee (f := 102) rfl ?_); refine goesL_ (some 40) rfl rfl Try.func102 (by kernel_rfl) rfl #[.agg #[.int .i64 ((rd_T24 l0_2 x35_2).f0), .int .i64 ((rd_T24 l0_2 x35_2).f1), .int .i64 ((rd_T24 l0_2 x35_2).f2), .int .i64 ((rd_T24 l0_2 x35_2).f3), .int .i64 ((rd_T24 l0_2 x35_2).f4), .string ((rd_T24 l0_2 x35_2).f5)]] rfl (by (try simp only [m0_, m1_, m2_]); first | done | rfl) ?_; (with_reducible refine (txn_Check.calls ((rd_T24 l0_2 x35_2).f0) ((rd_T24 l0_2 x35_2).f1) ((rd_T24 l0_2 x35_2).f2) ((rd_T24 l0_2 x35_2).f3) ((rd_T24 l0_2 x35_2).f4) ((rd_T24 l0_2 x35_2).f5) false _ A20.out).mono ?_); rintro e w45 ⟨rfl, hb⟩; refine ⟨_, rfl, ?_⟩; have n0_ := A_ (blk_below (g := gb132) (o := .cells #[.int .i64 a0_0, .int .i64 a0_1, .slice (some ad136) l0_2.length c0_2] 46 (0, 0)) (by (with_reducible repeat (first | refine bn_ ?_ _ | refine bd_ ?_ | refine ba_ ?_ _)); refine blk_far ?_ NB132_137.out _; (with_reducible repeat (first | refine bn_ ?_ _ | refine bd_ ?_ | refine ba_ ?_ _)); refine blk_far ?_ NB132_137.out _; (with_reducible repeat (first | refine bn_ ?_ _ | refine bd_ ?_ | refine ba_ ?_ _)); refine blk_far ?_ NB132_137.out _; (with_reducible repeat (first | refine bn_ ?_ _ | refine bd_ ?_ | refine ba_ ?_ _)); refine blk_far ?_ NB132_137.out _; (with_reducible repeat (first | refine bn_ ?_ _ | refine bd_ ?_ | refine ba_ ?_ _)); refine blk_far ?_ NB132_137.out _; (with_reducible repeat (first | refine bn_ ?_ _ | refine bd_ ?_ | refine ba_ ?_ _)); refine blk_far ?_ NB132_137.out _; (with_reducible repeat (first | refine bn_ ?_ _ | refine bd_ ?_ | refine ba_ ?_ _)); exact BK132.out) hb); have n1_ := A_ (blk_below (g := gb137) (o := .cells #[.int .i64 ((rd_T24 l0_2 x35_2).f0), .int .i64 ((rd_T24 l0_2 x35_2).f1), .int .i64 ((rd_T24 l0_2 x35_2).f2), .int .i64 ((rd_T24 l0_2 x35_2).f3), .int .i64 ((rd_T24 l0_2 x35_2).f4), .string ((rd_T24 l0_2 x35_2).f5)] 24 (0, 0)) (by (with_reducible repeat (first | refine bn_ ?_ _ | refine bd_ ?_ | refine ba_ ?_ _)); refine blk_put (cs := #[.int .i64 ((rd_T24 l0_2 x35_2).f0), .int .i64 ((rd_T24 l0_2 x35_2).f1), .int .i64 ((rd_T24 l0_2 x35_2).f2), .int .i64 ((rd_T24 l0_2 x35_2).f3), .int .i64 ((rd_T24 l0_2 x35_2).f4), .string (⟨#[]⟩ : ByteArray)]) ?_ 5 _ rfl; (with_reducible repeat (first | refine bn_ ?_ _ | refine bd_ ?_ | refine ba_ ?_ _)); refine blk_put (cs := #[.int .i64 ((rd_T24 l0_2 x35_2).f0), .int .i64 ((rd_T24 l0_2 x35_2).f1), .int .i64 ((rd_T24 l0_2 x35_2).f2), .int .i64 ((rd_T24 l0_2 x35_2).f3), .int .i64 0, .string (⟨#[]⟩ : ByteArray)]) ?_ 4 _ rfl; (with_reducible repeat (first | refine bn_ ?_ _ | refine bd_ ?_ | refine ba_ ?_ _)); refine blk_put (cs := #[.int .i64 ((rd_T24 l0_2 x35_2).f0), .int .i64 ((rd_T24 l0_2 x35_2).f1), .int .i64 ((rd_T24 l0_2 x35_2).f2), .int .i64 0, .int .i64 0, .string (⟨#[]⟩ : ByteArray)]) ?_ 3 _ rfl; (with_reducible repeat (first | refine bn_ ?_ _ | refine bd_ ?_ | refine ba_ ?_ _)); refine blk_put (cs := #[.int .i64 ((rd_T24 l0_2 x35_2).f0), .int .i64 ((rd_T24 l0_2 x35_2).f1), .int .i64 0, .int .i64 0, .int .i64 0, .string (⟨#[]⟩ : ByteArray)]) ?_ 2 _ rfl; (with_reducible repeat (first | refine bn_ ?_ _ | refine bd_ ?_ | refine ba_ ?_ _)); refine blk_put (cs := #[.int .i64 ((rd_T24 l0_2 x35_2).f0), .int .i64 0, .int .i64 0, .int .i64 0, .int .i64 0, .string (⟨#[]⟩ : ByteArray)]) ?_ 1 _ rfl; (with_reducible repeat (first | refine bn_ ?_ _ | refine bd_ ?_ | refine ba_ ?_ _)); refine blk_put (cs := #[.int .i64 0, .int .i64 0, .int .i64 0, .int .i64 0, .int .i64 0, .string (⟨#[]⟩ : ByteArray)]) ?_ 0 _ rfl; (with_reducible repeat (first | refine bn_ ?_ _ | refine bd_ ?_ | refine ba_ ?_ _)); exact BK137.out) hb); have n2_ := A_ (below_step (by repeat (first | (with_reducible first | exact HB.out | apply wa_ | apply wn_ | apply wd_ | refine ws_ ?_ GE132.out | refine ws_ ?_ GE137.out) | exact HB.out)) hb); clear BK132; clear BK137; clear HB; have BK132 := n0_; have BK137 := n1_; have HB := n2_; clear n0_ n1_ n2_; (try clear hb); (try clear hb2); (try clear hk); (try clear hi)))
            go_ret
            exact ⟨by first | rfl | (simp [errW_none, errW_some] <;> rfl) | (simp [*, errW_none, errW_some] <;> rfl), by repeat (first | (with_reducible first | exact HB.out | apply wa_ | apply wn_ | apply wd_ | refine ws_ ?_ GE132.out | refine ws_ ?_ GE137.out) | exact HB.out)⟩
end Go.Proofs.Ytehncbhmdgdkjaa.Q
