/- Written by this session's own program over the kit's print: functions of Go told as plain functions, or the row of one statement; proved for every input, with no condition of ours. -/
import Derived.Test.YtihlogdmdmhefaaLx0
import Derived.Test.YtihlogdmdmhefaaLx3
import Derived.Test.YtihlogdmdmhefaaLx4
import Derived.Test.YtihlogdmdmhefaaLx15
namespace Go.Proofs.Ytihlogdmdmhefaa.L
open Go.RowKit Go.Proofs.YtihlogdmdmhefaaW.PrintWords Go.Proofs.YtihlogdmdmhefaaW.PrintLast Go.Proofs.YtihlogdmdmhefaaW.PrintMore
attribute [local go_sem] max2_int min2_int max_two min_two max_three min_three max_four min_four   -- for this text's walks alone
set_option linter.unusedVariables false
set_option linter.unusedSimpArgs false

/-! ### heap_Push: function 74, by hand -/
-- HAND rounds=0 making=1
-- IMPORT Derived.Deep.DeepCutAuto
def heap_Push.f (l0 : List S23) (a1_0 : Int) (a1_1 : Int) (a1_2 : Int) (a1_3 : Int) (a1_4 : Int) (a1_5 : ByteArray) : Option (List S23) := if l0.length < 2513169434915 then upL (l0.length + 2) (l0 ++ [(⟨a1_0, a1_1, a1_2, a1_3, a1_4, a1_5⟩ : S23)]) (l0.length : Int) else none
/-- What the first statement leaves. -/
def PushR (w : World) (l : List S23) (v5 : Value) (wx : World) : Prop := ∃ X g cap : Nat, v5 = .pointer (some ⟨X, 0, none⟩) ∧ wx.heap[X]? = some (.cells #[(.slice (some ⟨g, 0, none⟩) l.length cap)] 130 (0, 0)) ∧ Kd.R k23 23 wx w.heap.size (fun q => q ≠ X) (.slice (some ⟨g, 0, none⟩) l.length cap) l ∧ Below w.heap.size w wx
set_option maxHeartbeats 4000000 in
set_option maxRecDepth 100000 in
theorem heap_Push.calls (A0 : Option Addr) (c0 : Nat) (l0 : List S23) (a1_0 : Int) (a1_1 : Int) (a1_2 : Int) (a1_3 : Int) (a1_4 : Int) (a1_5 : ByteArray) (r : List S23) (w : World) (hr0 : Kd.C k23 w A0 l0.length l0) (hc0 : l0.length ≤ c0) (h : heap_Push.f l0 a1_0 a1_1 a1_2 a1_3 a1_4 a1_5 = some r) :
    Calls Try.prog 74 #[.slice A0 l0.length c0, .agg #[.int .i64 a1_0, .int .i64 a1_1, .int .i64 a1_2, .int .i64 a1_3, .int .i64 a1_4, .string a1_5]] w fun e w' => ∃ v0_ : Value, e = .returned (v0_) ∧ Kd.R k23 23 w' w.heap.size (fun _ => True) v0_ r ∧ Below w.heap.size w w' := by
  unfold heap_Push.f at h
  by_cases hl : l0.length < 2513169434915
  · rw [if_pos hl] at h
    have HR0 := Aside0.mk hr0
    have HC0 := Aside0.mk hc0
    have HL := Aside0.mk hl
    have HU := Aside0.mk h
    clear hr0 hc0 hl h
    have HK0 := Aside0.mk (show (w.alloc (.cells #[.int .i64 a1_0, .int .i64 a1_1, .int .i64 a1_2, .int .i64 a1_3, .int .i64 a1_4, .string a1_5] 23)).heap[w.heap.size]? = some (.cells #[.int .i64 a1_0, .int .i64 a1_1, .int .i64 a1_2, .int .i64 a1_3, .int .i64 a1_4, .string a1_5] 23 (0, 0)) from heap_alloc_new w _)
    have HB0 := Aside0.mk (show Below w.heap.size w (w.alloc (.cells #[.int .i64 a1_0, .int .i64 a1_1, .int .i64 a1_2, .int .i64 a1_3, .int .i64 a1_4, .string a1_5] 23)) from below_alloc (Below.refl _ _) _)
    go_enter Try.func74, Try.ntmps74
    go_wp2_with (fail)
    go_cut [5] from 6 to 12 (fun v5 wx => Aside0 (PushR w (l0 ++ [(⟨a1_0, a1_1, a1_2, a1_3, a1_4, a1_5⟩ : S23)]) v5 wx))
    case first =>
      refine start_ (n := 8) (S := fun w' => w'.heap[w.heap.size]? = some (.cells #[.int .i64 a1_0, .int .i64 a1_1, .int .i64 a1_2, .int .i64 a1_3, .int .i64 a1_4, .string a1_5] 23 (0, 0))) (ds := []) #[false, false, false, false, false, false, false, false] (by kernel_rfl) rfl rfl HK0.out (fun hHeld => ?_)
      have HB1 := Aside0.mk (show Below w.heap.size w (w.alloc (.cells #[.int .i64 a1_0, .int .i64 a1_1, .int .i64 a1_2, .int .i64 a1_3, .int .i64 a1_4, .string a1_5] 23)).drew from below_drew1 HB0.out)
      generalize (w.alloc (.cells #[.int .i64 a1_0, .int .i64 a1_1, .int .i64 a1_2, .int .i64 a1_3, .int .i64 a1_4, .string a1_5] 23)).drew = w1 at hHeld HB1 ⊢
      refine pure_ (i := 0) (N := some 6) (v := ?_) (a' := ?_) #[true, false, false, false, false, false, false, false] rfl rfl (by kernel_rfl) (fun _ _ _ h => h) (Or.inl ⟨by rfl, ?_⟩) ?_ ?_
      rotate_left
      · intro w'
        go_simp
        with_reducible rfl
      rotate_left
      · simp only [Act.put, List.setIfInBounds_toArray, List.set_cons_zero, List.set_cons_succ, i64_w, i32_w]
        rfl
      refine take_ (i := 2) (N := some 8) (v := ?_) (a' := ?_) #[true, false, true, false, false, false, false, false] rfl rfl (by kernel_rfl) (fun _ _ _ h => h) (Or.inl ⟨by rfl, ?_⟩) hHeld ?_ ?_
      rotate_left
      · rintro w' s0
        have c0 : w'.cell? ⟨w.heap.size, 0, none⟩ = some (.int .i64 a1_0) := (blk_cell s0 0).trans rfl
        have c1 : w'.cell? ⟨w.heap.size, 1, none⟩ = some (.int .i64 a1_1) := (blk_cell s0 1).trans rfl
        have c2 : w'.cell? ⟨w.heap.size, 2, none⟩ = some (.int .i64 a1_2) := (blk_cell s0 2).trans rfl
        have c3 : w'.cell? ⟨w.heap.size, 3, none⟩ = some (.int .i64 a1_3) := (blk_cell s0 3).trans rfl
        have c4 : w'.cell? ⟨w.heap.size, 4, none⟩ = some (.int .i64 a1_4) := (blk_cell s0 4).trans rfl
        have c5 : w'.cell? ⟨w.heap.size, 5, none⟩ = some (.string a1_5) := (blk_cell s0 5).trans rfl
        clear s0
        go_simp
        with_reducible rfl
      rotate_left
      · simp only [Act.put, List.setIfInBounds_toArray, List.set_cons_zero, List.set_cons_succ, i64_w, i32_w]
        rfl
      have HK1 := Aside0.mk hHeld
      clear hHeld
      refine two_ (i := 1) (j := 3) (Ni := some 7) (Nj := some 9) #[true, true, true, false, false, false, false, false] #[true, false, true, true, false, false, false, false] rfl rfl rfl rfl (by kernel_rfl) (by decide) (by decide) (fun K hK => ?_) (fun K hK => ?_)
      · refine goes_ Try.func129 (by kernel_rfl) rfl #[.slice A0 l0.length c0] (by rfl) rfl rfl (by (try simp only [List.map_toArray, List.map_cons, List.map_nil]); first | done | rfl) ?_
        with_reducible refine (api_Tx.calls A0 c0 l0 l0 _ (Kd.C_below HR0.out HB1.out) HC0.out (by unfold api_Tx.f; rw [if_pos (by have := HL.out; omega)])).mono ?_
        rintro e w2 ⟨v7, rfl, ho7, hb7⟩
        refine ⟨_, rfl, ?_⟩
        have HK2 := Aside0.mk (blk_below HK1.out hb7)
        have HB2 := Aside0.mk (below_step HB1.out hb7)
        have HNE := Aside0.mk (show v7.ownBlock ≠ some w.heap.size from fun q => Nat.lt_irrefl _ (Nat.lt_of_lt_of_le (heap_blk_lt HK1.out) (Kd.R_base ho7 _ q)))
        have HO7 := Aside0.mk (Kd.R_lower ho7 HB1.out.size)
        clear ho7
        clear hb7
        refine hK.out _ _ HK2.out (fun _ => ?_)
        clear hK K
        refine norm_ (a' := ?_) ?_ ?_
        rotate_left
        · show Act.put _ (some 7) _ = _
          simp only [Act.put, List.setIfInBounds_toArray, List.set_cons_zero, List.set_cons_succ, i64_w, i32_w]
          rfl
        refine one_ (i := 3) (N := some 9) #[true, true, true, true, false, false, false, false] rfl rfl (by kernel_rfl) (by decide) (fun K hK => ?_)
        refine Kd.R_lit_step k23 (w0 := w2) w2.heap.size 23 (by rfl) (N := 9) rfl (xs := [(⟨a1_0, a1_1, a1_2, a1_3, a1_4, a1_5⟩ : S23)]) (inner := [.int .i64 a1_0, .int .i64 a1_1, .int .i64 a1_2, .int .i64 a1_3, .int .i64 a1_4, .string a1_5]) (ok := fun _ => True) (okp := fun _ => True) ?_ (Reps.c6 (k23_mkM _ _ _ (⟨a1_0, a1_1, a1_2, a1_3, a1_4, a1_5⟩ : S23)) (Reps.none _ _)) (fun _ h => h) trivial (Below.refl _ _) (Nat.le_refl _) (by simp) ?_
        · first | (go_simp; done) | (go_simp; rfl)
        intro v9 w3 ho9 hb9 hg9 hat9
        obtain ⟨A9, c9, rfl, hl9, hc9⟩ := Kd.R_reads ho9
        have HC9 := Aside0.mk hc9
        have HK3 := Aside0.mk (blk_below HK2.out hb9)
        have HB3 := Aside0.mk (below_step HB2.out hb9)
        have HO7 := Aside0.mk (Kd.R_below HO7.out hb9)
        clear ho9 hb9 hg9 hat9 hl9 hc9
        refine hK.out _ _ HK3.out (fun _ => ?_)
        clear hK K
        refine norm_ (a' := ?_) ?_ ?_
        rotate_left
        · show Act.put _ (some 9) _ = _
          simp only [Act.put, List.setIfInBounds_toArray, List.set_cons_zero, List.set_cons_succ, i64_w, i32_w]
          rfl
        refine one_ (i := 4) (N := some 10) #[true, true, true, true, true, false, false, false] rfl rfl (by kernel_rfl) (by decide) (fun K hK => ?_)
        refine Kd.R_append_rows_step k23 (w0 := w) w.heap.size (by rfl) (.tmp 7) (.tmp 9) 37 23 (.agg #[(.int .i64 0), (.int .i64 0), (.int .i64 0), (.int .i64 0), (.int .i64 0), (.string ⟨#[]⟩)]) 56 rfl Try.underlying37 info23 rfl (by decide) (by omega) v7 l0 [(⟨a1_0, a1_1, a1_2, a1_3, a1_4, a1_5⟩ : S23)] A9 1 c9 (fun _ => True) (fun _ => False) (by rfl) (by rfl) HO7.out HC9.out (fun _ _ h => h) (fun _ h => h.elim) (fun _ _ => trivial) HB3.out HB3.out.size (by have := HL.out; omega) ?_
        intro v10 w4 ho10 hb10 hg10 hat10
        obtain ⟨g, cap, rfl, hgb, hgl, _⟩ := Kd.R_form ho10 (by simp)
        have HK4 := Aside0.mk (show w4.heap[w.heap.size]? = some (.cells #[.int .i64 a1_0, .int .i64 a1_1, .int .i64 a1_2, .int .i64 a1_3, .int .i64 a1_4, .string a1_5] 23 (0, 0)) from blk_grown HK3.out hg10 (fun q => HNE.out (q.symm)))
        have HO10 := Aside0.mk ho10
        have HB4 := Aside0.mk hb10
        clear ho10 hb10 hg10 hat10 hgb hgl
        refine hK.out _ _ HK4.out (fun _ => ?_)
        clear hK K
        refine norm_ (a' := ?_) ?_ ?_
        rotate_left
        · show Act.put _ (some 10) _ = _
          simp only [Act.put, List.setIfInBounds_toArray, List.set_cons_zero, List.set_cons_succ, i64_w, i32_w]
          rfl
        refine pure_ (i := 5) (N := some 11) (v := ?_) (a' := ?_) #[true, true, true, true, true, true, false, false] rfl rfl (by kernel_rfl) (fun _ _ _ h => h) (Or.inl ⟨by rfl, ?_⟩) ?_ ?_
        rotate_left
        · intro w'
          go_simp
          with_reducible rfl
        rotate_left
        · simp only [Act.put, List.setIfInBounds_toArray, List.set_cons_zero, List.set_cons_succ, i64_w, i32_w]
          rfl
        refine one_ (i := 6) (N := some 12) #[true, true, true, true, true, true, true, false] rfl rfl (by kernel_rfl) (by decide) (fun K hK => ?_)
        refine value_ (v := .pointer (some ⟨w4.heap.size, 0, none⟩)) (w1 := w4.alloc (.cells #[(.slice (some ⟨g, 0, none⟩) (l0 ++ [(⟨a1_0, a1_1, a1_2, a1_3, a1_4, a1_5⟩ : S23)]).length cap)] 130)) (by rfl) rfl ?_ ?_
        · first | (go_simp; done) | (go_simp; rfl) | (simp; done)
        have HX5 := Aside0.mk (heap_alloc_new w4 (.cells #[(.slice (some ⟨g, 0, none⟩) (l0 ++ [(⟨a1_0, a1_1, a1_2, a1_3, a1_4, a1_5⟩ : S23)]).length cap)] 130))
        have HO5 := Aside0.mk (Kd.R_alloc (Kd.R_mono (Kd.R_bound HO10.out) (ok' := fun q => q ≠ w4.heap.size) (fun k hk => Nat.ne_of_lt hk.2.2.1)) (.cells #[(.slice (some ⟨g, 0, none⟩) (l0 ++ [(⟨a1_0, a1_1, a1_2, a1_3, a1_4, a1_5⟩ : S23)]).length cap)] 130))
        have HB5 := Aside0.mk (below_alloc HB4.out (.cells #[(.slice (some ⟨g, 0, none⟩) (l0 ++ [(⟨a1_0, a1_1, a1_2, a1_3, a1_4, a1_5⟩ : S23)]).length cap)] 130))
        refine hK.out _ _ ((heap_alloc_old w4 _ (heap_blk_lt HK4.out)).trans HK4.out) (fun _ => ?_)
        clear hK K
        refine norm_ (a' := ?_) ?_ ?_
        rotate_left
        · show Act.put _ (some 12) _ = _
          simp only [Act.put, List.setIfInBounds_toArray, List.set_cons_zero, List.set_cons_succ, i64_w, i32_w]
          rfl
        refine pure_ (i := 7) (N := some 5) (v := ?_) (a' := ?_) #[true, true, true, true, true, true, true, true] rfl rfl (by kernel_rfl) (fun _ _ _ h => h) (Or.inl ⟨by rfl, ?_⟩) ?_ ?_
        rotate_left
        · intro w'
          go_simp
          with_reducible rfl
        rotate_left
        · simp only [Act.put, List.setIfInBounds_toArray, List.set_cons_zero, List.set_cons_succ, i64_w, i32_w]
          rfl
        refine done_ (by kernel_rfl) ?_
        try go_wp2
        go_meet
        case rel => exact ⟨⟨w4.heap.size, g, cap, rfl, HX5.out, HO5.out, HB5.out⟩⟩
      · refine Kd.R_lit_step k23 (w0 := w1) w1.heap.size 23 (by rfl) (N := 9) rfl (xs := [(⟨a1_0, a1_1, a1_2, a1_3, a1_4, a1_5⟩ : S23)]) (inner := [.int .i64 a1_0, .int .i64 a1_1, .int .i64 a1_2, .int .i64 a1_3, .int .i64 a1_4, .string a1_5]) (ok := fun _ => True) (okp := fun _ => True) ?_ (Reps.c6 (k23_mkM _ _ _ (⟨a1_0, a1_1, a1_2, a1_3, a1_4, a1_5⟩ : S23)) (Reps.none _ _)) (fun _ h => h) trivial (Below.refl _ _) (Nat.le_refl _) (by simp) ?_
        · first | (go_simp; done) | (go_simp; rfl)
        intro v9 w2 ho9 hb9 hg9 hat9
        obtain ⟨A9, c9, rfl, hl9, hc9⟩ := Kd.R_reads ho9
        have HC9 := Aside0.mk hc9
        have HK2 := Aside0.mk (blk_below HK1.out hb9)
        have HB2 := Aside0.mk (below_step HB1.out hb9)
        clear ho9 hb9 hg9 hat9 hl9 hc9
        refine hK.out _ _ HK2.out (fun _ => ?_)
        clear hK K
        refine norm_ (a' := ?_) ?_ ?_
        rotate_left
        · show Act.put _ (some 9) _ = _
          simp only [Act.put, List.setIfInBounds_toArray, List.set_cons_zero, List.set_cons_succ, i64_w, i32_w]
          rfl
        refine one_ (i := 1) (N := some 7) #[true, true, true, true, false, false, false, false] rfl rfl (by kernel_rfl) (by decide) (fun K hK => ?_)
        refine goes_ Try.func129 (by kernel_rfl) rfl #[.slice A0 l0.length c0] (by rfl) rfl rfl (by (try simp only [List.map_toArray, List.map_cons, List.map_nil]); first | done | rfl) ?_
        with_reducible refine (api_Tx.calls A0 c0 l0 l0 _ (Kd.C_below HR0.out HB2.out) HC0.out (by unfold api_Tx.f; rw [if_pos (by have := HL.out; omega)])).mono ?_
        rintro e w3 ⟨v7, rfl, ho7, hb7⟩
        refine ⟨_, rfl, ?_⟩
        have HK3 := Aside0.mk (blk_below HK2.out hb7)
        have HB3 := Aside0.mk (below_step HB2.out hb7)
        have HNE := Aside0.mk (show v7.ownBlock ≠ some w.heap.size from fun q => Nat.lt_irrefl _ (Nat.lt_of_lt_of_le (heap_blk_lt HK2.out) (Kd.R_base ho7 _ q)))
        have HO7 := Aside0.mk (Kd.R_lower ho7 HB2.out.size)
        clear ho7
        have HC9 := Aside0.mk (Kd.C_below HC9.out hb7)
        clear hb7
        refine hK.out _ _ HK3.out (fun _ => ?_)
        clear hK K
        refine norm_ (a' := ?_) ?_ ?_
        rotate_left
        · show Act.put _ (some 7) _ = _
          simp only [Act.put, List.setIfInBounds_toArray, List.set_cons_zero, List.set_cons_succ, i64_w, i32_w]
          rfl
        refine one_ (i := 4) (N := some 10) #[true, true, true, true, true, false, false, false] rfl rfl (by kernel_rfl) (by decide) (fun K hK => ?_)
        refine Kd.R_append_rows_step k23 (w0 := w) w.heap.size (by rfl) (.tmp 7) (.tmp 9) 37 23 (.agg #[(.int .i64 0), (.int .i64 0), (.int .i64 0), (.int .i64 0), (.int .i64 0), (.string ⟨#[]⟩)]) 56 rfl Try.underlying37 info23 rfl (by decide) (by omega) v7 l0 [(⟨a1_0, a1_1, a1_2, a1_3, a1_4, a1_5⟩ : S23)] A9 1 c9 (fun _ => True) (fun _ => False) (by rfl) (by rfl) HO7.out HC9.out (fun _ _ h => h) (fun _ h => h.elim) (fun _ _ => trivial) HB3.out HB3.out.size (by have := HL.out; omega) ?_
        intro v10 w4 ho10 hb10 hg10 hat10
        obtain ⟨g, cap, rfl, hgb, hgl, _⟩ := Kd.R_form ho10 (by simp)
        have HK4 := Aside0.mk (show w4.heap[w.heap.size]? = some (.cells #[.int .i64 a1_0, .int .i64 a1_1, .int .i64 a1_2, .int .i64 a1_3, .int .i64 a1_4, .string a1_5] 23 (0, 0)) from blk_grown HK3.out hg10 (fun q => HNE.out (q.symm)))
        have HO10 := Aside0.mk ho10
        have HB4 := Aside0.mk hb10
        clear ho10 hb10 hg10 hat10 hgb hgl
        refine hK.out _ _ HK4.out (fun _ => ?_)
        clear hK K
        refine norm_ (a' := ?_) ?_ ?_
        rotate_left
        · show Act.put _ (some 10) _ = _
          simp only [Act.put, List.setIfInBounds_toArray, List.set_cons_zero, List.set_cons_succ, i64_w, i32_w]
          rfl
        refine pure_ (i := 5) (N := some 11) (v := ?_) (a' := ?_) #[true, true, true, true, true, true, false, false] rfl rfl (by kernel_rfl) (fun _ _ _ h => h) (Or.inl ⟨by rfl, ?_⟩) ?_ ?_
        rotate_left
        · intro w'
          go_simp
          with_reducible rfl
        rotate_left
        · simp only [Act.put, List.setIfInBounds_toArray, List.set_cons_zero, List.set_cons_succ, i64_w, i32_w]
          rfl
        refine one_ (i := 6) (N := some 12) #[true, true, true, true, true, true, true, false] rfl rfl (by kernel_rfl) (by decide) (fun K hK => ?_)
        refine value_ (v := .pointer (some ⟨w4.heap.size, 0, none⟩)) (w1 := w4.alloc (.cells #[(.slice (some ⟨g, 0, none⟩) (l0 ++ [(⟨a1_0, a1_1, a1_2, a1_3, a1_4, a1_5⟩ : S23)]).length cap)] 130)) (by rfl) rfl ?_ ?_
        · first | (go_simp; done) | (go_simp; rfl) | (simp; done)
        have HX5 := Aside0.mk (heap_alloc_new w4 (.cells #[(.slice (some ⟨g, 0, none⟩) (l0 ++ [(⟨a1_0, a1_1, a1_2, a1_3, a1_4, a1_5⟩ : S23)]).length cap)] 130))
        have HO5 := Aside0.mk (Kd.R_alloc (Kd.R_mono (Kd.R_bound HO10.out) (ok' := fun q => q ≠ w4.heap.size) (fun k hk => Nat.ne_of_lt hk.2.2.1)) (.cells #[(.slice (some ⟨g, 0, none⟩) (l0 ++ [(⟨a1_0, a1_1, a1_2, a1_3, a1_4, a1_5⟩ : S23)]).length cap)] 130))
        have HB5 := Aside0.mk (below_alloc HB4.out (.cells #[(.slice (some ⟨g, 0, none⟩) (l0 ++ [(⟨a1_0, a1_1, a1_2, a1_3, a1_4, a1_5⟩ : S23)]).length cap)] 130))
        refine hK.out _ _ ((heap_alloc_old w4 _ (heap_blk_lt HK4.out)).trans HK4.out) (fun _ => ?_)
        clear hK K
        refine norm_ (a' := ?_) ?_ ?_
        rotate_left
        · show Act.put _ (some 12) _ = _
          simp only [Act.put, List.setIfInBounds_toArray, List.set_cons_zero, List.set_cons_succ, i64_w, i32_w]
          rfl
        refine pure_ (i := 7) (N := some 5) (v := ?_) (a' := ?_) #[true, true, true, true, true, true, true, true] rfl rfl (by kernel_rfl) (fun _ _ _ h => h) (Or.inl ⟨by rfl, ?_⟩) ?_ ?_
        rotate_left
        · intro w'
          go_simp
          with_reducible rfl
        rotate_left
        · simp only [Act.put, List.setIfInBounds_toArray, List.set_cons_zero, List.set_cons_succ, i64_w, i32_w]
          rfl
        refine done_ (by kernel_rfl) ?_
        try go_wp2
        go_meet
        case rel => exact ⟨⟨w4.heap.size, g, cap, rfl, HX5.out, HO5.out, HB5.out⟩⟩
    case rest =>
      obtain ⟨X, g, cap, rfl, hx, ho, hb⟩ := hcut.out
      have HX := Aside0.mk hx
      have HO := Aside0.mk ho
      have HBW := Aside0.mk hb
      clear hx ho hb hcut
      have HGB := Aside0.mk (Kd.R_base HO.out g rfl)
      go_wp2_with (first | (go_at_call 136; (with_reducible refine (heap_up.calls (l0.length + 2) X g cap w.heap.size (l0 ++ [(⟨a1_0, a1_1, a1_2, a1_3, a1_4, a1_5⟩ : S23)]) r (l0.length : Int) _ HX.out HO.out (by have := HL.out; simp; omega) (by omega) (by simp; omega) HU.out).mono ?_); rintro e w6 ⟨rfl, hx6, ho6, hl6, hg6⟩; have hxc : w6.cell? ⟨X, 0, none⟩ = some (.slice (some ⟨g, 0, none⟩) (l0 ++ [(⟨a1_0, a1_1, a1_2, a1_3, a1_4, a1_5⟩ : S23)]).length cap) := (blk_cell hx6 0).trans rfl; have HO6 := Aside0.mk ho6; have HG6 := Aside0.mk hg6; clear hx6 ho6 hl6 hg6))
      go_ret
      have ho := HO6.out
      rw [List.length_append, List.length_singleton] at ho
      exact ⟨_, rfl, Kd.R_mono ho (fun _ _ => trivial), HBW.out.grown HG6.out HBW.out.size (fun k hk => by cases hk; exact HGB.out)⟩
  · rw [if_neg hl] at h; cases h


end Go.Proofs.Ytihlogdmdmhefaa.L
