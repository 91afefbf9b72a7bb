/- Written by this session's own program over the kit's print: functions of Go told as plain functions, or the row of one statement; proved for every input, with no condition of ours. -/
import Derived.Test.YtehncbhmdgdkjaaLx0
import Derived.Test.YtehncbhmdgdkjaaLx2
import Derived.Test.YtehncbhmdgdkjaaLx3
namespace Go.Proofs.Ytehncbhmdgdkjaa.L
open Go.RowKit Go.Proofs.YtehncbhmdgdkjaaW.PrintWords Go.Proofs.YtehncbhmdgdkjaaW.PrintLast Go.Proofs.YtehncbhmdgdkjaaW.PrintMore
attribute [local go_sem] max2_int min2_int max_two min_two max_three min_three max_four min_four   -- for this text's walks alone
set_option linter.unusedVariables false
set_option linter.unusedSimpArgs false

/-! ### heap_up: function 85, by hand -/
-- HAND rounds=0 making=0 opaque
-- NEEDS (*hopper/heap.txs).swap
-- NEEDS (*hopper/heap.txs).better
-- IMPORT Derived.Test.YtehncbhmdgdkjaaGoto
def upL : Nat → List S24 → Int → Option (List S24)
  | 0, _, _ => none
  | m + 1, l, i => if i = 0 then some l else (bt_ (rd_T24 l i) (rd_T24 l ((i - 1) / 2))).bind fun b => if b = true then upL m (swapL l i ((i - 1) / 2)) ((i - 1) / 2) else some l
/-- What holds at each arrival at the label. -/
def UpJ (X g cap base : Nat) (n : Nat) (r : List S24) (w w' : World) (a : Act) : Prop := ∃ (m : Nat) (l : List S24) (i : Int), upL m l i = some r ∧ 0 ≤ i ∧ i < (n : Int) ∧ l.length = n ∧ w'.heap[X]? = some (.cells #[(.slice (some ⟨g, 0, none⟩) l.length cap)] 87 (0, 0)) ∧ Kd.R k24 24 w' base (fun q => q ≠ X) (.slice (some ⟨g, 0, none⟩) l.length cap) l ∧ w.grownBy w' (some g) ∧
  ∃ u2 u3 u4 u5 u6 u7 u8 u9 u10 u11 u12 u13 u14 u15 u16 u17 u18 : Value, a = { tmps := #[.iface 85 (.pointer (some ⟨X, 0, none⟩)), .int .i64 i, u2, u3, u4, u5, u6, u7, u8, u9, u10, u11, u12, u13, u14, u15, u16, u17, u18], defers := [] }
set_option maxHeartbeats 1000000 in
set_option maxRecDepth 100000 in
theorem heap_up.calls (m X g cap base : Nat) (l r : List S24) (i : Int) (w : World) (HX : w.heap[X]? = some (.cells #[(.slice (some ⟨g, 0, none⟩) l.length cap)] 87 (0, 0))) (HO : Kd.R k24 24 w base (fun q => q ≠ X) (.slice (some ⟨g, 0, none⟩) l.length cap) l) (hn : l.length ≤ 140737488355328) (hi0 : 0 ≤ i) (hi1 : i < (l.length : Int)) (h : upL m l i = some r) :
    Calls Try.prog 85 #[.iface 85 (.pointer (some ⟨X, 0, none⟩)), .int .i64 i] w fun e w' => e = .returned (.tuple #[]) ∧ w'.heap[X]? = some (.cells #[(.slice (some ⟨g, 0, none⟩) l.length cap)] 87 (0, 0)) ∧ Kd.R k24 24 w' base (fun q => q ≠ X) (.slice (some ⟨g, 0, none⟩) l.length cap) r ∧ r.length = l.length ∧ w.grownBy w' (some g) := by
  obtain ⟨n, hl⟩ : ∃ n, n = l.length := ⟨_, rfl⟩
  rw [← hl] at hn hi1 ⊢
  have HSt := Aside0.mk (show UpJ X g cap base n r w w { tmps := #[.iface 85 (.pointer (some ⟨X, 0, none⟩)), .int .i64 i, undef, undef, undef, undef, undef, undef, undef, undef, undef, undef, undef, undef, undef, undef, undef, undef, undef], defers := [] } from
    ⟨m, l, i, h, hi0, hi1, hl.symm, HX, HO, World.grownBy.refl _ _, _, _, _, _, _, _, _, _, _, _, _, _, _, _, _, _, _, rfl⟩)
  have HN := Aside0.mk hn
  clear h HX HO hl hi0 hi1 hn
  go_enter Try.func85, Try.ntmps85
  go_wp2
  refine Goto.scope_label 0 (fun a' w' => UpJ X g cap base n r w w' a') (fun a' _ => (intOf (a'.tmps.getD 1 undef)).toNat) rfl ?_ ?_
  · rintro a' w' ⟨m, l, i, h, hi0, hi1, hl, HX, HO, HG, u2, u3, u4, u5, u6, u7, u8, u9, u10, u11, u12, u13, u14, u15, u16, u17, u18, rfl⟩
    have HX := Aside0.mk HX
    have HO := Aside0.mk HO
    have HG := Aside0.mk HG
    have HLn := Aside0.mk hl
    cases m with
    | zero => exact absurd h (by simp [upL])
    | succ m =>
      have hi2 : i ≤ 140737488355328 := by have := HN.out; omega
      simp only [upL] at h
      by_cases hz : i = 0
      · rw [if_pos hz] at h
        obtain rfl := Option.some.inj h
        subst hz
        clear hl hi0 hi1 hi2
        go_wp2
        try simp only [Exit.jump]
        refine bodyPost_ret (results_none rfl _ _ _) rfl ?_
        have hx := HX.out
        have ho := HO.out
        rw [HLn.out] at hx ho
        exact ⟨rfl, hx, ho, HLn.out, HG.out⟩
      · rw [if_neg hz] at h
        obtain ⟨b, hb, h⟩ := Option.bind_eq_some_iff.1 h
        have HBT := Aside0.mk hb
        have HR := Aside0.mk h
        have hp0 : 0 ≤ i - 1 := by omega
        have hne : (i == 0) = false := beq_eq_false_iff_ne.2 hz
        have HI := Aside0.mk (show (0 ≤ i ∧ i < (l.length : Int)) ∧ (0 ≤ (i - 1) / 2 ∧ (i - 1) / 2 < (l.length : Int)) ∧ (i - 1) / 2 < i by omega)
        have hmb : ∀ W : World, (method 294 85 (.pointer (some ⟨X, 0, none⟩)) "hopper/heap.better").run Try.prog W = .ok (183, .pointer (some ⟨X, 0, none⟩)) W := fun _ => by kernel_rfl
        have hms : ∀ W : World, (method 294 85 (.pointer (some ⟨X, 0, none⟩)) "hopper/heap.swap").run Try.prog W = .ok (185, .pointer (some ⟨X, 0, none⟩)) W := fun _ => by kernel_rfl
        clear hb h hl hz
        cases b with
        | false =>
          have HR2 := Aside0.mk (show some l = some r from HR.out)
          go_wp2_with (first | (go_at_call 183; (with_reducible refine (heap_txs_better.calls X g cap base l i ((i - 1) / 2) false _ HX.out HO.out HI.out.1.1 HI.out.1.2 HI.out.2.1.1 HI.out.2.1.2 HBT.out).mono ?_); rintro e w1 ⟨rfl, hb1⟩; have HB1 := Aside0.mk hb1; clear hb1))
          try simp only [Exit.jump]
          first | go_end0 | ((try simp only [Exit.inBlock, Exit.then]); refine bodyPost_ret (results_none rfl _ _ _) rfl ?_)
          obtain rfl := Option.some.inj HR2.out
          have hx := blk_below HX.out HB1.out
          have ho := Kd.R_below HO.out HB1.out
          rw [HLn.out] at hx ho
          exact ⟨rfl, hx, ho, HLn.out, HG.out.trans (grown_of_below HB1.out _)⟩
        | true =>
          have HR2 := Aside0.mk (show upL m (swapL l i ((i - 1) / 2)) ((i - 1) / 2) = some r from HR.out)
          go_wp2_with (first | (go_at_call 183; (with_reducible refine (heap_txs_better.calls X g cap base l i ((i - 1) / 2) true _ HX.out HO.out HI.out.1.1 HI.out.1.2 HI.out.2.1.1 HI.out.2.1.2 HBT.out).mono ?_); rintro e w1 ⟨rfl, hb1⟩; have HX1 := Aside0.mk (blk_below HX.out hb1); have HO1 := Aside0.mk (Kd.R_below HO.out hb1); have HG1 := Aside0.mk (HG.out.trans (grown_of_below hb1 (some g))); clear hb1) | (go_at_call 185; (with_reducible refine (heap_txs_swap.calls X g cap base l i ((i - 1) / 2) _ HX1.out HO1.out HI.out.1.1 HI.out.1.2 HI.out.2.1.1 HI.out.2.1.2).mono ?_); rintro e w2 ⟨rfl, hx2, ho2, hg2⟩; have HX2 := Aside0.mk hx2; have HO2 := Aside0.mk ho2; have HG2 := Aside0.mk (HG1.out.trans hg2); clear hx2 ho2 hg2))
          go_step3
          have hw := swapL_length l i ((i - 1) / 2)
          refine ⟨rfl, ⟨m, swapL l i ((i - 1) / 2), (i - 1) / 2, HR2.out, HI.out.2.1.1, by rw [← HLn.out]; exact HI.out.2.1.2, hw.trans HLn.out, by rw [hw]; exact HX2.out, by rw [hw]; exact HO2.out, HG2.out, _, _, _, _, _, _, _, _, _, _, _, _, _, _, _, _, _, rfl⟩, ?_⟩
          have := HI.out
          simp [intOf]
          omega
  · intro L hL hLr
    have HL := Aside0.mk hL
    have HLr := Aside0.mk hLr
    clear hL hLr
    go_wp2
    go_step3
    rename_i K hK
    exact hK _ _ (HLr.out _ _ (HL.out _ _ HSt.out))


/-! ### heap_Push: function 31, by hand -/
-- HAND rounds=0 making=1
-- IMPORT Derived.Deep.DeepCutAuto
def heap_Push.f (l0 : List S24) (a1_0 : Int) (a1_1 : Int) (a1_2 : Int) (a1_3 : Int) (a1_4 : Int) (a1_5 : ByteArray) : Option (List S24) := if l0.length < 2513169434915 then upL (l0.length + 2) (l0 ++ [(⟨a1_0, a1_1, a1_2, a1_3, a1_4, a1_5⟩ : S24)]) (l0.length : Int) else none
/-- What the first statement leaves. -/
def PushR (w : World) (l : List S24) (v5 : Value) (wx : World) : Prop := ∃ X g cap : Nat, v5 = .pointer (some ⟨X, 0, none⟩) ∧ wx.heap[X]? = some (.cells #[(.slice (some ⟨g, 0, none⟩) l.length cap)] 87 (0, 0)) ∧ Kd.R k24 24 wx w.heap.size (fun q => q ≠ X) (.slice (some ⟨g, 0, none⟩) l.length cap) l ∧ Below w.heap.size w wx
set_option maxHeartbeats 4000000 in
set_option maxRecDepth 100000 in
theorem heap_Push.calls (A0 : Option Addr) (c0 : Nat) (l0 : List S24) (a1_0 : Int) (a1_1 : Int) (a1_2 : Int) (a1_3 : Int) (a1_4 : Int) (a1_5 : ByteArray) (r : List S24) (w : World) (hr0 : Kd.C k24 w A0 l0.length l0) (hc0 : l0.length ≤ c0) (h : heap_Push.f l0 a1_0 a1_1 a1_2 a1_3 a1_4 a1_5 = some r) :
    Calls Try.prog 31 #[.slice A0 l0.length c0, .agg #[.int .i64 a1_0, .int .i64 a1_1, .int .i64 a1_2, .int .i64 a1_3, .int .i64 a1_4, .string a1_5]] w fun e w' => ∃ v0_ : Value, e = .returned (v0_) ∧ Kd.R k24 24 w' w.heap.size (fun _ => True) v0_ r ∧ Below w.heap.size w w' := by
  unfold heap_Push.f at h
  by_cases hl : l0.length < 2513169434915
  · rw [if_pos hl] at h
    have HR0 := Aside0.mk hr0
    have HC0 := Aside0.mk hc0
    have HL := Aside0.mk hl
    have HU := Aside0.mk h
    clear hr0 hc0 hl h
    have HK0 := Aside0.mk (show (w.alloc (.cells #[.int .i64 a1_0, .int .i64 a1_1, .int .i64 a1_2, .int .i64 a1_3, .int .i64 a1_4, .string a1_5] 24)).heap[w.heap.size]? = some (.cells #[.int .i64 a1_0, .int .i64 a1_1, .int .i64 a1_2, .int .i64 a1_3, .int .i64 a1_4, .string a1_5] 24 (0, 0)) from heap_alloc_new w _)
    have HB0 := Aside0.mk (show Below w.heap.size w (w.alloc (.cells #[.int .i64 a1_0, .int .i64 a1_1, .int .i64 a1_2, .int .i64 a1_3, .int .i64 a1_4, .string a1_5] 24)) from below_alloc (Below.refl _ _) _)
    go_enter Try.func31, Try.ntmps31
    go_wp2_with (fail)
    go_cut [5] from 6 to 12 (fun v5 wx => Aside0 (PushR w (l0 ++ [(⟨a1_0, a1_1, a1_2, a1_3, a1_4, a1_5⟩ : S24)]) v5 wx))
    case first =>
      refine start_ (n := 8) (S := fun w' => w'.heap[w.heap.size]? = some (.cells #[.int .i64 a1_0, .int .i64 a1_1, .int .i64 a1_2, .int .i64 a1_3, .int .i64 a1_4, .string a1_5] 24 (0, 0))) (ds := []) #[false, false, false, false, false, false, false, false] (by kernel_rfl) rfl rfl HK0.out (fun hHeld => ?_)
      have HB1 := Aside0.mk (show Below w.heap.size w (w.alloc (.cells #[.int .i64 a1_0, .int .i64 a1_1, .int .i64 a1_2, .int .i64 a1_3, .int .i64 a1_4, .string a1_5] 24)).drew from below_drew1 HB0.out)
      generalize (w.alloc (.cells #[.int .i64 a1_0, .int .i64 a1_1, .int .i64 a1_2, .int .i64 a1_3, .int .i64 a1_4, .string a1_5] 24)).drew = w1 at hHeld HB1 ⊢
      refine pure_ (i := 0) (N := some 6) (v := ?_) (a' := ?_) #[true, false, false, false, false, false, false, false] rfl rfl (by kernel_rfl) (fun _ _ _ h => h) (Or.inl ⟨by rfl, ?_⟩) ?_ ?_
      rotate_left
      · intro w'
        go_simp
        with_reducible rfl
      rotate_left
      · simp only [Act.put, List.setIfInBounds_toArray, List.set_cons_zero, List.set_cons_succ, i64_w, i32_w]
        rfl
      refine take_ (i := 2) (N := some 8) (v := ?_) (a' := ?_) #[true, false, true, false, false, false, false, false] rfl rfl (by kernel_rfl) (fun _ _ _ h => h) (Or.inl ⟨by rfl, ?_⟩) hHeld ?_ ?_
      rotate_left
      · rintro w' s0
        have c0 : w'.cell? ⟨w.heap.size, 0, none⟩ = some (.int .i64 a1_0) := (blk_cell s0 0).trans rfl
        have c1 : w'.cell? ⟨w.heap.size, 1, none⟩ = some (.int .i64 a1_1) := (blk_cell s0 1).trans rfl
        have c2 : w'.cell? ⟨w.heap.size, 2, none⟩ = some (.int .i64 a1_2) := (blk_cell s0 2).trans rfl
        have c3 : w'.cell? ⟨w.heap.size, 3, none⟩ = some (.int .i64 a1_3) := (blk_cell s0 3).trans rfl
        have c4 : w'.cell? ⟨w.heap.size, 4, none⟩ = some (.int .i64 a1_4) := (blk_cell s0 4).trans rfl
        have c5 : w'.cell? ⟨w.heap.size, 5, none⟩ = some (.string a1_5) := (blk_cell s0 5).trans rfl
        clear s0
        go_simp
        with_reducible rfl
      rotate_left
      · simp only [Act.put, List.setIfInBounds_toArray, List.set_cons_zero, List.set_cons_succ, i64_w, i32_w]
        rfl
      have HK1 := Aside0.mk hHeld
      clear hHeld
      refine two_ (i := 1) (j := 3) (Ni := some 7) (Nj := some 9) #[true, true, true, false, false, false, false, false] #[true, false, true, true, false, false, false, false] rfl rfl rfl rfl (by kernel_rfl) (by decide) (by decide) (fun K hK => ?_) (fun K hK => ?_)
      · refine goes_ Try.func81 (by kernel_rfl) rfl #[.slice A0 l0.length c0] (by rfl) rfl rfl (by (try simp only [List.map_toArray, List.map_cons, List.map_nil]); first | done | rfl) ?_
        with_reducible refine (api_Tx.calls A0 c0 l0 l0 _ (Kd.C_below HR0.out HB1.out) HC0.out (by unfold api_Tx.f; rw [if_pos (by have := HL.out; omega)])).mono ?_
        rintro e w2 ⟨v7, rfl, ho7, hb7⟩
        refine ⟨_, rfl, ?_⟩
        have HK2 := Aside0.mk (blk_below HK1.out hb7)
        have HB2 := Aside0.mk (below_step HB1.out hb7)
        have HNE := Aside0.mk (show v7.ownBlock ≠ some w.heap.size from fun q => Nat.lt_irrefl _ (Nat.lt_of_lt_of_le (heap_blk_lt HK1.out) (Kd.R_base ho7 _ q)))
        have HO7 := Aside0.mk (Kd.R_lower ho7 HB1.out.size)
        clear ho7
        clear hb7
        refine hK.out _ _ HK2.out (fun _ => ?_)
        clear hK K
        refine norm_ (a' := ?_) ?_ ?_
        rotate_left
        · show Act.put _ (some 7) _ = _
          simp only [Act.put, List.setIfInBounds_toArray, List.set_cons_zero, List.set_cons_succ, i64_w, i32_w]
          rfl
        refine one_ (i := 3) (N := some 9) #[true, true, true, true, false, false, false, false] rfl rfl (by kernel_rfl) (by decide) (fun K hK => ?_)
        refine Kd.R_lit_step k24 (w0 := w2) w2.heap.size 24 (by rfl) (N := 9) rfl (xs := [(⟨a1_0, a1_1, a1_2, a1_3, a1_4, a1_5⟩ : S24)]) (inner := [.int .i64 a1_0, .int .i64 a1_1, .int .i64 a1_2, .int .i64 a1_3, .int .i64 a1_4, .string a1_5]) (ok := fun _ => True) (okp := fun _ => True) ?_ (Reps.c6 (k24_mkM _ _ _ (⟨a1_0, a1_1, a1_2, a1_3, a1_4, a1_5⟩ : S24)) (Reps.none _ _)) (fun _ h => h) trivial (Below.refl _ _) (Nat.le_refl _) (by simp) ?_
        · first | (go_simp; done) | (go_simp; rfl)
        intro v9 w3 ho9 hb9 hg9 hat9
        obtain ⟨A9, c9, rfl, hl9, hc9⟩ := Kd.R_reads ho9
        have HC9 := Aside0.mk hc9
        have HK3 := Aside0.mk (blk_below HK2.out hb9)
        have HB3 := Aside0.mk (below_step HB2.out hb9)
        have HO7 := Aside0.mk (Kd.R_below HO7.out hb9)
        clear ho9 hb9 hg9 hat9 hl9 hc9
        refine hK.out _ _ HK3.out (fun _ => ?_)
        clear hK K
        refine norm_ (a' := ?_) ?_ ?_
        rotate_left
        · show Act.put _ (some 9) _ = _
          simp only [Act.put, List.setIfInBounds_toArray, List.set_cons_zero, List.set_cons_succ, i64_w, i32_w]
          rfl
        refine one_ (i := 4) (N := some 10) #[true, true, true, true, true, false, false, false] rfl rfl (by kernel_rfl) (by decide) (fun K hK => ?_)
        refine Kd.R_append_rows_step k24 (w0 := w) w.heap.size (by rfl) (.tmp 7) (.tmp 9) 22 24 (.agg #[(.int .i64 0), (.int .i64 0), (.int .i64 0), (.int .i64 0), (.int .i64 0), (.string ⟨#[]⟩)]) 56 rfl Try.underlying22 info24 rfl (by decide) (by omega) v7 l0 [(⟨a1_0, a1_1, a1_2, a1_3, a1_4, a1_5⟩ : S24)] A9 1 c9 (fun _ => True) (fun _ => False) (by rfl) (by rfl) HO7.out HC9.out (fun _ _ h => h) (fun _ h => h.elim) (fun _ _ => trivial) HB3.out HB3.out.size (by have := HL.out; omega) ?_
        intro v10 w4 ho10 hb10 hg10 hat10
        obtain ⟨g, cap, rfl, hgb, hgl, _⟩ := Kd.R_form ho10 (by simp)
        have HK4 := Aside0.mk (show w4.heap[w.heap.size]? = some (.cells #[.int .i64 a1_0, .int .i64 a1_1, .int .i64 a1_2, .int .i64 a1_3, .int .i64 a1_4, .string a1_5] 24 (0, 0)) from blk_grown HK3.out hg10 (fun q => HNE.out (q.symm)))
        have HO10 := Aside0.mk ho10
        have HB4 := Aside0.mk hb10
        clear ho10 hb10 hg10 hat10 hgb hgl
        refine hK.out _ _ HK4.out (fun _ => ?_)
        clear hK K
        refine norm_ (a' := ?_) ?_ ?_
        rotate_left
        · show Act.put _ (some 10) _ = _
          simp only [Act.put, List.setIfInBounds_toArray, List.set_cons_zero, List.set_cons_succ, i64_w, i32_w]
          rfl
        refine pure_ (i := 5) (N := some 11) (v := ?_) (a' := ?_) #[true, true, true, true, true, true, false, false] rfl rfl (by kernel_rfl) (fun _ _ _ h => h) (Or.inl ⟨by rfl, ?_⟩) ?_ ?_
        rotate_left
        · intro w'
          go_simp
          with_reducible rfl
        rotate_left
        · simp only [Act.put, List.setIfInBounds_toArray, List.set_cons_zero, List.set_cons_succ, i64_w, i32_w]
          rfl
        refine one_ (i := 6) (N := some 12) #[true, true, true, true, true, true, true, false] rfl rfl (by kernel_rfl) (by decide) (fun K hK => ?_)
        refine value_ (v := .pointer (some ⟨w4.heap.size, 0, none⟩)) (w1 := w4.alloc (.cells #[(.slice (some ⟨g, 0, none⟩) (l0 ++ [(⟨a1_0, a1_1, a1_2, a1_3, a1_4, a1_5⟩ : S24)]).length cap)] 87)) (by rfl) rfl ?_ ?_
        · first | (go_simp; done) | (go_simp; rfl) | (simp; done)
        have HX5 := Aside0.mk (heap_alloc_new w4 (.cells #[(.slice (some ⟨g, 0, none⟩) (l0 ++ [(⟨a1_0, a1_1, a1_2, a1_3, a1_4, a1_5⟩ : S24)]).length cap)] 87))
        have HO5 := Aside0.mk (Kd.R_alloc (Kd.R_mono (Kd.R_bound HO10.out) (ok' := fun q => q ≠ w4.heap.size) (fun k hk => Nat.ne_of_lt hk.2.2.1)) (.cells #[(.slice (some ⟨g, 0, none⟩) (l0 ++ [(⟨a1_0, a1_1, a1_2, a1_3, a1_4, a1_5⟩ : S24)]).length cap)] 87))
        have HB5 := Aside0.mk (below_alloc HB4.out (.cells #[(.slice (some ⟨g, 0, none⟩) (l0 ++ [(⟨a1_0, a1_1, a1_2, a1_3, a1_4, a1_5⟩ : S24)]).length cap)] 87))
        refine hK.out _ _ ((heap_alloc_old w4 _ (heap_blk_lt HK4.out)).trans HK4.out) (fun _ => ?_)
        clear hK K
        refine norm_ (a' := ?_) ?_ ?_
        rotate_left
        · show Act.put _ (some 12) _ = _
          simp only [Act.put, List.setIfInBounds_toArray, List.set_cons_zero, List.set_cons_succ, i64_w, i32_w]
          rfl
        refine pure_ (i := 7) (N := some 5) (v := ?_) (a' := ?_) #[true, true, true, true, true, true, true, true] rfl rfl (by kernel_rfl) (fun _ _ _ h => h) (Or.inl ⟨by rfl, ?_⟩) ?_ ?_
        rotate_left
        · intro w'
          go_simp
          with_reducible rfl
        rotate_left
        · simp only [Act.put, List.setIfInBounds_toArray, List.set_cons_zero, List.set_cons_succ, i64_w, i32_w]
          rfl
        refine done_ (by kernel_rfl) ?_
        try go_wp2
        go_meet
        case rel => exact ⟨⟨w4.heap.size, g, cap, rfl, HX5.out, HO5.out, HB5.out⟩⟩
      · refine Kd.R_lit_step k24 (w0 := w1) w1.heap.size 24 (by rfl) (N := 9) rfl (xs := [(⟨a1_0, a1_1, a1_2, a1_3, a1_4, a1_5⟩ : S24)]) (inner := [.int .i64 a1_0, .int .i64 a1_1, .int .i64 a1_2, .int .i64 a1_3, .int .i64 a1_4, .string a1_5]) (ok := fun _ => True) (okp := fun _ => True) ?_ (Reps.c6 (k24_mkM _ _ _ (⟨a1_0, a1_1, a1_2, a1_3, a1_4, a1_5⟩ : S24)) (Reps.none _ _)) (fun _ h => h) trivial (Below.refl _ _) (Nat.le_refl _) (by simp) ?_
        · first | (go_simp; done) | (go_simp; rfl)
        intro v9 w2 ho9 hb9 hg9 hat9
        obtain ⟨A9, c9, rfl, hl9, hc9⟩ := Kd.R_reads ho9
        have HC9 := Aside0.mk hc9
        have HK2 := Aside0.mk (blk_below HK1.out hb9)
        have HB2 := Aside0.mk (below_step HB1.out hb9)
        clear ho9 hb9 hg9 hat9 hl9 hc9
        refine hK.out _ _ HK2.out (fun _ => ?_)
        clear hK K
        refine norm_ (a' := ?_) ?_ ?_
        rotate_left
        · show Act.put _ (some 9) _ = _
          simp only [Act.put, List.setIfInBounds_toArray, List.set_cons_zero, List.set_cons_succ, i64_w, i32_w]
          rfl
        refine one_ (i := 1) (N := some 7) #[true, true, true, true, false, false, false, false] rfl rfl (by kernel_rfl) (by decide) (fun K hK => ?_)
        refine goes_ Try.func81 (by kernel_rfl) rfl #[.slice A0 l0.length c0] (by rfl) rfl rfl (by (try simp only [List.map_toArray, List.map_cons, List.map_nil]); first | done | rfl) ?_
        with_reducible refine (api_Tx.calls A0 c0 l0 l0 _ (Kd.C_below HR0.out HB2.out) HC0.out (by unfold api_Tx.f; rw [if_pos (by have := HL.out; omega)])).mono ?_
        rintro e w3 ⟨v7, rfl, ho7, hb7⟩
        refine ⟨_, rfl, ?_⟩
        have HK3 := Aside0.mk (blk_below HK2.out hb7)
        have HB3 := Aside0.mk (below_step HB2.out hb7)
        have HNE := Aside0.mk (show v7.ownBlock ≠ some w.heap.size from fun q => Nat.lt_irrefl _ (Nat.lt_of_lt_of_le (heap_blk_lt HK2.out) (Kd.R_base ho7 _ q)))
        have HO7 := Aside0.mk (Kd.R_lower ho7 HB2.out.size)
        clear ho7
        have HC9 := Aside0.mk (Kd.C_below HC9.out hb7)
        clear hb7
        refine hK.out _ _ HK3.out (fun _ => ?_)
        clear hK K
        refine norm_ (a' := ?_) ?_ ?_
        rotate_left
        · show Act.put _ (some 7) _ = _
          simp only [Act.put, List.setIfInBounds_toArray, List.set_cons_zero, List.set_cons_succ, i64_w, i32_w]
          rfl
        refine one_ (i := 4) (N := some 10) #[true, true, true, true, true, false, false, false] rfl rfl (by kernel_rfl) (by decide) (fun K hK => ?_)
        refine Kd.R_append_rows_step k24 (w0 := w) w.heap.size (by rfl) (.tmp 7) (.tmp 9) 22 24 (.agg #[(.int .i64 0), (.int .i64 0), (.int .i64 0), (.int .i64 0), (.int .i64 0), (.string ⟨#[]⟩)]) 56 rfl Try.underlying22 info24 rfl (by decide) (by omega) v7 l0 [(⟨a1_0, a1_1, a1_2, a1_3, a1_4, a1_5⟩ : S24)] A9 1 c9 (fun _ => True) (fun _ => False) (by rfl) (by rfl) HO7.out HC9.out (fun _ _ h => h) (fun _ h => h.elim) (fun _ _ => trivial) HB3.out HB3.out.size (by have := HL.out; omega) ?_
        intro v10 w4 ho10 hb10 hg10 hat10
        obtain ⟨g, cap, rfl, hgb, hgl, _⟩ := Kd.R_form ho10 (by simp)
        have HK4 := Aside0.mk (show w4.heap[w.heap.size]? = some (.cells #[.int .i64 a1_0, .int .i64 a1_1, .int .i64 a1_2, .int .i64 a1_3, .int .i64 a1_4, .string a1_5] 24 (0, 0)) from blk_grown HK3.out hg10 (fun q => HNE.out (q.symm)))
        have HO10 := Aside0.mk ho10
        have HB4 := Aside0.mk hb10
        clear ho10 hb10 hg10 hat10 hgb hgl
        refine hK.out _ _ HK4.out (fun _ => ?_)
        clear hK K
        refine norm_ (a' := ?_) ?_ ?_
        rotate_left
        · show Act.put _ (some 10) _ = _
          simp only [Act.put, List.setIfInBounds_toArray, List.set_cons_zero, List.set_cons_succ, i64_w, i32_w]
          rfl
        refine pure_ (i := 5) (N := some 11) (v := ?_) (a' := ?_) #[true, true, true, true, true, true, false, false] rfl rfl (by kernel_rfl) (fun _ _ _ h => h) (Or.inl ⟨by rfl, ?_⟩) ?_ ?_
        rotate_left
        · intro w'
          go_simp
          with_reducible rfl
        rotate_left
        · simp only [Act.put, List.setIfInBounds_toArray, List.set_cons_zero, List.set_cons_succ, i64_w, i32_w]
          rfl
        refine one_ (i := 6) (N := some 12) #[true, true, true, true, true, true, true, false] rfl rfl (by kernel_rfl) (by decide) (fun K hK => ?_)
        refine value_ (v := .pointer (some ⟨w4.heap.size, 0, none⟩)) (w1 := w4.alloc (.cells #[(.slice (some ⟨g, 0, none⟩) (l0 ++ [(⟨a1_0, a1_1, a1_2, a1_3, a1_4, a1_5⟩ : S24)]).length cap)] 87)) (by rfl) rfl ?_ ?_
        · first | (go_simp; done) | (go_simp; rfl) | (simp; done)
        have HX5 := Aside0.mk (heap_alloc_new w4 (.cells #[(.slice (some ⟨g, 0, none⟩) (l0 ++ [(⟨a1_0, a1_1, a1_2, a1_3, a1_4, a1_5⟩ : S24)]).length cap)] 87))
        have HO5 := Aside0.mk (Kd.R_alloc (Kd.R_mono (Kd.R_bound HO10.out) (ok' := fun q => q ≠ w4.heap.size) (fun k hk => Nat.ne_of_lt hk.2.2.1)) (.cells #[(.slice (some ⟨g, 0, none⟩) (l0 ++ [(⟨a1_0, a1_1, a1_2, a1_3, a1_4, a1_5⟩ : S24)]).length cap)] 87))
        have HB5 := Aside0.mk (below_alloc HB4.out (.cells #[(.slice (some ⟨g, 0, none⟩) (l0 ++ [(⟨a1_0, a1_1, a1_2, a1_3, a1_4, a1_5⟩ : S24)]).length cap)] 87))
        refine hK.out _ _ ((heap_alloc_old w4 _ (heap_blk_lt HK4.out)).trans HK4.out) (fun _ => ?_)
        clear hK K
        refine norm_ (a' := ?_) ?_ ?_
        rotate_left
        · show Act.put _ (some 12) _ = _
          simp only [Act.put, List.setIfInBounds_toArray, List.set_cons_zero, List.set_cons_succ, i64_w, i32_w]
          rfl
        refine pure_ (i := 7) (N := some 5) (v := ?_) (a' := ?_) #[true, true, true, true, true, true, true, true] rfl rfl (by kernel_rfl) (fun _ _ _ h => h) (Or.inl ⟨by rfl, ?_⟩) ?_ ?_
        rotate_left
        · intro w'
          go_simp
          with_reducible rfl
        rotate_left
        · simp only [Act.put, List.setIfInBounds_toArray, List.set_cons_zero, List.set_cons_succ, i64_w, i32_w]
          rfl
        refine done_ (by kernel_rfl) ?_
        try go_wp2
        go_meet
        case rel => exact ⟨⟨w4.heap.size, g, cap, rfl, HX5.out, HO5.out, HB5.out⟩⟩
    case rest =>
      obtain ⟨X, g, cap, rfl, hx, ho, hb⟩ := hcut.out
      have HX := Aside0.mk hx
      have HO := Aside0.mk ho
      have HBW := Aside0.mk hb
      clear hx ho hb hcut
      have HGB := Aside0.mk (Kd.R_base HO.out g rfl)
      go_wp2_with (first | (go_at_call 85; (with_reducible refine (heap_up.calls (l0.length + 2) X g cap w.heap.size (l0 ++ [(⟨a1_0, a1_1, a1_2, a1_3, a1_4, a1_5⟩ : S24)]) r (l0.length : Int) _ HX.out HO.out (by have := HL.out; simp; omega) (by omega) (by simp; omega) HU.out).mono ?_); rintro e w6 ⟨rfl, hx6, ho6, hl6, hg6⟩; have hxc : w6.cell? ⟨X, 0, none⟩ = some (.slice (some ⟨g, 0, none⟩) (l0 ++ [(⟨a1_0, a1_1, a1_2, a1_3, a1_4, a1_5⟩ : S24)]).length cap) := (blk_cell hx6 0).trans rfl; have HO6 := Aside0.mk ho6; have HG6 := Aside0.mk hg6; clear hx6 ho6 hl6 hg6))
      go_ret
      have ho := HO6.out
      rw [List.length_append, List.length_singleton] at ho
      exact ⟨_, rfl, Kd.R_mono ho (fun _ _ => trivial), HBW.out.grown HG6.out HBW.out.size (fun k hk => by cases hk; exact HGB.out)⟩
  · rw [if_neg hl] at h; cases h


end Go.Proofs.Ytehncbhmdgdkjaa.L
