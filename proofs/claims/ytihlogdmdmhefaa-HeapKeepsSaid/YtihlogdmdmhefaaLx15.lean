/- Written by this session's own program over the kit's print: functions of Go told as plain functions, or the row of one statement; proved for every input, with no condition of ours. -/
import Derived.Test.YtihlogdmdmhefaaLx0
import Derived.Test.YtihlogdmdmhefaaLx4
namespace Go.Proofs.Ytihlogdmdmhefaa.L
open Go.RowKit Go.Proofs.YtihlogdmdmhefaaW.PrintWords Go.Proofs.YtihlogdmdmhefaaW.PrintLast Go.Proofs.YtihlogdmdmhefaaW.PrintMore
attribute [local go_sem] max2_int min2_int max_two min_two max_three min_three max_four min_four   -- for this text's walks alone
set_option linter.unusedVariables false
set_option linter.unusedSimpArgs false

/-! ### heap_up: function 136, by hand -/
-- HAND rounds=0 making=0 opaque
-- NEEDS (*hopper/heap.txs).swap
-- NEEDS (*hopper/heap.txs).better
-- IMPORT Derived.Test.YtihlogdmdmhefaaGoto
def upL : Nat → List S23 → Int → Option (List S23)
  | 0, _, _ => none
  | m + 1, l, i => if i = 0 then some l else (bt_ (rd_T23 l i) (rd_T23 l ((i - 1) / 2))).bind fun b => if b = true then upL m (swapL l i ((i - 1) / 2)) ((i - 1) / 2) else some l
/-- What holds at each arrival at the label. -/
def UpJ (X g cap base : Nat) (n : Nat) (r : List S23) (w w' : World) (a : Act) : Prop := ∃ (m : Nat) (l : List S23) (i : Int), upL m l i = some r ∧ 0 ≤ i ∧ i < (n : Int) ∧ l.length = n ∧ w'.heap[X]? = some (.cells #[(.slice (some ⟨g, 0, none⟩) l.length cap)] 130 (0, 0)) ∧ Kd.R k23 23 w' base (fun q => q ≠ X) (.slice (some ⟨g, 0, none⟩) l.length cap) l ∧ w.grownBy w' (some g) ∧
  ∃ u2 u3 u4 u5 u6 u7 u8 u9 u10 u11 u12 u13 u14 u15 u16 u17 u18 : Value, a = { tmps := #[.iface 128 (.pointer (some ⟨X, 0, none⟩)), .int .i64 i, u2, u3, u4, u5, u6, u7, u8, u9, u10, u11, u12, u13, u14, u15, u16, u17, u18], defers := [] }
set_option maxHeartbeats 1000000 in
set_option maxRecDepth 100000 in
theorem heap_up.calls (m X g cap base : Nat) (l r : List S23) (i : Int) (w : World) (HX : w.heap[X]? = some (.cells #[(.slice (some ⟨g, 0, none⟩) l.length cap)] 130 (0, 0))) (HO : Kd.R k23 23 w base (fun q => q ≠ X) (.slice (some ⟨g, 0, none⟩) l.length cap) l) (hn : l.length ≤ 140737488355328) (hi0 : 0 ≤ i) (hi1 : i < (l.length : Int)) (h : upL m l i = some r) :
    Calls Try.prog 136 #[.iface 128 (.pointer (some ⟨X, 0, none⟩)), .int .i64 i] w fun e w' => e = .returned (.tuple #[]) ∧ w'.heap[X]? = some (.cells #[(.slice (some ⟨g, 0, none⟩) l.length cap)] 130 (0, 0)) ∧ Kd.R k23 23 w' base (fun q => q ≠ X) (.slice (some ⟨g, 0, none⟩) l.length cap) r ∧ r.length = l.length ∧ w.grownBy w' (some g) := by
  obtain ⟨n, hl⟩ : ∃ n, n = l.length := ⟨_, rfl⟩
  rw [← hl] at hn hi1 ⊢
  have HSt := Aside0.mk (show UpJ X g cap base n r w w { tmps := #[.iface 128 (.pointer (some ⟨X, 0, none⟩)), .int .i64 i, undef, undef, undef, undef, undef, undef, undef, undef, undef, undef, undef, undef, undef, undef, undef, undef, undef], defers := [] } from
    ⟨m, l, i, h, hi0, hi1, hl.symm, HX, HO, World.grownBy.refl _ _, _, _, _, _, _, _, _, _, _, _, _, _, _, _, _, _, _, rfl⟩)
  have HN := Aside0.mk hn
  clear h HX HO hl hi0 hi1 hn
  go_enter Try.func136, Try.ntmps136
  go_wp2
  refine Goto.scope_label 0 (fun a' w' => UpJ X g cap base n r w w' a') (fun a' _ => (intOf (a'.tmps.getD 1 undef)).toNat) rfl ?_ ?_
  · rintro a' w' ⟨m, l, i, h, hi0, hi1, hl, HX, HO, HG, u2, u3, u4, u5, u6, u7, u8, u9, u10, u11, u12, u13, u14, u15, u16, u17, u18, rfl⟩
    have HX := Aside0.mk HX
    have HO := Aside0.mk HO
    have HG := Aside0.mk HG
    have HLn := Aside0.mk hl
    cases m with
    | zero => exact absurd h (by simp [upL])
    | succ m =>
      have hi2 : i ≤ 140737488355328 := by have := HN.out; omega
      simp only [upL] at h
      by_cases hz : i = 0
      · rw [if_pos hz] at h
        obtain rfl := Option.some.inj h
        subst hz
        clear hl hi0 hi1 hi2
        go_wp2
        try simp only [Exit.jump]
        refine bodyPost_ret (results_none rfl _ _ _) rfl ?_
        have hx := HX.out
        have ho := HO.out
        rw [HLn.out] at hx ho
        exact ⟨rfl, hx, ho, HLn.out, HG.out⟩
      · rw [if_neg hz] at h
        obtain ⟨b, hb, h⟩ := Option.bind_eq_some_iff.1 h
        have HBT := Aside0.mk hb
        have HR := Aside0.mk h
        have hp0 : 0 ≤ i - 1 := by omega
        have hne : (i == 0) = false := beq_eq_false_iff_ne.2 hz
        have HI := Aside0.mk (show (0 ≤ i ∧ i < (l.length : Int)) ∧ (0 ≤ (i - 1) / 2 ∧ (i - 1) / 2 < (l.length : Int)) ∧ (i - 1) / 2 < i by omega)
        have hmb : ∀ W : World, (method 311 128 (.pointer (some ⟨X, 0, none⟩)) "hopper/heap.better").run Try.prog W = .ok (208, .pointer (some ⟨X, 0, none⟩)) W := fun _ => by kernel_rfl
        have hms : ∀ W : World, (method 311 128 (.pointer (some ⟨X, 0, none⟩)) "hopper/heap.swap").run Try.prog W = .ok (210, .pointer (some ⟨X, 0, none⟩)) W := fun _ => by kernel_rfl
        clear hb h hl hz
        cases b with
        | false =>
          have HR2 := Aside0.mk (show some l = some r from HR.out)
          go_wp2_with (first | (go_at_call 208; (with_reducible refine (heap_txs_better.calls X g cap base l i ((i - 1) / 2) false _ HX.out HO.out HI.out.1.1 HI.out.1.2 HI.out.2.1.1 HI.out.2.1.2 HBT.out).mono ?_); rintro e w1 ⟨rfl, hb1⟩; have HB1 := Aside0.mk hb1; clear hb1))
          try simp only [Exit.jump]
          first | go_end0 | ((try simp only [Exit.inBlock, Exit.then]); refine bodyPost_ret (results_none rfl _ _ _) rfl ?_)
          obtain rfl := Option.some.inj HR2.out
          have hx := blk_below HX.out HB1.out
          have ho := Kd.R_below HO.out HB1.out
          rw [HLn.out] at hx ho
          exact ⟨rfl, hx, ho, HLn.out, HG.out.trans (grown_of_below HB1.out _)⟩
        | true =>
          have HR2 := Aside0.mk (show upL m (swapL l i ((i - 1) / 2)) ((i - 1) / 2) = some r from HR.out)
          go_wp2_with (first | (go_at_call 208; (with_reducible refine (heap_txs_better.calls X g cap base l i ((i - 1) / 2) true _ HX.out HO.out HI.out.1.1 HI.out.1.2 HI.out.2.1.1 HI.out.2.1.2 HBT.out).mono ?_); rintro e w1 ⟨rfl, hb1⟩; have HX1 := Aside0.mk (blk_below HX.out hb1); have HO1 := Aside0.mk (Kd.R_below HO.out hb1); have HG1 := Aside0.mk (HG.out.trans (grown_of_below hb1 (some g))); clear hb1) | (go_at_call 210; (with_reducible refine (heap_txs_swap.calls X g cap base l i ((i - 1) / 2) _ HX1.out HO1.out HI.out.1.1 HI.out.1.2 HI.out.2.1.1 HI.out.2.1.2).mono ?_); rintro e w2 ⟨rfl, hx2, ho2, hg2⟩; have HX2 := Aside0.mk hx2; have HO2 := Aside0.mk ho2; have HG2 := Aside0.mk (HG1.out.trans hg2); clear hx2 ho2 hg2))
          go_step3
          have hw := swapL_length l i ((i - 1) / 2)
          refine ⟨rfl, ⟨m, swapL l i ((i - 1) / 2), (i - 1) / 2, HR2.out, HI.out.2.1.1, by rw [← HLn.out]; exact HI.out.2.1.2, hw.trans HLn.out, by rw [hw]; exact HX2.out, by rw [hw]; exact HO2.out, HG2.out, _, _, _, _, _, _, _, _, _, _, _, _, _, _, _, _, _, rfl⟩, ?_⟩
          have := HI.out
          simp [intOf]
          omega
  · intro L hL hLr
    have HL := Aside0.mk hL
    have HLr := Aside0.mk hLr
    clear hL hLr
    go_wp2
    go_step3
    rename_i K hK
    exact hK _ _ (HLr.out _ _ (HL.out _ _ HSt.out))


end Go.Proofs.Ytihlogdmdmhefaa.L
