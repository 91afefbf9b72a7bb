/- Written by this session's own program over the kit's print: functions of Go told as plain functions, or the row of one statement; proved for every input, with no condition of ours. -/
import Derived.Test.YtfpomamhcjkoeabCx0
import Derived.Test.YtfpomamhcjkoeabCx1
import Derived.Test.YtfpomamhcjkoeabCx2
import Derived.Test.YtfpomamhcjkoeabCx3
import Derived.Test.YtfpomamhcjkoeabCx4
namespace Go.Proofs.Ytfpomamhcjkoeab.C
open Go.RowKit Go.Proofs.YtfpomamhcjkoeabW.PrintWords Go.Proofs.YtfpomamhcjkoeabW.PrintLast Go.Proofs.YtfpomamhcjkoeabW.PrintMore
attribute [local go_sem] max2_int min2_int max_two min_two max_three min_three max_four min_four   -- for this text's walks alone
set_option linter.unusedVariables false
set_option linter.unusedSimpArgs false

/-! ### hopperref03_TakeText: function 32 -/
def hopperref03_TakeText.f (a0 : ByteArray) (a1 : Int) : Option (ByteArray × ByteArray × Bool) := if (a0.size : Int) < 2 then (some ((⟨#[]⟩ : ByteArray), (⟨#[]⟩ : ByteArray), false)) else (if 0 < (a0.size : Int) then (if 1 < (a0.size : Int) then (if (wrap64 ((wrap64 (256 * (wrap64 (bt a0 0)))) + (wrap64 (bt a0 1)))) > a1 then (some ((⟨#[]⟩ : ByteArray), (⟨#[]⟩ : ByteArray), false)) else (if (wrap64 ((wrap64 (256 * (wrap64 (bt a0 0)))) + (wrap64 (bt a0 1)))) > (wrap64 ((a0.size : Int) - 2)) then (some ((⟨#[]⟩ : ByteArray), (⟨#[]⟩ : ByteArray), false)) else (if 2 ≤ (wrap64 ((wrap64 ((wrap64 (256 * (wrap64 (bt a0 0)))) + (wrap64 (bt a0 1)))) + 2)) then (if (wrap64 ((wrap64 ((wrap64 (256 * (wrap64 (bt a0 0)))) + (wrap64 (bt a0 1)))) + 2)) ≤ (a0.size : Int) then (if 0 ≤ (wrap64 ((wrap64 ((wrap64 (256 * (wrap64 (bt a0 0)))) + (wrap64 (bt a0 1)))) + 2)) then (some (a0.extract 2 ((wrap64 ((wrap64 ((wrap64 (256 * (wrap64 (bt a0 0)))) + (wrap64 (bt a0 1)))) + 2)) : Int).toNat, a0.extract ((wrap64 ((wrap64 ((wrap64 (256 * (wrap64 (bt a0 0)))) + (wrap64 (bt a0 1)))) + 2)) : Int).toNat a0.size, true)) else (none)) else (none)) else (none)))) else (none)) else (none))
set_option maxHeartbeats 8000000 in
set_option maxRecDepth 100000 in
theorem hopperref03_TakeText.calls (a0 : ByteArray) (a1 : Int) (r1 : ByteArray) (r2 : ByteArray) (r3 : Bool) (w : World) (h : hopperref03_TakeText.f a0 a1 = some (r1, r2, r3)) :
    Calls Try.prog 32 #[.string a0, .int .i64 a1] w fun e w' => e = .returned (.tuple #[.string r1, .string r2, .bool r3]) ∧ Drawn0 w w' := by
  have H : (if (a0.size : Int) < 2 then (some ((⟨#[]⟩ : ByteArray), (⟨#[]⟩ : ByteArray), false)) else (if 0 < (a0.size : Int) then (if 1 < (a0.size : Int) then (if (wrap64 ((wrap64 (256 * (wrap64 (bt a0 0)))) + (wrap64 (bt a0 1)))) > a1 then (some ((⟨#[]⟩ : ByteArray), (⟨#[]⟩ : ByteArray), false)) else (if (wrap64 ((wrap64 (256 * (wrap64 (bt a0 0)))) + (wrap64 (bt a0 1)))) > (wrap64 ((a0.size : Int) - 2)) then (some ((⟨#[]⟩ : ByteArray), (⟨#[]⟩ : ByteArray), false)) else (if 2 ≤ (wrap64 ((wrap64 ((wrap64 (256 * (wrap64 (bt a0 0)))) + (wrap64 (bt a0 1)))) + 2)) then (if (wrap64 ((wrap64 ((wrap64 (256 * (wrap64 (bt a0 0)))) + (wrap64 (bt a0 1)))) + 2)) ≤ (a0.size : Int) then (if 0 ≤ (wrap64 ((wrap64 ((wrap64 (256 * (wrap64 (bt a0 0)))) + (wrap64 (bt a0 1)))) + 2)) then (some (a0.extract 2 ((wrap64 ((wrap64 ((wrap64 (256 * (wrap64 (bt a0 0)))) + (wrap64 (bt a0 1)))) + 2)) : Int).toNat, a0.extract ((wrap64 ((wrap64 ((wrap64 (256 * (wrap64 (bt a0 0)))) + (wrap64 (bt a0 1)))) + 2)) : Int).toNat a0.size, true)) else (none)) else (none)) else (none)))) else (none)) else (none))) = some (r1, r2, r3) := h
  clear h
  by_cases c3 : (a0.size : Int) < 2
  · rw [if_pos c3] at H
    have c3b0 : decide ((a0.size : Int) < 2) = true := decide_eq_true c3
    have c3b1 : decide (a0.size < 2) = true := decide_eq_true (by omega)
    clear c3
    simp only [Option.some.injEq, Prod.mk.injEq] at H
    obtain ⟨rfl, rfl, rfl⟩ := H
    go_enter Try.func32, Try.ntmps32
    go_wp2
    repeat (go_quiet (fail); try go_wp2)
    go_ret3
    exact ⟨by first | rfl | (simp; done) | (simp [*]; done), by repeat (first | exact Drawn0.refl _ | apply Drawn0.step)⟩
  · rw [if_neg c3] at H
    have c3b0 : decide ((a0.size : Int) < 2) = false := decide_eq_false c3
    have c3b1 : decide (a0.size < 2) = false := decide_eq_false (by omega)
    clear c3
    by_cases c4 : 0 < (a0.size : Int)
    · rw [if_pos c4] at H
      have c4b0 : decide (0 < (a0.size : Int)) = true := decide_eq_true c4
      have c4b1 : decide (0 < a0.size) = true := decide_eq_true (by omega)
      clear c4
      by_cases c6 : 1 < (a0.size : Int)
      · rw [if_pos c6] at H
        have c6b0 : decide (1 < (a0.size : Int)) = true := decide_eq_true c6
        have c6b1 : decide (1 < a0.size) = true := decide_eq_true (by omega)
        clear c6
        by_cases c8 : (wrap64 ((wrap64 (256 * (wrap64 (bt a0 0)))) + (wrap64 (bt a0 1)))) > a1
        · rw [if_pos c8] at H
          have c8b0 : decide (a1 < (wrap64 ((wrap64 (256 * (wrap64 (bt a0 0)))) + (wrap64 (bt a0 1))))) = true := decide_eq_true c8
          clear c8
          simp only [Option.some.injEq, Prod.mk.injEq] at H
          obtain ⟨rfl, rfl, rfl⟩ := H
          have p5 : 0 ≤ (0 : Int) := (by omega)
          have q5 : 0 < a0.size := (by have : (0 : Int) < (a0.size : Int) := of_decide_eq_true (by first | (with_reducible assumption) | assumption); omega)
          have hx5 : ∀ h : 0 < a0.size, ((a0[0]'h).toNat : Int) = bt a0 0 := bt_at a0 0
          clear p5
          have qi5 : (0 < (a0.size : Int)) = True := eq_true (of_decide_eq_true (by first | (with_reducible assumption) | assumption))
          replace q5 := eq_true q5
          have p7 : 0 ≤ (1 : Int) := (by omega)
          have q7 : 1 < a0.size := (by have : (1 : Int) < (a0.size : Int) := of_decide_eq_true (by first | (with_reducible assumption) | assumption); omega)
          have hx7 : ∀ h : 1 < a0.size, ((a0[1]'h).toNat : Int) = bt a0 1 := bt_at a0 1
          clear p7
          have qi7 : (1 < (a0.size : Int)) = True := eq_true (of_decide_eq_true (by first | (with_reducible assumption) | assumption))
          replace q7 := eq_true q7
          go_enter Try.func32, Try.ntmps32
          go_wp2
          repeat (go_quiet (fail); try go_wp2)
          go_ret3
          exact ⟨by first | rfl | (simp; done) | (simp [*]; done), by repeat (first | exact Drawn0.refl _ | apply Drawn0.step)⟩
        · rw [if_neg c8] at H
          have c8b0 : decide (a1 < (wrap64 ((wrap64 (256 * (wrap64 (bt a0 0)))) + (wrap64 (bt a0 1))))) = false := decide_eq_false c8
          clear c8
          by_cases c9 : (wrap64 ((wrap64 (256 * (wrap64 (bt a0 0)))) + (wrap64 (bt a0 1)))) > (wrap64 ((a0.size : Int) - 2))
          · rw [if_pos c9] at H
            have c9b0 : decide ((wrap64 ((a0.size : Int) - 2)) < (wrap64 ((wrap64 (256 * (wrap64 (bt a0 0)))) + (wrap64 (bt a0 1))))) = true := decide_eq_true c9
            clear c9
            simp only [Option.some.injEq, Prod.mk.injEq] at H
            obtain ⟨rfl, rfl, rfl⟩ := H
            have p5 : 0 ≤ (0 : Int) := (by omega)
            have q5 : 0 < a0.size := (by have : (0 : Int) < (a0.size : Int) := of_decide_eq_true (by first | (with_reducible assumption) | assumption); omega)
            have hx5 : ∀ h : 0 < a0.size, ((a0[0]'h).toNat : Int) = bt a0 0 := bt_at a0 0
            clear p5
            have qi5 : (0 < (a0.size : Int)) = True := eq_true (of_decide_eq_true (by first | (with_reducible assumption) | assumption))
            replace q5 := eq_true q5
            have p7 : 0 ≤ (1 : Int) := (by omega)
            have q7 : 1 < a0.size := (by have : (1 : Int) < (a0.size : Int) := of_decide_eq_true (by first | (with_reducible assumption) | assumption); omega)
            have hx7 : ∀ h : 1 < a0.size, ((a0[1]'h).toNat : Int) = bt a0 1 := bt_at a0 1
            clear p7
            have qi7 : (1 < (a0.size : Int)) = True := eq_true (of_decide_eq_true (by first | (with_reducible assumption) | assumption))
            replace q7 := eq_true q7
            go_enter Try.func32, Try.ntmps32
            go_wp2
            repeat (go_quiet (fail); try go_wp2)
            go_ret3
            exact ⟨by first | rfl | (simp; done) | (simp [*]; done), by repeat (first | exact Drawn0.refl _ | apply Drawn0.step)⟩
          · rw [if_neg c9] at H
            have c9b0 : decide ((wrap64 ((a0.size : Int) - 2)) < (wrap64 ((wrap64 (256 * (wrap64 (bt a0 0)))) + (wrap64 (bt a0 1))))) = false := decide_eq_false c9
            clear c9
            by_cases c10 : 2 ≤ (wrap64 ((wrap64 ((wrap64 (256 * (wrap64 (bt a0 0)))) + (wrap64 (bt a0 1)))) + 2))
            · rw [if_pos c10] at H
              have c10b0 := eq_true c10
              have c10b1 : decide (2 ≤ (wrap64 ((wrap64 ((wrap64 (256 * (wrap64 (bt a0 0)))) + (wrap64 (bt a0 1)))) + 2))) = true := decide_eq_true c10
              by_cases c11 : (wrap64 ((wrap64 ((wrap64 (256 * (wrap64 (bt a0 0)))) + (wrap64 (bt a0 1)))) + 2)) ≤ (a0.size : Int)
              · rw [if_pos c11] at H
                have c11b0 := eq_true c11
                have c11b1 : decide ((wrap64 ((wrap64 ((wrap64 (256 * (wrap64 (bt a0 0)))) + (wrap64 (bt a0 1)))) + 2)) ≤ (a0.size : Int)) = true := decide_eq_true c11
                obtain ⟨ji12, hji12⟩ : ∃ j_ : Int, (wrap64 ((wrap64 ((wrap64 (256 * (wrap64 (bt a0 0)))) + (wrap64 (bt a0 1)))) + 2)) = j_ := ⟨_, rfl⟩
                replace H : (if 0 ≤ (ji12) then (some (a0.extract 2 ((ji12) : Int).toNat, a0.extract ((ji12) : Int).toNat a0.size, true)) else (none)) = some (r1, r2, r3) := by first | (rw [hji12] at H; exact H) | (simp only [hji12] at H ⊢; exact H)
                (try rw [hji12] at c10b0)
                (try rw [hji12] at c10b1)
                (try rw [hji12] at c10)
                (try rw [hji12] at c11b0)
                (try rw [hji12] at c11b1)
                (try rw [hji12] at c11)
                have hji12w : (IntKind.i64.wrap ((wrap64 ((wrap64 (256 * (wrap64 (bt a0 0)))) + (wrap64 (bt a0 1)))) + 2)) = ji12 := (i64_w _).trans hji12
                by_cases c13 : 0 ≤ (ji12)
                · rw [if_pos c13] at H
                  have c13b0 := eq_true c13
                  have c13b1 : decide (0 ≤ (ji12)) = true := decide_eq_true c13
                  clear c13
                  have c14b0 := eq_true (of_decide_eq_true (by first | (with_reducible assumption) | assumption) : (ji12) ≤ (a0.size : Int))
                  simp only [Option.some.injEq, Prod.mk.injEq] at H
                  obtain ⟨rfl, rfl, rfl⟩ := H
                  have p5 : 0 ≤ (0 : Int) := (by omega)
                  have q5 : 0 < a0.size := (by have : (0 : Int) < (a0.size : Int) := of_decide_eq_true (by first | (with_reducible assumption) | assumption); omega)
                  have hx5 : ∀ h : 0 < a0.size, ((a0[0]'h).toNat : Int) = bt a0 0 := bt_at a0 0
                  clear p5
                  have qi5 : (0 < (a0.size : Int)) = True := eq_true (of_decide_eq_true (by first | (with_reducible assumption) | assumption))
                  replace q5 := eq_true q5
                  have p7 : 0 ≤ (1 : Int) := (by omega)
                  have q7 : 1 < a0.size := (by have : (1 : Int) < (a0.size : Int) := of_decide_eq_true (by first | (with_reducible assumption) | assumption); omega)
                  have hx7 : ∀ h : 1 < a0.size, ((a0[1]'h).toNat : Int) = bt a0 1 := bt_at a0 1
                  clear p7
                  have qi7 : (1 < (a0.size : Int)) = True := eq_true (of_decide_eq_true (by first | (with_reducible assumption) | assumption))
                  replace q7 := eq_true q7
                  go_enter Try.func32, Try.ntmps32
                  go_wp2
                  repeat (go_quiet (fail); try go_wp2)
                  go_ret3
                  exact ⟨by first | rfl | (simp; done) | (simp only [← hji12] <;> (first | rfl | simp)) | (simp [*]; done), by repeat (first | exact Drawn0.refl _ | apply Drawn0.step)⟩
                · rw [if_neg c13] at H
                  exact absurd H (by simp)
              · rw [if_neg c11] at H
                exact absurd H (by simp)
            · rw [if_neg c10] at H
              exact absurd H (by simp)
      · rw [if_neg c6] at H
        exact absurd H (by simp)
    · rw [if_neg c4] at H
      exact absurd H (by simp)

/-! ### hopperlaw03_CodecTakes: function 8 -/
def hopperlaw03_CodecTakes.f (k : Nat) (a0 : ByteArray) (a1 : Int) : Option (Bool) := if (a0.size : Int) > 70000 then ((hopperlaw03_live.f).bind fun t142 => (some t142)) else ((codec_TakeNumber.f a0 a1).bind fun bt143 => ((hopperref03_TakeNumber.f k a0 a1).bind fun bt146 => ((codec_TakeText.f a0 a1).bind fun bt149 => ((hopperref03_TakeText.f a0 a1).bind fun bt152 => (if bt143.1 = bt146.1 then (if bt143.2.1.toList = bt146.2.1.toList then (if (bt143.2.2 == bt146.2.2) = true then (if bt149.1.toList = bt152.1.toList then (if bt149.2.1.toList = bt152.2.1.toList then (if (bt149.2.2 == bt152.2.2) = true then ((hopperlaw03_live.f).bind fun t155 => (some t155)) else (none)) else (none)) else (none)) else (none)) else (none)) else (none))))))
theorem hopperlaw03_CodecTakes.mono : ∀ a0 a1 k, LeO (hopperlaw03_CodecTakes.f k a0 a1) (hopperlaw03_CodecTakes.f (k + 1) a0 a1) := by
  intro a0 a1 k
  unfold hopperlaw03_CodecTakes.f
  repeat' first
      | (with_reducible exact hopperref03_TakeNumber.mono _ _ _)
      | (with_reducible exact LeO.refl _)
      | (with_reducible exact LeO.none _)
      | (with_reducible refine LeO.ite ?_ ?_)
      | (with_reducible refine LeO.bind ?_ (fun _ => ?_))
      | exact hopperref03_TakeNumber.mono _ _ _
      | exact LeO.none _
      | refine LeO.ite ?_ ?_
      | refine LeO.bind ?_ (fun _ => ?_)
set_option maxHeartbeats 8000000 in
set_option maxRecDepth 100000 in
theorem hopperlaw03_CodecTakes.calls (k : Nat) (a0 : ByteArray) (a1 : Int) (r : Bool) (w : World) (h : hopperlaw03_CodecTakes.f k a0 a1 = some r) :
    Calls Try.prog 8 #[.string a0, .int .i64 a1] w fun e w' => e = .returned (.bool r) ∧ Below w.heap.size w w' := by
  have HB := Aside0.mk (Below.refl w.heap.size w)
  have H : (if (a0.size : Int) > 70000 then ((hopperlaw03_live.f).bind fun t142 => (some t142)) else ((codec_TakeNumber.f a0 a1).bind fun bt143 => ((hopperref03_TakeNumber.f k a0 a1).bind fun bt146 => ((codec_TakeText.f a0 a1).bind fun bt149 => ((hopperref03_TakeText.f a0 a1).bind fun bt152 => (if bt143.1 = bt146.1 then (if bt143.2.1.toList = bt146.2.1.toList then (if (bt143.2.2 == bt146.2.2) = true then (if bt149.1.toList = bt152.1.toList then (if bt149.2.1.toList = bt152.2.1.toList then (if (bt149.2.2 == bt152.2.2) = true then ((hopperlaw03_live.f).bind fun t155 => (some t155)) else (none)) else (none)) else (none)) else (none)) else (none)) else (none))))))) = some r := h
  clear h
  by_cases c3 : (a0.size : Int) > 70000
  · rw [if_pos c3] at H
    have c3b0 : decide (70000 < (a0.size : Int)) = true := decide_eq_true c3
    have c3b1 : decide (70000 < a0.size) = true := decide_eq_true (by omega)
    clear c3
    replace H := Option.bind_eq_some_iff.mp H
    obtain ⟨t142, A40, H⟩ := H
    replace H : (some t142) = some r := H
    have A4 := Aside0.mk A40
    clear A40
    obtain rfl := Option.some.inj H
    go_enter Try.func8, Try.ntmps8
    go_wp2_with (first | ((with_reducible refine gate_callee (f := 28) rfl ?_); refine goesL_ (some 20) rfl rfl Try.func28 (by kernel_rfl) rfl #[] rfl (by (try simp only [List.map_toArray, List.map_cons, List.map_nil]); first | done | rfl | (simp only [List.length_drop, List.length_take]; rfl)) ?_; (with_reducible refine (hopperlaw03_live.calls  t142 _ A4.out).mono ?_); rintro e w5 ⟨rfl, hb⟩; refine ⟨_, rfl, ?_⟩; have n0_ := Aside0.mk (below_step (by repeat (first | (with_reducible first | exact HB.out | apply below_alloc | apply pw_below_drewN | apply below_drew1) | exact HB.out)) hb); clear HB; have HB := n0_; clear n0_; (try clear hb); (try clear hb2); (try clear hk); (try clear hi)))
    go_ret
    exact ⟨by first | rfl | (simp [errW_none, errW_some] <;> rfl) | (simp [*, errW_none, errW_some] <;> rfl), by repeat (first | (with_reducible first | exact HB.out | apply below_alloc | apply pw_below_drewN | apply below_drew1) | exact HB.out)⟩
  · rw [if_neg c3] at H
    have c3b0 : decide (70000 < (a0.size : Int)) = false := decide_eq_false c3
    have c3b1 : decide (70000 < a0.size) = false := decide_eq_false (by omega)
    clear c3
    replace H := Option.bind_eq_some_iff.mp H
    obtain ⟨⟨t143, t144, t145⟩, A60, H⟩ := H
    replace H : ((hopperref03_TakeNumber.f k a0 a1).bind fun bt146 => ((codec_TakeText.f a0 a1).bind fun bt149 => ((hopperref03_TakeText.f a0 a1).bind fun bt152 => (if t143 = bt146.1 then (if t144.toList = bt146.2.1.toList then (if (t145 == bt146.2.2) = true then (if bt149.1.toList = bt152.1.toList then (if bt149.2.1.toList = bt152.2.1.toList then (if (bt149.2.2 == bt152.2.2) = true then ((hopperlaw03_live.f).bind fun t155 => (some t155)) else (none)) else (none)) else (none)) else (none)) else (none)) else (none))))) = some r := H
    have A6 := Aside0.mk A60
    clear A60
    replace H := Option.bind_eq_some_iff.mp H
    obtain ⟨⟨t146, t147, t148⟩, A70, H⟩ := H
    replace H : ((codec_TakeText.f a0 a1).bind fun bt149 => ((hopperref03_TakeText.f a0 a1).bind fun bt152 => (if t143 = t146 then (if t144.toList = t147.toList then (if (t145 == t148) = true then (if bt149.1.toList = bt152.1.toList then (if bt149.2.1.toList = bt152.2.1.toList then (if (bt149.2.2 == bt152.2.2) = true then ((hopperlaw03_live.f).bind fun t155 => (some t155)) else (none)) else (none)) else (none)) else (none)) else (none)) else (none)))) = some r := H
    have A7 := Aside0.mk A70
    clear A70
    replace H := Option.bind_eq_some_iff.mp H
    obtain ⟨⟨t149, t150, t151⟩, A80, H⟩ := H
    replace H : ((hopperref03_TakeText.f a0 a1).bind fun bt152 => (if t143 = t146 then (if t144.toList = t147.toList then (if (t145 == t148) = true then (if t149.toList = bt152.1.toList then (if t150.toList = bt152.2.1.toList then (if (t151 == bt152.2.2) = true then ((hopperlaw03_live.f).bind fun t155 => (some t155)) else (none)) else (none)) else (none)) else (none)) else (none)) else (none))) = some r := H
    have A8 := Aside0.mk A80
    clear A80
    replace H := Option.bind_eq_some_iff.mp H
    obtain ⟨⟨t152, t153, t154⟩, A90, H⟩ := H
    replace H : (if t143 = t146 then (if t144.toList = t147.toList then (if (t145 == t148) = true then (if t149.toList = t152.toList then (if t150.toList = t153.toList then (if (t151 == t154) = true then ((hopperlaw03_live.f).bind fun t155 => (some t155)) else (none)) else (none)) else (none)) else (none)) else (none)) else (none)) = some r := H
    have A9 := Aside0.mk A90
    clear A90
    by_cases c10 : t143 = t146
    · rw [if_pos c10] at H
      have c10b0 : (t143 == t146) = true := beq_iff_eq.mpr c10
      have c10b1 : (t143 != t146) = false := bne_eq_false_iff_eq.mpr c10
      clear c10
      by_cases c11 : t144.toList = t147.toList
      · rw [if_pos c11] at H
        have c11b0 : (t144.toList == t147.toList) = true := beq_iff_eq.mpr c11
        have c11b1 : (t144.toList != t147.toList) = false := bne_eq_false_iff_eq.mpr c11
        clear c11
        by_cases c12 : (t145 == t148) = true
        · rw [if_pos c12] at H
          have c12b0 : (t145 == t148) = true := c12
          (try (have c12b1 : decide (t145 = t148) = true := by simpa using c12))
          (try (have c12b2 : (t145 == t148) = true := by simpa using c12))
          clear c12
          by_cases c13 : t149.toList = t152.toList
          · rw [if_pos c13] at H
            have c13b0 : (t149.toList == t152.toList) = true := beq_iff_eq.mpr c13
            have c13b1 : (t149.toList != t152.toList) = false := bne_eq_false_iff_eq.mpr c13
            clear c13
            by_cases c14 : t150.toList = t153.toList
            · rw [if_pos c14] at H
              have c14b0 : (t150.toList == t153.toList) = true := beq_iff_eq.mpr c14
              have c14b1 : (t150.toList != t153.toList) = false := bne_eq_false_iff_eq.mpr c14
              clear c14
              by_cases c15 : (t151 == t154) = true
              · rw [if_pos c15] at H
                have c15b0 : (t151 == t154) = true := c15
                (try (have c15b1 : decide (t151 = t154) = true := by simpa using c15))
                (try (have c15b2 : (t151 == t154) = true := by simpa using c15))
                clear c15
                replace H := Option.bind_eq_some_iff.mp H
                obtain ⟨t155, A160, H⟩ := H
                replace H : (some t155) = some r := H
                have A16 := Aside0.mk A160
                clear A160
                obtain rfl := Option.some.inj H
                go_enter Try.func8, Try.ntmps8
                go_wp2_with (first | ((with_reducible refine gate_callee (f := 29) rfl ?_); refine goesL_ (some 24) rfl rfl Try.func29 (by kernel_rfl) rfl #[.string a0, .int .i64 a1] rfl (by (try simp only [List.map_toArray, List.map_cons, List.map_nil]); first | done | rfl | (simp only [List.length_drop, List.length_take]; rfl)) ?_; (with_reducible refine (codec_TakeNumber.calls a0 a1 t143 t144 t145 _ A6.out).mono ?_); rintro e w17 ⟨rfl, hb⟩; refine ⟨_, rfl, ?_⟩; have n0_ := Aside0.mk (below_step (by repeat (first | (with_reducible first | exact HB.out | apply below_alloc | apply pw_below_drewN | apply below_drew1) | exact HB.out)) hb); clear HB; have HB := n0_; clear n0_; (try clear hb); (try clear hb2); (try clear hk); (try clear hi)) | ((with_reducible refine gate_callee (f := 30) rfl ?_); refine goesL_ (some 31) rfl rfl Try.func30 (by kernel_rfl) rfl #[.string a0, .int .i64 a1] rfl (by (try simp only [List.map_toArray, List.map_cons, List.map_nil]); first | done | rfl | (simp only [List.length_drop, List.length_take]; rfl)) ?_; (with_reducible refine (hopperref03_TakeNumber.calls k a0 a1 t146 t147 t148 _ A7.out).mono ?_); rintro e w18 ⟨rfl, hb⟩; refine ⟨_, rfl, ?_⟩; have n0_ := Aside0.mk (below_step (by repeat (first | (with_reducible first | exact HB.out | apply below_alloc | apply pw_below_drewN | apply below_drew1) | exact HB.out)) hb); clear HB; have HB := n0_; clear n0_; (try clear hb); (try clear hb2); (try clear hk); (try clear hi)) | ((with_reducible refine gate_callee (f := 31) rfl ?_); refine goesL_ (some 38) rfl rfl Try.func31 (by kernel_rfl) rfl #[.string a0, .int .i64 a1] rfl (by (try simp only [List.map_toArray, List.map_cons, List.map_nil]); first | done | rfl | (simp only [List.length_drop, List.length_take]; rfl)) ?_; (with_reducible refine (codec_TakeText.calls a0 a1 t149 t150 t151 _ A8.out).mono ?_); rintro e w19 ⟨rfl, hb⟩; refine ⟨_, rfl, ?_⟩; have n0_ := Aside0.mk (below_step (by repeat (first | (with_reducible first | exact HB.out | apply below_alloc | apply pw_below_drewN | apply below_drew1) | exact HB.out)) hb); clear HB; have HB := n0_; clear n0_; (try clear hb); (try clear hb2); (try clear hk); (try clear hi)) | ((with_reducible refine gate_callee (f := 32) rfl ?_); refine goesL_ (some 45) rfl rfl Try.func32 (by kernel_rfl) rfl #[.string a0, .int .i64 a1] rfl (by (try simp only [List.map_toArray, List.map_cons, List.map_nil]); first | done | rfl | (simp only [List.length_drop, List.length_take]; rfl)) ?_; (with_reducible refine (hopperref03_TakeText.calls a0 a1 t152 t153 t154 _ A9.out).mono ?_); rintro e w' ⟨rfl, ⟨nd, rfl⟩⟩; refine ⟨_, rfl, ?_⟩) | (go_at_call 28; (with_reducible refine (hopperlaw03_live.calls  t155 _ A16.out).mono ?_); rintro e w20 ⟨rfl, hb⟩; have n0_ := Aside0.mk (below_step (by repeat (first | (with_reducible first | exact HB.out | apply below_alloc | apply pw_below_drewN | apply below_drew1) | exact HB.out)) hb); clear HB; have HB := n0_; clear n0_; (try clear hb); (try clear hb2); (try clear hk); (try clear hi)))
                go_ret
                exact ⟨by first | rfl | (simp [errW_none, errW_some] <;> rfl) | (simp [*, errW_none, errW_some] <;> rfl), by repeat (first | (with_reducible first | exact HB.out | apply below_alloc | apply pw_below_drewN | apply below_drew1) | exact HB.out)⟩
              · rw [if_neg c15] at H
                exact absurd H (by simp)
            · rw [if_neg c14] at H
              exact absurd H (by simp)
          · rw [if_neg c13] at H
            exact absurd H (by simp)
        · rw [if_neg c12] at H
          exact absurd H (by simp)
      · rw [if_neg c11] at H
        exact absurd H (by simp)
    · rw [if_neg c10] at H
      exact absurd H (by simp)

open Go.Proofs.Ytfpomamhcjkoeab.Row (okI okB okS okL) in
/-- THE ONE PURE STATEMENT of hopperlaw03_CodecTakes. -/
def hopperlaw03_CodecTakes.Pure : Prop := ∀ (a0 : ByteArray) (a1 : Int), okS a0 → (okI .i64) a1 → ∃ k, hopperlaw03_CodecTakes.f k a0 a1 = some true

/-! ### hopperlaw03_CodecBack: function 9 -/
def hopperlaw03_CodecBack.j0 : Nat → Int → ByteArray → ByteArray → Bool → Option (Bool)
  | 0, _, _, _, _ => none
  | k + 1, x0, x1, x2, x30 => if x30 = true then ((codec_Number.f (mn x0 (-1))).bind fun t156 => (if t156.toList = ([] : List UInt8) then ((hopperlaw03_live.f).bind fun t157 => (some t157)) else (none))) else ((codec_Number.f x0).bind fun t158 => (if t158.size + x2.size ≤ 9223372036854775807 then ((codec_TakeNumber.f (t158 ++ x2) x0).bind fun bt159 => ((codec_Text.f x1).bind fun t162 => (if t162.size + x2.size ≤ 9223372036854775807 then ((codec_TakeText.f (t162 ++ x2) (x1.size : Int)).bind fun bt163 => ((codec_Number.f x0).bind fun t166 => (if t166.size + x2.size ≤ 9223372036854775807 then ((codec_TakeNumber.f (t166 ++ x2) (wrap64 (x0 - 1))).bind fun bt167 => ((codec_Text.f x1).bind fun t170 => (if t170.size + x2.size ≤ 9223372036854775807 then ((codec_TakeText.f (t170 ++ x2) (wrap64 ((x1.size : Int) - 1))).bind fun bt171 => (if bt159.2.2 = true then (if bt163.2.2 = true then (if bt159.1 = x0 then (if bt159.2.1.toList = x2.toList then (if bt163.1.toList = x1.toList then (if bt163.2.1.toList = x2.toList then (if bt167.2.2 = true then (none) else (if bt171.2.2 = true then (none) else ((hopperlaw03_live.f).bind fun t174 => (some t174)))) else (none)) else (none)) else (none)) else (none)) else (none)) else (none))) else (none)))) else (none)))) else (none)))) else (none)))
def hopperlaw03_CodecBack.f (k : Nat) (a0 : Int) (a1 : ByteArray) (a2 : ByteArray) : Option (Bool) := if (a1.size : Int) > 2000 then (hopperlaw03_CodecBack.j0 k a0 a1 a2 true) else (if (a2.size : Int) > 2000 then (hopperlaw03_CodecBack.j0 k a0 a1 a2 true) else (hopperlaw03_CodecBack.j0 k a0 a1 a2 (decide (a0 < 0))))
theorem hopperlaw03_CodecBack.mono_l : ∀ k, (∀ y0 y1 y2 y3, LeO (hopperlaw03_CodecBack.j0 k y0 y1 y2 y3) (hopperlaw03_CodecBack.j0 (k + 1) y0 y1 y2 y3))
  | 0 => fun _ _ _ _ r h => by simp [hopperlaw03_CodecBack.j0] at h
  | k + 1 => by
    have ih0 := hopperlaw03_CodecBack.mono_l k
    · intro y0 y1 y2 y3
      unfold hopperlaw03_CodecBack.j0
      repeat' first
      | (with_reducible exact ih0 _ _ _ _)
      | (with_reducible exact LeO.refl _)
      | (with_reducible exact LeO.none _)
      | (with_reducible refine LeO.ite ?_ ?_)
      | (with_reducible refine LeO.bind ?_ (fun _ => ?_))
      | exact ih0 _ _ _ _
      | exact LeO.none _
      | refine LeO.ite ?_ ?_
      | refine LeO.bind ?_ (fun _ => ?_)
theorem hopperlaw03_CodecBack.mono : ∀ a0 a1 a2 k, LeO (hopperlaw03_CodecBack.f k a0 a1 a2) (hopperlaw03_CodecBack.f (k + 1) a0 a1 a2) := by
  intro a0 a1 a2 k
  have ih0 := hopperlaw03_CodecBack.mono_l k
  unfold hopperlaw03_CodecBack.f
  repeat' first
      | (with_reducible exact ih0 _ _ _ _)
      | (with_reducible exact LeO.refl _)
      | (with_reducible exact LeO.none _)
      | (with_reducible refine LeO.ite ?_ ?_)
      | (with_reducible refine LeO.bind ?_ (fun _ => ?_))
      | exact ih0 _ _ _ _
      | exact LeO.none _
      | refine LeO.ite ?_ ?_
      | refine LeO.bind ?_ (fun _ => ?_)
set_option maxHeartbeats 8000000 in
set_option maxRecDepth 100000 in
theorem hopperlaw03_CodecBack.calls (k : Nat) (a0 : Int) (a1 : ByteArray) (a2 : ByteArray) (r : Bool) (w : World) (h : hopperlaw03_CodecBack.f k a0 a1 a2 = some r) :
    Calls Try.prog 9 #[.int .i64 a0, .string a1, .string a2] w fun e w' => e = .returned (.bool r) ∧ Below w.heap.size w w' := by
  have HB := Aside0.mk (Below.refl w.heap.size w)
  have H : (if (a1.size : Int) > 2000 then (hopperlaw03_CodecBack.j0 k a0 a1 a2 true) else (if (a2.size : Int) > 2000 then (hopperlaw03_CodecBack.j0 k a0 a1 a2 true) else (hopperlaw03_CodecBack.j0 k a0 a1 a2 (decide (a0 < 0))))) = some r := h
  clear h
  have HC4 := Aside0.mk H
  clear H
  go_enter Try.func9, Try.ntmps9
  go_upto_region 1 with (fail)
  go_cut [30] (fun v30 wc => ∃ (kq : Nat) (x30_3 : Bool), v30 = .bool x30_3 ∧ Aside0 (hopperlaw03_CodecBack.j0 kq a0 a1 a2 x30_3 = some r) ∧ Aside0 (kq ≤ k) ∧ Aside0 (Below w.heap.size w wc))
  case first =>
    have H := HC4.out
    clear HC4
    by_cases c5 : (a1.size : Int) > 2000
    · rw [if_pos c5] at H
      have c5b0 : decide (2000 < (a1.size : Int)) = true := decide_eq_true c5
      have c5b1 : decide (2000 < a1.size) = true := decide_eq_true (by omega)
      clear c5
      (first | rw [c5b0] | (simp only [i64_w, i32_w]; rw [c5b0]) | skip)
      have H' := Aside0.mk H
      clear H
      go_wp2
      go_meet
      case rel => exact ⟨_, (true), (by first | rfl | (simp; done) | (simp [*]; done)), H', ⟨by first | omega | exact Nat.le_refl _⟩, ⟨by repeat (first | (with_reducible first | exact HB.out | apply below_alloc | apply pw_below_drewN | apply below_drew1) | exact HB.out)⟩⟩
    · rw [if_neg c5] at H
      have c5b0 : decide (2000 < (a1.size : Int)) = false := decide_eq_false c5
      have c5b1 : decide (2000 < a1.size) = false := decide_eq_false (by omega)
      clear c5
      (first | rw [c5b0] | (simp only [i64_w, i32_w]; rw [c5b0]) | skip)
      by_cases c6 : (a2.size : Int) > 2000
      · rw [if_pos c6] at H
        have c6b0 : decide (2000 < (a2.size : Int)) = true := decide_eq_true c6
        have c6b1 : decide (2000 < a2.size) = true := decide_eq_true (by omega)
        clear c6
        have H' := Aside0.mk H
        clear H
        go_wp2
        go_meet
        case rel => exact ⟨_, (true), (by first | rfl | (simp; done) | (simp [*]; done)), H', ⟨by first | omega | exact Nat.le_refl _⟩, ⟨by repeat (first | (with_reducible first | exact HB.out | apply below_alloc | apply pw_below_drewN | apply below_drew1) | exact HB.out)⟩⟩
      · rw [if_neg c6] at H
        have c6b0 : decide (2000 < (a2.size : Int)) = false := decide_eq_false c6
        have c6b1 : decide (2000 < a2.size) = false := decide_eq_false (by omega)
        clear c6
        have H' := Aside0.mk H
        clear H
        go_wp2
        go_meet
        case rel => exact ⟨_, (decide (a0 < 0)), (by first | rfl | (simp; done) | (simp [*]; done)), H', ⟨by first | omega | exact Nat.le_refl _⟩, ⟨by repeat (first | (with_reducible first | exact HB.out | apply below_alloc | apply pw_below_drewN | apply below_drew1) | exact HB.out)⟩⟩
  case rest =>
    clear HC4
    try clear p2
    try clear c5
    try clear c5b0
    try clear c5b1
    try clear c6
    try clear c6b0
    try clear c6b1
    obtain ⟨kq, x30_3, rfl, HA, HJ3, HB⟩ := hcut
    cases kq with
    | zero => exact absurd HA.out (by simp [hopperlaw03_CodecBack.j0])
    | succ kj3 =>
      have H := HA.out
      clear HA
      simp only [hopperlaw03_CodecBack.j0] at H
      by_cases c7 : x30_3 = true
      · subst c7
        have H1 : ((codec_Number.f (mn a0 (-1))).bind fun t156 => (if t156.toList = ([] : List UInt8) then ((hopperlaw03_live.f).bind fun t157 => (some t157)) else (none))) = some r := by rw [if_pos rfl] at H; exact H
        clear H
        have H := H1
        clear H1
        obtain ⟨ji8, hji8⟩ : ∃ j_ : Int, (mn a0 (-1)) = j_ := ⟨_, rfl⟩
        replace H : ((codec_Number.f (ji8)).bind fun t156 => (if t156.toList = ([] : List UInt8) then ((hopperlaw03_live.f).bind fun t157 => (some t157)) else (none))) = some r := by first | (rw [hji8] at H; exact H) | (simp only [hji8] at H ⊢; exact H)
        have hji8_ : (if (-1) < a0 then (-1) else a0) = ji8 := hji8
        replace H := Option.bind_eq_some_iff.mp H
        obtain ⟨t156, A90, H⟩ := H
        replace H : (if t156.toList = ([] : List UInt8) then ((hopperlaw03_live.f).bind fun t157 => (some t157)) else (none)) = some r := H
        have A9 := Aside0.mk A90
        clear A90
        by_cases c10 : t156.toList = ([] : List UInt8)
        · rw [if_pos c10] at H
          have c10b0 : (t156.toList == ([] : List UInt8)) = true := beq_iff_eq.mpr c10
          have c10b1 : (t156.toList != ([] : List UInt8)) = false := bne_eq_false_iff_eq.mpr c10
          clear c10
          replace H := Option.bind_eq_some_iff.mp H
          obtain ⟨t157, A110, H⟩ := H
          replace H : (some t157) = some r := H
          have A11 := Aside0.mk A110
          clear A110
          obtain rfl := Option.some.inj H
          go_wp2_with (first | ((with_reducible refine gate_callee (f := 24) rfl ?_); refine goesL_ (some 33) rfl rfl Try.func24 (by kernel_rfl) rfl #[.int .i64 ji8] rfl (by (try simp only [List.map_toArray, List.map_cons, List.map_nil]); first | done | (simp only [hji8]; rfl) | rfl | (simp only [List.length_drop, List.length_take]; rfl)) ?_; (with_reducible refine (codec_Number.calls ji8 t156 _ A9.out).mono ?_); rintro e w12 ⟨rfl, hb⟩; refine ⟨_, rfl, ?_⟩; have n0_ := Aside0.mk (below_step (by repeat (first | (with_reducible first | exact HB.out | apply below_alloc | apply pw_below_drewN | apply below_drew1) | exact HB.out)) hb); clear HB; have HB := n0_; clear n0_; (try clear hb); (try clear hb2); (try clear hk); (try clear hi)) | (go_at_call 28; (with_reducible refine (hopperlaw03_live.calls  t157 _ A11.out).mono ?_); rintro e w13 ⟨rfl, hb⟩; have n0_ := Aside0.mk (below_step (by repeat (first | (with_reducible first | exact HB.out | apply below_alloc | apply pw_below_drewN | apply below_drew1) | exact HB.out)) hb); clear HB; have HB := n0_; clear n0_; (try clear hb); (try clear hb2); (try clear hk); (try clear hi)))
          go_ret
          exact ⟨by first | rfl | (simp [errW_none, errW_some] <;> rfl) | (simp only [← hji8]; first | rfl | (simp [errW_none, errW_some] <;> rfl)) | (simp [*, errW_none, errW_some] <;> rfl), by repeat (first | (with_reducible first | exact HB.out | apply below_alloc | apply pw_below_drewN | apply below_drew1) | exact HB.out)⟩
        · rw [if_neg c10] at H
          exact absurd H (by simp)
      · replace c7 := Bool.eq_false_iff.mpr c7
        subst c7
        have H1 : ((codec_Number.f a0).bind fun t158 => (if t158.size + a2.size ≤ 9223372036854775807 then ((codec_TakeNumber.f (t158 ++ a2) a0).bind fun bt159 => ((codec_Text.f a1).bind fun t162 => (if t162.size + a2.size ≤ 9223372036854775807 then ((codec_TakeText.f (t162 ++ a2) (a1.size : Int)).bind fun bt163 => ((codec_Number.f a0).bind fun t166 => (if t166.size + a2.size ≤ 9223372036854775807 then ((codec_TakeNumber.f (t166 ++ a2) (wrap64 (a0 - 1))).bind fun bt167 => ((codec_Text.f a1).bind fun t170 => (if t170.size + a2.size ≤ 9223372036854775807 then ((codec_TakeText.f (t170 ++ a2) (wrap64 ((a1.size : Int) - 1))).bind fun bt171 => (if bt159.2.2 = true then (if bt163.2.2 = true then (if bt159.1 = a0 then (if bt159.2.1.toList = a2.toList then (if bt163.1.toList = a1.toList then (if bt163.2.1.toList = a2.toList then (if bt167.2.2 = true then (none) else (if bt171.2.2 = true then (none) else ((hopperlaw03_live.f).bind fun t174 => (some t174)))) else (none)) else (none)) else (none)) else (none)) else (none)) else (none))) else (none)))) else (none)))) else (none)))) else (none))) = some r := by rw [if_neg (show ¬ (false = true) by decide)] at H; exact H
        clear H
        have H := H1
        clear H1
        replace H := Option.bind_eq_some_iff.mp H
        obtain ⟨t158, A140, H⟩ := H
        replace H : (if t158.size + a2.size ≤ 9223372036854775807 then ((codec_TakeNumber.f (t158 ++ a2) a0).bind fun bt159 => ((codec_Text.f a1).bind fun t162 => (if t162.size + a2.size ≤ 9223372036854775807 then ((codec_TakeText.f (t162 ++ a2) (a1.size : Int)).bind fun bt163 => ((codec_Number.f a0).bind fun t166 => (if t166.size + a2.size ≤ 9223372036854775807 then ((codec_TakeNumber.f (t166 ++ a2) (wrap64 (a0 - 1))).bind fun bt167 => ((codec_Text.f a1).bind fun t170 => (if t170.size + a2.size ≤ 9223372036854775807 then ((codec_TakeText.f (t170 ++ a2) (wrap64 ((a1.size : Int) - 1))).bind fun bt171 => (if bt159.2.2 = true then (if bt163.2.2 = true then (if bt159.1 = a0 then (if bt159.2.1.toList = a2.toList then (if bt163.1.toList = a1.toList then (if bt163.2.1.toList = a2.toList then (if bt167.2.2 = true then (none) else (if bt171.2.2 = true then (none) else ((hopperlaw03_live.f).bind fun t174 => (some t174)))) else (none)) else (none)) else (none)) else (none)) else (none)) else (none))) else (none)))) else (none)))) else (none)))) else (none)) = some r := H
        have A14 := Aside0.mk A140
        clear A140
        by_cases c15 : t158.size + a2.size ≤ 9223372036854775807
        · rw [if_pos c15] at H
          have c15b0 := eq_true c15
          have c15b1 : decide (t158.size + a2.size ≤ 9223372036854775807) = true := decide_eq_true c15
          try have c15b2 : (9223372036854775807 < t158.size + a2.size) = False := eq_false (Nat.not_lt.2 c15)
          replace H := Option.bind_eq_some_iff.mp H
          obtain ⟨⟨t159, t160, t161⟩, A160, H⟩ := H
          replace H : ((codec_Text.f a1).bind fun t162 => (if t162.size + a2.size ≤ 9223372036854775807 then ((codec_TakeText.f (t162 ++ a2) (a1.size : Int)).bind fun bt163 => ((codec_Number.f a0).bind fun t166 => (if t166.size + a2.size ≤ 9223372036854775807 then ((codec_TakeNumber.f (t166 ++ a2) (wrap64 (a0 - 1))).bind fun bt167 => ((codec_Text.f a1).bind fun t170 => (if t170.size + a2.size ≤ 9223372036854775807 then ((codec_TakeText.f (t170 ++ a2) (wrap64 ((a1.size : Int) - 1))).bind fun bt171 => (if t161 = true then (if bt163.2.2 = true then (if t159 = a0 then (if t160.toList = a2.toList then (if bt163.1.toList = a1.toList then (if bt163.2.1.toList = a2.toList then (if bt167.2.2 = true then (none) else (if bt171.2.2 = true then (none) else ((hopperlaw03_live.f).bind fun t174 => (some t174)))) else (none)) else (none)) else (none)) else (none)) else (none)) else (none))) else (none)))) else (none)))) else (none))) = some r := H
          have A16 := Aside0.mk A160
          clear A160
          replace H := Option.bind_eq_some_iff.mp H
          obtain ⟨t162, A170, H⟩ := H
          replace H : (if t162.size + a2.size ≤ 9223372036854775807 then ((codec_TakeText.f (t162 ++ a2) (a1.size : Int)).bind fun bt163 => ((codec_Number.f a0).bind fun t166 => (if t166.size + a2.size ≤ 9223372036854775807 then ((codec_TakeNumber.f (t166 ++ a2) (wrap64 (a0 - 1))).bind fun bt167 => ((codec_Text.f a1).bind fun t170 => (if t170.size + a2.size ≤ 9223372036854775807 then ((codec_TakeText.f (t170 ++ a2) (wrap64 ((a1.size : Int) - 1))).bind fun bt171 => (if t161 = true then (if bt163.2.2 = true then (if t159 = a0 then (if t160.toList = a2.toList then (if bt163.1.toList = a1.toList then (if bt163.2.1.toList = a2.toList then (if bt167.2.2 = true then (none) else (if bt171.2.2 = true then (none) else ((hopperlaw03_live.f).bind fun t174 => (some t174)))) else (none)) else (none)) else (none)) else (none)) else (none)) else (none))) else (none)))) else (none)))) else (none)) = some r := H
          have A17 := Aside0.mk A170
          clear A170
          by_cases c18 : t162.size + a2.size ≤ 9223372036854775807
          · rw [if_pos c18] at H
            have c18b0 := eq_true c18
            have c18b1 : decide (t162.size + a2.size ≤ 9223372036854775807) = true := decide_eq_true c18
            try have c18b2 : (9223372036854775807 < t162.size + a2.size) = False := eq_false (Nat.not_lt.2 c18)
            replace H := Option.bind_eq_some_iff.mp H
            obtain ⟨⟨t163, t164, t165⟩, A190, H⟩ := H
            replace H : ((codec_Number.f a0).bind fun t166 => (if t166.size + a2.size ≤ 9223372036854775807 then ((codec_TakeNumber.f (t166 ++ a2) (wrap64 (a0 - 1))).bind fun bt167 => ((codec_Text.f a1).bind fun t170 => (if t170.size + a2.size ≤ 9223372036854775807 then ((codec_TakeText.f (t170 ++ a2) (wrap64 ((a1.size : Int) - 1))).bind fun bt171 => (if t161 = true then (if t165 = true then (if t159 = a0 then (if t160.toList = a2.toList then (if t163.toList = a1.toList then (if t164.toList = a2.toList then (if bt167.2.2 = true then (none) else (if bt171.2.2 = true then (none) else ((hopperlaw03_live.f).bind fun t174 => (some t174)))) else (none)) else (none)) else (none)) else (none)) else (none)) else (none))) else (none)))) else (none))) = some r := H
            have A19 := Aside0.mk A190
            clear A190
            replace H := Option.bind_eq_some_iff.mp H
            obtain ⟨t166, A200, H⟩ := H
            replace H : (if t166.size + a2.size ≤ 9223372036854775807 then ((codec_TakeNumber.f (t166 ++ a2) (wrap64 (a0 - 1))).bind fun bt167 => ((codec_Text.f a1).bind fun t170 => (if t170.size + a2.size ≤ 9223372036854775807 then ((codec_TakeText.f (t170 ++ a2) (wrap64 ((a1.size : Int) - 1))).bind fun bt171 => (if t161 = true then (if t165 = true then (if t159 = a0 then (if t160.toList = a2.toList then (if t163.toList = a1.toList then (if t164.toList = a2.toList then (if bt167.2.2 = true then (none) else (if bt171.2.2 = true then (none) else ((hopperlaw03_live.f).bind fun t174 => (some t174)))) else (none)) else (none)) else (none)) else (none)) else (none)) else (none))) else (none)))) else (none)) = some r := H
            have A20 := Aside0.mk A200
            clear A200
            by_cases c21 : t166.size + a2.size ≤ 9223372036854775807
            · rw [if_pos c21] at H
              have c21b0 := eq_true c21
              have c21b1 : decide (t166.size + a2.size ≤ 9223372036854775807) = true := decide_eq_true c21
              try have c21b2 : (9223372036854775807 < t166.size + a2.size) = False := eq_false (Nat.not_lt.2 c21)
              replace H := Option.bind_eq_some_iff.mp H
              obtain ⟨⟨t167, t168, t169⟩, A220, H⟩ := H
              replace H : ((codec_Text.f a1).bind fun t170 => (if t170.size + a2.size ≤ 9223372036854775807 then ((codec_TakeText.f (t170 ++ a2) (wrap64 ((a1.size : Int) - 1))).bind fun bt171 => (if t161 = true then (if t165 = true then (if t159 = a0 then (if t160.toList = a2.toList then (if t163.toList = a1.toList then (if t164.toList = a2.toList then (if t169 = true then (none) else (if bt171.2.2 = true then (none) else ((hopperlaw03_live.f).bind fun t174 => (some t174)))) else (none)) else (none)) else (none)) else (none)) else (none)) else (none))) else (none))) = some r := H
              have A22 := Aside0.mk A220
              clear A220
              replace H := Option.bind_eq_some_iff.mp H
              obtain ⟨t170, A230, H⟩ := H
              replace H : (if t170.size + a2.size ≤ 9223372036854775807 then ((codec_TakeText.f (t170 ++ a2) (wrap64 ((a1.size : Int) - 1))).bind fun bt171 => (if t161 = true then (if t165 = true then (if t159 = a0 then (if t160.toList = a2.toList then (if t163.toList = a1.toList then (if t164.toList = a2.toList then (if t169 = true then (none) else (if bt171.2.2 = true then (none) else ((hopperlaw03_live.f).bind fun t174 => (some t174)))) else (none)) else (none)) else (none)) else (none)) else (none)) else (none))) else (none)) = some r := H
              have A23 := Aside0.mk A230
              clear A230
              by_cases c24 : t170.size + a2.size ≤ 9223372036854775807
              · rw [if_pos c24] at H
                have c24b0 := eq_true c24
                have c24b1 : decide (t170.size + a2.size ≤ 9223372036854775807) = true := decide_eq_true c24
                try have c24b2 : (9223372036854775807 < t170.size + a2.size) = False := eq_false (Nat.not_lt.2 c24)
                replace H := Option.bind_eq_some_iff.mp H
                obtain ⟨⟨t171, t172, t173⟩, A250, H⟩ := H
                replace H : (if t161 = true then (if t165 = true then (if t159 = a0 then (if t160.toList = a2.toList then (if t163.toList = a1.toList then (if t164.toList = a2.toList then (if t169 = true then (none) else (if t173 = true then (none) else ((hopperlaw03_live.f).bind fun t174 => (some t174)))) else (none)) else (none)) else (none)) else (none)) else (none)) else (none)) = some r := H
                have A25 := Aside0.mk A250
                clear A250
                by_cases c26 : t161 = true
                · subst c26
                  have H1 : (if t165 = true then (if t159 = a0 then (if t160.toList = a2.toList then (if t163.toList = a1.toList then (if t164.toList = a2.toList then (if t169 = true then (none) else (if t173 = true then (none) else ((hopperlaw03_live.f).bind fun t174 => (some t174)))) else (none)) else (none)) else (none)) else (none)) else (none)) = some r := by rw [if_pos rfl] at H; exact H
                  clear H
                  have H := H1
                  clear H1
                  by_cases c27 : t165 = true
                  · subst c27
                    have H1 : (if t159 = a0 then (if t160.toList = a2.toList then (if t163.toList = a1.toList then (if t164.toList = a2.toList then (if t169 = true then (none) else (if t173 = true then (none) else ((hopperlaw03_live.f).bind fun t174 => (some t174)))) else (none)) else (none)) else (none)) else (none)) = some r := by rw [if_pos rfl] at H; exact H
                    clear H
                    have H := H1
                    clear H1
                    by_cases c28 : t159 = a0
                    · rw [if_pos c28] at H
                      have c28b0 : (t159 == a0) = true := beq_iff_eq.mpr c28
                      have c28b1 : (t159 != a0) = false := bne_eq_false_iff_eq.mpr c28
                      clear c28
                      by_cases c29 : t160.toList = a2.toList
                      · rw [if_pos c29] at H
                        have c29b0 : (t160.toList == a2.toList) = true := beq_iff_eq.mpr c29
                        have c29b1 : (t160.toList != a2.toList) = false := bne_eq_false_iff_eq.mpr c29
                        clear c29
                        by_cases c30 : t163.toList = a1.toList
                        · rw [if_pos c30] at H
                          have c30b0 : (t163.toList == a1.toList) = true := beq_iff_eq.mpr c30
                          have c30b1 : (t163.toList != a1.toList) = false := bne_eq_false_iff_eq.mpr c30
                          clear c30
                          by_cases c31 : t164.toList = a2.toList
                          · rw [if_pos c31] at H
                            have c31b0 : (t164.toList == a2.toList) = true := beq_iff_eq.mpr c31
                            have c31b1 : (t164.toList != a2.toList) = false := bne_eq_false_iff_eq.mpr c31
                            clear c31
                            by_cases c32 : t169 = true
                            · subst c32
                              have H1 : (none) = some r := by rw [if_pos rfl] at H; exact H
                              clear H
                              have H := H1
                              clear H1
                              exact absurd H (by simp)
                            · replace c32 := Bool.eq_false_iff.mpr c32
                              subst c32
                              have H1 : (if t173 = true then (none) else ((hopperlaw03_live.f).bind fun t174 => (some t174))) = some r := by rw [if_neg (show ¬ (false = true) by decide)] at H; exact H
                              clear H
                              have H := H1
                              clear H1
                              by_cases c33 : t173 = true
                              · subst c33
                                have H1 : (none) = some r := by rw [if_pos rfl] at H; exact H
                                clear H
                                have H := H1
                                clear H1
                                exact absurd H (by simp)
                              · replace c33 := Bool.eq_false_iff.mpr c33
                                subst c33
                                have H1 : ((hopperlaw03_live.f).bind fun t174 => (some t174)) = some r := by rw [if_neg (show ¬ (false = true) by decide)] at H; exact H
                                clear H
                                have H := H1
                                clear H1
                                replace H := Option.bind_eq_some_iff.mp H
                                obtain ⟨t174, A340, H⟩ := H
                                replace H : (some t174) = some r := H
                                have A34 := Aside0.mk A340
                                clear A340
                                obtain rfl := Option.some.inj H
                                go_wp2_with (first | ((with_reducible refine gate_callee (f := 24) rfl ?_); refine goesL_ (some 40) rfl rfl Try.func24 (by kernel_rfl) rfl #[.int .i64 a0] rfl (by (try simp only [List.map_toArray, List.map_cons, List.map_nil]); first | done | rfl | (simp only [List.length_drop, List.length_take]; rfl)) ?_; (with_reducible refine (codec_Number.calls a0 t158 _ A14.out).mono ?_); rintro e w35 ⟨rfl, hb⟩; refine ⟨_, rfl, ?_⟩; have n0_ := Aside0.mk (below_step (by repeat (first | (with_reducible first | exact HB.out | apply below_alloc | apply pw_below_drewN | apply below_drew1) | exact HB.out)) hb); clear HB; have HB := n0_; clear n0_; (try clear hb); (try clear hb2); (try clear hk); (try clear hi)) | ((with_reducible refine gate_callee (f := 29) rfl ?_); refine goesL_ (some 44) rfl rfl Try.func29 (by kernel_rfl) rfl #[.string (t158 ++ a2), .int .i64 a0] rfl (by (try simp only [List.map_toArray, List.map_cons, List.map_nil]); first | done | rfl | (simp only [List.length_drop, List.length_take]; rfl)) ?_; (with_reducible refine (codec_TakeNumber.calls (t158 ++ a2) a0 t159 t160 true _ A16.out).mono ?_); rintro e w36 ⟨rfl, hb⟩; refine ⟨_, rfl, ?_⟩; have n0_ := Aside0.mk (below_step (by repeat (first | (with_reducible first | exact HB.out | apply below_alloc | apply pw_below_drewN | apply below_drew1) | exact HB.out)) hb); clear HB; have HB := n0_; clear n0_; (try clear hb); (try clear hb2); (try clear hk); (try clear hi)) | ((with_reducible refine gate_callee (f := 26) rfl ?_); refine goesL_ (some 50) rfl rfl Try.func26 (by kernel_rfl) rfl #[.string a1] rfl (by (try simp only [List.map_toArray, List.map_cons, List.map_nil]); first | done | rfl | (simp only [List.length_drop, List.length_take]; rfl)) ?_; (with_reducible refine (codec_Text.calls a1 t162 _ A17.out).mono ?_); rintro e w37 ⟨rfl, hb⟩; refine ⟨_, rfl, ?_⟩; have n0_ := Aside0.mk (below_step (by repeat (first | (with_reducible first | exact HB.out | apply below_alloc | apply pw_below_drewN | apply below_drew1) | exact HB.out)) hb); clear HB; have HB := n0_; clear n0_; (try clear hb); (try clear hb2); (try clear hk); (try clear hi)) | ((with_reducible refine gate_callee (f := 31) rfl ?_); refine goesL_ (some 55) rfl rfl Try.func31 (by kernel_rfl) rfl #[.string (t162 ++ a2), .int .i64 (a1.size : Int)] rfl (by (try simp only [List.map_toArray, List.map_cons, List.map_nil]); first | done | rfl | (simp only [List.length_drop, List.length_take]; rfl)) ?_; (with_reducible refine (codec_TakeText.calls (t162 ++ a2) (a1.size : Int) t163 t164 true _ A19.out).mono ?_); rintro e w38 ⟨rfl, hb⟩; refine ⟨_, rfl, ?_⟩; have n0_ := Aside0.mk (below_step (by repeat (first | (with_reducible first | exact HB.out | apply below_alloc | apply pw_below_drewN | apply below_drew1) | exact HB.out)) hb); clear HB; have HB := n0_; clear n0_; (try clear hb); (try clear hb2); (try clear hk); (try clear hi)) | ((with_reducible refine gate_callee (f := 24) rfl ?_); refine goesL_ (some 61) rfl rfl Try.func24 (by kernel_rfl) rfl #[.int .i64 a0] rfl (by (try simp only [List.map_toArray, List.map_cons, List.map_nil]); first | done | rfl | (simp only [List.length_drop, List.length_take]; rfl)) ?_; (with_reducible refine (codec_Number.calls a0 t166 _ A20.out).mono ?_); rintro e w39 ⟨rfl, hb⟩; refine ⟨_, rfl, ?_⟩; have n0_ := Aside0.mk (below_step (by repeat (first | (with_reducible first | exact HB.out | apply below_alloc | apply pw_below_drewN | apply below_drew1) | exact HB.out)) hb); clear HB; have HB := n0_; clear n0_; (try clear hb); (try clear hb2); (try clear hk); (try clear hi)) | ((with_reducible refine gate_callee (f := 29) rfl ?_); refine goesL_ (some 66) rfl rfl Try.func29 (by kernel_rfl) rfl #[.string (t166 ++ a2), .int .i64 (wrap64 (a0 - 1))] rfl (by (try simp only [List.map_toArray, List.map_cons, List.map_nil]); first | done | rfl | (simp only [List.length_drop, List.length_take]; rfl)) ?_; (with_reducible refine (codec_TakeNumber.calls (t166 ++ a2) (wrap64 (a0 - 1)) t167 t168 false _ A22.out).mono ?_); rintro e w40 ⟨rfl, hb⟩; refine ⟨_, rfl, ?_⟩; have n0_ := Aside0.mk (below_step (by repeat (first | (with_reducible first | exact HB.out | apply below_alloc | apply pw_below_drewN | apply below_drew1) | exact HB.out)) hb); clear HB; have HB := n0_; clear n0_; (try clear hb); (try clear hb2); (try clear hk); (try clear hi)) | ((with_reducible refine gate_callee (f := 26) rfl ?_); refine goesL_ (some 72) rfl rfl Try.func26 (by kernel_rfl) rfl #[.string a1] rfl (by (try simp only [List.map_toArray, List.map_cons, List.map_nil]); first | done | rfl | (simp only [List.length_drop, List.length_take]; rfl)) ?_; (with_reducible refine (codec_Text.calls a1 t170 _ A23.out).mono ?_); rintro e w41 ⟨rfl, hb⟩; refine ⟨_, rfl, ?_⟩; have n0_ := Aside0.mk (below_step (by repeat (first | (with_reducible first | exact HB.out | apply below_alloc | apply pw_below_drewN | apply below_drew1) | exact HB.out)) hb); clear HB; have HB := n0_; clear n0_; (try clear hb); (try clear hb2); (try clear hk); (try clear hi)) | ((with_reducible refine gate_callee (f := 31) rfl ?_); refine goesL_ (some 78) rfl rfl Try.func31 (by kernel_rfl) rfl #[.string (t170 ++ a2), .int .i64 (wrap64 ((a1.size : Int) - 1))] rfl (by (try simp only [List.map_toArray, List.map_cons, List.map_nil]); first | done | rfl | (simp only [List.length_drop, List.length_take]; rfl)) ?_; (with_reducible refine (codec_TakeText.calls (t170 ++ a2) (wrap64 ((a1.size : Int) - 1)) t171 t172 false _ A25.out).mono ?_); rintro e w42 ⟨rfl, hb⟩; refine ⟨_, rfl, ?_⟩; have n0_ := Aside0.mk (below_step (by repeat (first | (with_reducible first | exact HB.out | apply below_alloc | apply pw_below_drewN | apply below_drew1) | exact HB.out)) hb); clear HB; have HB := n0_; clear n0_; (try clear hb); (try clear hb2); (try clear hk); (try clear hi)) | (go_at_call 28; (with_reducible refine (hopperlaw03_live.calls  t174 _ A34.out).mono ?_); rintro e w43 ⟨rfl, hb⟩; have n0_ := Aside0.mk (below_step (by repeat (first | (with_reducible first | exact HB.out | apply below_alloc | apply pw_below_drewN | apply below_drew1) | exact HB.out)) hb); clear HB; have HB := n0_; clear n0_; (try clear hb); (try clear hb2); (try clear hk); (try clear hi)))
                                go_ret
                                exact ⟨by first | rfl | (simp [errW_none, errW_some] <;> rfl) | (simp [*, errW_none, errW_some] <;> rfl), by repeat (first | (with_reducible first | exact HB.out | apply below_alloc | apply pw_below_drewN | apply below_drew1) | exact HB.out)⟩
                          · rw [if_neg c31] at H
                            exact absurd H (by simp)
                        · rw [if_neg c30] at H
                          exact absurd H (by simp)
                      · rw [if_neg c29] at H
                        exact absurd H (by simp)
                    · rw [if_neg c28] at H
                      exact absurd H (by simp)
                  · replace c27 := Bool.eq_false_iff.mpr c27
                    subst c27
                    have H1 : (none) = some r := by rw [if_neg (show ¬ (false = true) by decide)] at H; exact H
                    clear H
                    have H := H1
                    clear H1
                    exact absurd H (by simp)
                · replace c26 := Bool.eq_false_iff.mpr c26
                  subst c26
                  have H1 : (none) = some r := by rw [if_neg (show ¬ (false = true) by decide)] at H; exact H
                  clear H
                  have H := H1
                  clear H1
                  exact absurd H (by simp)
              · rw [if_neg c24] at H
                exact absurd H (by simp)
            · rw [if_neg c21] at H
              exact absurd H (by simp)
          · rw [if_neg c18] at H
            exact absurd H (by simp)
        · rw [if_neg c15] at H
          exact absurd H (by simp)

open Go.Proofs.Ytfpomamhcjkoeab.Row (okI okB okS okL) in
/-- THE ONE PURE STATEMENT of hopperlaw03_CodecBack. -/
def hopperlaw03_CodecBack.Pure : Prop := ∀ (a0 : Int) (a1 : ByteArray) (a2 : ByteArray), (okI .i64) a0 → okS a1 → okS a2 → ∃ k, hopperlaw03_CodecBack.f k a0 a1 a2 = some true

/-! ### hopperlaw03_CodecOne: function 10 -/
def hopperlaw03_CodecOne.j0 : Nat → ByteArray → Int → ByteArray → ByteArray → Bool → Bool → Option (Bool)
  | 0, _, _, _, _, _, _ => none
  | k + 1, x0, x1, x8, x9, x10, x58 => if x58 = true then (none) else (if x10 = true then ((codec_Text.f x8).bind fun t183 => (if t183.size + x9.size ≤ 9223372036854775807 then (if (t183 ++ x9).toList = x0.toList then (if (x8.size : Int) ≤ x1 then ((hopperlaw03_live.f).bind fun t184 => (some t184)) else (none)) else (none)) else (none))) else (if x8.toList = ([] : List UInt8) then (if x9.toList = ([] : List UInt8) then ((hopperlaw03_live.f).bind fun t185 => (some t185)) else (none)) else (none)))
def hopperlaw03_CodecOne.f (k : Nat) (a0 : ByteArray) (a1 : Int) : Option (Bool) := if (a0.size : Int) > 2000 then ((hopperlaw03_live.f).bind fun t175 => (some t175)) else ((codec_TakeNumber.f a0 a1).bind fun bt176 => ((codec_TakeText.f a0 a1).bind fun bt179 => (if bt176.2.2 = true then ((codec_Number.f bt176.1).bind fun t182 => (if t182.size + bt176.2.1.size ≤ 9223372036854775807 then (if (t182 ++ bt176.2.1).toList = a0.toList then (if bt176.1 > a1 then (hopperlaw03_CodecOne.j0 k a0 a1 bt179.1 bt179.2.1 bt179.2.2 true) else (if bt176.1 < 0 then (hopperlaw03_CodecOne.j0 k a0 a1 bt179.1 bt179.2.1 bt179.2.2 true) else (hopperlaw03_CodecOne.j0 k a0 a1 bt179.1 bt179.2.1 bt179.2.2 false))) else (hopperlaw03_CodecOne.j0 k a0 a1 bt179.1 bt179.2.1 bt179.2.2 true)) else (none))) else (if bt176.1 = 0 then (hopperlaw03_CodecOne.j0 k a0 a1 bt179.1 bt179.2.1 bt179.2.2 (bt176.2.1.toList != ([] : List UInt8))) else (hopperlaw03_CodecOne.j0 k a0 a1 bt179.1 bt179.2.1 bt179.2.2 true)))))
theorem hopperlaw03_CodecOne.mono_l : ∀ k, (∀ y0 y1 y2 y3 y4 y5, LeO (hopperlaw03_CodecOne.j0 k y0 y1 y2 y3 y4 y5) (hopperlaw03_CodecOne.j0 (k + 1) y0 y1 y2 y3 y4 y5))
  | 0 => fun _ _ _ _ _ _ r h => by simp [hopperlaw03_CodecOne.j0] at h
  | k + 1 => by
    have ih0 := hopperlaw03_CodecOne.mono_l k
    · intro y0 y1 y2 y3 y4 y5
      unfold hopperlaw03_CodecOne.j0
      repeat' first
      | (with_reducible exact ih0 _ _ _ _ _ _)
      | (with_reducible exact LeO.refl _)
      | (with_reducible exact LeO.none _)
      | (with_reducible refine LeO.ite ?_ ?_)
      | (with_reducible refine LeO.bind ?_ (fun _ => ?_))
      | exact ih0 _ _ _ _ _ _
      | exact LeO.none _
      | refine LeO.ite ?_ ?_
      | refine LeO.bind ?_ (fun _ => ?_)
theorem hopperlaw03_CodecOne.mono : ∀ a0 a1 k, LeO (hopperlaw03_CodecOne.f k a0 a1) (hopperlaw03_CodecOne.f (k + 1) a0 a1) := by
  intro a0 a1 k
  have ih0 := hopperlaw03_CodecOne.mono_l k
  unfold hopperlaw03_CodecOne.f
  repeat' first
      | (with_reducible exact ih0 _ _ _ _ _ _)
      | (with_reducible exact LeO.refl _)
      | (with_reducible exact LeO.none _)
      | (with_reducible refine LeO.ite ?_ ?_)
      | (with_reducible refine LeO.bind ?_ (fun _ => ?_))
      | exact ih0 _ _ _ _ _ _
      | exact LeO.none _
      | refine LeO.ite ?_ ?_
      | refine LeO.bind ?_ (fun _ => ?_)
set_option maxHeartbeats 8000000 in
set_option maxRecDepth 100000 in
theorem hopperlaw03_CodecOne.calls (k : Nat) (a0 : ByteArray) (a1 : Int) (r : Bool) (w : World) (h : hopperlaw03_CodecOne.f k a0 a1 = some r) :
    Calls Try.prog 10 #[.string a0, .int .i64 a1] w fun e w' => e = .returned (.bool r) ∧ Below w.heap.size w w' := by
  have HB := Aside0.mk (Below.refl w.heap.size w)
  have H : (if (a0.size : Int) > 2000 then ((hopperlaw03_live.f).bind fun t175 => (some t175)) else ((codec_TakeNumber.f a0 a1).bind fun bt176 => ((codec_TakeText.f a0 a1).bind fun bt179 => (if bt176.2.2 = true then ((codec_Number.f bt176.1).bind fun t182 => (if t182.size + bt176.2.1.size ≤ 9223372036854775807 then (if (t182 ++ bt176.2.1).toList = a0.toList then (if bt176.1 > a1 then (hopperlaw03_CodecOne.j0 k a0 a1 bt179.1 bt179.2.1 bt179.2.2 true) else (if bt176.1 < 0 then (hopperlaw03_CodecOne.j0 k a0 a1 bt179.1 bt179.2.1 bt179.2.2 true) else (hopperlaw03_CodecOne.j0 k a0 a1 bt179.1 bt179.2.1 bt179.2.2 false))) else (hopperlaw03_CodecOne.j0 k a0 a1 bt179.1 bt179.2.1 bt179.2.2 true)) else (none))) else (if bt176.1 = 0 then (hopperlaw03_CodecOne.j0 k a0 a1 bt179.1 bt179.2.1 bt179.2.2 (bt176.2.1.toList != ([] : List UInt8))) else (hopperlaw03_CodecOne.j0 k a0 a1 bt179.1 bt179.2.1 bt179.2.2 true)))))) = some r := h
  clear h
  by_cases c3 : (a0.size : Int) > 2000
  · rw [if_pos c3] at H
    have c3b0 : decide (2000 < (a0.size : Int)) = true := decide_eq_true c3
    have c3b1 : decide (2000 < a0.size) = true := decide_eq_true (by omega)
    clear c3
    replace H := Option.bind_eq_some_iff.mp H
    obtain ⟨t175, A40, H⟩ := H
    replace H : (some t175) = some r := H
    have A4 := Aside0.mk A40
    clear A40
    obtain rfl := Option.some.inj H
    go_enter Try.func10, Try.ntmps10
    go_wp2_with (first | ((with_reducible refine gate_callee (f := 28) rfl ?_); refine goesL_ (some 14) rfl rfl Try.func28 (by kernel_rfl) rfl #[] rfl (by (try simp only [List.map_toArray, List.map_cons, List.map_nil]); first | done | rfl | (simp only [List.length_drop, List.length_take]; rfl)) ?_; (with_reducible refine (hopperlaw03_live.calls  t175 _ A4.out).mono ?_); rintro e w5 ⟨rfl, hb⟩; refine ⟨_, rfl, ?_⟩; have n0_ := Aside0.mk (below_step (by repeat (first | (with_reducible first | exact HB.out | apply below_alloc | apply pw_below_drewN | apply below_drew1) | exact HB.out)) hb); clear HB; have HB := n0_; clear n0_; (try clear hb); (try clear hb2); (try clear hk); (try clear hi)))
    go_ret
    exact ⟨by first | rfl | (simp [errW_none, errW_some] <;> rfl) | (simp [*, errW_none, errW_some] <;> rfl), by repeat (first | (with_reducible first | exact HB.out | apply below_alloc | apply pw_below_drewN | apply below_drew1) | exact HB.out)⟩
  · rw [if_neg c3] at H
    have c3b0 : decide (2000 < (a0.size : Int)) = false := decide_eq_false c3
    have c3b1 : decide (2000 < a0.size) = false := decide_eq_false (by omega)
    clear c3
    replace H := Option.bind_eq_some_iff.mp H
    obtain ⟨⟨t176, t177, t178⟩, A60, H⟩ := H
    replace H : ((codec_TakeText.f a0 a1).bind fun bt179 => (if t178 = true then ((codec_Number.f t176).bind fun t182 => (if t182.size + t177.size ≤ 9223372036854775807 then (if (t182 ++ t177).toList = a0.toList then (if t176 > a1 then (hopperlaw03_CodecOne.j0 k a0 a1 bt179.1 bt179.2.1 bt179.2.2 true) else (if t176 < 0 then (hopperlaw03_CodecOne.j0 k a0 a1 bt179.1 bt179.2.1 bt179.2.2 true) else (hopperlaw03_CodecOne.j0 k a0 a1 bt179.1 bt179.2.1 bt179.2.2 false))) else (hopperlaw03_CodecOne.j0 k a0 a1 bt179.1 bt179.2.1 bt179.2.2 true)) else (none))) else (if t176 = 0 then (hopperlaw03_CodecOne.j0 k a0 a1 bt179.1 bt179.2.1 bt179.2.2 (t177.toList != ([] : List UInt8))) else (hopperlaw03_CodecOne.j0 k a0 a1 bt179.1 bt179.2.1 bt179.2.2 true)))) = some r := H
    have A6 := Aside0.mk A60
    clear A60
    replace H := Option.bind_eq_some_iff.mp H
    obtain ⟨⟨t179, t180, t181⟩, A70, H⟩ := H
    replace H : (if t178 = true then ((codec_Number.f t176).bind fun t182 => (if t182.size + t177.size ≤ 9223372036854775807 then (if (t182 ++ t177).toList = a0.toList then (if t176 > a1 then (hopperlaw03_CodecOne.j0 k a0 a1 t179 t180 t181 true) else (if t176 < 0 then (hopperlaw03_CodecOne.j0 k a0 a1 t179 t180 t181 true) else (hopperlaw03_CodecOne.j0 k a0 a1 t179 t180 t181 false))) else (hopperlaw03_CodecOne.j0 k a0 a1 t179 t180 t181 true)) else (none))) else (if t176 = 0 then (hopperlaw03_CodecOne.j0 k a0 a1 t179 t180 t181 (t177.toList != ([] : List UInt8))) else (hopperlaw03_CodecOne.j0 k a0 a1 t179 t180 t181 true))) = some r := H
    have A7 := Aside0.mk A70
    clear A70
    have HC8 := Aside0.mk H
    clear H
    go_enter Try.func10, Try.ntmps10
    go_upto_region 5 with (first | ((with_reducible refine gate_callee (f := 29) rfl ?_); refine goesL_ (some 18) rfl rfl Try.func29 (by kernel_rfl) rfl #[.string a0, .int .i64 a1] rfl (by (try simp only [List.map_toArray, List.map_cons, List.map_nil]); first | done | rfl | (simp only [List.length_drop, List.length_take]; rfl)) ?_; (with_reducible refine (codec_TakeNumber.calls a0 a1 t176 t177 t178 _ A6.out).mono ?_); rintro e w9 ⟨rfl, hb⟩; refine ⟨_, rfl, ?_⟩; have n0_ := Aside0.mk (below_step (by repeat (first | (with_reducible first | exact HB.out | apply below_alloc | apply pw_below_drewN | apply below_drew1) | exact HB.out)) hb); clear HB; have HB := n0_; clear n0_; (try clear hb); (try clear hb2); (try clear hk); (try clear hi)) | ((with_reducible refine gate_callee (f := 31) rfl ?_); refine goesL_ (some 25) rfl rfl Try.func31 (by kernel_rfl) rfl #[.string a0, .int .i64 a1] rfl (by (try simp only [List.map_toArray, List.map_cons, List.map_nil]); first | done | rfl | (simp only [List.length_drop, List.length_take]; rfl)) ?_; (with_reducible refine (codec_TakeText.calls a0 a1 t179 t180 t181 _ A7.out).mono ?_); rintro e w10 ⟨rfl, hb⟩; refine ⟨_, rfl, ?_⟩; have n0_ := Aside0.mk (below_step (by repeat (first | (with_reducible first | exact HB.out | apply below_alloc | apply pw_below_drewN | apply below_drew1) | exact HB.out)) hb); clear HB; have HB := n0_; clear n0_; (try clear hb); (try clear hb2); (try clear hk); (try clear hi)))
    (try simp only [Act.put, List.setIfInBounds_toArray, List.set_cons_zero, List.set_cons_succ])
    go_cut [58] (fun v58 wc => ∃ (kq : Nat) (x58_7 : Bool), v58 = .bool x58_7 ∧ Aside0 (hopperlaw03_CodecOne.j0 kq a0 a1 t179 t180 t181 x58_7 = some r) ∧ Aside0 (kq ≤ k) ∧ Aside0 (Below w.heap.size w wc))
    case first =>
      have H := HC8.out
      clear HC8
      by_cases c11 : t178 = true
      · subst c11
        have H1 : ((codec_Number.f t176).bind fun t182 => (if t182.size + t177.size ≤ 9223372036854775807 then (if (t182 ++ t177).toList = a0.toList then (if t176 > a1 then (hopperlaw03_CodecOne.j0 k a0 a1 t179 t180 t181 true) else (if t176 < 0 then (hopperlaw03_CodecOne.j0 k a0 a1 t179 t180 t181 true) else (hopperlaw03_CodecOne.j0 k a0 a1 t179 t180 t181 false))) else (hopperlaw03_CodecOne.j0 k a0 a1 t179 t180 t181 true)) else (none))) = some r := by rw [if_pos rfl] at H; exact H
        clear H
        have H := H1
        clear H1
        replace H := Option.bind_eq_some_iff.mp H
        obtain ⟨t182, A120, H⟩ := H
        replace H : (if t182.size + t177.size ≤ 9223372036854775807 then (if (t182 ++ t177).toList = a0.toList then (if t176 > a1 then (hopperlaw03_CodecOne.j0 k a0 a1 t179 t180 t181 true) else (if t176 < 0 then (hopperlaw03_CodecOne.j0 k a0 a1 t179 t180 t181 true) else (hopperlaw03_CodecOne.j0 k a0 a1 t179 t180 t181 false))) else (hopperlaw03_CodecOne.j0 k a0 a1 t179 t180 t181 true)) else (none)) = some r := H
        have A12 := Aside0.mk A120
        clear A120
        by_cases c13 : t182.size + t177.size ≤ 9223372036854775807
        · rw [if_pos c13] at H
          have c13b0 := eq_true c13
          have c13b1 : decide (t182.size + t177.size ≤ 9223372036854775807) = true := decide_eq_true c13
          try have c13b2 : (9223372036854775807 < t182.size + t177.size) = False := eq_false (Nat.not_lt.2 c13)
          by_cases c14 : (t182 ++ t177).toList = a0.toList
          · rw [if_pos c14] at H
            have c14b0 : ((t182 ++ t177).toList == a0.toList) = true := beq_iff_eq.mpr c14
            have c14b1 : ((t182 ++ t177).toList != a0.toList) = false := bne_eq_false_iff_eq.mpr c14
            clear c14
            (first | rw [c14b0] | (simp only [i64_w, i32_w]; rw [c14b0]) | skip)
            by_cases c15 : t176 > a1
            · rw [if_pos c15] at H
              have c15b0 : decide (a1 < t176) = true := decide_eq_true c15
              clear c15
              have H' := Aside0.mk H
              clear H
              go_wp2_with (first | (go_at_call 24; (with_reducible refine (codec_Number.calls t176 t182 _ A12.out).mono ?_); rintro e w16 ⟨rfl, hb⟩; have n0_ := Aside0.mk (below_step (by repeat (first | (with_reducible first | exact HB.out | apply below_alloc | apply pw_below_drewN | apply below_drew1) | exact HB.out)) hb); clear HB; have HB := n0_; clear n0_; (try clear hb); (try clear hb2); (try clear hk); (try clear hi)))
              go_meet
              case rel => exact ⟨_, (true), (by first | rfl | (simp; done) | (simp [*]; done)), H', ⟨by first | omega | exact Nat.le_refl _⟩, ⟨by repeat (first | (with_reducible first | exact HB.out | apply below_alloc | apply pw_below_drewN | apply below_drew1) | exact HB.out)⟩⟩
            · rw [if_neg c15] at H
              have c15b0 : decide (a1 < t176) = false := decide_eq_false c15
              clear c15
              by_cases c17 : t176 < 0
              · rw [if_pos c17] at H
                have c17b0 : decide (t176 < 0) = true := decide_eq_true c17
                clear c17
                have H' := Aside0.mk H
                clear H
                go_wp2_with (first | (go_at_call 24; (with_reducible refine (codec_Number.calls t176 t182 _ A12.out).mono ?_); rintro e w18 ⟨rfl, hb⟩; have n0_ := Aside0.mk (below_step (by repeat (first | (with_reducible first | exact HB.out | apply below_alloc | apply pw_below_drewN | apply below_drew1) | exact HB.out)) hb); clear HB; have HB := n0_; clear n0_; (try clear hb); (try clear hb2); (try clear hk); (try clear hi)))
                go_meet
                case rel => exact ⟨_, (true), (by first | rfl | (simp; done) | (simp [*]; done)), H', ⟨by first | omega | exact Nat.le_refl _⟩, ⟨by repeat (first | (with_reducible first | exact HB.out | apply below_alloc | apply pw_below_drewN | apply below_drew1) | exact HB.out)⟩⟩
              · rw [if_neg c17] at H
                have c17b0 : decide (t176 < 0) = false := decide_eq_false c17
                clear c17
                have H' := Aside0.mk H
                clear H
                go_wp2_with (first | (go_at_call 24; (with_reducible refine (codec_Number.calls t176 t182 _ A12.out).mono ?_); rintro e w19 ⟨rfl, hb⟩; have n0_ := Aside0.mk (below_step (by repeat (first | (with_reducible first | exact HB.out | apply below_alloc | apply pw_below_drewN | apply below_drew1) | exact HB.out)) hb); clear HB; have HB := n0_; clear n0_; (try clear hb); (try clear hb2); (try clear hk); (try clear hi)))
                go_meet
                case rel => exact ⟨_, (false), (by first | rfl | (simp; done) | (simp [*]; done)), H', ⟨by first | omega | exact Nat.le_refl _⟩, ⟨by repeat (first | (with_reducible first | exact HB.out | apply below_alloc | apply pw_below_drewN | apply below_drew1) | exact HB.out)⟩⟩
          · rw [if_neg c14] at H
            have c14b0 : ((t182 ++ t177).toList == a0.toList) = false := beq_eq_false_iff_ne.mpr c14
            have c14b1 : ((t182 ++ t177).toList != a0.toList) = true := bne_iff_ne.mpr c14
            (first | rw [c14b0] | (simp only [i64_w, i32_w]; rw [c14b0]) | skip)
            have H' := Aside0.mk H
            clear H
            go_wp2_with (first | (go_at_call 24; (with_reducible refine (codec_Number.calls t176 t182 _ A12.out).mono ?_); rintro e w20 ⟨rfl, hb⟩; have n0_ := Aside0.mk (below_step (by repeat (first | (with_reducible first | exact HB.out | apply below_alloc | apply pw_below_drewN | apply below_drew1) | exact HB.out)) hb); clear HB; have HB := n0_; clear n0_; (try clear hb); (try clear hb2); (try clear hk); (try clear hi)))
            go_meet
            case rel => exact ⟨_, (true), (by first | rfl | (simp; done) | (simp [*]; done)), H', ⟨by first | omega | exact Nat.le_refl _⟩, ⟨by repeat (first | (with_reducible first | exact HB.out | apply below_alloc | apply pw_below_drewN | apply below_drew1) | exact HB.out)⟩⟩
        · rw [if_neg c13] at H
          exact absurd H (by simp)
      · replace c11 := Bool.eq_false_iff.mpr c11
        subst c11
        have H1 : (if t176 = 0 then (hopperlaw03_CodecOne.j0 k a0 a1 t179 t180 t181 (t177.toList != ([] : List UInt8))) else (hopperlaw03_CodecOne.j0 k a0 a1 t179 t180 t181 true)) = some r := by rw [if_neg (show ¬ (false = true) by decide)] at H; exact H
        clear H
        have H := H1
        clear H1
        by_cases c21 : t176 = 0
        · rw [if_pos c21] at H
          have c21b0 : (t176 == 0) = true := beq_iff_eq.mpr c21
          have c21b1 : (t176 != 0) = false := bne_eq_false_iff_eq.mpr c21
          clear c21
          have H' := Aside0.mk H
          clear H
          go_wp2
          go_meet
          case rel => exact ⟨_, ((t177.toList != ([] : List UInt8))), (by first | rfl | (simp; done) | (simp [*]; done) | (generalize (ByteArray.toList _) = l_; cases l_ <;> rfl) | (generalize (ByteArray.toList _) = l_; cases l_ <;> simp)), H', ⟨by first | omega | exact Nat.le_refl _⟩, ⟨by repeat (first | (with_reducible first | exact HB.out | apply below_alloc | apply pw_below_drewN | apply below_drew1) | exact HB.out)⟩⟩
        · rw [if_neg c21] at H
          have c21b0 : (t176 == 0) = false := beq_eq_false_iff_ne.mpr c21
          have c21b1 : (t176 != 0) = true := bne_iff_ne.mpr c21
          have H' := Aside0.mk H
          clear H
          go_wp2
          go_meet
          case rel => exact ⟨_, (true), (by first | rfl | (simp; done) | (simp [*]; done)), H', ⟨by first | omega | exact Nat.le_refl _⟩, ⟨by repeat (first | (with_reducible first | exact HB.out | apply below_alloc | apply pw_below_drewN | apply below_drew1) | exact HB.out)⟩⟩
    case rest =>
      clear HC8
      try clear c1
      try clear c2
      try clear p2
      try clear c3
      try clear c3b0
      try clear c3b1
      try clear c10
      try clear c11
      try clear c13
      try clear c13b0
      try clear c13b1
      try clear c13b2
      try clear c14
      try clear c14b0
      try clear c14b1
      try clear c15
      try clear c15b0
      try clear c17
      try clear c17b0
      try clear c21
      try clear c21b0
      try clear c21b1
      obtain ⟨kq, x58_7, rfl, HA, HJ7, HB⟩ := hcut
      cases kq with
      | zero => exact absurd HA.out (by simp [hopperlaw03_CodecOne.j0])
      | succ kj7 =>
        have H := HA.out
        clear HA
        simp only [hopperlaw03_CodecOne.j0] at H
        by_cases c22 : x58_7 = true
        · subst c22
          have H1 : (none) = some r := by rw [if_pos rfl] at H; exact H
          clear H
          have H := H1
          clear H1
          exact absurd H (by simp)
        · replace c22 := Bool.eq_false_iff.mpr c22
          subst c22
          have H1 : (if t181 = true then ((codec_Text.f t179).bind fun t183 => (if t183.size + t180.size ≤ 9223372036854775807 then (if (t183 ++ t180).toList = a0.toList then (if (t179.size : Int) ≤ a1 then ((hopperlaw03_live.f).bind fun t184 => (some t184)) else (none)) else (none)) else (none))) else (if t179.toList = ([] : List UInt8) then (if t180.toList = ([] : List UInt8) then ((hopperlaw03_live.f).bind fun t185 => (some t185)) else (none)) else (none))) = some r := by rw [if_neg (show ¬ (false = true) by decide)] at H; exact H
          clear H
          have H := H1
          clear H1
          by_cases c23 : t181 = true
          · subst c23
            have H1 : ((codec_Text.f t179).bind fun t183 => (if t183.size + t180.size ≤ 9223372036854775807 then (if (t183 ++ t180).toList = a0.toList then (if (t179.size : Int) ≤ a1 then ((hopperlaw03_live.f).bind fun t184 => (some t184)) else (none)) else (none)) else (none))) = some r := by rw [if_pos rfl] at H; exact H
            clear H
            have H := H1
            clear H1
            replace H := Option.bind_eq_some_iff.mp H
            obtain ⟨t183, A240, H⟩ := H
            replace H : (if t183.size + t180.size ≤ 9223372036854775807 then (if (t183 ++ t180).toList = a0.toList then (if (t179.size : Int) ≤ a1 then ((hopperlaw03_live.f).bind fun t184 => (some t184)) else (none)) else (none)) else (none)) = some r := H
            have A24 := Aside0.mk A240
            clear A240
            by_cases c25 : t183.size + t180.size ≤ 9223372036854775807
            · rw [if_pos c25] at H
              have c25b0 := eq_true c25
              have c25b1 : decide (t183.size + t180.size ≤ 9223372036854775807) = true := decide_eq_true c25
              try have c25b2 : (9223372036854775807 < t183.size + t180.size) = False := eq_false (Nat.not_lt.2 c25)
              by_cases c26 : (t183 ++ t180).toList = a0.toList
              · rw [if_pos c26] at H
                have c26b0 : ((t183 ++ t180).toList == a0.toList) = true := beq_iff_eq.mpr c26
                have c26b1 : ((t183 ++ t180).toList != a0.toList) = false := bne_eq_false_iff_eq.mpr c26
                clear c26
                by_cases c27 : (t179.size : Int) ≤ a1
                · rw [if_pos c27] at H
                  have c27b0 : decide ((t179.size : Int) ≤ a1) = true := decide_eq_true c27
                  clear c27
                  replace H := Option.bind_eq_some_iff.mp H
                  obtain ⟨t184, A280, H⟩ := H
                  replace H : (some t184) = some r := H
                  have A28 := Aside0.mk A280
                  clear A280
                  obtain rfl := Option.some.inj H
                  go_wp2_with (first | (go_at_call 26; (with_reducible refine (codec_Text.calls t179 t183 _ A24.out).mono ?_); rintro e w29 ⟨rfl, hb⟩; have n0_ := Aside0.mk (below_step (by repeat (first | (with_reducible first | exact HB.out | apply below_alloc | apply pw_below_drewN | apply below_drew1) | exact HB.out)) hb); clear HB; have HB := n0_; clear n0_; (try clear hb); (try clear hb2); (try clear hk); (try clear hi)) | (go_at_call 28; (with_reducible refine (hopperlaw03_live.calls  t184 _ A28.out).mono ?_); rintro e w30 ⟨rfl, hb⟩; have n0_ := Aside0.mk (below_step (by repeat (first | (with_reducible first | exact HB.out | apply below_alloc | apply pw_below_drewN | apply below_drew1) | exact HB.out)) hb); clear HB; have HB := n0_; clear n0_; (try clear hb); (try clear hb2); (try clear hk); (try clear hi)))
                  go_ret
                  exact ⟨by first | rfl | (simp [errW_none, errW_some] <;> rfl) | (simp [*, errW_none, errW_some] <;> rfl), by repeat (first | (with_reducible first | exact HB.out | apply below_alloc | apply pw_below_drewN | apply below_drew1) | exact HB.out)⟩
                · rw [if_neg c27] at H
                  exact absurd H (by simp)
              · rw [if_neg c26] at H
                exact absurd H (by simp)
            · rw [if_neg c25] at H
              exact absurd H (by simp)
          · replace c23 := Bool.eq_false_iff.mpr c23
            subst c23
            have H1 : (if t179.toList = ([] : List UInt8) then (if t180.toList = ([] : List UInt8) then ((hopperlaw03_live.f).bind fun t185 => (some t185)) else (none)) else (none)) = some r := by rw [if_neg (show ¬ (false = true) by decide)] at H; exact H
            clear H
            have H := H1
            clear H1
            by_cases c31 : t179.toList = ([] : List UInt8)
            · rw [if_pos c31] at H
              have c31b0 : (t179.toList == ([] : List UInt8)) = true := beq_iff_eq.mpr c31
              have c31b1 : (t179.toList != ([] : List UInt8)) = false := bne_eq_false_iff_eq.mpr c31
              clear c31
              by_cases c32 : t180.toList = ([] : List UInt8)
              · rw [if_pos c32] at H
                have c32b0 : (t180.toList == ([] : List UInt8)) = true := beq_iff_eq.mpr c32
                have c32b1 : (t180.toList != ([] : List UInt8)) = false := bne_eq_false_iff_eq.mpr c32
                clear c32
                replace H := Option.bind_eq_some_iff.mp H
                obtain ⟨t185, A330, H⟩ := H
                replace H : (some t185) = some r := H
                have A33 := Aside0.mk A330
                clear A330
                obtain rfl := Option.some.inj H
                go_wp2_with (first | (go_at_call 28; (with_reducible refine (hopperlaw03_live.calls  t185 _ A33.out).mono ?_); rintro e w34 ⟨rfl, hb⟩; have n0_ := Aside0.mk (below_step (by repeat (first | (with_reducible first | exact HB.out | apply below_alloc | apply pw_below_drewN | apply below_drew1) | exact HB.out)) hb); clear HB; have HB := n0_; clear n0_; (try clear hb); (try clear hb2); (try clear hk); (try clear hi)))
                go_ret
                exact ⟨by first | rfl | (simp [errW_none, errW_some] <;> rfl) | (simp [*, errW_none, errW_some] <;> rfl), by repeat (first | (with_reducible first | exact HB.out | apply below_alloc | apply pw_below_drewN | apply below_drew1) | exact HB.out)⟩
              · rw [if_neg c32] at H
                exact absurd H (by simp)
            · rw [if_neg c31] at H
              exact absurd H (by simp)

open Go.Proofs.Ytfpomamhcjkoeab.Row (okI okB okS okL) in
/-- THE ONE PURE STATEMENT of hopperlaw03_CodecOne. -/
def hopperlaw03_CodecOne.Pure : Prop := ∀ (a0 : ByteArray) (a1 : Int), okS a0 → (okI .i64) a1 → ∃ k, hopperlaw03_CodecOne.f k a0 a1 = some true

end Go.Proofs.Ytfpomamhcjkoeab.C
