/- Written by this session's own program over the kit's print: functions of Go told as plain functions, or the row of one statement; proved for every input, with no condition of ours. -/
import Derived.Test.YtihlogdmdmhefaaLx0
namespace Go.Proofs.Ytihlogdmdmhefaa.L
open Go.RowKit Go.Proofs.YtihlogdmdmhefaaW.PrintWords Go.Proofs.YtihlogdmdmhefaaW.PrintLast Go.Proofs.YtihlogdmdmhefaaW.PrintMore
attribute [local go_sem] max2_int min2_int max_two min_two max_three min_three max_four min_four   -- for this text's walks alone
set_option linter.unusedVariables false
set_option linter.unusedSimpArgs false

/-! ### hopperref03_TakeText: function 113 -/
def hopperref03_TakeText.f (a0 : ByteArray) (a1 : Int) : Option (ByteArray × ByteArray × Bool) := if (a0.size : Int) < 2 then (some ((⟨#[]⟩ : ByteArray), (⟨#[]⟩ : ByteArray), false)) else (if 0 < (a0.size : Int) then (if 1 < (a0.size : Int) then (if (wrap64 ((wrap64 (256 * (wrap64 (bt a0 0)))) + (wrap64 (bt a0 1)))) > a1 then (some ((⟨#[]⟩ : ByteArray), (⟨#[]⟩ : ByteArray), false)) else (if (wrap64 ((wrap64 (256 * (wrap64 (bt a0 0)))) + (wrap64 (bt a0 1)))) > (wrap64 ((a0.size : Int) - 2)) then (some ((⟨#[]⟩ : ByteArray), (⟨#[]⟩ : ByteArray), false)) else (if 2 ≤ (wrap64 ((wrap64 ((wrap64 (256 * (wrap64 (bt a0 0)))) + (wrap64 (bt a0 1)))) + 2)) then (if (wrap64 ((wrap64 ((wrap64 (256 * (wrap64 (bt a0 0)))) + (wrap64 (bt a0 1)))) + 2)) ≤ (a0.size : Int) then (if 0 ≤ (wrap64 ((wrap64 ((wrap64 (256 * (wrap64 (bt a0 0)))) + (wrap64 (bt a0 1)))) + 2)) then (some (a0.extract 2 ((wrap64 ((wrap64 ((wrap64 (256 * (wrap64 (bt a0 0)))) + (wrap64 (bt a0 1)))) + 2)) : Int).toNat, a0.extract ((wrap64 ((wrap64 ((wrap64 (256 * (wrap64 (bt a0 0)))) + (wrap64 (bt a0 1)))) + 2)) : Int).toNat a0.size, true)) else (none)) else (none)) else (none)))) else (none)) else (none))
set_option maxHeartbeats 8000000 in
set_option maxRecDepth 100000 in
theorem hopperref03_TakeText.calls (a0 : ByteArray) (a1 : Int) (r1 : ByteArray) (r2 : ByteArray) (r3 : Bool) (w : World) (h : hopperref03_TakeText.f a0 a1 = some (r1, r2, r3)) :
    Calls Try.prog 113 #[.string a0, .int .i64 a1] w fun e w' => e = .returned (.tuple #[.string r1, .string r2, .bool r3]) ∧ Drawn0 w w' := by
  have H : (if (a0.size : Int) < 2 then (some ((⟨#[]⟩ : ByteArray), (⟨#[]⟩ : ByteArray), false)) else (if 0 < (a0.size : Int) then (if 1 < (a0.size : Int) then (if (wrap64 ((wrap64 (256 * (wrap64 (bt a0 0)))) + (wrap64 (bt a0 1)))) > a1 then (some ((⟨#[]⟩ : ByteArray), (⟨#[]⟩ : ByteArray), false)) else (if (wrap64 ((wrap64 (256 * (wrap64 (bt a0 0)))) + (wrap64 (bt a0 1)))) > (wrap64 ((a0.size : Int) - 2)) then (some ((⟨#[]⟩ : ByteArray), (⟨#[]⟩ : ByteArray), false)) else (if 2 ≤ (wrap64 ((wrap64 ((wrap64 (256 * (wrap64 (bt a0 0)))) + (wrap64 (bt a0 1)))) + 2)) then (if (wrap64 ((wrap64 ((wrap64 (256 * (wrap64 (bt a0 0)))) + (wrap64 (bt a0 1)))) + 2)) ≤ (a0.size : Int) then (if 0 ≤ (wrap64 ((wrap64 ((wrap64 (256 * (wrap64 (bt a0 0)))) + (wrap64 (bt a0 1)))) + 2)) then (some (a0.extract 2 ((wrap64 ((wrap64 ((wrap64 (256 * (wrap64 (bt a0 0)))) + (wrap64 (bt a0 1)))) + 2)) : Int).toNat, a0.extract ((wrap64 ((wrap64 ((wrap64 (256 * (wrap64 (bt a0 0)))) + (wrap64 (bt a0 1)))) + 2)) : Int).toNat a0.size, true)) else (none)) else (none)) else (none)))) else (none)) else (none))) = some (r1, r2, r3) := h
  clear h
  by_cases c3 : (a0.size : Int) < 2
  · rw [if_pos c3] at H
    have c3b0 : decide ((a0.size : Int) < 2) = true := decide_eq_true c3
    have c3b1 : decide (a0.size < 2) = true := decide_eq_true (by omega)
    clear c3
    simp only [Option.some.injEq, Prod.mk.injEq] at H
    obtain ⟨rfl, rfl, rfl⟩ := H
    go_enter Try.func113, Try.ntmps113
    go_wp2
    repeat (go_quiet (fail); try go_wp2)
    go_ret3
    exact ⟨by first | rfl | (simp; done) | (simp [*]; done), by repeat (first | exact Drawn0.refl _ | apply Drawn0.step)⟩
  · rw [if_neg c3] at H
    have c3b0 : decide ((a0.size : Int) < 2) = false := decide_eq_false c3
    have c3b1 : decide (a0.size < 2) = false := decide_eq_false (by omega)
    clear c3
    by_cases c4 : 0 < (a0.size : Int)
    · rw [if_pos c4] at H
      have c4b0 : decide (0 < (a0.size : Int)) = true := decide_eq_true c4
      have c4b1 : decide (0 < a0.size) = true := decide_eq_true (by omega)
      clear c4
      by_cases c6 : 1 < (a0.size : Int)
      · rw [if_pos c6] at H
        have c6b0 : decide (1 < (a0.size : Int)) = true := decide_eq_true c6
        have c6b1 : decide (1 < a0.size) = true := decide_eq_true (by omega)
        clear c6
        by_cases c8 : (wrap64 ((wrap64 (256 * (wrap64 (bt a0 0)))) + (wrap64 (bt a0 1)))) > a1
        · rw [if_pos c8] at H
          have c8b0 : decide (a1 < (wrap64 ((wrap64 (256 * (wrap64 (bt a0 0)))) + (wrap64 (bt a0 1))))) = true := decide_eq_true c8
          clear c8
          simp only [Option.some.injEq, Prod.mk.injEq] at H
          obtain ⟨rfl, rfl, rfl⟩ := H
          have p5 : 0 ≤ (0 : Int) := (by omega)
          have q5 : 0 < a0.size := (by have : (0 : Int) < (a0.size : Int) := of_decide_eq_true (by first | (with_reducible assumption) | assumption); omega)
          have hx5 : ∀ h : 0 < a0.size, ((a0[0]'h).toNat : Int) = bt a0 0 := bt_at a0 0
          clear p5
          have qi5 : (0 < (a0.size : Int)) = True := eq_true (of_decide_eq_true (by first | (with_reducible assumption) | assumption))
          replace q5 := eq_true q5
          have p7 : 0 ≤ (1 : Int) := (by omega)
          have q7 : 1 < a0.size := (by have : (1 : Int) < (a0.size : Int) := of_decide_eq_true (by first | (with_reducible assumption) | assumption); omega)
          have hx7 : ∀ h : 1 < a0.size, ((a0[1]'h).toNat : Int) = bt a0 1 := bt_at a0 1
          clear p7
          have qi7 : (1 < (a0.size : Int)) = True := eq_true (of_decide_eq_true (by first | (with_reducible assumption) | assumption))
          replace q7 := eq_true q7
          go_enter Try.func113, Try.ntmps113
          go_wp2
          repeat (go_quiet (fail); try go_wp2)
          go_ret3
          exact ⟨by first | rfl | (simp; done) | (simp [*]; done), by repeat (first | exact Drawn0.refl _ | apply Drawn0.step)⟩
        · rw [if_neg c8] at H
          have c8b0 : decide (a1 < (wrap64 ((wrap64 (256 * (wrap64 (bt a0 0)))) + (wrap64 (bt a0 1))))) = false := decide_eq_false c8
          clear c8
          by_cases c9 : (wrap64 ((wrap64 (256 * (wrap64 (bt a0 0)))) + (wrap64 (bt a0 1)))) > (wrap64 ((a0.size : Int) - 2))
          · rw [if_pos c9] at H
            have c9b0 : decide ((wrap64 ((a0.size : Int) - 2)) < (wrap64 ((wrap64 (256 * (wrap64 (bt a0 0)))) + (wrap64 (bt a0 1))))) = true := decide_eq_true c9
            clear c9
            simp only [Option.some.injEq, Prod.mk.injEq] at H
            obtain ⟨rfl, rfl, rfl⟩ := H
            have p5 : 0 ≤ (0 : Int) := (by omega)
            have q5 : 0 < a0.size := (by have : (0 : Int) < (a0.size : Int) := of_decide_eq_true (by first | (with_reducible assumption) | assumption); omega)
            have hx5 : ∀ h : 0 < a0.size, ((a0[0]'h).toNat : Int) = bt a0 0 := bt_at a0 0
            clear p5
            have qi5 : (0 < (a0.size : Int)) = True := eq_true (of_decide_eq_true (by first | (with_reducible assumption) | assumption))
            replace q5 := eq_true q5
            have p7 : 0 ≤ (1 : Int) := (by omega)
            have q7 : 1 < a0.size := (by have : (1 : Int) < (a0.size : Int) := of_decide_eq_true (by first | (with_reducible assumption) | assumption); omega)
            have hx7 : ∀ h : 1 < a0.size, ((a0[1]'h).toNat : Int) = bt a0 1 := bt_at a0 1
            clear p7
            have qi7 : (1 < (a0.size : Int)) = True := eq_true (of_decide_eq_true (by first | (with_reducible assumption) | assumption))
            replace q7 := eq_true q7
            go_enter Try.func113, Try.ntmps113
            go_wp2
            repeat (go_quiet (fail); try go_wp2)
            go_ret3
            exact ⟨by first | rfl | (simp; done) | (simp [*]; done), by repeat (first | exact Drawn0.refl _ | apply Drawn0.step)⟩
          · rw [if_neg c9] at H
            have c9b0 : decide ((wrap64 ((a0.size : Int) - 2)) < (wrap64 ((wrap64 (256 * (wrap64 (bt a0 0)))) + (wrap64 (bt a0 1))))) = false := decide_eq_false c9
            clear c9
            by_cases c10 : 2 ≤ (wrap64 ((wrap64 ((wrap64 (256 * (wrap64 (bt a0 0)))) + (wrap64 (bt a0 1)))) + 2))
            · rw [if_pos c10] at H
              have c10b0 := eq_true c10
              have c10b1 : decide (2 ≤ (wrap64 ((wrap64 ((wrap64 (256 * (wrap64 (bt a0 0)))) + (wrap64 (bt a0 1)))) + 2))) = true := decide_eq_true c10
              by_cases c11 : (wrap64 ((wrap64 ((wrap64 (256 * (wrap64 (bt a0 0)))) + (wrap64 (bt a0 1)))) + 2)) ≤ (a0.size : Int)
              · rw [if_pos c11] at H
                have c11b0 := eq_true c11
                have c11b1 : decide ((wrap64 ((wrap64 ((wrap64 (256 * (wrap64 (bt a0 0)))) + (wrap64 (bt a0 1)))) + 2)) ≤ (a0.size : Int)) = true := decide_eq_true c11
                obtain ⟨ji12, hji12⟩ : ∃ j_ : Int, (wrap64 ((wrap64 ((wrap64 (256 * (wrap64 (bt a0 0)))) + (wrap64 (bt a0 1)))) + 2)) = j_ := ⟨_, rfl⟩
                replace H : (if 0 ≤ (ji12) then (some (a0.extract 2 ((ji12) : Int).toNat, a0.extract ((ji12) : Int).toNat a0.size, true)) else (none)) = some (r1, r2, r3) := by first | (rw [hji12] at H; exact H) | (simp only [hji12] at H ⊢; exact H)
                (try rw [hji12] at c10b0)
                (try rw [hji12] at c10b1)
                (try rw [hji12] at c10)
                (try rw [hji12] at c11b0)
                (try rw [hji12] at c11b1)
                (try rw [hji12] at c11)
                have hji12w : (IntKind.i64.wrap ((wrap64 ((wrap64 (256 * (wrap64 (bt a0 0)))) + (wrap64 (bt a0 1)))) + 2)) = ji12 := (i64_w _).trans hji12
                by_cases c13 : 0 ≤ (ji12)
                · rw [if_pos c13] at H
                  have c13b0 := eq_true c13
                  have c13b1 : decide (0 ≤ (ji12)) = true := decide_eq_true c13
                  clear c13
                  have c14b0 := eq_true (of_decide_eq_true (by first | (with_reducible assumption) | assumption) : (ji12) ≤ (a0.size : Int))
                  simp only [Option.some.injEq, Prod.mk.injEq] at H
                  obtain ⟨rfl, rfl, rfl⟩ := H
                  have p5 : 0 ≤ (0 : Int) := (by omega)
                  have q5 : 0 < a0.size := (by have : (0 : Int) < (a0.size : Int) := of_decide_eq_true (by first | (with_reducible assumption) | assumption); omega)
                  have hx5 : ∀ h : 0 < a0.size, ((a0[0]'h).toNat : Int) = bt a0 0 := bt_at a0 0
                  clear p5
                  have qi5 : (0 < (a0.size : Int)) = True := eq_true (of_decide_eq_true (by first | (with_reducible assumption) | assumption))
                  replace q5 := eq_true q5
                  have p7 : 0 ≤ (1 : Int) := (by omega)
                  have q7 : 1 < a0.size := (by have : (1 : Int) < (a0.size : Int) := of_decide_eq_true (by first | (with_reducible assumption) | assumption); omega)
                  have hx7 : ∀ h : 1 < a0.size, ((a0[1]'h).toNat : Int) = bt a0 1 := bt_at a0 1
                  clear p7
                  have qi7 : (1 < (a0.size : Int)) = True := eq_true (of_decide_eq_true (by first | (with_reducible assumption) | assumption))
                  replace q7 := eq_true q7
                  go_enter Try.func113, Try.ntmps113
                  go_wp2
                  repeat (go_quiet (fail); try go_wp2)
                  go_ret3
                  exact ⟨by first | rfl | (simp; done) | (simp only [← hji12] <;> (first | rfl | simp)) | (simp [*]; done), by repeat (first | exact Drawn0.refl _ | apply Drawn0.step)⟩
                · rw [if_neg c13] at H
                  exact absurd H (by simp)
              · rw [if_neg c11] at H
                exact absurd H (by simp)
            · rw [if_neg c10] at H
              exact absurd H (by simp)
      · rw [if_neg c6] at H
        exact absurd H (by simp)
    · rw [if_neg c4] at H
      exact absurd H (by simp)

end Go.Proofs.Ytihlogdmdmhefaa.L
