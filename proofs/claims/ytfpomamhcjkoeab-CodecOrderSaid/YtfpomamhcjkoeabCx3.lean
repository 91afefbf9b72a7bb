/- Written by this session's own program over the kit's print: functions of Go told as plain functions, or the row of one statement; proved for every input, with no condition of ours. -/
import Derived.Test.YtfpomamhcjkoeabCx0
import Derived.Test.YtfpomamhcjkoeabCx1
import Derived.Test.YtfpomamhcjkoeabCx2
namespace Go.Proofs.Ytfpomamhcjkoeab.C
open Go.RowKit Go.Proofs.YtfpomamhcjkoeabW.PrintWords Go.Proofs.YtfpomamhcjkoeabW.PrintLast Go.Proofs.YtfpomamhcjkoeabW.PrintMore
attribute [local go_sem] max2_int min2_int max_two min_two max_three min_three max_four min_four   -- for this text's walks alone
set_option linter.unusedVariables false
set_option linter.unusedSimpArgs false

/-! ### hopperlaw03_live: function 28 -/
def hopperlaw03_live.f  : Option (Bool) := (codec_TakeNumber.f (⟨#[2, 1, 44, 114, 101, 115, 116]⟩ : ByteArray) 300).bind fun bt116 => ((codec_TakeNumber.f (⟨#[2, 1, 44]⟩ : ByteArray) 299).bind fun bt119 => ((codec_TakeNumber.f (⟨#[2, 0, 44]⟩ : ByteArray) 999).bind fun bt122 => ((codec_TakeText.f (⟨#[0, 2, 97, 98, 99]⟩ : ByteArray) 2).bind fun bt125 => ((codec_TakeText.f (⟨#[0, 2, 97]⟩ : ByteArray) 9).bind fun bt128 => ((codec_Number.f 300).bind fun t131 => (if t131.toList = ([2, 1, 44] : List UInt8) then ((codec_Number.f 0).bind fun t132 => (if t132.toList = ([1, 0] : List UInt8) then ((codec_Number.f (-1)).bind fun t133 => (if t133.toList = ([] : List UInt8) then ((codec_Text.f (⟨#[97, 98]⟩ : ByteArray)).bind fun t134 => (if t134.toList = ([0, 2, 97, 98] : List UInt8) then (if bt116.1 = 300 then (if bt116.2.1.toList = ([114, 101, 115, 116] : List UInt8) then (if bt116.2.2 = true then (if bt119.2.2 = true then (none) else (if bt122.2.2 = true then (none) else (if bt125.1.toList = ([97, 98] : List UInt8) then (if bt125.2.1.toList = ([99] : List UInt8) then (if bt125.2.2 = true then (some (!bt128.2.2)) else (none)) else (none)) else (none)))) else (none)) else (none)) else (none)) else (none))) else (none))) else (none))) else (none)))))))
set_option maxHeartbeats 8000000 in
set_option maxRecDepth 100000 in
theorem hopperlaw03_live.calls  (r : Bool) (w : World) (h : hopperlaw03_live.f  = some r) :
    Calls Try.prog 28 #[] w fun e w' => e = .returned (.bool r) ∧ Below w.heap.size w w' := by
  have HB := Aside0.mk (Below.refl w.heap.size w)
  have H : ((codec_TakeNumber.f (⟨#[2, 1, 44, 114, 101, 115, 116]⟩ : ByteArray) 300).bind fun bt116 => ((codec_TakeNumber.f (⟨#[2, 1, 44]⟩ : ByteArray) 299).bind fun bt119 => ((codec_TakeNumber.f (⟨#[2, 0, 44]⟩ : ByteArray) 999).bind fun bt122 => ((codec_TakeText.f (⟨#[0, 2, 97, 98, 99]⟩ : ByteArray) 2).bind fun bt125 => ((codec_TakeText.f (⟨#[0, 2, 97]⟩ : ByteArray) 9).bind fun bt128 => ((codec_Number.f 300).bind fun t131 => (if t131.toList = ([2, 1, 44] : List UInt8) then ((codec_Number.f 0).bind fun t132 => (if t132.toList = ([1, 0] : List UInt8) then ((codec_Number.f (-1)).bind fun t133 => (if t133.toList = ([] : List UInt8) then ((codec_Text.f (⟨#[97, 98]⟩ : ByteArray)).bind fun t134 => (if t134.toList = ([0, 2, 97, 98] : List UInt8) then (if bt116.1 = 300 then (if bt116.2.1.toList = ([114, 101, 115, 116] : List UInt8) then (if bt116.2.2 = true then (if bt119.2.2 = true then (none) else (if bt122.2.2 = true then (none) else (if bt125.1.toList = ([97, 98] : List UInt8) then (if bt125.2.1.toList = ([99] : List UInt8) then (if bt125.2.2 = true then (some (!bt128.2.2)) else (none)) else (none)) else (none)))) else (none)) else (none)) else (none)) else (none))) else (none))) else (none))) else (none)))))))) = some r := h
  clear h
  replace H := Option.bind_eq_some_iff.mp H
  obtain ⟨⟨t116, t117, t118⟩, A10, H⟩ := H
  replace H : ((codec_TakeNumber.f (⟨#[2, 1, 44]⟩ : ByteArray) 299).bind fun bt119 => ((codec_TakeNumber.f (⟨#[2, 0, 44]⟩ : ByteArray) 999).bind fun bt122 => ((codec_TakeText.f (⟨#[0, 2, 97, 98, 99]⟩ : ByteArray) 2).bind fun bt125 => ((codec_TakeText.f (⟨#[0, 2, 97]⟩ : ByteArray) 9).bind fun bt128 => ((codec_Number.f 300).bind fun t131 => (if t131.toList = ([2, 1, 44] : List UInt8) then ((codec_Number.f 0).bind fun t132 => (if t132.toList = ([1, 0] : List UInt8) then ((codec_Number.f (-1)).bind fun t133 => (if t133.toList = ([] : List UInt8) then ((codec_Text.f (⟨#[97, 98]⟩ : ByteArray)).bind fun t134 => (if t134.toList = ([0, 2, 97, 98] : List UInt8) then (if t116 = 300 then (if t117.toList = ([114, 101, 115, 116] : List UInt8) then (if t118 = true then (if bt119.2.2 = true then (none) else (if bt122.2.2 = true then (none) else (if bt125.1.toList = ([97, 98] : List UInt8) then (if bt125.2.1.toList = ([99] : List UInt8) then (if bt125.2.2 = true then (some (!bt128.2.2)) else (none)) else (none)) else (none)))) else (none)) else (none)) else (none)) else (none))) else (none))) else (none))) else (none))))))) = some r := H
  have A1 := Aside0.mk A10
  clear A10
  replace H := Option.bind_eq_some_iff.mp H
  obtain ⟨⟨t119, t120, t121⟩, A20, H⟩ := H
  replace H : ((codec_TakeNumber.f (⟨#[2, 0, 44]⟩ : ByteArray) 999).bind fun bt122 => ((codec_TakeText.f (⟨#[0, 2, 97, 98, 99]⟩ : ByteArray) 2).bind fun bt125 => ((codec_TakeText.f (⟨#[0, 2, 97]⟩ : ByteArray) 9).bind fun bt128 => ((codec_Number.f 300).bind fun t131 => (if t131.toList = ([2, 1, 44] : List UInt8) then ((codec_Number.f 0).bind fun t132 => (if t132.toList = ([1, 0] : List UInt8) then ((codec_Number.f (-1)).bind fun t133 => (if t133.toList = ([] : List UInt8) then ((codec_Text.f (⟨#[97, 98]⟩ : ByteArray)).bind fun t134 => (if t134.toList = ([0, 2, 97, 98] : List UInt8) then (if t116 = 300 then (if t117.toList = ([114, 101, 115, 116] : List UInt8) then (if t118 = true then (if t121 = true then (none) else (if bt122.2.2 = true then (none) else (if bt125.1.toList = ([97, 98] : List UInt8) then (if bt125.2.1.toList = ([99] : List UInt8) then (if bt125.2.2 = true then (some (!bt128.2.2)) else (none)) else (none)) else (none)))) else (none)) else (none)) else (none)) else (none))) else (none))) else (none))) else (none)))))) = some r := H
  have A2 := Aside0.mk A20
  clear A20
  replace H := Option.bind_eq_some_iff.mp H
  obtain ⟨⟨t122, t123, t124⟩, A30, H⟩ := H
  replace H : ((codec_TakeText.f (⟨#[0, 2, 97, 98, 99]⟩ : ByteArray) 2).bind fun bt125 => ((codec_TakeText.f (⟨#[0, 2, 97]⟩ : ByteArray) 9).bind fun bt128 => ((codec_Number.f 300).bind fun t131 => (if t131.toList = ([2, 1, 44] : List UInt8) then ((codec_Number.f 0).bind fun t132 => (if t132.toList = ([1, 0] : List UInt8) then ((codec_Number.f (-1)).bind fun t133 => (if t133.toList = ([] : List UInt8) then ((codec_Text.f (⟨#[97, 98]⟩ : ByteArray)).bind fun t134 => (if t134.toList = ([0, 2, 97, 98] : List UInt8) then (if t116 = 300 then (if t117.toList = ([114, 101, 115, 116] : List UInt8) then (if t118 = true then (if t121 = true then (none) else (if t124 = true then (none) else (if bt125.1.toList = ([97, 98] : List UInt8) then (if bt125.2.1.toList = ([99] : List UInt8) then (if bt125.2.2 = true then (some (!bt128.2.2)) else (none)) else (none)) else (none)))) else (none)) else (none)) else (none)) else (none))) else (none))) else (none))) else (none))))) = some r := H
  have A3 := Aside0.mk A30
  clear A30
  replace H := Option.bind_eq_some_iff.mp H
  obtain ⟨⟨t125, t126, t127⟩, A40, H⟩ := H
  replace H : ((codec_TakeText.f (⟨#[0, 2, 97]⟩ : ByteArray) 9).bind fun bt128 => ((codec_Number.f 300).bind fun t131 => (if t131.toList = ([2, 1, 44] : List UInt8) then ((codec_Number.f 0).bind fun t132 => (if t132.toList = ([1, 0] : List UInt8) then ((codec_Number.f (-1)).bind fun t133 => (if t133.toList = ([] : List UInt8) then ((codec_Text.f (⟨#[97, 98]⟩ : ByteArray)).bind fun t134 => (if t134.toList = ([0, 2, 97, 98] : List UInt8) then (if t116 = 300 then (if t117.toList = ([114, 101, 115, 116] : List UInt8) then (if t118 = true then (if t121 = true then (none) else (if t124 = true then (none) else (if t125.toList = ([97, 98] : List UInt8) then (if t126.toList = ([99] : List UInt8) then (if t127 = true then (some (!bt128.2.2)) else (none)) else (none)) else (none)))) else (none)) else (none)) else (none)) else (none))) else (none))) else (none))) else (none)))) = some r := H
  have A4 := Aside0.mk A40
  clear A40
  replace H := Option.bind_eq_some_iff.mp H
  obtain ⟨⟨t128, t129, t130⟩, A50, H⟩ := H
  replace H : ((codec_Number.f 300).bind fun t131 => (if t131.toList = ([2, 1, 44] : List UInt8) then ((codec_Number.f 0).bind fun t132 => (if t132.toList = ([1, 0] : List UInt8) then ((codec_Number.f (-1)).bind fun t133 => (if t133.toList = ([] : List UInt8) then ((codec_Text.f (⟨#[97, 98]⟩ : ByteArray)).bind fun t134 => (if t134.toList = ([0, 2, 97, 98] : List UInt8) then (if t116 = 300 then (if t117.toList = ([114, 101, 115, 116] : List UInt8) then (if t118 = true then (if t121 = true then (none) else (if t124 = true then (none) else (if t125.toList = ([97, 98] : List UInt8) then (if t126.toList = ([99] : List UInt8) then (if t127 = true then (some (!t130)) else (none)) else (none)) else (none)))) else (none)) else (none)) else (none)) else (none))) else (none))) else (none))) else (none))) = some r := H
  have A5 := Aside0.mk A50
  clear A50
  replace H := Option.bind_eq_some_iff.mp H
  obtain ⟨t131, A60, H⟩ := H
  replace H : (if t131.toList = ([2, 1, 44] : List UInt8) then ((codec_Number.f 0).bind fun t132 => (if t132.toList = ([1, 0] : List UInt8) then ((codec_Number.f (-1)).bind fun t133 => (if t133.toList = ([] : List UInt8) then ((codec_Text.f (⟨#[97, 98]⟩ : ByteArray)).bind fun t134 => (if t134.toList = ([0, 2, 97, 98] : List UInt8) then (if t116 = 300 then (if t117.toList = ([114, 101, 115, 116] : List UInt8) then (if t118 = true then (if t121 = true then (none) else (if t124 = true then (none) else (if t125.toList = ([97, 98] : List UInt8) then (if t126.toList = ([99] : List UInt8) then (if t127 = true then (some (!t130)) else (none)) else (none)) else (none)))) else (none)) else (none)) else (none)) else (none))) else (none))) else (none))) else (none)) = some r := H
  have A6 := Aside0.mk A60
  clear A60
  by_cases c7 : t131.toList = ([2, 1, 44] : List UInt8)
  · rw [if_pos c7] at H
    have c7b0 : (t131.toList == ([2, 1, 44] : List UInt8)) = true := beq_iff_eq.mpr c7
    have c7b1 : (t131.toList != ([2, 1, 44] : List UInt8)) = false := bne_eq_false_iff_eq.mpr c7
    clear c7
    replace H := Option.bind_eq_some_iff.mp H
    obtain ⟨t132, A80, H⟩ := H
    replace H : (if t132.toList = ([1, 0] : List UInt8) then ((codec_Number.f (-1)).bind fun t133 => (if t133.toList = ([] : List UInt8) then ((codec_Text.f (⟨#[97, 98]⟩ : ByteArray)).bind fun t134 => (if t134.toList = ([0, 2, 97, 98] : List UInt8) then (if t116 = 300 then (if t117.toList = ([114, 101, 115, 116] : List UInt8) then (if t118 = true then (if t121 = true then (none) else (if t124 = true then (none) else (if t125.toList = ([97, 98] : List UInt8) then (if t126.toList = ([99] : List UInt8) then (if t127 = true then (some (!t130)) else (none)) else (none)) else (none)))) else (none)) else (none)) else (none)) else (none))) else (none))) else (none)) = some r := H
    have A8 := Aside0.mk A80
    clear A80
    by_cases c9 : t132.toList = ([1, 0] : List UInt8)
    · rw [if_pos c9] at H
      have c9b0 : (t132.toList == ([1, 0] : List UInt8)) = true := beq_iff_eq.mpr c9
      have c9b1 : (t132.toList != ([1, 0] : List UInt8)) = false := bne_eq_false_iff_eq.mpr c9
      clear c9
      replace H := Option.bind_eq_some_iff.mp H
      obtain ⟨t133, A100, H⟩ := H
      replace H : (if t133.toList = ([] : List UInt8) then ((codec_Text.f (⟨#[97, 98]⟩ : ByteArray)).bind fun t134 => (if t134.toList = ([0, 2, 97, 98] : List UInt8) then (if t116 = 300 then (if t117.toList = ([114, 101, 115, 116] : List UInt8) then (if t118 = true then (if t121 = true then (none) else (if t124 = true then (none) else (if t125.toList = ([97, 98] : List UInt8) then (if t126.toList = ([99] : List UInt8) then (if t127 = true then (some (!t130)) else (none)) else (none)) else (none)))) else (none)) else (none)) else (none)) else (none))) else (none)) = some r := H
      have A10 := Aside0.mk A100
      clear A100
      by_cases c11 : t133.toList = ([] : List UInt8)
      · rw [if_pos c11] at H
        have c11b0 : (t133.toList == ([] : List UInt8)) = true := beq_iff_eq.mpr c11
        have c11b1 : (t133.toList != ([] : List UInt8)) = false := bne_eq_false_iff_eq.mpr c11
        clear c11
        replace H := Option.bind_eq_some_iff.mp H
        obtain ⟨t134, A120, H⟩ := H
        replace H : (if t134.toList = ([0, 2, 97, 98] : List UInt8) then (if t116 = 300 then (if t117.toList = ([114, 101, 115, 116] : List UInt8) then (if t118 = true then (if t121 = true then (none) else (if t124 = true then (none) else (if t125.toList = ([97, 98] : List UInt8) then (if t126.toList = ([99] : List UInt8) then (if t127 = true then (some (!t130)) else (none)) else (none)) else (none)))) else (none)) else (none)) else (none)) else (none)) = some r := H
        have A12 := Aside0.mk A120
        clear A120
        by_cases c13 : t134.toList = ([0, 2, 97, 98] : List UInt8)
        · rw [if_pos c13] at H
          have c13b0 : (t134.toList == ([0, 2, 97, 98] : List UInt8)) = true := beq_iff_eq.mpr c13
          have c13b1 : (t134.toList != ([0, 2, 97, 98] : List UInt8)) = false := bne_eq_false_iff_eq.mpr c13
          clear c13
          by_cases c14 : t116 = 300
          · rw [if_pos c14] at H
            have c14b0 : (t116 == 300) = true := beq_iff_eq.mpr c14
            have c14b1 : (t116 != 300) = false := bne_eq_false_iff_eq.mpr c14
            clear c14
            by_cases c15 : t117.toList = ([114, 101, 115, 116] : List UInt8)
            · rw [if_pos c15] at H
              have c15b0 : (t117.toList == ([114, 101, 115, 116] : List UInt8)) = true := beq_iff_eq.mpr c15
              have c15b1 : (t117.toList != ([114, 101, 115, 116] : List UInt8)) = false := bne_eq_false_iff_eq.mpr c15
              clear c15
              by_cases c16 : t118 = true
              · subst c16
                have H1 : (if t121 = true then (none) else (if t124 = true then (none) else (if t125.toList = ([97, 98] : List UInt8) then (if t126.toList = ([99] : List UInt8) then (if t127 = true then (some (!t130)) else (none)) else (none)) else (none)))) = some r := by rw [if_pos rfl] at H; exact H
                clear H
                have H := H1
                clear H1
                by_cases c17 : t121 = true
                · subst c17
                  have H1 : (none) = some r := by rw [if_pos rfl] at H; exact H
                  clear H
                  have H := H1
                  clear H1
                  exact absurd H (by simp)
                · replace c17 := Bool.eq_false_iff.mpr c17
                  subst c17
                  have H1 : (if t124 = true then (none) else (if t125.toList = ([97, 98] : List UInt8) then (if t126.toList = ([99] : List UInt8) then (if t127 = true then (some (!t130)) else (none)) else (none)) else (none))) = some r := by rw [if_neg (show ¬ (false = true) by decide)] at H; exact H
                  clear H
                  have H := H1
                  clear H1
                  by_cases c18 : t124 = true
                  · subst c18
                    have H1 : (none) = some r := by rw [if_pos rfl] at H; exact H
                    clear H
                    have H := H1
                    clear H1
                    exact absurd H (by simp)
                  · replace c18 := Bool.eq_false_iff.mpr c18
                    subst c18
                    have H1 : (if t125.toList = ([97, 98] : List UInt8) then (if t126.toList = ([99] : List UInt8) then (if t127 = true then (some (!t130)) else (none)) else (none)) else (none)) = some r := by rw [if_neg (show ¬ (false = true) by decide)] at H; exact H
                    clear H
                    have H := H1
                    clear H1
                    by_cases c19 : t125.toList = ([97, 98] : List UInt8)
                    · rw [if_pos c19] at H
                      have c19b0 : (t125.toList == ([97, 98] : List UInt8)) = true := beq_iff_eq.mpr c19
                      have c19b1 : (t125.toList != ([97, 98] : List UInt8)) = false := bne_eq_false_iff_eq.mpr c19
                      clear c19
                      by_cases c20 : t126.toList = ([99] : List UInt8)
                      · rw [if_pos c20] at H
                        have c20b0 : (t126.toList == ([99] : List UInt8)) = true := beq_iff_eq.mpr c20
                        have c20b1 : (t126.toList != ([99] : List UInt8)) = false := bne_eq_false_iff_eq.mpr c20
                        clear c20
                        by_cases c21 : t127 = true
                        · subst c21
                          have H1 : (some (!t130)) = some r := by rw [if_pos rfl] at H; exact H
                          clear H
                          have H := H1
                          clear H1
                          obtain rfl := Option.some.inj H
                          go_enter Try.func28, Try.ntmps28
                          go_wp2_with (first | ((with_reducible refine gate_callee (f := 29) rfl ?_); refine goesL_ (some 17) rfl rfl Try.func29 (by kernel_rfl) rfl #[.string (⟨#[2, 1, 44, 114, 101, 115, 116]⟩ : ByteArray), .int .i64 300] rfl (by (try simp only [List.map_toArray, List.map_cons, List.map_nil]); first | done | rfl | (simp only [List.length_drop, List.length_take]; rfl)) ?_; (with_reducible refine (codec_TakeNumber.calls (⟨#[2, 1, 44, 114, 101, 115, 116]⟩ : ByteArray) 300 t116 t117 true _ A1.out).mono ?_); rintro e w22 ⟨rfl, hb⟩; refine ⟨_, rfl, ?_⟩; have n0_ := Aside0.mk (below_step (by repeat (first | (with_reducible first | exact HB.out | apply below_alloc | apply pw_below_drewN | apply below_drew1) | exact HB.out)) hb); clear HB; have HB := n0_; clear n0_; (try clear hb); (try clear hb2); (try clear hk); (try clear hi)) | ((with_reducible refine gate_callee (f := 29) rfl ?_); refine goesL_ (some 22) rfl rfl Try.func29 (by kernel_rfl) rfl #[.string (⟨#[2, 1, 44]⟩ : ByteArray), .int .i64 299] rfl (by (try simp only [List.map_toArray, List.map_cons, List.map_nil]); first | done | rfl | (simp only [List.length_drop, List.length_take]; rfl)) ?_; (with_reducible refine (codec_TakeNumber.calls (⟨#[2, 1, 44]⟩ : ByteArray) 299 t119 t120 false _ A2.out).mono ?_); rintro e w23 ⟨rfl, hb⟩; refine ⟨_, rfl, ?_⟩; have n0_ := Aside0.mk (below_step (by repeat (first | (with_reducible first | exact HB.out | apply below_alloc | apply pw_below_drewN | apply below_drew1) | exact HB.out)) hb); clear HB; have HB := n0_; clear n0_; (try clear hb); (try clear hb2); (try clear hk); (try clear hi)) | ((with_reducible refine gate_callee (f := 29) rfl ?_); refine goesL_ (some 27) rfl rfl Try.func29 (by kernel_rfl) rfl #[.string (⟨#[2, 0, 44]⟩ : ByteArray), .int .i64 999] rfl (by (try simp only [List.map_toArray, List.map_cons, List.map_nil]); first | done | rfl | (simp only [List.length_drop, List.length_take]; rfl)) ?_; (with_reducible refine (codec_TakeNumber.calls (⟨#[2, 0, 44]⟩ : ByteArray) 999 t122 t123 false _ A3.out).mono ?_); rintro e w24 ⟨rfl, hb⟩; refine ⟨_, rfl, ?_⟩; have n0_ := Aside0.mk (below_step (by repeat (first | (with_reducible first | exact HB.out | apply below_alloc | apply pw_below_drewN | apply below_drew1) | exact HB.out)) hb); clear HB; have HB := n0_; clear n0_; (try clear hb); (try clear hb2); (try clear hk); (try clear hi)) | ((with_reducible refine gate_callee (f := 31) rfl ?_); refine goesL_ (some 32) rfl rfl Try.func31 (by kernel_rfl) rfl #[.string (⟨#[0, 2, 97, 98, 99]⟩ : ByteArray), .int .i64 2] rfl (by (try simp only [List.map_toArray, List.map_cons, List.map_nil]); first | done | rfl | (simp only [List.length_drop, List.length_take]; rfl)) ?_; (with_reducible refine (codec_TakeText.calls (⟨#[0, 2, 97, 98, 99]⟩ : ByteArray) 2 t125 t126 true _ A4.out).mono ?_); rintro e w25 ⟨rfl, hb⟩; refine ⟨_, rfl, ?_⟩; have n0_ := Aside0.mk (below_step (by repeat (first | (with_reducible first | exact HB.out | apply below_alloc | apply pw_below_drewN | apply below_drew1) | exact HB.out)) hb); clear HB; have HB := n0_; clear n0_; (try clear hb); (try clear hb2); (try clear hk); (try clear hi)) | ((with_reducible refine gate_callee (f := 31) rfl ?_); refine goesL_ (some 37) rfl rfl Try.func31 (by kernel_rfl) rfl #[.string (⟨#[0, 2, 97]⟩ : ByteArray), .int .i64 9] rfl (by (try simp only [List.map_toArray, List.map_cons, List.map_nil]); first | done | rfl | (simp only [List.length_drop, List.length_take]; rfl)) ?_; (with_reducible refine (codec_TakeText.calls (⟨#[0, 2, 97]⟩ : ByteArray) 9 t128 t129 t130 _ A5.out).mono ?_); rintro e w26 ⟨rfl, hb⟩; refine ⟨_, rfl, ?_⟩; have n0_ := Aside0.mk (below_step (by repeat (first | (with_reducible first | exact HB.out | apply below_alloc | apply pw_below_drewN | apply below_drew1) | exact HB.out)) hb); clear HB; have HB := n0_; clear n0_; (try clear hb); (try clear hb2); (try clear hk); (try clear hi)) | ((with_reducible refine gate_callee (f := 24) rfl ?_); refine goesL_ (some 41) rfl rfl Try.func24 (by kernel_rfl) rfl #[.int .i64 300] rfl (by (try simp only [List.map_toArray, List.map_cons, List.map_nil]); first | done | rfl | (simp only [List.length_drop, List.length_take]; rfl)) ?_; (with_reducible refine (codec_Number.calls 300 t131 _ A6.out).mono ?_); rintro e w27 ⟨rfl, hb⟩; refine ⟨_, rfl, ?_⟩; have n0_ := Aside0.mk (below_step (by repeat (first | (with_reducible first | exact HB.out | apply below_alloc | apply pw_below_drewN | apply below_drew1) | exact HB.out)) hb); clear HB; have HB := n0_; clear n0_; (try clear hb); (try clear hb2); (try clear hk); (try clear hi)) | (go_at_call 24; (with_reducible refine (codec_Number.calls 0 t132 _ A8.out).mono ?_); rintro e w28 ⟨rfl, hb⟩; have n0_ := Aside0.mk (below_step (by repeat (first | (with_reducible first | exact HB.out | apply below_alloc | apply pw_below_drewN | apply below_drew1) | exact HB.out)) hb); clear HB; have HB := n0_; clear n0_; (try clear hb); (try clear hb2); (try clear hk); (try clear hi)) | (go_at_call 24; (with_reducible refine (codec_Number.calls (-1) t133 _ A10.out).mono ?_); rintro e w29 ⟨rfl, hb⟩; have n0_ := Aside0.mk (below_step (by repeat (first | (with_reducible first | exact HB.out | apply below_alloc | apply pw_below_drewN | apply below_drew1) | exact HB.out)) hb); clear HB; have HB := n0_; clear n0_; (try clear hb); (try clear hb2); (try clear hk); (try clear hi)) | (go_at_call 26; (with_reducible refine (codec_Text.calls (⟨#[97, 98]⟩ : ByteArray) t134 _ A12.out).mono ?_); rintro e w30 ⟨rfl, hb⟩; have n0_ := Aside0.mk (below_step (by repeat (first | (with_reducible first | exact HB.out | apply below_alloc | apply pw_below_drewN | apply below_drew1) | exact HB.out)) hb); clear HB; have HB := n0_; clear n0_; (try clear hb); (try clear hb2); (try clear hk); (try clear hi)))
                          go_ret
                          exact ⟨by first | rfl | (simp [errW_none, errW_some] <;> rfl) | (simp [*, errW_none, errW_some] <;> rfl), by repeat (first | (with_reducible first | exact HB.out | apply below_alloc | apply pw_below_drewN | apply below_drew1) | exact HB.out)⟩
                        · replace c21 := Bool.eq_false_iff.mpr c21
                          subst c21
                          have H1 : (none) = some r := by rw [if_neg (show ¬ (false = true) by decide)] at H; exact H
                          clear H
                          have H := H1
                          clear H1
                          exact absurd H (by simp)
                      · rw [if_neg c20] at H
                        exact absurd H (by simp)
                    · rw [if_neg c19] at H
                      exact absurd H (by simp)
              · replace c16 := Bool.eq_false_iff.mpr c16
                subst c16
                have H1 : (none) = some r := by rw [if_neg (show ¬ (false = true) by decide)] at H; exact H
                clear H
                have H := H1
                clear H1
                exact absurd H (by simp)
            · rw [if_neg c15] at H
              exact absurd H (by simp)
          · rw [if_neg c14] at H
            exact absurd H (by simp)
        · rw [if_neg c13] at H
          exact absurd H (by simp)
      · rw [if_neg c11] at H
        exact absurd H (by simp)
    · rw [if_neg c9] at H
      exact absurd H (by simp)
  · rw [if_neg c7] at H
    exact absurd H (by simp)

/-! ### hopperlaw03_CodecWrites: function 7 -/
def hopperlaw03_CodecWrites.f (k : Nat) (a0 : Int) (a1 : ByteArray) : Option (Bool) := if (a1.size : Int) > 70000 then ((hopperlaw03_live.f).bind fun t135 => (some t135)) else ((codec_Number.f a0).bind fun t136 => ((hopperref03_Number.f k a0).bind fun t137 => (if t136.toList = t137.toList then ((codec_Text.f a1).bind fun t138 => ((hopperref03_Text.f a1).bind fun t139 => (if t138.toList = t139.toList then ((hopperlaw03_live.f).bind fun t140 => (some t140)) else (none)))) else (none))))
theorem hopperlaw03_CodecWrites.mono : ∀ a0 a1 k, LeO (hopperlaw03_CodecWrites.f k a0 a1) (hopperlaw03_CodecWrites.f (k + 1) a0 a1) := by
  intro a0 a1 k
  unfold hopperlaw03_CodecWrites.f
  repeat' first
      | (with_reducible exact hopperref03_Number.mono _ _)
      | (with_reducible exact LeO.refl _)
      | (with_reducible exact LeO.none _)
      | (with_reducible refine LeO.ite ?_ ?_)
      | (with_reducible refine LeO.bind ?_ (fun _ => ?_))
      | exact hopperref03_Number.mono _ _
      | exact LeO.none _
      | refine LeO.ite ?_ ?_
      | refine LeO.bind ?_ (fun _ => ?_)
set_option maxHeartbeats 8000000 in
set_option maxRecDepth 100000 in
theorem hopperlaw03_CodecWrites.calls (k : Nat) (a0 : Int) (a1 : ByteArray) (r : Bool) (w : World) (h : hopperlaw03_CodecWrites.f k a0 a1 = some r) :
    Calls Try.prog 7 #[.int .i64 a0, .string a1] w fun e w' => e = .returned (.bool r) ∧ Below w.heap.size w w' := by
  have HB := Aside0.mk (Below.refl w.heap.size w)
  have H : (if (a1.size : Int) > 70000 then ((hopperlaw03_live.f).bind fun t135 => (some t135)) else ((codec_Number.f a0).bind fun t136 => ((hopperref03_Number.f k a0).bind fun t137 => (if t136.toList = t137.toList then ((codec_Text.f a1).bind fun t138 => ((hopperref03_Text.f a1).bind fun t139 => (if t138.toList = t139.toList then ((hopperlaw03_live.f).bind fun t140 => (some t140)) else (none)))) else (none))))) = some r := h
  clear h
  by_cases c3 : (a1.size : Int) > 70000
  · rw [if_pos c3] at H
    have c3b0 : decide (70000 < (a1.size : Int)) = true := decide_eq_true c3
    have c3b1 : decide (70000 < a1.size) = true := decide_eq_true (by omega)
    clear c3
    replace H := Option.bind_eq_some_iff.mp H
    obtain ⟨t135, A40, H⟩ := H
    replace H : (some t135) = some r := H
    have A4 := Aside0.mk A40
    clear A40
    obtain rfl := Option.some.inj H
    go_enter Try.func7, Try.ntmps7
    go_wp2_with (first | (go_at_call 28; (with_reducible refine (hopperlaw03_live.calls  t135 _ A4.out).mono ?_); rintro e w5 ⟨rfl, hb⟩; have n0_ := Aside0.mk (below_step (by repeat (first | (with_reducible first | exact HB.out | apply below_alloc | apply pw_below_drewN | apply below_drew1) | exact HB.out)) hb); clear HB; have HB := n0_; clear n0_; (try clear hb); (try clear hb2); (try clear hk); (try clear hi)))
    go_ret
    exact ⟨by first | rfl | (simp [errW_none, errW_some] <;> rfl) | (simp [*, errW_none, errW_some] <;> rfl), by repeat (first | (with_reducible first | exact HB.out | apply below_alloc | apply pw_below_drewN | apply below_drew1) | exact HB.out)⟩
  · rw [if_neg c3] at H
    have c3b0 : decide (70000 < (a1.size : Int)) = false := decide_eq_false c3
    have c3b1 : decide (70000 < a1.size) = false := decide_eq_false (by omega)
    clear c3
    replace H := Option.bind_eq_some_iff.mp H
    obtain ⟨t136, A60, H⟩ := H
    replace H : ((hopperref03_Number.f k a0).bind fun t137 => (if t136.toList = t137.toList then ((codec_Text.f a1).bind fun t138 => ((hopperref03_Text.f a1).bind fun t139 => (if t138.toList = t139.toList then ((hopperlaw03_live.f).bind fun t140 => (some t140)) else (none)))) else (none))) = some r := H
    have A6 := Aside0.mk A60
    clear A60
    replace H := Option.bind_eq_some_iff.mp H
    obtain ⟨t137, A70, H⟩ := H
    replace H : (if t136.toList = t137.toList then ((codec_Text.f a1).bind fun t138 => ((hopperref03_Text.f a1).bind fun t139 => (if t138.toList = t139.toList then ((hopperlaw03_live.f).bind fun t140 => (some t140)) else (none)))) else (none)) = some r := H
    have A7 := Aside0.mk A70
    clear A70
    by_cases c8 : t136.toList = t137.toList
    · rw [if_pos c8] at H
      have c8b0 : (t136.toList == t137.toList) = true := beq_iff_eq.mpr c8
      have c8b1 : (t136.toList != t137.toList) = false := bne_eq_false_iff_eq.mpr c8
      clear c8
      replace H := Option.bind_eq_some_iff.mp H
      obtain ⟨t138, A90, H⟩ := H
      replace H : ((hopperref03_Text.f a1).bind fun t139 => (if t138.toList = t139.toList then ((hopperlaw03_live.f).bind fun t140 => (some t140)) else (none))) = some r := H
      have A9 := Aside0.mk A90
      clear A90
      replace H := Option.bind_eq_some_iff.mp H
      obtain ⟨t139, A100, H⟩ := H
      replace H : (if t138.toList = t139.toList then ((hopperlaw03_live.f).bind fun t140 => (some t140)) else (none)) = some r := H
      have A10 := Aside0.mk A100
      clear A100
      by_cases c11 : t138.toList = t139.toList
      · rw [if_pos c11] at H
        have c11b0 : (t138.toList == t139.toList) = true := beq_iff_eq.mpr c11
        have c11b1 : (t138.toList != t139.toList) = false := bne_eq_false_iff_eq.mpr c11
        clear c11
        replace H := Option.bind_eq_some_iff.mp H
        obtain ⟨t140, A120, H⟩ := H
        replace H : (some t140) = some r := H
        have A12 := Aside0.mk A120
        clear A120
        obtain rfl := Option.some.inj H
        go_enter Try.func7, Try.ntmps7
        go_wp2_with (first | (go_at_call 24; (with_reducible refine (codec_Number.calls a0 t136 _ A6.out).mono ?_); rintro e w13 ⟨rfl, hb⟩; have n0_ := Aside0.mk (below_step (by repeat (first | (with_reducible first | exact HB.out | apply below_alloc | apply pw_below_drewN | apply below_drew1) | exact HB.out)) hb); clear HB; have HB := n0_; clear n0_; (try clear hb); (try clear hb2); (try clear hk); (try clear hi)) | (go_at_call 25; (with_reducible refine (hopperref03_Number.calls k a0 t137 _ A7.out).mono ?_); rintro e w14 ⟨rfl, hb⟩; have n0_ := Aside0.mk (below_step (by repeat (first | (with_reducible first | exact HB.out | apply below_alloc | apply pw_below_drewN | apply below_drew1) | exact HB.out)) hb); clear HB; have HB := n0_; clear n0_; (try clear hb); (try clear hb2); (try clear hk); (try clear hi)) | (go_at_call 26; (with_reducible refine (codec_Text.calls a1 t138 _ A9.out).mono ?_); rintro e w15 ⟨rfl, hb⟩; have n0_ := Aside0.mk (below_step (by repeat (first | (with_reducible first | exact HB.out | apply below_alloc | apply pw_below_drewN | apply below_drew1) | exact HB.out)) hb); clear HB; have HB := n0_; clear n0_; (try clear hb); (try clear hb2); (try clear hk); (try clear hi)) | (go_at_call 27; (with_reducible refine (hopperref03_Text.calls a1 t139 _ A10.out).mono ?_); rintro e w16 ⟨rfl, hb⟩; have n0_ := Aside0.mk (below_step (by repeat (first | (with_reducible first | exact HB.out | apply below_alloc | apply pw_below_drewN | apply below_drew1) | exact HB.out)) hb); clear HB; have HB := n0_; clear n0_; (try clear hb); (try clear hb2); (try clear hk); (try clear hi)) | (go_at_call 28; (with_reducible refine (hopperlaw03_live.calls  t140 _ A12.out).mono ?_); rintro e w17 ⟨rfl, hb⟩; have n0_ := Aside0.mk (below_step (by repeat (first | (with_reducible first | exact HB.out | apply below_alloc | apply pw_below_drewN | apply below_drew1) | exact HB.out)) hb); clear HB; have HB := n0_; clear n0_; (try clear hb); (try clear hb2); (try clear hk); (try clear hi)))
        go_ret
        exact ⟨by first | rfl | (simp [errW_none, errW_some] <;> rfl) | (simp [*, errW_none, errW_some] <;> rfl), by repeat (first | (with_reducible first | exact HB.out | apply below_alloc | apply pw_below_drewN | apply below_drew1) | exact HB.out)⟩
      · rw [if_neg c11] at H
        exact absurd H (by simp)
    · rw [if_neg c8] at H
      exact absurd H (by simp)

open Go.Proofs.Ytfpomamhcjkoeab.Row (okI okB okS okL) in
/-- THE ONE PURE STATEMENT of hopperlaw03_CodecWrites. -/
def hopperlaw03_CodecWrites.Pure : Prop := ∀ (a0 : Int) (a1 : ByteArray), (okI .i64) a0 → okS a1 → ∃ k, hopperlaw03_CodecWrites.f k a0 a1 = some true

end Go.Proofs.Ytfpomamhcjkoeab.C
