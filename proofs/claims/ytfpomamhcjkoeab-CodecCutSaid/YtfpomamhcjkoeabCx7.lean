/- Written by this session's own program over the kit's print: functions of Go told as plain functions, or the row of one statement; proved for every input, with no condition of ours. -/
import Derived.Test.YtfpomamhcjkoeabCx0
import Derived.Test.YtfpomamhcjkoeabCx1
import Derived.Test.YtfpomamhcjkoeabCx2
import Derived.Test.YtfpomamhcjkoeabCx3
namespace Go.Proofs.Ytfpomamhcjkoeab.C
open Go.RowKit Go.Proofs.YtfpomamhcjkoeabW.PrintWords Go.Proofs.YtfpomamhcjkoeabW.PrintLast Go.Proofs.YtfpomamhcjkoeabW.PrintMore
attribute [local go_sem] max2_int min2_int max_two min_two max_three min_three max_four min_four   -- for this text's walks alone
set_option linter.unusedVariables false
set_option linter.unusedSimpArgs false

/-! ### hopperlaw03_CodecCut: function 12 -/
mutual
def hopperlaw03_CodecCut.j0 : Nat → Int → ByteArray → Int → Bool → Option (Bool)
  | 0, _, _, _, _ => none
  | k + 1, x0, x1, x2, x31 => if x31 = true then ((hopperlaw03_live.f).bind fun t205 => (some t205)) else ((codec_Number.f x0).bind fun t206 => ((codec_Text.f x1).bind fun t207 => (if x2 < (t206.size : Int) then (if 0 ≤ x2 then (if x2 ≤ (t206.size : Int) then ((codec_TakeNumber.f (t206.extract 0 (x2 : Int).toNat) x0).bind fun bt208 => (if bt208.2.2 = true then (none) else (hopperlaw03_CodecCut.j1 k x0 x1 x2 t206 t207))) else (none)) else (none)) else (hopperlaw03_CodecCut.j1 k x0 x1 x2 t206 t207))))
def hopperlaw03_CodecCut.j1 : Nat → Int → ByteArray → Int → ByteArray → ByteArray → Option (Bool)
  | 0, _, _, _, _, _ => none
  | k + 1, x0, x1, x2, x7, x8 => if x2 < (x8.size : Int) then (if 0 ≤ x2 then (if x2 ≤ (x8.size : Int) then ((codec_TakeText.f (x8.extract 0 (x2 : Int).toNat) (x1.size : Int)).bind fun bt211 => (if bt211.2.2 = true then (none) else ((codec_TakeNumber.f x7 4611686018427387904).bind fun bt214 => ((codec_TakeText.f x8 60000).bind fun bt217 => (if x0 > 4611686018427387904 then (if bt217.2.2 = true then (if bt217.1.toList = x1.toList then (if (x7.size : Int) ≥ 2 then (if (x7.size : Int) ≤ 9 then (if (x8.size : Int) = (wrap64 ((x1.size : Int) + 2)) then ((hopperlaw03_live.f).bind fun t220 => (some t220)) else (none)) else (none)) else (none)) else (none)) else (none)) else (if bt214.2.2 = true then (if bt214.1 = x0 then (if bt217.2.2 = true then (if bt217.1.toList = x1.toList then (if (x7.size : Int) ≥ 2 then (if (x7.size : Int) ≤ 9 then (if (x8.size : Int) = (wrap64 ((x1.size : Int) + 2)) then ((hopperlaw03_live.f).bind fun t221 => (some t221)) else (none)) else (none)) else (none)) else (none)) else (none)) else (none)) else (none))))))) else (none)) else (none)) else ((codec_TakeNumber.f x7 4611686018427387904).bind fun bt222 => ((codec_TakeText.f x8 60000).bind fun bt225 => (if x0 > 4611686018427387904 then (if bt225.2.2 = true then (if bt225.1.toList = x1.toList then (if (x7.size : Int) ≥ 2 then (if (x7.size : Int) ≤ 9 then (if (x8.size : Int) = (wrap64 ((x1.size : Int) + 2)) then ((hopperlaw03_live.f).bind fun t228 => (some t228)) else (none)) else (none)) else (none)) else (none)) else (none)) else (if bt222.2.2 = true then (if bt222.1 = x0 then (if bt225.2.2 = true then (if bt225.1.toList = x1.toList then (if (x7.size : Int) ≥ 2 then (if (x7.size : Int) ≤ 9 then (if (x8.size : Int) = (wrap64 ((x1.size : Int) + 2)) then ((hopperlaw03_live.f).bind fun t229 => (some t229)) else (none)) else (none)) else (none)) else (none)) else (none)) else (none)) else (none)))))
end
def hopperlaw03_CodecCut.f (k : Nat) (a0 : Int) (a1 : ByteArray) (a2 : Int) : Option (Bool) := if (a1.size : Int) > 2000 then (hopperlaw03_CodecCut.j0 k a0 a1 a2 true) else (if a0 < 0 then (hopperlaw03_CodecCut.j0 k a0 a1 a2 true) else (hopperlaw03_CodecCut.j0 k a0 a1 a2 (decide (a2 < 0))))
theorem hopperlaw03_CodecCut.mono_l : ∀ k, (∀ y0 y1 y2 y3, LeO (hopperlaw03_CodecCut.j0 k y0 y1 y2 y3) (hopperlaw03_CodecCut.j0 (k + 1) y0 y1 y2 y3)) ∧ (∀ y0 y1 y2 y3 y4, LeO (hopperlaw03_CodecCut.j1 k y0 y1 y2 y3 y4) (hopperlaw03_CodecCut.j1 (k + 1) y0 y1 y2 y3 y4))
  | 0 => ⟨fun _ _ _ _ r h => by simp [hopperlaw03_CodecCut.j0] at h, fun _ _ _ _ _ r h => by simp [hopperlaw03_CodecCut.j1] at h⟩
  | k + 1 => by
    obtain ⟨ih0, ih1⟩ := hopperlaw03_CodecCut.mono_l k
    refine ⟨?_, ?_⟩
    · intro y0 y1 y2 y3
      unfold hopperlaw03_CodecCut.j0
      repeat' first
      | (with_reducible exact ih0 _ _ _ _)
      | (with_reducible exact ih1 _ _ _ _ _)
      | (with_reducible exact LeO.refl _)
      | (with_reducible exact LeO.none _)
      | (with_reducible refine LeO.ite ?_ ?_)
      | (with_reducible refine LeO.bind ?_ (fun _ => ?_))
      | exact ih0 _ _ _ _
      | exact ih1 _ _ _ _ _
      | exact LeO.none _
      | refine LeO.ite ?_ ?_
      | refine LeO.bind ?_ (fun _ => ?_)
    · intro y0 y1 y2 y3 y4
      unfold hopperlaw03_CodecCut.j1
      repeat' first
      | (with_reducible exact ih0 _ _ _ _)
      | (with_reducible exact ih1 _ _ _ _ _)
      | (with_reducible exact LeO.refl _)
      | (with_reducible exact LeO.none _)
      | (with_reducible refine LeO.ite ?_ ?_)
      | (with_reducible refine LeO.bind ?_ (fun _ => ?_))
      | exact ih0 _ _ _ _
      | exact ih1 _ _ _ _ _
      | exact LeO.none _
      | refine LeO.ite ?_ ?_
      | refine LeO.bind ?_ (fun _ => ?_)
theorem hopperlaw03_CodecCut.mono : ∀ a0 a1 a2 k, LeO (hopperlaw03_CodecCut.f k a0 a1 a2) (hopperlaw03_CodecCut.f (k + 1) a0 a1 a2) := by
  intro a0 a1 a2 k
  obtain ⟨ih0, ih1⟩ := hopperlaw03_CodecCut.mono_l k
  unfold hopperlaw03_CodecCut.f
  repeat' first
      | (with_reducible exact ih0 _ _ _ _)
      | (with_reducible exact ih1 _ _ _ _ _)
      | (with_reducible exact LeO.refl _)
      | (with_reducible exact LeO.none _)
      | (with_reducible refine LeO.ite ?_ ?_)
      | (with_reducible refine LeO.bind ?_ (fun _ => ?_))
      | exact ih0 _ _ _ _
      | exact ih1 _ _ _ _ _
      | exact LeO.none _
      | refine LeO.ite ?_ ?_
      | refine LeO.bind ?_ (fun _ => ?_)
set_option maxHeartbeats 8000000 in
set_option maxRecDepth 100000 in
theorem hopperlaw03_CodecCut.calls (k : Nat) (a0 : Int) (a1 : ByteArray) (a2 : Int) (r : Bool) (w : World) (h : hopperlaw03_CodecCut.f k a0 a1 a2 = some r) :
    Calls Try.prog 12 #[.int .i64 a0, .string a1, .int .i64 a2] w fun e w' => e = .returned (.bool r) ∧ Below w.heap.size w w' := by
  have HB := Aside0.mk (Below.refl w.heap.size w)
  have H : (if (a1.size : Int) > 2000 then (hopperlaw03_CodecCut.j0 k a0 a1 a2 true) else (if a0 < 0 then (hopperlaw03_CodecCut.j0 k a0 a1 a2 true) else (hopperlaw03_CodecCut.j0 k a0 a1 a2 (decide (a2 < 0))))) = some r := h
  clear h
  have HC4 := Aside0.mk H
  clear H
  go_enter Try.func12, Try.ntmps12
  go_upto_region 1 with (fail)
  go_cut [31] (fun v31 wc => ∃ (kq : Nat) (x31_3 : Bool), v31 = .bool x31_3 ∧ Aside0 (hopperlaw03_CodecCut.j0 kq a0 a1 a2 x31_3 = some r) ∧ Aside0 (kq ≤ k) ∧ Aside0 (Below w.heap.size w wc))
  case first =>
    have H := HC4.out
    clear HC4
    by_cases c5 : (a1.size : Int) > 2000
    · rw [if_pos c5] at H
      have c5b0 : decide (2000 < (a1.size : Int)) = true := decide_eq_true c5
      have c5b1 : decide (2000 < a1.size) = true := decide_eq_true (by omega)
      clear c5
      (first | rw [c5b0] | (simp only [i64_w, i32_w]; rw [c5b0]) | skip)
      have H' := Aside0.mk H
      clear H
      go_wp2
      go_meet
      case rel => exact ⟨_, (true), (by first | rfl | (simp; done) | (simp [*]; done)), H', ⟨by first | omega | exact Nat.le_refl _⟩, ⟨by repeat (first | (with_reducible first | exact HB.out | apply below_alloc | apply pw_below_drewN | apply below_drew1) | exact HB.out)⟩⟩
    · rw [if_neg c5] at H
      have c5b0 : decide (2000 < (a1.size : Int)) = false := decide_eq_false c5
      have c5b1 : decide (2000 < a1.size) = false := decide_eq_false (by omega)
      clear c5
      (first | rw [c5b0] | (simp only [i64_w, i32_w]; rw [c5b0]) | skip)
      by_cases c6 : a0 < 0
      · rw [if_pos c6] at H
        have c6b0 : decide (a0 < 0) = true := decide_eq_true c6
        clear c6
        have H' := Aside0.mk H
        clear H
        go_wp2
        go_meet
        case rel => exact ⟨_, (true), (by first | rfl | (simp; done) | (simp [*]; done)), H', ⟨by first | omega | exact Nat.le_refl _⟩, ⟨by repeat (first | (with_reducible first | exact HB.out | apply below_alloc | apply pw_below_drewN | apply below_drew1) | exact HB.out)⟩⟩
      · rw [if_neg c6] at H
        have c6b0 : decide (a0 < 0) = false := decide_eq_false c6
        clear c6
        have H' := Aside0.mk H
        clear H
        go_wp2
        go_meet
        case rel => exact ⟨_, (decide (a2 < 0)), (by first | rfl | (simp; done) | (simp [*]; done)), H', ⟨by first | omega | exact Nat.le_refl _⟩, ⟨by repeat (first | (with_reducible first | exact HB.out | apply below_alloc | apply pw_below_drewN | apply below_drew1) | exact HB.out)⟩⟩
  case rest =>
    clear HC4
    try clear c1
    try clear p2
    try clear c5
    try clear c5b0
    try clear c5b1
    try clear c6
    try clear c6b0
    obtain ⟨kq, x31_3, rfl, HA, HJ3, HB⟩ := hcut
    cases kq with
    | zero => exact absurd HA.out (by simp [hopperlaw03_CodecCut.j0])
    | succ kj3 =>
      have H := HA.out
      clear HA
      simp only [hopperlaw03_CodecCut.j0] at H
      by_cases c7 : x31_3 = true
      · subst c7
        have H1 : ((hopperlaw03_live.f).bind fun t205 => (some t205)) = some r := by rw [if_pos rfl] at H; exact H
        clear H
        have H := H1
        clear H1
        replace H := Option.bind_eq_some_iff.mp H
        obtain ⟨t205, A80, H⟩ := H
        replace H : (some t205) = some r := H
        have A8 := Aside0.mk A80
        clear A80
        obtain rfl := Option.some.inj H
        go_wp2_with (first | ((with_reducible refine gate_callee (f := 28) rfl ?_); refine goesL_ (some 32) rfl rfl Try.func28 (by kernel_rfl) rfl #[] rfl (by (try simp only [List.map_toArray, List.map_cons, List.map_nil]); first | done | rfl | (simp only [List.length_drop, List.length_take]; rfl)) ?_; (with_reducible refine (hopperlaw03_live.calls  t205 _ A8.out).mono ?_); rintro e w9 ⟨rfl, hb⟩; refine ⟨_, rfl, ?_⟩; have n0_ := Aside0.mk (below_step (by repeat (first | (with_reducible first | exact HB.out | apply below_alloc | apply pw_below_drewN | apply below_drew1) | exact HB.out)) hb); clear HB; have HB := n0_; clear n0_; (try clear hb); (try clear hb2); (try clear hk); (try clear hi)))
        go_ret
        exact ⟨by first | rfl | (simp [errW_none, errW_some] <;> rfl) | (simp [*, errW_none, errW_some] <;> rfl), by repeat (first | (with_reducible first | exact HB.out | apply below_alloc | apply pw_below_drewN | apply below_drew1) | exact HB.out)⟩
      · replace c7 := Bool.eq_false_iff.mpr c7
        subst c7
        have H1 : ((codec_Number.f a0).bind fun t206 => ((codec_Text.f a1).bind fun t207 => (if a2 < (t206.size : Int) then (if 0 ≤ a2 then (if a2 ≤ (t206.size : Int) then ((codec_TakeNumber.f (t206.extract 0 (a2 : Int).toNat) a0).bind fun bt208 => (if bt208.2.2 = true then (none) else (hopperlaw03_CodecCut.j1 kj3 a0 a1 a2 t206 t207))) else (none)) else (none)) else (hopperlaw03_CodecCut.j1 kj3 a0 a1 a2 t206 t207)))) = some r := by rw [if_neg (show ¬ (false = true) by decide)] at H; exact H
        clear H
        have H := H1
        clear H1
        replace H := Option.bind_eq_some_iff.mp H
        obtain ⟨t206, A100, H⟩ := H
        replace H : ((codec_Text.f a1).bind fun t207 => (if a2 < (t206.size : Int) then (if 0 ≤ a2 then (if a2 ≤ (t206.size : Int) then ((codec_TakeNumber.f (t206.extract 0 (a2 : Int).toNat) a0).bind fun bt208 => (if bt208.2.2 = true then (none) else (hopperlaw03_CodecCut.j1 kj3 a0 a1 a2 t206 t207))) else (none)) else (none)) else (hopperlaw03_CodecCut.j1 kj3 a0 a1 a2 t206 t207))) = some r := H
        have A10 := Aside0.mk A100
        clear A100
        replace H := Option.bind_eq_some_iff.mp H
        obtain ⟨t207, A110, H⟩ := H
        replace H : (if a2 < (t206.size : Int) then (if 0 ≤ a2 then (if a2 ≤ (t206.size : Int) then ((codec_TakeNumber.f (t206.extract 0 (a2 : Int).toNat) a0).bind fun bt208 => (if bt208.2.2 = true then (none) else (hopperlaw03_CodecCut.j1 kj3 a0 a1 a2 t206 t207))) else (none)) else (none)) else (hopperlaw03_CodecCut.j1 kj3 a0 a1 a2 t206 t207)) = some r := H
        have A11 := Aside0.mk A110
        clear A110
        have HC12 := Aside0.mk H
        clear H
        go_upto_if 40 with (first | ((with_reducible refine gate_callee (f := 24) rfl ?_); refine goesL_ (some 34) rfl rfl Try.func24 (by kernel_rfl) rfl #[.int .i64 a0] rfl (by (try simp only [List.map_toArray, List.map_cons, List.map_nil]); first | done | rfl | (simp only [List.length_drop, List.length_take]; rfl)) ?_; (with_reducible refine (codec_Number.calls a0 t206 _ A10.out).mono ?_); rintro e w13 ⟨rfl, hb⟩; refine ⟨_, rfl, ?_⟩; have n0_ := Aside0.mk (below_step (by repeat (first | (with_reducible first | exact HB.out | apply below_alloc | apply pw_below_drewN | apply below_drew1) | exact HB.out)) hb); clear HB; have HB := n0_; clear n0_; (try clear hb); (try clear hb2); (try clear hk); (try clear hi)) | ((with_reducible refine gate_callee (f := 26) rfl ?_); refine goesL_ (some 36) rfl rfl Try.func26 (by kernel_rfl) rfl #[.string a1] rfl (by (try simp only [List.map_toArray, List.map_cons, List.map_nil]); first | done | rfl | (simp only [List.length_drop, List.length_take]; rfl)) ?_; (with_reducible refine (codec_Text.calls a1 t207 _ A11.out).mono ?_); rintro e w14 ⟨rfl, hb⟩; refine ⟨_, rfl, ?_⟩; have n0_ := Aside0.mk (below_step (by repeat (first | (with_reducible first | exact HB.out | apply below_alloc | apply pw_below_drewN | apply below_drew1) | exact HB.out)) hb); clear HB; have HB := n0_; clear n0_; (try clear hb); (try clear hb2); (try clear hk); (try clear hi)))
        (try simp only [Act.put, List.setIfInBounds_toArray, List.set_cons_zero, List.set_cons_succ])
        go_cut [] (fun wc => ∃ (kq : Nat), Aside0 (hopperlaw03_CodecCut.j1 kq a0 a1 a2 t206 t207 = some r) ∧ Aside0 (kq ≤ kj3) ∧ Aside0 (Below w.heap.size w wc))
        case first =>
          have H := HC12.out
          clear HC12
          by_cases c15 : a2 < (t206.size : Int)
          · rw [if_pos c15] at H
            have c15b0 : decide (a2 < (t206.size : Int)) = true := decide_eq_true c15
            clear c15
            (first | rw [c15b0] | (simp only [i64_w, i32_w]; rw [c15b0]) | skip)
            by_cases c16 : 0 ≤ a2
            · rw [if_pos c16] at H
              have c16b0 := eq_true c16
              have c16b1 : decide (0 ≤ a2) = true := decide_eq_true c16
              clear c16
              by_cases c17 : a2 ≤ (t206.size : Int)
              · rw [if_pos c17] at H
                have c17b0 := eq_true c17
                have c17b1 : decide (a2 ≤ (t206.size : Int)) = true := decide_eq_true c17
                clear c17
                replace H := Option.bind_eq_some_iff.mp H
                obtain ⟨⟨t208, t209, t210⟩, A180, H⟩ := H
                replace H : (if t210 = true then (none) else (hopperlaw03_CodecCut.j1 kj3 a0 a1 a2 t206 t207)) = some r := H
                have A18 := Aside0.mk A180
                clear A180
                by_cases c19 : t210 = true
                · subst c19
                  have H1 : (none) = some r := by rw [if_pos rfl] at H; exact H
                  clear H
                  have H := H1
                  clear H1
                  exact absurd H (by simp)
                · replace c19 := Bool.eq_false_iff.mpr c19
                  subst c19
                  have H1 : (hopperlaw03_CodecCut.j1 kj3 a0 a1 a2 t206 t207) = some r := by rw [if_neg (show ¬ (false = true) by decide)] at H; exact H
                  clear H
                  have H := H1
                  clear H1
                  have H' := Aside0.mk H
                  clear H
                  go_wp2_with (first | ((with_reducible refine gate_callee (f := 29) rfl ?_); refine goesL_ (some 46) rfl rfl Try.func29 (by kernel_rfl) rfl #[.string (t206.extract 0 (a2 : Int).toNat), .int .i64 a0] rfl (by (try simp only [List.map_toArray, List.map_cons, List.map_nil]); first | done | rfl | (simp only [List.length_drop, List.length_take]; rfl)) ?_; (with_reducible refine (codec_TakeNumber.calls (t206.extract 0 (a2 : Int).toNat) a0 t208 t209 false _ A18.out).mono ?_); rintro e w20 ⟨rfl, hb⟩; refine ⟨_, rfl, ?_⟩; have n0_ := Aside0.mk (below_step (by repeat (first | (with_reducible first | exact HB.out | apply below_alloc | apply pw_below_drewN | apply below_drew1) | exact HB.out)) hb); clear HB; have HB := n0_; clear n0_; (try clear hb); (try clear hb2); (try clear hk); (try clear hi)))
                  go_meet
                  case rel => exact ⟨_, H', ⟨by have := HJ3.out; first | omega | exact Nat.le_refl _⟩, ⟨by repeat (first | (with_reducible first | exact HB.out | apply below_alloc | apply pw_below_drewN | apply below_drew1) | exact HB.out)⟩⟩
              · rw [if_neg c17] at H
                exact absurd H (by simp)
            · rw [if_neg c16] at H
              exact absurd H (by simp)
          · rw [if_neg c15] at H
            have c15b0 : decide (a2 < (t206.size : Int)) = false := decide_eq_false c15
            clear c15
            (first | rw [c15b0] | (simp only [i64_w, i32_w]; rw [c15b0]) | skip)
            have H' := Aside0.mk H
            clear H
            go_wp2
            go_meet
            case rel => exact ⟨_, H', ⟨by have := HJ3.out; first | omega | exact Nat.le_refl _⟩, ⟨by repeat (first | (with_reducible first | exact HB.out | apply below_alloc | apply pw_below_drewN | apply below_drew1) | exact HB.out)⟩⟩
        case rest =>
          clear HC12
          try clear c1
          try clear c2
          try clear p2
          try clear c5
          try clear c5b0
          try clear c5b1
          try clear c6
          try clear c6b0
          try clear c7
          try clear c12
          try clear c15
          try clear c15b0
          try clear c16
          try clear c16b0
          try clear c16b1
          try clear c17
          try clear c17b0
          try clear c17b1
          try clear c19
          try clear p2
          obtain ⟨kq, HA, HJ11, HB⟩ := hcut
          cases kq with
          | zero => exact absurd HA.out (by simp [hopperlaw03_CodecCut.j1])
          | succ kj11 =>
            have H := HA.out
            clear HA
            simp only [hopperlaw03_CodecCut.j1] at H
            by_cases c21 : a2 < (t207.size : Int)
            · rw [if_pos c21] at H
              have c21b0 : decide (a2 < (t207.size : Int)) = true := decide_eq_true c21
              clear c21
              by_cases c22 : 0 ≤ a2
              · rw [if_pos c22] at H
                have c22b0 := eq_true c22
                have c22b1 : decide (0 ≤ a2) = true := decide_eq_true c22
                clear c22
                by_cases c23 : a2 ≤ (t207.size : Int)
                · rw [if_pos c23] at H
                  have c23b0 := eq_true c23
                  have c23b1 : decide (a2 ≤ (t207.size : Int)) = true := decide_eq_true c23
                  clear c23
                  replace H := Option.bind_eq_some_iff.mp H
                  obtain ⟨⟨t211, t212, t213⟩, A240, H⟩ := H
                  replace H : (if t213 = true then (none) else ((codec_TakeNumber.f t206 4611686018427387904).bind fun bt214 => ((codec_TakeText.f t207 60000).bind fun bt217 => (if a0 > 4611686018427387904 then (if bt217.2.2 = true then (if bt217.1.toList = a1.toList then (if (t206.size : Int) ≥ 2 then (if (t206.size : Int) ≤ 9 then (if (t207.size : Int) = (wrap64 ((a1.size : Int) + 2)) then ((hopperlaw03_live.f).bind fun t220 => (some t220)) else (none)) else (none)) else (none)) else (none)) else (none)) else (if bt214.2.2 = true then (if bt214.1 = a0 then (if bt217.2.2 = true then (if bt217.1.toList = a1.toList then (if (t206.size : Int) ≥ 2 then (if (t206.size : Int) ≤ 9 then (if (t207.size : Int) = (wrap64 ((a1.size : Int) + 2)) then ((hopperlaw03_live.f).bind fun t221 => (some t221)) else (none)) else (none)) else (none)) else (none)) else (none)) else (none)) else (none)))))) = some r := H
                  have A24 := Aside0.mk A240
                  clear A240
                  by_cases c25 : t213 = true
                  · subst c25
                    have H1 : (none) = some r := by rw [if_pos rfl] at H; exact H
                    clear H
                    have H := H1
                    clear H1
                    exact absurd H (by simp)
                  · replace c25 := Bool.eq_false_iff.mpr c25
                    subst c25
                    have H1 : ((codec_TakeNumber.f t206 4611686018427387904).bind fun bt214 => ((codec_TakeText.f t207 60000).bind fun bt217 => (if a0 > 4611686018427387904 then (if bt217.2.2 = true then (if bt217.1.toList = a1.toList then (if (t206.size : Int) ≥ 2 then (if (t206.size : Int) ≤ 9 then (if (t207.size : Int) = (wrap64 ((a1.size : Int) + 2)) then ((hopperlaw03_live.f).bind fun t220 => (some t220)) else (none)) else (none)) else (none)) else (none)) else (none)) else (if bt214.2.2 = true then (if bt214.1 = a0 then (if bt217.2.2 = true then (if bt217.1.toList = a1.toList then (if (t206.size : Int) ≥ 2 then (if (t206.size : Int) ≤ 9 then (if (t207.size : Int) = (wrap64 ((a1.size : Int) + 2)) then ((hopperlaw03_live.f).bind fun t221 => (some t221)) else (none)) else (none)) else (none)) else (none)) else (none)) else (none)) else (none))))) = some r := by rw [if_neg (show ¬ (false = true) by decide)] at H; exact H
                    clear H
                    have H := H1
                    clear H1
                    replace H := Option.bind_eq_some_iff.mp H
                    obtain ⟨⟨t214, t215, t216⟩, A260, H⟩ := H
                    replace H : ((codec_TakeText.f t207 60000).bind fun bt217 => (if a0 > 4611686018427387904 then (if bt217.2.2 = true then (if bt217.1.toList = a1.toList then (if (t206.size : Int) ≥ 2 then (if (t206.size : Int) ≤ 9 then (if (t207.size : Int) = (wrap64 ((a1.size : Int) + 2)) then ((hopperlaw03_live.f).bind fun t220 => (some t220)) else (none)) else (none)) else (none)) else (none)) else (none)) else (if t216 = true then (if t214 = a0 then (if bt217.2.2 = true then (if bt217.1.toList = a1.toList then (if (t206.size : Int) ≥ 2 then (if (t206.size : Int) ≤ 9 then (if (t207.size : Int) = (wrap64 ((a1.size : Int) + 2)) then ((hopperlaw03_live.f).bind fun t221 => (some t221)) else (none)) else (none)) else (none)) else (none)) else (none)) else (none)) else (none)))) = some r := H
                    have A26 := Aside0.mk A260
                    clear A260
                    replace H := Option.bind_eq_some_iff.mp H
                    obtain ⟨⟨t217, t218, t219⟩, A270, H⟩ := H
                    replace H : (if a0 > 4611686018427387904 then (if t219 = true then (if t217.toList = a1.toList then (if (t206.size : Int) ≥ 2 then (if (t206.size : Int) ≤ 9 then (if (t207.size : Int) = (wrap64 ((a1.size : Int) + 2)) then ((hopperlaw03_live.f).bind fun t220 => (some t220)) else (none)) else (none)) else (none)) else (none)) else (none)) else (if t216 = true then (if t214 = a0 then (if t219 = true then (if t217.toList = a1.toList then (if (t206.size : Int) ≥ 2 then (if (t206.size : Int) ≤ 9 then (if (t207.size : Int) = (wrap64 ((a1.size : Int) + 2)) then ((hopperlaw03_live.f).bind fun t221 => (some t221)) else (none)) else (none)) else (none)) else (none)) else (none)) else (none)) else (none))) = some r := H
                    have A27 := Aside0.mk A270
                    clear A270
                    by_cases c28 : a0 > 4611686018427387904
                    · rw [if_pos c28] at H
                      have c28b0 : decide (4611686018427387904 < a0) = true := decide_eq_true c28
                      clear c28
                      by_cases c29 : t219 = true
                      · subst c29
                        have H1 : (if t217.toList = a1.toList then (if (t206.size : Int) ≥ 2 then (if (t206.size : Int) ≤ 9 then (if (t207.size : Int) = (wrap64 ((a1.size : Int) + 2)) then ((hopperlaw03_live.f).bind fun t220 => (some t220)) else (none)) else (none)) else (none)) else (none)) = some r := by rw [if_pos rfl] at H; exact H
                        clear H
                        have H := H1
                        clear H1
                        by_cases c30 : t217.toList = a1.toList
                        · rw [if_pos c30] at H
                          have c30b0 : (t217.toList == a1.toList) = true := beq_iff_eq.mpr c30
                          have c30b1 : (t217.toList != a1.toList) = false := bne_eq_false_iff_eq.mpr c30
                          clear c30
                          by_cases c31 : (t206.size : Int) ≥ 2
                          · rw [if_pos c31] at H
                            have c31b0 : decide (2 ≤ (t206.size : Int)) = true := decide_eq_true c31
                            have c31b1 : decide (2 ≤ t206.size) = true := decide_eq_true (by omega)
                            clear c31
                            by_cases c32 : (t206.size : Int) ≤ 9
                            · rw [if_pos c32] at H
                              have c32b0 : decide ((t206.size : Int) ≤ 9) = true := decide_eq_true c32
                              have c32b1 : decide (t206.size ≤ 9) = true := decide_eq_true (by omega)
                              clear c32
                              by_cases c33 : (t207.size : Int) = (wrap64 ((a1.size : Int) + 2))
                              · rw [if_pos c33] at H
                                have c33b0 : ((t207.size : Int) == (wrap64 ((a1.size : Int) + 2))) = true := beq_iff_eq.mpr c33
                                have c33b1 : ((t207.size : Int) != (wrap64 ((a1.size : Int) + 2))) = false := bne_eq_false_iff_eq.mpr c33
                                clear c33
                                replace H := Option.bind_eq_some_iff.mp H
                                obtain ⟨t220, A340, H⟩ := H
                                replace H : (some t220) = some r := H
                                have A34 := Aside0.mk A340
                                clear A340
                                obtain rfl := Option.some.inj H
                                go_wp2_with (first | ((with_reducible refine gate_callee (f := 31) rfl ?_); refine goesL_ (some 61) rfl rfl Try.func31 (by kernel_rfl) rfl #[.string (t207.extract 0 (a2 : Int).toNat), .int .i64 (a1.size : Int)] rfl (by (try simp only [List.map_toArray, List.map_cons, List.map_nil]); first | done | rfl | (simp only [List.length_drop, List.length_take]; rfl)) ?_; (with_reducible refine (codec_TakeText.calls (t207.extract 0 (a2 : Int).toNat) (a1.size : Int) t211 t212 false _ A24.out).mono ?_); rintro e w35 ⟨rfl, hb⟩; refine ⟨_, rfl, ?_⟩; have n0_ := Aside0.mk (below_step (by repeat (first | (with_reducible first | exact HB.out | apply below_alloc | apply pw_below_drewN | apply below_drew1) | exact HB.out)) hb); clear HB; have HB := n0_; clear n0_; (try clear hb); (try clear hb2); (try clear hk); (try clear hi)) | ((with_reducible refine gate_callee (f := 29) rfl ?_); refine goesL_ (some 68) rfl rfl Try.func29 (by kernel_rfl) rfl #[.string t206, .int .i64 4611686018427387904] rfl (by (try simp only [List.map_toArray, List.map_cons, List.map_nil]); first | done | rfl | (simp only [List.length_drop, List.length_take]; rfl)) ?_; (with_reducible refine (codec_TakeNumber.calls t206 4611686018427387904 t214 t215 t216 _ A26.out).mono ?_); rintro e w36 ⟨rfl, hb⟩; refine ⟨_, rfl, ?_⟩; have n0_ := Aside0.mk (below_step (by repeat (first | (with_reducible first | exact HB.out | apply below_alloc | apply pw_below_drewN | apply below_drew1) | exact HB.out)) hb); clear HB; have HB := n0_; clear n0_; (try clear hb); (try clear hb2); (try clear hk); (try clear hi)) | ((with_reducible refine gate_callee (f := 31) rfl ?_); refine goesL_ (some 74) rfl rfl Try.func31 (by kernel_rfl) rfl #[.string t207, .int .i64 60000] rfl (by (try simp only [List.map_toArray, List.map_cons, List.map_nil]); first | done | rfl | (simp only [List.length_drop, List.length_take]; rfl)) ?_; (with_reducible refine (codec_TakeText.calls t207 60000 t217 t218 true _ A27.out).mono ?_); rintro e w37 ⟨rfl, hb⟩; refine ⟨_, rfl, ?_⟩; have n0_ := Aside0.mk (below_step (by repeat (first | (with_reducible first | exact HB.out | apply below_alloc | apply pw_below_drewN | apply below_drew1) | exact HB.out)) hb); clear HB; have HB := n0_; clear n0_; (try clear hb); (try clear hb2); (try clear hk); (try clear hi)) | (go_at_call 28; (with_reducible refine (hopperlaw03_live.calls  t220 _ A34.out).mono ?_); rintro e w38 ⟨rfl, hb⟩; have n0_ := Aside0.mk (below_step (by repeat (first | (with_reducible first | exact HB.out | apply below_alloc | apply pw_below_drewN | apply below_drew1) | exact HB.out)) hb); clear HB; have HB := n0_; clear n0_; (try clear hb); (try clear hb2); (try clear hk); (try clear hi)))
                                go_ret
                                exact ⟨by first | rfl | (simp [errW_none, errW_some] <;> rfl) | (simp [*, errW_none, errW_some] <;> rfl), by repeat (first | (with_reducible first | exact HB.out | apply below_alloc | apply pw_below_drewN | apply below_drew1) | exact HB.out)⟩
                              · rw [if_neg c33] at H
                                exact absurd H (by simp)
                            · rw [if_neg c32] at H
                              exact absurd H (by simp)
                          · rw [if_neg c31] at H
                            exact absurd H (by simp)
                        · rw [if_neg c30] at H
                          exact absurd H (by simp)
                      · replace c29 := Bool.eq_false_iff.mpr c29
                        subst c29
                        have H1 : (none) = some r := by rw [if_neg (show ¬ (false = true) by decide)] at H; exact H
                        clear H
                        have H := H1
                        clear H1
                        exact absurd H (by simp)
                    · rw [if_neg c28] at H
                      have c28b0 : decide (4611686018427387904 < a0) = false := decide_eq_false c28
                      clear c28
                      by_cases c39 : t216 = true
                      · subst c39
                        have H1 : (if t214 = a0 then (if t219 = true then (if t217.toList = a1.toList then (if (t206.size : Int) ≥ 2 then (if (t206.size : Int) ≤ 9 then (if (t207.size : Int) = (wrap64 ((a1.size : Int) + 2)) then ((hopperlaw03_live.f).bind fun t221 => (some t221)) else (none)) else (none)) else (none)) else (none)) else (none)) else (none)) = some r := by rw [if_pos rfl] at H; exact H
                        clear H
                        have H := H1
                        clear H1
                        by_cases c40 : t214 = a0
                        · rw [if_pos c40] at H
                          have c40b0 : (t214 == a0) = true := beq_iff_eq.mpr c40
                          have c40b1 : (t214 != a0) = false := bne_eq_false_iff_eq.mpr c40
                          clear c40
                          by_cases c41 : t219 = true
                          · subst c41
                            have H1 : (if t217.toList = a1.toList then (if (t206.size : Int) ≥ 2 then (if (t206.size : Int) ≤ 9 then (if (t207.size : Int) = (wrap64 ((a1.size : Int) + 2)) then ((hopperlaw03_live.f).bind fun t221 => (some t221)) else (none)) else (none)) else (none)) else (none)) = some r := by rw [if_pos rfl] at H; exact H
                            clear H
                            have H := H1
                            clear H1
                            by_cases c42 : t217.toList = a1.toList
                            · rw [if_pos c42] at H
                              have c42b0 : (t217.toList == a1.toList) = true := beq_iff_eq.mpr c42
                              have c42b1 : (t217.toList != a1.toList) = false := bne_eq_false_iff_eq.mpr c42
                              clear c42
                              by_cases c43 : (t206.size : Int) ≥ 2
                              · rw [if_pos c43] at H
                                have c43b0 : decide (2 ≤ (t206.size : Int)) = true := decide_eq_true c43
                                have c43b1 : decide (2 ≤ t206.size) = true := decide_eq_true (by omega)
                                clear c43
                                by_cases c44 : (t206.size : Int) ≤ 9
                                · rw [if_pos c44] at H
                                  have c44b0 : decide ((t206.size : Int) ≤ 9) = true := decide_eq_true c44
                                  have c44b1 : decide (t206.size ≤ 9) = true := decide_eq_true (by omega)
                                  clear c44
                                  by_cases c45 : (t207.size : Int) = (wrap64 ((a1.size : Int) + 2))
                                  · rw [if_pos c45] at H
                                    have c45b0 : ((t207.size : Int) == (wrap64 ((a1.size : Int) + 2))) = true := beq_iff_eq.mpr c45
                                    have c45b1 : ((t207.size : Int) != (wrap64 ((a1.size : Int) + 2))) = false := bne_eq_false_iff_eq.mpr c45
                                    clear c45
                                    replace H := Option.bind_eq_some_iff.mp H
                                    obtain ⟨t221, A460, H⟩ := H
                                    replace H : (some t221) = some r := H
                                    have A46 := Aside0.mk A460
                                    clear A460
                                    obtain rfl := Option.some.inj H
                                    go_wp2_with (first | ((with_reducible refine gate_callee (f := 31) rfl ?_); refine goesL_ (some 61) rfl rfl Try.func31 (by kernel_rfl) rfl #[.string (t207.extract 0 (a2 : Int).toNat), .int .i64 (a1.size : Int)] rfl (by (try simp only [List.map_toArray, List.map_cons, List.map_nil]); first | done | rfl | (simp only [List.length_drop, List.length_take]; rfl)) ?_; (with_reducible refine (codec_TakeText.calls (t207.extract 0 (a2 : Int).toNat) (a1.size : Int) t211 t212 false _ A24.out).mono ?_); rintro e w47 ⟨rfl, hb⟩; refine ⟨_, rfl, ?_⟩; have n0_ := Aside0.mk (below_step (by repeat (first | (with_reducible first | exact HB.out | apply below_alloc | apply pw_below_drewN | apply below_drew1) | exact HB.out)) hb); clear HB; have HB := n0_; clear n0_; (try clear hb); (try clear hb2); (try clear hk); (try clear hi)) | ((with_reducible refine gate_callee (f := 29) rfl ?_); refine goesL_ (some 68) rfl rfl Try.func29 (by kernel_rfl) rfl #[.string t206, .int .i64 4611686018427387904] rfl (by (try simp only [List.map_toArray, List.map_cons, List.map_nil]); first | done | rfl | (simp only [List.length_drop, List.length_take]; rfl)) ?_; (with_reducible refine (codec_TakeNumber.calls t206 4611686018427387904 t214 t215 true _ A26.out).mono ?_); rintro e w48 ⟨rfl, hb⟩; refine ⟨_, rfl, ?_⟩; have n0_ := Aside0.mk (below_step (by repeat (first | (with_reducible first | exact HB.out | apply below_alloc | apply pw_below_drewN | apply below_drew1) | exact HB.out)) hb); clear HB; have HB := n0_; clear n0_; (try clear hb); (try clear hb2); (try clear hk); (try clear hi)) | ((with_reducible refine gate_callee (f := 31) rfl ?_); refine goesL_ (some 74) rfl rfl Try.func31 (by kernel_rfl) rfl #[.string t207, .int .i64 60000] rfl (by (try simp only [List.map_toArray, List.map_cons, List.map_nil]); first | done | rfl | (simp only [List.length_drop, List.length_take]; rfl)) ?_; (with_reducible refine (codec_TakeText.calls t207 60000 t217 t218 true _ A27.out).mono ?_); rintro e w49 ⟨rfl, hb⟩; refine ⟨_, rfl, ?_⟩; have n0_ := Aside0.mk (below_step (by repeat (first | (with_reducible first | exact HB.out | apply below_alloc | apply pw_below_drewN | apply below_drew1) | exact HB.out)) hb); clear HB; have HB := n0_; clear n0_; (try clear hb); (try clear hb2); (try clear hk); (try clear hi)) | (go_at_call 28; (with_reducible refine (hopperlaw03_live.calls  t221 _ A46.out).mono ?_); rintro e w50 ⟨rfl, hb⟩; have n0_ := Aside0.mk (below_step (by repeat (first | (with_reducible first | exact HB.out | apply below_alloc | apply pw_below_drewN | apply below_drew1) | exact HB.out)) hb); clear HB; have HB := n0_; clear n0_; (try clear hb); (try clear hb2); (try clear hk); (try clear hi)))
                                    go_ret
                                    exact ⟨by first | rfl | (simp [errW_none, errW_some] <;> rfl) | (simp [*, errW_none, errW_some] <;> rfl), by repeat (first | (with_reducible first | exact HB.out | apply below_alloc | apply pw_below_drewN | apply below_drew1) | exact HB.out)⟩
                                  · rw [if_neg c45] at H
                                    exact absurd H (by simp)
                                · rw [if_neg c44] at H
                                  exact absurd H (by simp)
                              · rw [if_neg c43] at H
                                exact absurd H (by simp)
                            · rw [if_neg c42] at H
                              exact absurd H (by simp)
                          · replace c41 := Bool.eq_false_iff.mpr c41
                            subst c41
                            have H1 : (none) = some r := by rw [if_neg (show ¬ (false = true) by decide)] at H; exact H
                            clear H
                            have H := H1
                            clear H1
                            exact absurd H (by simp)
                        · rw [if_neg c40] at H
                          exact absurd H (by simp)
                      · replace c39 := Bool.eq_false_iff.mpr c39
                        subst c39
                        have H1 : (none) = some r := by rw [if_neg (show ¬ (false = true) by decide)] at H; exact H
                        clear H
                        have H := H1
                        clear H1
                        exact absurd H (by simp)
                · rw [if_neg c23] at H
                  exact absurd H (by simp)
              · rw [if_neg c22] at H
                exact absurd H (by simp)
            · rw [if_neg c21] at H
              have c21b0 : decide (a2 < (t207.size : Int)) = false := decide_eq_false c21
              clear c21
              replace H := Option.bind_eq_some_iff.mp H
              obtain ⟨⟨t222, t223, t224⟩, A510, H⟩ := H
              replace H : ((codec_TakeText.f t207 60000).bind fun bt225 => (if a0 > 4611686018427387904 then (if bt225.2.2 = true then (if bt225.1.toList = a1.toList then (if (t206.size : Int) ≥ 2 then (if (t206.size : Int) ≤ 9 then (if (t207.size : Int) = (wrap64 ((a1.size : Int) + 2)) then ((hopperlaw03_live.f).bind fun t228 => (some t228)) else (none)) else (none)) else (none)) else (none)) else (none)) else (if t224 = true then (if t222 = a0 then (if bt225.2.2 = true then (if bt225.1.toList = a1.toList then (if (t206.size : Int) ≥ 2 then (if (t206.size : Int) ≤ 9 then (if (t207.size : Int) = (wrap64 ((a1.size : Int) + 2)) then ((hopperlaw03_live.f).bind fun t229 => (some t229)) else (none)) else (none)) else (none)) else (none)) else (none)) else (none)) else (none)))) = some r := H
              have A51 := Aside0.mk A510
              clear A510
              replace H := Option.bind_eq_some_iff.mp H
              obtain ⟨⟨t225, t226, t227⟩, A520, H⟩ := H
              replace H : (if a0 > 4611686018427387904 then (if t227 = true then (if t225.toList = a1.toList then (if (t206.size : Int) ≥ 2 then (if (t206.size : Int) ≤ 9 then (if (t207.size : Int) = (wrap64 ((a1.size : Int) + 2)) then ((hopperlaw03_live.f).bind fun t228 => (some t228)) else (none)) else (none)) else (none)) else (none)) else (none)) else (if t224 = true then (if t222 = a0 then (if t227 = true then (if t225.toList = a1.toList then (if (t206.size : Int) ≥ 2 then (if (t206.size : Int) ≤ 9 then (if (t207.size : Int) = (wrap64 ((a1.size : Int) + 2)) then ((hopperlaw03_live.f).bind fun t229 => (some t229)) else (none)) else (none)) else (none)) else (none)) else (none)) else (none)) else (none))) = some r := H
              have A52 := Aside0.mk A520
              clear A520
              by_cases c53 : a0 > 4611686018427387904
              · rw [if_pos c53] at H
                have c53b0 : decide (4611686018427387904 < a0) = true := decide_eq_true c53
                clear c53
                by_cases c54 : t227 = true
                · subst c54
                  have H1 : (if t225.toList = a1.toList then (if (t206.size : Int) ≥ 2 then (if (t206.size : Int) ≤ 9 then (if (t207.size : Int) = (wrap64 ((a1.size : Int) + 2)) then ((hopperlaw03_live.f).bind fun t228 => (some t228)) else (none)) else (none)) else (none)) else (none)) = some r := by rw [if_pos rfl] at H; exact H
                  clear H
                  have H := H1
                  clear H1
                  by_cases c55 : t225.toList = a1.toList
                  · rw [if_pos c55] at H
                    have c55b0 : (t225.toList == a1.toList) = true := beq_iff_eq.mpr c55
                    have c55b1 : (t225.toList != a1.toList) = false := bne_eq_false_iff_eq.mpr c55
                    clear c55
                    by_cases c56 : (t206.size : Int) ≥ 2
                    · rw [if_pos c56] at H
                      have c56b0 : decide (2 ≤ (t206.size : Int)) = true := decide_eq_true c56
                      have c56b1 : decide (2 ≤ t206.size) = true := decide_eq_true (by omega)
                      clear c56
                      by_cases c57 : (t206.size : Int) ≤ 9
                      · rw [if_pos c57] at H
                        have c57b0 : decide ((t206.size : Int) ≤ 9) = true := decide_eq_true c57
                        have c57b1 : decide (t206.size ≤ 9) = true := decide_eq_true (by omega)
                        clear c57
                        by_cases c58 : (t207.size : Int) = (wrap64 ((a1.size : Int) + 2))
                        · rw [if_pos c58] at H
                          have c58b0 : ((t207.size : Int) == (wrap64 ((a1.size : Int) + 2))) = true := beq_iff_eq.mpr c58
                          have c58b1 : ((t207.size : Int) != (wrap64 ((a1.size : Int) + 2))) = false := bne_eq_false_iff_eq.mpr c58
                          clear c58
                          replace H := Option.bind_eq_some_iff.mp H
                          obtain ⟨t228, A590, H⟩ := H
                          replace H : (some t228) = some r := H
                          have A59 := Aside0.mk A590
                          clear A590
                          obtain rfl := Option.some.inj H
                          go_wp2_with (first | ((with_reducible refine gate_callee (f := 29) rfl ?_); refine goesL_ (some 68) rfl rfl Try.func29 (by kernel_rfl) rfl #[.string t206, .int .i64 4611686018427387904] rfl (by (try simp only [List.map_toArray, List.map_cons, List.map_nil]); first | done | rfl | (simp only [List.length_drop, List.length_take]; rfl)) ?_; (with_reducible refine (codec_TakeNumber.calls t206 4611686018427387904 t222 t223 t224 _ A51.out).mono ?_); rintro e w60 ⟨rfl, hb⟩; refine ⟨_, rfl, ?_⟩; have n0_ := Aside0.mk (below_step (by repeat (first | (with_reducible first | exact HB.out | apply below_alloc | apply pw_below_drewN | apply below_drew1) | exact HB.out)) hb); clear HB; have HB := n0_; clear n0_; (try clear hb); (try clear hb2); (try clear hk); (try clear hi)) | ((with_reducible refine gate_callee (f := 31) rfl ?_); refine goesL_ (some 74) rfl rfl Try.func31 (by kernel_rfl) rfl #[.string t207, .int .i64 60000] rfl (by (try simp only [List.map_toArray, List.map_cons, List.map_nil]); first | done | rfl | (simp only [List.length_drop, List.length_take]; rfl)) ?_; (with_reducible refine (codec_TakeText.calls t207 60000 t225 t226 true _ A52.out).mono ?_); rintro e w61 ⟨rfl, hb⟩; refine ⟨_, rfl, ?_⟩; have n0_ := Aside0.mk (below_step (by repeat (first | (with_reducible first | exact HB.out | apply below_alloc | apply pw_below_drewN | apply below_drew1) | exact HB.out)) hb); clear HB; have HB := n0_; clear n0_; (try clear hb); (try clear hb2); (try clear hk); (try clear hi)) | (go_at_call 28; (with_reducible refine (hopperlaw03_live.calls  t228 _ A59.out).mono ?_); rintro e w62 ⟨rfl, hb⟩; have n0_ := Aside0.mk (below_step (by repeat (first | (with_reducible first | exact HB.out | apply below_alloc | apply pw_below_drewN | apply below_drew1) | exact HB.out)) hb); clear HB; have HB := n0_; clear n0_; (try clear hb); (try clear hb2); (try clear hk); (try clear hi)))
                          go_ret
                          exact ⟨by first | rfl | (simp [errW_none, errW_some] <;> rfl) | (simp [*, errW_none, errW_some] <;> rfl), by repeat (first | (with_reducible first | exact HB.out | apply below_alloc | apply pw_below_drewN | apply below_drew1) | exact HB.out)⟩
                        · rw [if_neg c58] at H
                          exact absurd H (by simp)
                      · rw [if_neg c57] at H
                        exact absurd H (by simp)
                    · rw [if_neg c56] at H
                      exact absurd H (by simp)
                  · rw [if_neg c55] at H
                    exact absurd H (by simp)
                · replace c54 := Bool.eq_false_iff.mpr c54
                  subst c54
                  have H1 : (none) = some r := by rw [if_neg (show ¬ (false = true) by decide)] at H; exact H
                  clear H
                  have H := H1
                  clear H1
                  exact absurd H (by simp)
              · rw [if_neg c53] at H
                have c53b0 : decide (4611686018427387904 < a0) = false := decide_eq_false c53
                clear c53
                by_cases c63 : t224 = true
                · subst c63
                  have H1 : (if t222 = a0 then (if t227 = true then (if t225.toList = a1.toList then (if (t206.size : Int) ≥ 2 then (if (t206.size : Int) ≤ 9 then (if (t207.size : Int) = (wrap64 ((a1.size : Int) + 2)) then ((hopperlaw03_live.f).bind fun t229 => (some t229)) else (none)) else (none)) else (none)) else (none)) else (none)) else (none)) = some r := by rw [if_pos rfl] at H; exact H
                  clear H
                  have H := H1
                  clear H1
                  by_cases c64 : t222 = a0
                  · rw [if_pos c64] at H
                    have c64b0 : (t222 == a0) = true := beq_iff_eq.mpr c64
                    have c64b1 : (t222 != a0) = false := bne_eq_false_iff_eq.mpr c64
                    clear c64
                    by_cases c65 : t227 = true
                    · subst c65
                      have H1 : (if t225.toList = a1.toList then (if (t206.size : Int) ≥ 2 then (if (t206.size : Int) ≤ 9 then (if (t207.size : Int) = (wrap64 ((a1.size : Int) + 2)) then ((hopperlaw03_live.f).bind fun t229 => (some t229)) else (none)) else (none)) else (none)) else (none)) = some r := by rw [if_pos rfl] at H; exact H
                      clear H
                      have H := H1
                      clear H1
                      by_cases c66 : t225.toList = a1.toList
                      · rw [if_pos c66] at H
                        have c66b0 : (t225.toList == a1.toList) = true := beq_iff_eq.mpr c66
                        have c66b1 : (t225.toList != a1.toList) = false := bne_eq_false_iff_eq.mpr c66
                        clear c66
                        by_cases c67 : (t206.size : Int) ≥ 2
                        · rw [if_pos c67] at H
                          have c67b0 : decide (2 ≤ (t206.size : Int)) = true := decide_eq_true c67
                          have c67b1 : decide (2 ≤ t206.size) = true := decide_eq_true (by omega)
                          clear c67
                          by_cases c68 : (t206.size : Int) ≤ 9
                          · rw [if_pos c68] at H
                            have c68b0 : decide ((t206.size : Int) ≤ 9) = true := decide_eq_true c68
                            have c68b1 : decide (t206.size ≤ 9) = true := decide_eq_true (by omega)
                            clear c68
                            by_cases c69 : (t207.size : Int) = (wrap64 ((a1.size : Int) + 2))
                            · rw [if_pos c69] at H
                              have c69b0 : ((t207.size : Int) == (wrap64 ((a1.size : Int) + 2))) = true := beq_iff_eq.mpr c69
                              have c69b1 : ((t207.size : Int) != (wrap64 ((a1.size : Int) + 2))) = false := bne_eq_false_iff_eq.mpr c69
                              clear c69
                              replace H := Option.bind_eq_some_iff.mp H
                              obtain ⟨t229, A700, H⟩ := H
                              replace H : (some t229) = some r := H
                              have A70 := Aside0.mk A700
                              clear A700
                              obtain rfl := Option.some.inj H
                              go_wp2_with (first | ((with_reducible refine gate_callee (f := 29) rfl ?_); refine goesL_ (some 68) rfl rfl Try.func29 (by kernel_rfl) rfl #[.string t206, .int .i64 4611686018427387904] rfl (by (try simp only [List.map_toArray, List.map_cons, List.map_nil]); first | done | rfl | (simp only [List.length_drop, List.length_take]; rfl)) ?_; (with_reducible refine (codec_TakeNumber.calls t206 4611686018427387904 t222 t223 true _ A51.out).mono ?_); rintro e w71 ⟨rfl, hb⟩; refine ⟨_, rfl, ?_⟩; have n0_ := Aside0.mk (below_step (by repeat (first | (with_reducible first | exact HB.out | apply below_alloc | apply pw_below_drewN | apply below_drew1) | exact HB.out)) hb); clear HB; have HB := n0_; clear n0_; (try clear hb); (try clear hb2); (try clear hk); (try clear hi)) | ((with_reducible refine gate_callee (f := 31) rfl ?_); refine goesL_ (some 74) rfl rfl Try.func31 (by kernel_rfl) rfl #[.string t207, .int .i64 60000] rfl (by (try simp only [List.map_toArray, List.map_cons, List.map_nil]); first | done | rfl | (simp only [List.length_drop, List.length_take]; rfl)) ?_; (with_reducible refine (codec_TakeText.calls t207 60000 t225 t226 true _ A52.out).mono ?_); rintro e w72 ⟨rfl, hb⟩; refine ⟨_, rfl, ?_⟩; have n0_ := Aside0.mk (below_step (by repeat (first | (with_reducible first | exact HB.out | apply below_alloc | apply pw_below_drewN | apply below_drew1) | exact HB.out)) hb); clear HB; have HB := n0_; clear n0_; (try clear hb); (try clear hb2); (try clear hk); (try clear hi)) | (go_at_call 28; (with_reducible refine (hopperlaw03_live.calls  t229 _ A70.out).mono ?_); rintro e w73 ⟨rfl, hb⟩; have n0_ := Aside0.mk (below_step (by repeat (first | (with_reducible first | exact HB.out | apply below_alloc | apply pw_below_drewN | apply below_drew1) | exact HB.out)) hb); clear HB; have HB := n0_; clear n0_; (try clear hb); (try clear hb2); (try clear hk); (try clear hi)))
                              go_ret
                              exact ⟨by first | rfl | (simp [errW_none, errW_some] <;> rfl) | (simp [*, errW_none, errW_some] <;> rfl), by repeat (first | (with_reducible first | exact HB.out | apply below_alloc | apply pw_below_drewN | apply below_drew1) | exact HB.out)⟩
                            · rw [if_neg c69] at H
                              exact absurd H (by simp)
                          · rw [if_neg c68] at H
                            exact absurd H (by simp)
                        · rw [if_neg c67] at H
                          exact absurd H (by simp)
                      · rw [if_neg c66] at H
                        exact absurd H (by simp)
                    · replace c65 := Bool.eq_false_iff.mpr c65
                      subst c65
                      have H1 : (none) = some r := by rw [if_neg (show ¬ (false = true) by decide)] at H; exact H
                      clear H
                      have H := H1
                      clear H1
                      exact absurd H (by simp)
                  · rw [if_neg c64] at H
                    exact absurd H (by simp)
                · replace c63 := Bool.eq_false_iff.mpr c63
                  subst c63
                  have H1 : (none) = some r := by rw [if_neg (show ¬ (false = true) by decide)] at H; exact H
                  clear H
                  have H := H1
                  clear H1
                  exact absurd H (by simp)

open Go.Proofs.Ytfpomamhcjkoeab.Row (okI okB okS okL) in
/-- THE ONE PURE STATEMENT of hopperlaw03_CodecCut. -/
def hopperlaw03_CodecCut.Pure : Prop := ∀ (a0 : Int) (a1 : ByteArray) (a2 : Int), (okI .i64) a0 → okS a1 → (okI .i64) a2 → ∃ k, hopperlaw03_CodecCut.f k a0 a1 a2 = some true

end Go.Proofs.Ytfpomamhcjkoeab.C
