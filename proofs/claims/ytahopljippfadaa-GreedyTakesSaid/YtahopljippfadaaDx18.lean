/- Written by this session's own program over the kit's print: functions of Go told as plain functions, or the row of one statement; proved for every input, with no condition of ours. -/
import Derived.Test.YtahopljippfadaaDx0
import Derived.Test.YtahopljippfadaaDx12
namespace Go.Proofs.Ytahopljippfadaa.D
open Go.RowKit Go.Proofs.YtahopljippfadaaW.PrintWords Go.Proofs.YtahopljippfadaaW.PrintLast Go.Proofs.YtahopljippfadaaW.PrintMore
attribute [local go_sem] max2_int min2_int max_two min_two max_three min_three max_four min_four   -- for this text's walks alone
set_option linter.unusedVariables false
set_option linter.unusedSimpArgs false

/-! ### hopperref05_Check: function 20 -/
mutual
def hopperref05_Check.j0 : Nat → Bool → Int → Int → List (S38) → Option (Bool)
 | 0, _, _, _, _ => none
 | k + 1, x39, x403000, x403001, x403002 => if x39 = true then (some false) else (hopperref05_Check.l0 k 0 x403000 x403001 x403002)
def hopperref05_Check.l0 : Nat → Int → Int → Int → List (S38) → Option (Bool)
 | 0, _, _, _, _ => none
 | k + 1, x5, x403000, x403001, x403002 => if x5 < (x403002.length : Int) then (if 0 ≤ x5 then ((hopperref04_Check.f ((rd_T38 x403002 x5).f0) ((rd_T38 x403002 x5).f1) ((rd_T38 x403002 x5).f2) ((rd_T38 x403002 x5).f3) ((rd_T38 x403002 x5).f4) ((rd_T38 x403002 x5).f5)).bind fun t405 => (if t405 = true then (if ((rd_T38 x403002 x5).f0) = x403000 then (if ((rd_T38 x403002 x5).f1) < x403001 then (some false) else (if x5 > 0 then (if 0 ≤ (wrap64 (x5 - 1)) then (if (wrap64 (x5 - 1)) < (x403002.length : Int) then (if ((rd_T38 x403002 (wrap64 (x5 - 1))).f1) ≥ ((rd_T38 x403002 x5).f1) then (some false) else (hopperref05_Check.l0 k (wrap64 (x5 + 1)) x403000 x403001 x403002)) else (none)) else (none)) else (hopperref05_Check.l0 k (wrap64 (x5 + 1)) x403000 x403001 x403002))) else (some false)) else (some false))) else (none)) else (some true)
end
def hopperref05_Check.f (k : Nat) (a0_0 : Int) (a0_1 : Int) (l0_2 : List (S38)) (a1 : Int) : Option (Bool) := if a0_0 < 0 then (hopperref05_Check.j0 k true a0_0 a0_1 l0_2) else (if a0_0 > 255 then (hopperref05_Check.j0 k true a0_0 a0_1 l0_2) else (if a0_1 < 0 then (hopperref05_Check.j0 k true a0_0 a0_1 l0_2) else (if a0_1 ≥ 4294967296 then (hopperref05_Check.j0 k true a0_0 a0_1 l0_2) else (if a1 < 1 then (hopperref05_Check.j0 k true a0_0 a0_1 l0_2) else (if a1 > 16 then (hopperref05_Check.j0 k true a0_0 a0_1 l0_2) else (hopperref05_Check.j0 k (decide ((l0_2.length : Int) > a1)) a0_0 a0_1 l0_2))))))
theorem hopperref05_Check.mono_l : ∀ k, (∀ y0 y1 y2 y3, LeO (hopperref05_Check.j0 k y0 y1 y2 y3) (hopperref05_Check.j0 (k + 1) y0 y1 y2 y3)) ∧ (∀ y0 y1 y2 y3, LeO (hopperref05_Check.l0 k y0 y1 y2 y3) (hopperref05_Check.l0 (k + 1) y0 y1 y2 y3))
 | 0 => ⟨fun _ _ _ _ r h => by simp [hopperref05_Check.j0] at h, fun _ _ _ _ r h => by simp [hopperref05_Check.l0] at h⟩
 | k + 1 => by
  obtain ⟨ih0, ih1⟩ := hopperref05_Check.mono_l k
  refine ⟨?_, ?_⟩
  · intro y0 y1 y2 y3
    unfold hopperref05_Check.j0
    repeat' first
    | (with_reducible exact ih0 _ _ _ _)
    | (with_reducible exact ih1 _ _ _ _)
    | (with_reducible exact LeO.refl _)
    | (with_reducible exact LeO.none _)
    | (with_reducible refine LeO.ite ?_ ?_)
    | (with_reducible refine LeO.bind ?_ (fun _ => ?_))
    | exact ih0 _ _ _ _
    | exact ih1 _ _ _ _
    | exact LeO.none _
    | refine LeO.ite ?_ ?_
    | refine LeO.bind ?_ (fun _ => ?_)
  · intro y0 y1 y2 y3
    unfold hopperref05_Check.l0
    repeat' first
    | (with_reducible exact ih0 _ _ _ _)
    | (with_reducible exact ih1 _ _ _ _)
    | (with_reducible exact LeO.refl _)
    | (with_reducible exact LeO.none _)
    | (with_reducible refine LeO.ite ?_ ?_)
    | (with_reducible refine LeO.bind ?_ (fun _ => ?_))
    | exact ih0 _ _ _ _
    | exact ih1 _ _ _ _
    | exact LeO.none _
    | refine LeO.ite ?_ ?_
    | refine LeO.bind ?_ (fun _ => ?_)
theorem hopperref05_Check.mono : ∀ a0 a1 a2 a3 k, LeO (hopperref05_Check.f k a0 a1 a2 a3) (hopperref05_Check.f (k + 1) a0 a1 a2 a3) := by
 intro a0 a1 a2 a3 k
 obtain ⟨ih0, ih1⟩ := hopperref05_Check.mono_l k
 unfold hopperref05_Check.f
 repeat' first
  | (with_reducible exact ih0 _ _ _ _)
  | (with_reducible exact ih1 _ _ _ _)
  | (with_reducible exact LeO.refl _)
  | (with_reducible exact LeO.none _)
  | (with_reducible refine LeO.ite ?_ ?_)
  | (with_reducible refine LeO.bind ?_ (fun _ => ?_))
  | exact ih0 _ _ _ _
  | exact ih1 _ _ _ _
  | exact LeO.none _
  | refine LeO.ite ?_ ?_
  | refine LeO.bind ?_ (fun _ => ?_)
def hopperref05_Check.T7 : Bool × List (List Nat × List Nat) := (true, [([], []), ([0], [0]), ([1], [1]), ([2, 1], [2]), ([3], [3]), ([4, 3], [3, 4]), ([3], [3]), ([6, 3], [3, 6]), ([5, 7, 3], [3, 5, 7]), ([3, 8], [3, 8]), ([9, 3], [9]), ([10], [10]), ([11, 10], [10, 11]), ([10], [10]), ([13, 10], [10, 13]), ([12, 14, 10], [10, 12, 14]), ([10, 15], [10, 15]), ([16, 10], [16]), ([17], [17]), ([18, 17], [17, 18]), ([19, 17, 17], [17, 19]), ([20], [20]), ([21, 20], [20, 21]), ([20], [20]), ([23, 20], [20, 23]), ([22, 24, 20], [20, 22, 24]), ([25, 20], [20, 25]), ([26, 20], [20, 26]), ([20], [20]), ([28, 20], [20, 28]), ([27, 29, 20], [20, 27, 29]), ([20, 30, 17], [17, 20, 30]), ([17, 31], [17, 31])])
def hopperref05_Check.B7 : List Nat := [0, 1, 3, 7, 15, 31, 15, 79, 255, 511, 1023, 2047, 4095, 2047, 10239, 32767, 65535, 131071, 262143, 524287, 1048575, 2097151, 4194303, 2097151, 10485759, 33554431, 67108863, 134217727, 2097151, 270532607, 1073741823, 2147483647, 4294967295]
theorem hopperref05_Check.tab7 : rtab .any (opsOf Try.f20 7) = hopperref05_Check.T7 := by kernel_rfl
theorem hopperref05_Check.bits7 : waitsOk hopperref05_Check.T7.2 hopperref05_Check.B7 = true := by kernel_rfl
set_option maxHeartbeats 8000000 in
set_option maxRecDepth 100000 in
theorem hopperref05_Check.calls (k : Nat) (a0_0 : Int) (a0_1 : Int) (A0_2 : Option Addr) (c0_2 : Nat) (l0_2 : List (S38)) (a1 : Int) (r : Bool) (w : World) (hr0_2 : Kd.C k38 w A0_2 l0_2.length l0_2) (hc0_2 : l0_2.length ≤ c0_2) (h : hopperref05_Check.f k a0_0 a0_1 l0_2 a1 = some r) :
 Calls Try.prog 20 #[.agg #[.int .i64 a0_0, .int .i64 a0_1, .slice A0_2 l0_2.length c0_2], .int .i64 a1] w fun e w' => e = .returned (.bool r) ∧ Below w.heap.size w w' := by
 have hu35 := Try.underlying35
 have hu38 := Try.underlying38
 have HR0_2 := A_ hr0_2
 have HC0_2 := A_ hc0_2
 clear hr0_2 hc0_2; have HB := A_ (Below.refl w.heap.size w)
 have H : (if a0_0 < 0 then (hopperref05_Check.j0 k true a0_0 a0_1 l0_2) else (if a0_0 > 255 then (hopperref05_Check.j0 k true a0_0 a0_1 l0_2) else (if a0_1 < 0 then (hopperref05_Check.j0 k true a0_0 a0_1 l0_2) else (if a0_1 ≥ 4294967296 then (hopperref05_Check.j0 k true a0_0 a0_1 l0_2) else (if a1 < 1 then (hopperref05_Check.j0 k true a0_0 a0_1 l0_2) else (if a1 > 16 then (hopperref05_Check.j0 k true a0_0 a0_1 l0_2) else (hopperref05_Check.j0 k (decide ((l0_2.length : Int) > a1)) a0_0 a0_1 l0_2))))))) = some r := h
 clear h
 have HC3 := A_ H
 clear H
 go_enter Try.func20, Try.ntmps20
 go_upto_region 1 with (first | ((with_reducible refine gate_dst (N := 2) rfl ?_); (try (refine gate_guard (by rfl) ?_; dsimp only)); refine box_event ?hg (N := 2) ?hd (cs := #[.int .i64 a0_0, .int .i64 a0_1, .slice A0_2 l0_2.length c0_2]) (t := 35) ?hr ?_; (case hd => rfl); (case hg => rfl); (case hr => first | (go_simp; done) | (go_simp; rfl)); intro gb402 hg w4 hbox hb; have n0_ := A_ (below_step bw_ hb); have n1_ := A_ (hbox); have n2_ := A_ (gz_ (w := w) hg); have n3_ := A_ (gz_ (w := w) hg); replace HB := n0_; have BK402 := n1_; have GW402 := n2_; have GE402 := n3_; clear n0_ n1_ n2_ n3_; clear hb hbox hg))
 (try simp only [Act.put, s0_, s1_, s2_])
 go_cut [39] (fun v39 wc => ∃ (kq : Nat) (x39_2 : Bool), v39 = .bool x39_2 ∧ Aside0 (hopperref05_Check.j0 kq x39_2 a0_0 a0_1 l0_2 = some r) ∧ Aside0 (kq ≤ k) ∧ Aside0 (wc.heap[gb402]? = some (.cells #[.int .i64 a0_0, .int .i64 a0_1, (.slice A0_2 l0_2.length c0_2)] 35 (0, 0))) ∧ Aside0 (Below w.heap.size w wc))
 case first =>
  have H := HC3.out
  clear HC3
  by_cases c5 : a0_0 < 0
  · rw [if_pos c5] at H
    have c5b0 : decide (a0_0 < 0) = true := decide_eq_true c5
    clear c5
    (first | rw [c5b0] | (simp only [i64_w, i32_w]; rw [c5b0]) | skip)
    have H' := A_ H
    clear H; have hcz6_0 : w4.cell? ⟨gb402, 0, none⟩ = some (.int .i64 a0_0) := e_ BK402 0; have hcz6_1 : w4.cell? ⟨gb402, 1, none⟩ = some (.int .i64 a0_1) := e_ BK402 1; have hcz6_2 : w4.cell? ⟨gb402, 2, none⟩ = some (.slice A0_2 l0_2.length c0_2) := e_ BK402 2; obtain ⟨hfz6_0, hfz6_1, hfz6_2⟩ := z3_ BK402
    go_wp2
    go_meet
    case rel => exact ⟨_, (true), (by first | rfl | (simp; done) | (simp [*]; done)), H', ⟨by first | omega | exact Nat.le_refl _⟩, ⟨bk_⟩, ⟨by repeat (first | (with_reducible first | exact HB.out | apply wa_ | apply wn_ | apply wd_ | refine ws_ ?_ GE402.out) | exact HB.out)⟩⟩
  · rw [if_neg c5] at H
    have c5b0 : decide (a0_0 < 0) = false := decide_eq_false c5
    clear c5
    (first | rw [c5b0] | (simp only [i64_w, i32_w]; rw [c5b0]) | skip)
    by_cases c7 : a0_0 > 255
    · rw [if_pos c7] at H
      have c7b0 : decide (255 < a0_0) = true := decide_eq_true c7
      clear c7
      have H' := A_ H
      clear H; have hcz8_0 : w4.cell? ⟨gb402, 0, none⟩ = some (.int .i64 a0_0) := e_ BK402 0; have hcz8_1 : w4.cell? ⟨gb402, 1, none⟩ = some (.int .i64 a0_1) := e_ BK402 1; have hcz8_2 : w4.cell? ⟨gb402, 2, none⟩ = some (.slice A0_2 l0_2.length c0_2) := e_ BK402 2; obtain ⟨hfz8_0, hfz8_1, hfz8_2⟩ := z3_ BK402
      go_wp2
      go_meet
      case rel => exact ⟨_, (true), (by first | rfl | (simp; done) | (simp [*]; done)), H', ⟨by first | omega | exact Nat.le_refl _⟩, ⟨bk_⟩, ⟨by repeat (first | (with_reducible first | exact HB.out | apply wa_ | apply wn_ | apply wd_ | refine ws_ ?_ GE402.out) | exact HB.out)⟩⟩
    · rw [if_neg c7] at H
      have c7b0 : decide (255 < a0_0) = false := decide_eq_false c7
      clear c7
      by_cases c9 : a0_1 < 0
      · rw [if_pos c9] at H
        have c9b0 : decide (a0_1 < 0) = true := decide_eq_true c9
        clear c9
        have H' := A_ H
        clear H; have hcz10_0 : w4.cell? ⟨gb402, 0, none⟩ = some (.int .i64 a0_0) := e_ BK402 0; have hcz10_1 : w4.cell? ⟨gb402, 1, none⟩ = some (.int .i64 a0_1) := e_ BK402 1; have hcz10_2 : w4.cell? ⟨gb402, 2, none⟩ = some (.slice A0_2 l0_2.length c0_2) := e_ BK402 2; obtain ⟨hfz10_0, hfz10_1, hfz10_2⟩ := z3_ BK402
        go_wp2
        go_meet
        case rel => exact ⟨_, (true), (by first | rfl | (simp; done) | (simp [*]; done)), H', ⟨by first | omega | exact Nat.le_refl _⟩, ⟨bk_⟩, ⟨by repeat (first | (with_reducible first | exact HB.out | apply wa_ | apply wn_ | apply wd_ | refine ws_ ?_ GE402.out) | exact HB.out)⟩⟩
      · rw [if_neg c9] at H
        have c9b0 : decide (a0_1 < 0) = false := decide_eq_false c9
        clear c9
        by_cases c11 : a0_1 ≥ 4294967296
        · rw [if_pos c11] at H
          have c11b0 : decide (4294967296 ≤ a0_1) = true := decide_eq_true c11
          clear c11
          have H' := A_ H
          clear H; have hcz12_0 : w4.cell? ⟨gb402, 0, none⟩ = some (.int .i64 a0_0) := e_ BK402 0; have hcz12_1 : w4.cell? ⟨gb402, 1, none⟩ = some (.int .i64 a0_1) := e_ BK402 1; have hcz12_2 : w4.cell? ⟨gb402, 2, none⟩ = some (.slice A0_2 l0_2.length c0_2) := e_ BK402 2; obtain ⟨hfz12_0, hfz12_1, hfz12_2⟩ := z3_ BK402
          go_wp2
          go_meet
          case rel => exact ⟨_, (true), (by first | rfl | (simp; done) | (simp [*]; done)), H', ⟨by first | omega | exact Nat.le_refl _⟩, ⟨bk_⟩, ⟨by repeat (first | (with_reducible first | exact HB.out | apply wa_ | apply wn_ | apply wd_ | refine ws_ ?_ GE402.out) | exact HB.out)⟩⟩
        · rw [if_neg c11] at H
          have c11b0 : decide (4294967296 ≤ a0_1) = false := decide_eq_false c11
          clear c11
          by_cases c13 : a1 < 1
          · rw [if_pos c13] at H
            have c13b0 : decide (a1 < 1) = true := decide_eq_true c13
            clear c13
            have H' := A_ H
            clear H; have hcz14_0 : w4.cell? ⟨gb402, 0, none⟩ = some (.int .i64 a0_0) := e_ BK402 0; have hcz14_1 : w4.cell? ⟨gb402, 1, none⟩ = some (.int .i64 a0_1) := e_ BK402 1; have hcz14_2 : w4.cell? ⟨gb402, 2, none⟩ = some (.slice A0_2 l0_2.length c0_2) := e_ BK402 2; obtain ⟨hfz14_0, hfz14_1, hfz14_2⟩ := z3_ BK402
            go_wp2
            go_meet
            case rel => exact ⟨_, (true), (by first | rfl | (simp; done) | (simp [*]; done)), H', ⟨by first | omega | exact Nat.le_refl _⟩, ⟨bk_⟩, ⟨by repeat (first | (with_reducible first | exact HB.out | apply wa_ | apply wn_ | apply wd_ | refine ws_ ?_ GE402.out) | exact HB.out)⟩⟩
          · rw [if_neg c13] at H
            have c13b0 : decide (a1 < 1) = false := decide_eq_false c13
            clear c13
            by_cases c15 : a1 > 16
            · rw [if_pos c15] at H
              have c15b0 : decide (16 < a1) = true := decide_eq_true c15
              clear c15
              have H' := A_ H
              clear H; have hcz16_0 : w4.cell? ⟨gb402, 0, none⟩ = some (.int .i64 a0_0) := e_ BK402 0; have hcz16_1 : w4.cell? ⟨gb402, 1, none⟩ = some (.int .i64 a0_1) := e_ BK402 1; have hcz16_2 : w4.cell? ⟨gb402, 2, none⟩ = some (.slice A0_2 l0_2.length c0_2) := e_ BK402 2; obtain ⟨hfz16_0, hfz16_1, hfz16_2⟩ := z3_ BK402
              go_wp2
              go_meet
              case rel => exact ⟨_, (true), (by first | rfl | (simp; done) | (simp [*]; done)), H', ⟨by first | omega | exact Nat.le_refl _⟩, ⟨bk_⟩, ⟨by repeat (first | (with_reducible first | exact HB.out | apply wa_ | apply wn_ | apply wd_ | refine ws_ ?_ GE402.out) | exact HB.out)⟩⟩
            · rw [if_neg c15] at H
              have c15b0 : decide (16 < a1) = false := decide_eq_false c15
              clear c15
              have H' := A_ H
              clear H; have hcz17_0 : w4.cell? ⟨gb402, 0, none⟩ = some (.int .i64 a0_0) := e_ BK402 0; have hcz17_1 : w4.cell? ⟨gb402, 1, none⟩ = some (.int .i64 a0_1) := e_ BK402 1; have hcz17_2 : w4.cell? ⟨gb402, 2, none⟩ = some (.slice A0_2 l0_2.length c0_2) := e_ BK402 2; obtain ⟨hfz17_0, hfz17_1, hfz17_2⟩ := z3_ BK402
              go_wp2
              go_meet
              case rel => exact ⟨_, (decide ((l0_2.length : Int) > a1)), (by first | rfl | (simp; done) | (simp [*]; done)), H', ⟨by first | omega | exact Nat.le_refl _⟩, ⟨bk_⟩, ⟨by repeat (first | (with_reducible first | exact HB.out | apply wa_ | apply wn_ | apply wd_ | refine ws_ ?_ GE402.out) | exact HB.out)⟩⟩
 case rest =>
  clear HC3; (try clear c1); (try clear c2); (try clear p2); (try clear c5); (try clear c5b0); (try clear c7); (try clear c7b0); (try clear c9); (try clear c9b0); (try clear c11); (try clear c11b0); (try clear c13); (try clear c13b0); (try clear c15); (try clear c15b0); (try clear hcz10_0 hcz10_1 hcz10_2); (try clear hcz12_0 hcz12_1 hcz12_2); (try clear hcz14_0 hcz14_1 hcz14_2); (try clear hcz16_0 hcz16_1 hcz16_2); (try clear hcz17_0 hcz17_1 hcz17_2); (try clear hcz6_0 hcz6_1 hcz6_2); (try clear hcz8_0 hcz8_1 hcz8_2); (try clear hfz10_0 hfz10_1 hfz10_2); (try clear hfz12_0 hfz12_1 hfz12_2); (try clear hfz14_0 hfz14_1 hfz14_2); (try clear hfz16_0 hfz16_1 hfz16_2); (try clear hfz17_0 hfz17_1 hfz17_2); (try clear hfz6_0 hfz6_1 hfz6_2); (try clear hfz8_0 hfz8_1 hfz8_2)
  obtain ⟨kq, x39_2, rfl, HA, HJ2, BK402, HB⟩ := hcut
  cases kq with
  | zero => exact absurd HA.out (by simp [hopperref05_Check.j0])
  | succ kj2 =>
   have H := HA.out
   clear HA
   simp only [hopperref05_Check.j0] at H
   by_cases c18 : x39_2 = true
   · subst c18
     have H1 : (some false) = some r := by rw [if_pos rfl] at H; exact H
     clear H
     have H := H1
     clear H1
     obtain rfl := Option.some.inj H
     go_wp2
     go_ret
     exact ⟨by first | rfl | (simp [errW_none, errW_some] <;> rfl) | (simp [*, errW_none, errW_some] <;> rfl), by repeat (first | (with_reducible first | exact HB.out | apply wa_ | apply wn_ | apply wd_ | refine ws_ ?_ GE402.out) | exact HB.out)⟩
   replace c18 := Bool.eq_false_iff.mpr c18
   subst c18
   have H1 : (hopperref05_Check.l0 kj2 0 a0_0 a0_1 l0_2) = some r := by rw [if_neg (show ¬ (false = true) by decide)] at H; exact H
   clear H
   have H := H1
   clear H1
   have H' := A_ H
   clear H
   go_wp2
   go_loopg [5] kj2 (fun kq v5 w' => ∃ (x5_2 : Int), v5 = .int .i64 x5_2 ∧ Aside0 (hopperref05_Check.l0 kq x5_2 a0_0 a0_1 l0_2 = some r) ∧ Aside0 (kq ≤ kj2) ∧ Aside0 (w'.heap[gb402]? = some (.cells #[.int .i64 a0_0, .int .i64 a0_1, (.slice A0_2 l0_2.length c0_2)] 35 (0, 0))) ∧ Aside0 (Below w.heap.size w w'))
   case atStart => exact ⟨(0), (by first | rfl | (simp; done) | (simp [*]; done)), H', ⟨Nat.le_refl _⟩, ⟨bk_⟩, ⟨by repeat (first | (with_reducible first | exact HB.out | apply wa_ | apply wn_ | apply wd_ | refine ws_ ?_ GE402.out) | exact HB.out)⟩⟩
   case round =>
    clear H'; (try clear c1); (try clear c2); (try clear p2); (try clear c5); (try clear c5b0); (try clear c7); (try clear c7b0); (try clear c9); (try clear c9b0); (try clear c11); (try clear c11b0); (try clear c13); (try clear c13b0); (try clear c15); (try clear c15b0); (try clear c18); (try clear hcz10_0 hcz10_1 hcz10_2); (try clear hcz12_0 hcz12_1 hcz12_2); (try clear hcz14_0 hcz14_1 hcz14_2); (try clear hcz16_0 hcz16_1 hcz16_2); (try clear hcz17_0 hcz17_1 hcz17_2); (try clear hcz6_0 hcz6_1 hcz6_2); (try clear hcz8_0 hcz8_1 hcz8_2); (try clear hfz10_0 hfz10_1 hfz10_2); (try clear hfz12_0 hfz12_1 hfz12_2); (try clear hfz14_0 hfz14_1 hfz14_2); (try clear hfz16_0 hfz16_1 hfz16_2); (try clear hfz17_0 hfz17_1 hfz17_2); (try clear hfz6_0 hfz6_1 hfz6_2); (try clear hfz8_0 hfz8_1 hfz8_2); (try clear p2)
    obtain ⟨x5_2, rfl, HA, HK2, BK402, HB⟩ := hrel
    cases gk with
    | zero => exact absurd HA.out (by simp [hopperref05_Check.l0])
    | succ k2 =>
     have H := HA.out
     clear HA
     simp only [hopperref05_Check.l0] at H
     by_cases c19 : x5_2 < (l0_2.length : Int)
     · rw [if_pos c19] at H
       have c19b0 : decide (x5_2 < (l0_2.length : Int)) = true := decide_eq_true c19
       clear c19
       by_cases c20 : 0 ≤ x5_2
       rotate_left
       · rw [if_neg c20] at H
         exact absurd H (by simp)
       rw [if_pos c20] at H
       have c20b0 : decide (0 ≤ x5_2) = true := decide_eq_true c20
       clear c20
       replace H := Option.bind_eq_some_iff.mp H
       obtain ⟨t405, A210, H⟩ := H
       try dsimp only at H
       have A21 := A_ A210
       clear A210
       by_cases c22 : t405 = true
       · subst c22
         have H1 : (if ((rd_T38 l0_2 x5_2).f0) = a0_0 then (if ((rd_T38 l0_2 x5_2).f1) < a0_1 then (some false) else (if x5_2 > 0 then (if 0 ≤ (wrap64 (x5_2 - 1)) then (if (wrap64 (x5_2 - 1)) < (l0_2.length : Int) then (if ((rd_T38 l0_2 (wrap64 (x5_2 - 1))).f1) ≥ ((rd_T38 l0_2 x5_2).f1) then (some false) else (hopperref05_Check.l0 k2 (wrap64 (x5_2 + 1)) a0_0 a0_1 l0_2)) else (none)) else (none)) else (hopperref05_Check.l0 k2 (wrap64 (x5_2 + 1)) a0_0 a0_1 l0_2))) else (some false)) = some r := by rw [if_pos rfl] at H; exact H
         clear H
         have H := H1
         clear H1
         by_cases c23 : ((rd_T38 l0_2 x5_2).f0) = a0_0
         · rw [if_pos c23] at H
           have c23b0 : (((rd_T38 l0_2 x5_2).f0) == a0_0) = true := beq_iff_eq.mpr c23
           have c23b1 : (((rd_T38 l0_2 x5_2).f0) != a0_0) = false := bne_eq_false_iff_eq.mpr c23
           clear c23
           by_cases c24 : ((rd_T38 l0_2 x5_2).f1) < a0_1
           · rw [if_pos c24] at H
             have c24b0 : decide (((rd_T38 l0_2 x5_2).f1) < a0_1) = true := decide_eq_true c24
             clear c24
             obtain rfl := Option.some.inj H
             have hcz25_0 : wr.cell? ⟨gb402, 0, none⟩ = some (.int .i64 a0_0) := e_ BK402 0; have hcz25_1 : wr.cell? ⟨gb402, 1, none⟩ = some (.int .i64 a0_1) := e_ BK402 1; have hcz25_2 : wr.cell? ⟨gb402, 2, none⟩ = some (.slice A0_2 l0_2.length c0_2) := e_ BK402 2; obtain ⟨hfz25_0, hfz25_1, hfz25_2⟩ := z3_ BK402
             have p403 : 0 ≤ (x5_2 : Int) := of_decide_eq_true (by first | (with_reducible assumption) | assumption)
             have q403 : x5_2 < (l0_2.length : Int) := of_decide_eq_true (by first | (with_reducible assumption) | assumption)
             obtain ⟨ad403, e403, hx403_0, hx403_1, hx403_2, hx403_3, hx403_4, hx403_5⟩ := at_T38 HR0_2.out x5_2 p403 q403
             cases e403
             replace hx403_0 := on_ HB.out hx403_0
             replace hx403_1 := on_ HB.out hx403_1
             replace hx403_2 := on_ HB.out hx403_2
             replace hx403_3 := on_ HB.out hx403_3
             replace hx403_4 := on_ HB.out hx403_4
             replace hx403_5 := on_ HB.out hx403_5
             replace p403 := eq_true p403
             replace q403 := eq_true q403
             try go_wp2_with (first | ((with_reducible refine gate_dst (N := 6) rfl ?_); (try (refine gate_guard (by rfl) ?_; dsimp only)); refine box_event ?hg (N := 6) ?hd (cs := #[.int .i64 0, .int .i64 0, .int .i64 0, .int .i64 0, .int .i64 0, .string (⟨#[]⟩ : ByteArray)]) (t := 38) ?hr ?_; (case hd => rfl); (case hg => rfl); (case hr => first | (go_simp; done) | (go_simp; rfl)); intro gb404 hg w26 hbox hb; have n0_ := A_ (kb_ BK402 hb); have n1_ := A_ (below_step bw_ hb); have n2_ := A_ (hbox); have n3_ := A_ (gz_ (w := w) hg); have n4_ := A_ (gz_ (w := w) hg); have n5_ := A_ (nl_ BK402 hg); have n6_ := A_ (ng_ BK402 hg); replace BK402 := n0_; replace HB := n1_; have BK404 := n2_; have GW404 := n3_; have GE404 := n4_; have NB402_404 := n5_; have NB404_402 := n6_; clear n0_ n1_ n2_ n3_ n4_ n5_ n6_; clear hb hbox hg; have hnb27 := NB404_402.out; have hnc27 := NB402_404.out; have hcz28_0 : w26.cell? ⟨gb404, 0, none⟩ = some (.int .i64 0) := e_ BK404 0; have hcz28_1 : w26.cell? ⟨gb404, 1, none⟩ = some (.int .i64 0) := e_ BK404 1; have hcz28_2 : w26.cell? ⟨gb404, 2, none⟩ = some (.int .i64 0) := e_ BK404 2; have hcz28_3 : w26.cell? ⟨gb404, 3, none⟩ = some (.int .i64 0) := e_ BK404 3; have hcz28_4 : w26.cell? ⟨gb404, 4, none⟩ = some (.int .i64 0) := e_ BK404 4; have hcz28_5 : w26.cell? ⟨gb404, 5, none⟩ = some (.string (⟨#[]⟩ : ByteArray)) := e_ BK404 5; obtain ⟨hfz28_0, hfz28_1, hfz28_2, hfz28_3, hfz28_4, hfz28_5⟩ := z6_ BK404))
             have n0_ : Aside0 (((((((w26.setCell ⟨gb404, 0, none⟩ (.int .i64 ((rd_T38 l0_2 x5_2).f0))).setCell ⟨gb404, 1, none⟩ (.int .i64 ((rd_T38 l0_2 x5_2).f1))).setCell ⟨gb404, 2, none⟩ (.int .i64 ((rd_T38 l0_2 x5_2).f2))).setCell ⟨gb404, 3, none⟩ (.int .i64 ((rd_T38 l0_2 x5_2).f3))).setCell ⟨gb404, 4, none⟩ (.int .i64 ((rd_T38 l0_2 x5_2).f4))).setCell ⟨gb404, 5, none⟩ (.string ((rd_T38 l0_2 x5_2).f5))).heap[gb402]? = some (.cells #[.int .i64 a0_0, .int .i64 a0_1, .slice (some ad403) l0_2.length c0_2] 35 (0, 0))) := ⟨bk_⟩; have n1_ : Aside0 (((((((w26.setCell ⟨gb404, 0, none⟩ (.int .i64 ((rd_T38 l0_2 x5_2).f0))).setCell ⟨gb404, 1, none⟩ (.int .i64 ((rd_T38 l0_2 x5_2).f1))).setCell ⟨gb404, 2, none⟩ (.int .i64 ((rd_T38 l0_2 x5_2).f2))).setCell ⟨gb404, 3, none⟩ (.int .i64 ((rd_T38 l0_2 x5_2).f3))).setCell ⟨gb404, 4, none⟩ (.int .i64 ((rd_T38 l0_2 x5_2).f4))).setCell ⟨gb404, 5, none⟩ (.string ((rd_T38 l0_2 x5_2).f5))).heap[gb404]? = some (.cells #[.int .i64 ((rd_T38 l0_2 x5_2).f0), .int .i64 ((rd_T38 l0_2 x5_2).f1), .int .i64 ((rd_T38 l0_2 x5_2).f2), .int .i64 ((rd_T38 l0_2 x5_2).f3), .int .i64 ((rd_T38 l0_2 x5_2).f4), .string ((rd_T38 l0_2 x5_2).f5)] 38 (0, 0))) := ⟨by exact pk_ (b6_ BK404.out)⟩; have n2_ : Aside0 (Below w.heap.size w ((((((w26.setCell ⟨gb404, 0, none⟩ (.int .i64 ((rd_T38 l0_2 x5_2).f0))).setCell ⟨gb404, 1, none⟩ (.int .i64 ((rd_T38 l0_2 x5_2).f1))).setCell ⟨gb404, 2, none⟩ (.int .i64 ((rd_T38 l0_2 x5_2).f2))).setCell ⟨gb404, 3, none⟩ (.int .i64 ((rd_T38 l0_2 x5_2).f3))).setCell ⟨gb404, 4, none⟩ (.int .i64 ((rd_T38 l0_2 x5_2).f4))).setCell ⟨gb404, 5, none⟩ (.string ((rd_T38 l0_2 x5_2).f5)))) := ⟨by repeat (first | (with_reducible first | exact HB.out | apply wa_ | apply wn_ | apply wd_ | refine ws_ ?_ GE402.out | refine ws_ ?_ GE404.out) | exact HB.out)⟩
             (try clear BK402)
             (try clear BK404)
             (try clear HB)
             generalize ((((((w26.setCell ⟨gb404, 0, none⟩ (.int .i64 ((rd_T38 l0_2 x5_2).f0))).setCell ⟨gb404, 1, none⟩ (.int .i64 ((rd_T38 l0_2 x5_2).f1))).setCell ⟨gb404, 2, none⟩ (.int .i64 ((rd_T38 l0_2 x5_2).f2))).setCell ⟨gb404, 3, none⟩ (.int .i64 ((rd_T38 l0_2 x5_2).f3))).setCell ⟨gb404, 4, none⟩ (.int .i64 ((rd_T38 l0_2 x5_2).f4))).setCell ⟨gb404, 5, none⟩ (.string ((rd_T38 l0_2 x5_2).f5))) = w29 at n0_ n1_ n2_ ⊢
             have BK402 := n0_; have BK404 := n1_; have HB := n2_; clear n0_ n1_ n2_; have n0_ := A_ (bd_ BK402.out); have n1_ := A_ (bd_ BK404.out); have n2_ := A_ (wd_ HB.out); replace BK402 := n0_; replace BK404 := n1_; replace HB := n2_; clear n0_ n1_ n2_
             refine start_ (n := 33) (S := fun w' => w'.cell? ⟨gb404, 0, none⟩ = some (.int .i64 ((rd_T38 l0_2 x5_2).f0)) ∧ w'.cell? ⟨gb404, 1, none⟩ = some (.int .i64 ((rd_T38 l0_2 x5_2).f1)) ∧ w'.cell? ⟨gb404, 2, none⟩ = some (.int .i64 ((rd_T38 l0_2 x5_2).f2)) ∧ w'.cell? ⟨gb404, 3, none⟩ = some (.int .i64 ((rd_T38 l0_2 x5_2).f3)) ∧ w'.cell? ⟨gb404, 4, none⟩ = some (.int .i64 ((rd_T38 l0_2 x5_2).f4)) ∧ w'.cell? ⟨gb404, 5, none⟩ = some (.string ((rd_T38 l0_2 x5_2).f5)) ∧ w'.cell? ⟨gb402, 0, none⟩ = some (.int .i64 a0_0) ∧ w'.cell? ⟨gb402, 1, none⟩ = some (.int .i64 a0_1) ∧ w'.cell? ⟨gb402, 2, none⟩ = some (.slice (some ad403) l0_2.length c0_2)) (ds := []) #[F,F,F,F,F,F,F,F,F,F,F,F,F,F,F,F,F,F,F,F,F,F,F,F,F,F,F,F,F,F,F,F,F] (by kernel_rfl) rfl rfl ⟨e_ BK404 0, e_ BK404 1, e_ BK404 2, e_ BK404 3, e_ BK404 4, e_ BK404 5, e_ BK402 0, e_ BK402 1, e_ BK402 2⟩ (fun hHeld => ?_); refine with_tabW hopperref05_Check.tab7 hopperref05_Check.bits7 (fun HT_ HW_ => ?_)
             generalize w29.drew = w30 at BK402 BK404 HB hHeld ⊢
             refine tk_ 0 52 HT_ HW_ hHeld ?_
             refine one_ (i := 1) (N := some 53) #[T,T,F,F,F,F,F,F,F,F,F,F,F,F,F,F,F,F,F,F,F,F,F,F,F,F,F,F,F,F,F,F,F] rfl rfl (one_of HT_.out (by kernel_rfl)) (by decide) (fun K hK => ?_)
             refine goes_ Try.func36 (by kernel_rfl) rfl #[.agg #[.int .i64 ((rd_T38 l0_2 x5_2).f0), .int .i64 ((rd_T38 l0_2 x5_2).f1), .int .i64 ((rd_T38 l0_2 x5_2).f2), .int .i64 ((rd_T38 l0_2 x5_2).f3), .int .i64 ((rd_T38 l0_2 x5_2).f4), .string ((rd_T38 l0_2 x5_2).f5)]] (by rfl) rfl rfl (by (try simp only [m0_, m1_, m2_]); first | done | rfl) ?_
             with_reducible refine (hopperref04_Check.calls ((rd_T38 l0_2 x5_2).f0) ((rd_T38 l0_2 x5_2).f1) ((rd_T38 l0_2 x5_2).f2) ((rd_T38 l0_2 x5_2).f3) ((rd_T38 l0_2 x5_2).f4) ((rd_T38 l0_2 x5_2).f5) true _ A21.out).mono ?_
             rintro e w31 ⟨rfl, hb⟩
             refine ⟨_, rfl, ?_⟩
             have n0_ := A_ (kb_ BK402 hb); have n1_ := A_ (kb_ BK404 hb); have n2_ := A_ (below_step bw_ hb); replace BK402 := n0_; replace BK404 := n1_; replace HB := n2_; clear n0_ n1_ n2_
             (try clear hb)
             (try clear hb2)
             (try clear hk)
             (try clear hi)
             refine hK.out _ _ ⟨e_ BK404 0, e_ BK404 1, e_ BK404 2, e_ BK404 3, e_ BK404 4, e_ BK404 5, e_ BK402 0, e_ BK402 1, e_ BK402 2⟩ (fun hHeld => ?_)
             clear hK K
             refine norm_ (a' := ?_) ?_ ?_
             rotate_left
             · show Act.put _ (some 53) _ = _
               simp only [Act.put, s0_, s1_, s2_, i64_w, i32_w]
               rfl
             refine pq_ 2 54 HT_ ?_
             refine pq_ 3 55 HT_ ?_
             refine pq_ 4 56 HT_ ?_
             refine pq_ 6 58 HT_ ?_
             refine tk_ 5 57 HT_ HW_ hHeld ?_
             refine tk_ 7 59 HT_ HW_ hHeld ?_
             refine pq_ 8 60 HT_ ?_
             refine pq_ 9 61 HT_ ?_
             refine pq_ 10 62 HT_ ?_
             refine pq_ 11 63 HT_ ?_
             refine pq_ 13 65 HT_ ?_
             refine tk_ 12 64 HT_ HW_ hHeld ?_
             refine tk_ 14 66 HT_ HW_ hHeld ?_
             refine pq_ 15 67 HT_ ?_
             refine pq_ 16 68 HT_ ?_
             refine pq_ 17 69 HT_ ?_
             refine pu_ 18 70 HT_ ?_
             refine pu_ 19 71 HT_ ?_
             refine pu_ 20 72 HT_ ?_
             refine pu_ 21 73 HT_ ?_
             refine pu_ 22 74 HT_ ?_
             refine pu_ 23 75 HT_ ?_
             refine pu_ 24 76 HT_ ?_
             refine pu_ 25 77 HT_ ?_
             refine pu_ 26 78 HT_ ?_
             refine pu_ 27 79 HT_ ?_
             refine pu_ 28 80 HT_ ?_
             refine pu_ 29 81 HT_ ?_
             refine pu_ 30 82 HT_ ?_
             refine pu_ 31 83 HT_ ?_
             refine pq_ 32 84 HT_ ?_
             refine done_ (done_of HT_.out (by kernel_rfl)) ?_
             try go_wp2
             go_ret
             exact ⟨by first | rfl | (simp [errW_none, errW_some] <;> rfl) | (simp [*, errW_none, errW_some] <;> rfl), by repeat (first | (with_reducible first | exact HB.out | apply wa_ | apply wn_ | apply wd_ | refine ws_ ?_ GE402.out | refine ws_ ?_ GE404.out) | exact HB.out)⟩
           · rw [if_neg c24] at H
             have c24b0 : decide (((rd_T38 l0_2 x5_2).f1) < a0_1) = false := decide_eq_false c24
             clear c24
             by_cases c32 : x5_2 > 0
             · rw [if_pos c32] at H
               have c32b0 : decide (0 < x5_2) = true := decide_eq_true c32
               clear c32
               obtain ⟨ji33, hji33⟩ : ∃ j_ : Int, (wrap64 (x5_2 - 1)) = j_ := ⟨_, rfl⟩
               replace H : (if 0 ≤ (ji33) then (if (ji33) < (l0_2.length : Int) then (if ((rd_T38 l0_2 (ji33)).f1) ≥ ((rd_T38 l0_2 x5_2).f1) then (some false) else (hopperref05_Check.l0 k2 (wrap64 (x5_2 + 1)) a0_0 a0_1 l0_2)) else (none)) else (none)) = some r := by first | (rw [hji33] at H; exact H) | (simp only [hji33] at H ⊢; exact H)
               (try rw [hji33] at A21)
               have hji33w : (IntKind.i64.wrap (x5_2 - 1)) = ji33 := (i64_w _).trans hji33
               by_cases c34 : 0 ≤ (ji33)
               rotate_left
               · rw [if_neg c34] at H
                 exact absurd H (by simp)
               rw [if_pos c34] at H
               have c34b0 : decide (0 ≤ (ji33)) = true := decide_eq_true c34
               clear c34
               by_cases c35 : (ji33) < (l0_2.length : Int)
               rotate_left
               · rw [if_neg c35] at H
                 exact absurd H (by simp)
               rw [if_pos c35] at H
               have c35b0 : decide ((ji33) < (l0_2.length : Int)) = true := decide_eq_true c35
               clear c35
               by_cases c36 : ((rd_T38 l0_2 (ji33)).f1) ≥ ((rd_T38 l0_2 x5_2).f1)
               · rw [if_pos c36] at H
                 have c36b0 : decide (((rd_T38 l0_2 x5_2).f1) ≤ ((rd_T38 l0_2 (ji33)).f1)) = true := decide_eq_true c36
                 clear c36
                 obtain rfl := Option.some.inj H
                 have hcz37_0 : wr.cell? ⟨gb402, 0, none⟩ = some (.int .i64 a0_0) := e_ BK402 0; have hcz37_1 : wr.cell? ⟨gb402, 1, none⟩ = some (.int .i64 a0_1) := e_ BK402 1; have hcz37_2 : wr.cell? ⟨gb402, 2, none⟩ = some (.slice A0_2 l0_2.length c0_2) := e_ BK402 2; obtain ⟨hfz37_0, hfz37_1, hfz37_2⟩ := z3_ BK402
                 have p403 : 0 ≤ (x5_2 : Int) := of_decide_eq_true (by first | (with_reducible assumption) | assumption)
                 have q403 : x5_2 < (l0_2.length : Int) := of_decide_eq_true (by first | (with_reducible assumption) | assumption)
                 obtain ⟨ad403, e403, hx403_0, hx403_1, hx403_2, hx403_3, hx403_4, hx403_5⟩ := at_T38 HR0_2.out x5_2 p403 q403
                 cases e403
                 replace hx403_0 := on_ HB.out hx403_0
                 replace hx403_1 := on_ HB.out hx403_1
                 replace hx403_2 := on_ HB.out hx403_2
                 replace hx403_3 := on_ HB.out hx403_3
                 replace hx403_4 := on_ HB.out hx403_4
                 replace hx403_5 := on_ HB.out hx403_5
                 replace p403 := eq_true p403
                 replace q403 := eq_true q403
                 try go_wp2_with (first | ((with_reducible refine gate_dst (N := 6) rfl ?_); (try (refine gate_guard (by rfl) ?_; dsimp only)); refine box_event ?hg (N := 6) ?hd (cs := #[.int .i64 0, .int .i64 0, .int .i64 0, .int .i64 0, .int .i64 0, .string (⟨#[]⟩ : ByteArray)]) (t := 38) ?hr ?_; (case hd => rfl); (case hg => rfl); (case hr => first | (go_simp; done) | (go_simp; rfl)); intro gb404 hg w38 hbox hb; have n0_ := A_ (kb_ BK402 hb); have n1_ := A_ (below_step bw_ hb); have n2_ := A_ (hbox); have n3_ := A_ (gz_ (w := w) hg); have n4_ := A_ (gz_ (w := w) hg); have n5_ := A_ (nl_ BK402 hg); have n6_ := A_ (ng_ BK402 hg); replace BK402 := n0_; replace HB := n1_; have BK404 := n2_; have GW404 := n3_; have GE404 := n4_; have NB402_404 := n5_; have NB404_402 := n6_; clear n0_ n1_ n2_ n3_ n4_ n5_ n6_; clear hb hbox hg; have hnb39 := NB404_402.out; have hnc39 := NB402_404.out; have hcz40_0 : w38.cell? ⟨gb404, 0, none⟩ = some (.int .i64 0) := e_ BK404 0; have hcz40_1 : w38.cell? ⟨gb404, 1, none⟩ = some (.int .i64 0) := e_ BK404 1; have hcz40_2 : w38.cell? ⟨gb404, 2, none⟩ = some (.int .i64 0) := e_ BK404 2; have hcz40_3 : w38.cell? ⟨gb404, 3, none⟩ = some (.int .i64 0) := e_ BK404 3; have hcz40_4 : w38.cell? ⟨gb404, 4, none⟩ = some (.int .i64 0) := e_ BK404 4; have hcz40_5 : w38.cell? ⟨gb404, 5, none⟩ = some (.string (⟨#[]⟩ : ByteArray)) := e_ BK404 5; obtain ⟨hfz40_0, hfz40_1, hfz40_2, hfz40_3, hfz40_4, hfz40_5⟩ := z6_ BK404))
                 have n0_ : Aside0 (((((((w38.setCell ⟨gb404, 0, none⟩ (.int .i64 ((rd_T38 l0_2 x5_2).f0))).setCell ⟨gb404, 1, none⟩ (.int .i64 ((rd_T38 l0_2 x5_2).f1))).setCell ⟨gb404, 2, none⟩ (.int .i64 ((rd_T38 l0_2 x5_2).f2))).setCell ⟨gb404, 3, none⟩ (.int .i64 ((rd_T38 l0_2 x5_2).f3))).setCell ⟨gb404, 4, none⟩ (.int .i64 ((rd_T38 l0_2 x5_2).f4))).setCell ⟨gb404, 5, none⟩ (.string ((rd_T38 l0_2 x5_2).f5))).heap[gb402]? = some (.cells #[.int .i64 a0_0, .int .i64 a0_1, .slice (some ad403) l0_2.length c0_2] 35 (0, 0))) := ⟨bk_⟩; have n1_ : Aside0 (((((((w38.setCell ⟨gb404, 0, none⟩ (.int .i64 ((rd_T38 l0_2 x5_2).f0))).setCell ⟨gb404, 1, none⟩ (.int .i64 ((rd_T38 l0_2 x5_2).f1))).setCell ⟨gb404, 2, none⟩ (.int .i64 ((rd_T38 l0_2 x5_2).f2))).setCell ⟨gb404, 3, none⟩ (.int .i64 ((rd_T38 l0_2 x5_2).f3))).setCell ⟨gb404, 4, none⟩ (.int .i64 ((rd_T38 l0_2 x5_2).f4))).setCell ⟨gb404, 5, none⟩ (.string ((rd_T38 l0_2 x5_2).f5))).heap[gb404]? = some (.cells #[.int .i64 ((rd_T38 l0_2 x5_2).f0), .int .i64 ((rd_T38 l0_2 x5_2).f1), .int .i64 ((rd_T38 l0_2 x5_2).f2), .int .i64 ((rd_T38 l0_2 x5_2).f3), .int .i64 ((rd_T38 l0_2 x5_2).f4), .string ((rd_T38 l0_2 x5_2).f5)] 38 (0, 0))) := ⟨by exact pk_ (b6_ BK404.out)⟩; have n2_ : Aside0 (Below w.heap.size w ((((((w38.setCell ⟨gb404, 0, none⟩ (.int .i64 ((rd_T38 l0_2 x5_2).f0))).setCell ⟨gb404, 1, none⟩ (.int .i64 ((rd_T38 l0_2 x5_2).f1))).setCell ⟨gb404, 2, none⟩ (.int .i64 ((rd_T38 l0_2 x5_2).f2))).setCell ⟨gb404, 3, none⟩ (.int .i64 ((rd_T38 l0_2 x5_2).f3))).setCell ⟨gb404, 4, none⟩ (.int .i64 ((rd_T38 l0_2 x5_2).f4))).setCell ⟨gb404, 5, none⟩ (.string ((rd_T38 l0_2 x5_2).f5)))) := ⟨by repeat (first | (with_reducible first | exact HB.out | apply wa_ | apply wn_ | apply wd_ | refine ws_ ?_ GE402.out | refine ws_ ?_ GE404.out) | exact HB.out)⟩
                 (try clear BK402)
                 (try clear BK404)
                 (try clear HB)
                 generalize ((((((w38.setCell ⟨gb404, 0, none⟩ (.int .i64 ((rd_T38 l0_2 x5_2).f0))).setCell ⟨gb404, 1, none⟩ (.int .i64 ((rd_T38 l0_2 x5_2).f1))).setCell ⟨gb404, 2, none⟩ (.int .i64 ((rd_T38 l0_2 x5_2).f2))).setCell ⟨gb404, 3, none⟩ (.int .i64 ((rd_T38 l0_2 x5_2).f3))).setCell ⟨gb404, 4, none⟩ (.int .i64 ((rd_T38 l0_2 x5_2).f4))).setCell ⟨gb404, 5, none⟩ (.string ((rd_T38 l0_2 x5_2).f5))) = w41 at n0_ n1_ n2_ ⊢
                 have BK402 := n0_; have BK404 := n1_; have HB := n2_; clear n0_ n1_ n2_; have n0_ := A_ (bd_ BK402.out); have n1_ := A_ (bd_ BK404.out); have n2_ := A_ (wd_ HB.out); replace BK402 := n0_; replace BK404 := n1_; replace HB := n2_; clear n0_ n1_ n2_
                 have p406 : 0 ≤ ((ji33) : Int) := of_decide_eq_true (by first | (with_reducible assumption) | assumption)
                 have q406 : (ji33) < (l0_2.length : Int) := of_decide_eq_true (by first | (with_reducible assumption) | assumption)
                 obtain ⟨ad406, e406, hx406_0, hx406_1, hx406_2, hx406_3, hx406_4, hx406_5⟩ := at_T38 HR0_2.out (ji33) p406 q406
                 have hw406_5 := hx406_5
                 have hw406_4 := hx406_4
                 have hw406_3 := hx406_3
                 have hw406_2 := hx406_2
                 have hw406_1 := hx406_1
                 have hw406_0 := hx406_0
                 obtain rfl : ad403 = ad406 := (by injection e406)
                 replace hx406_0 := on_ HB.out hx406_0
                 replace hx406_1 := on_ HB.out hx406_1
                 replace hx406_2 := on_ HB.out hx406_2
                 replace hx406_3 := on_ HB.out hx406_3
                 replace hx406_4 := on_ HB.out hx406_4
                 replace hx406_5 := on_ HB.out hx406_5
                 replace p406 := eq_true p406
                 replace q406 := eq_true q406
                 refine start_ (n := 33) (S := fun w' => w'.cell? ⟨gb404, 0, none⟩ = some (.int .i64 ((rd_T38 l0_2 x5_2).f0)) ∧ w'.cell? ⟨gb404, 1, none⟩ = some (.int .i64 ((rd_T38 l0_2 x5_2).f1)) ∧ w'.cell? ⟨gb404, 2, none⟩ = some (.int .i64 ((rd_T38 l0_2 x5_2).f2)) ∧ w'.cell? ⟨gb404, 3, none⟩ = some (.int .i64 ((rd_T38 l0_2 x5_2).f3)) ∧ w'.cell? ⟨gb404, 4, none⟩ = some (.int .i64 ((rd_T38 l0_2 x5_2).f4)) ∧ w'.cell? ⟨gb404, 5, none⟩ = some (.string ((rd_T38 l0_2 x5_2).f5)) ∧ w'.cell? ⟨gb402, 0, none⟩ = some (.int .i64 a0_0) ∧ w'.cell? ⟨gb402, 1, none⟩ = some (.int .i64 a0_1) ∧ w'.cell? ⟨gb402, 2, none⟩ = some (.slice (some ad403) l0_2.length c0_2) ∧ w'.cell? (ad403.add (((ji33)).toNat * 6)) = some (.int .i64 ((rd_T38 l0_2 (ji33)).f0)) ∧ w'.cell? ⟨(ad403.add (((ji33)).toNat * 6)).block, (ad403.add (((ji33)).toNat * 6)).off + 1, none⟩ = some (.int .i64 ((rd_T38 l0_2 (ji33)).f1)) ∧ w'.cell? ⟨(ad403.add (((ji33)).toNat * 6)).block, (ad403.add (((ji33)).toNat * 6)).off + 2, none⟩ = some (.int .i64 ((rd_T38 l0_2 (ji33)).f2)) ∧ w'.cell? ⟨(ad403.add (((ji33)).toNat * 6)).block, (ad403.add (((ji33)).toNat * 6)).off + 3, none⟩ = some (.int .i64 ((rd_T38 l0_2 (ji33)).f3)) ∧ w'.cell? ⟨(ad403.add (((ji33)).toNat * 6)).block, (ad403.add (((ji33)).toNat * 6)).off + 4, none⟩ = some (.int .i64 ((rd_T38 l0_2 (ji33)).f4)) ∧ w'.cell? ⟨(ad403.add (((ji33)).toNat * 6)).block, (ad403.add (((ji33)).toNat * 6)).off + 5, none⟩ = some (.string ((rd_T38 l0_2 (ji33)).f5))) (ds := []) #[F,F,F,F,F,F,F,F,F,F,F,F,F,F,F,F,F,F,F,F,F,F,F,F,F,F,F,F,F,F,F,F,F] (by kernel_rfl) rfl rfl ⟨e_ BK404 0, e_ BK404 1, e_ BK404 2, e_ BK404 3, e_ BK404 4, e_ BK404 5, e_ BK402 0, e_ BK402 1, e_ BK402 2, ((HB.out.cell (World.block_lt_of_cell? w _ hw406_0)).trans hw406_0), ((HB.out.cell (World.block_lt_of_cell? w _ hw406_1)).trans hw406_1), ((HB.out.cell (World.block_lt_of_cell? w _ hw406_2)).trans hw406_2), ((HB.out.cell (World.block_lt_of_cell? w _ hw406_3)).trans hw406_3), ((HB.out.cell (World.block_lt_of_cell? w _ hw406_4)).trans hw406_4), ((HB.out.cell (World.block_lt_of_cell? w _ hw406_5)).trans hw406_5)⟩ (fun hHeld => ?_); refine with_tabW hopperref05_Check.tab7 hopperref05_Check.bits7 (fun HT_ HW_ => ?_)
                 generalize w41.drew = w42 at BK402 BK404 HB hx406_0 hx406_1 hx406_2 hx406_3 hx406_4 hx406_5 hHeld ⊢
                 refine tk_ 0 52 HT_ HW_ hHeld ?_
                 refine one_ (i := 1) (N := some 53) #[T,T,F,F,F,F,F,F,F,F,F,F,F,F,F,F,F,F,F,F,F,F,F,F,F,F,F,F,F,F,F,F,F] rfl rfl (one_of HT_.out (by kernel_rfl)) (by decide) (fun K hK => ?_)
                 refine goes_ Try.func36 (by kernel_rfl) rfl #[.agg #[.int .i64 ((rd_T38 l0_2 x5_2).f0), .int .i64 ((rd_T38 l0_2 x5_2).f1), .int .i64 ((rd_T38 l0_2 x5_2).f2), .int .i64 ((rd_T38 l0_2 x5_2).f3), .int .i64 ((rd_T38 l0_2 x5_2).f4), .string ((rd_T38 l0_2 x5_2).f5)]] (by rfl) rfl rfl (by (try simp only [m0_, m1_, m2_]); first | done | rfl) ?_
                 with_reducible refine (hopperref04_Check.calls ((rd_T38 l0_2 x5_2).f0) ((rd_T38 l0_2 x5_2).f1) ((rd_T38 l0_2 x5_2).f2) ((rd_T38 l0_2 x5_2).f3) ((rd_T38 l0_2 x5_2).f4) ((rd_T38 l0_2 x5_2).f5) true _ A21.out).mono ?_
                 rintro e w43 ⟨rfl, hb⟩
                 refine ⟨_, rfl, ?_⟩
                 have n0_ := A_ (kb_ BK402 hb); have n1_ := A_ (kb_ BK404 hb); have n2_ := A_ (below_step bw_ hb); replace BK402 := n0_; replace BK404 := n1_; replace HB := n2_; clear n0_ n1_ n2_
                 (try clear hb)
                 (try clear hb2)
                 (try clear hk)
                 (try clear hi)
                 refine hK.out _ _ ⟨e_ BK404 0, e_ BK404 1, e_ BK404 2, e_ BK404 3, e_ BK404 4, e_ BK404 5, e_ BK402 0, e_ BK402 1, e_ BK402 2, ((HB.out.cell (World.block_lt_of_cell? w _ hw406_0)).trans hw406_0), ((HB.out.cell (World.block_lt_of_cell? w _ hw406_1)).trans hw406_1), ((HB.out.cell (World.block_lt_of_cell? w _ hw406_2)).trans hw406_2), ((HB.out.cell (World.block_lt_of_cell? w _ hw406_3)).trans hw406_3), ((HB.out.cell (World.block_lt_of_cell? w _ hw406_4)).trans hw406_4), ((HB.out.cell (World.block_lt_of_cell? w _ hw406_5)).trans hw406_5)⟩ (fun hHeld => ?_)
                 clear hK K
                 refine norm_ (a' := ?_) ?_ ?_
                 rotate_left
                 · show Act.put _ (some 53) _ = _
                   simp only [Act.put, s0_, s1_, s2_, i64_w, i32_w]
                   rfl
                 refine pq_ 2 54 HT_ ?_
                 refine pq_ 3 55 HT_ ?_
                 refine pq_ 4 56 HT_ ?_
                 refine pq_ 6 58 HT_ ?_
                 refine tk_ 5 57 HT_ HW_ hHeld ?_
                 refine tk_ 7 59 HT_ HW_ hHeld ?_
                 refine pq_ 8 60 HT_ ?_
                 refine pq_ 9 61 HT_ ?_
                 refine pq_ 10 62 HT_ ?_
                 refine pq_ 11 63 HT_ ?_
                 refine pq_ 13 65 HT_ ?_
                 refine tk_ 12 64 HT_ HW_ hHeld ?_
                 refine tk_ 14 66 HT_ HW_ hHeld ?_
                 refine pq_ 15 67 HT_ ?_
                 refine pq_ 16 68 HT_ ?_
                 refine pq_ 17 69 HT_ ?_
                 refine pq_ 18 70 HT_ ?_
                 refine pq_ 19 71 HT_ ?_
                 refine pq_ 20 72 HT_ ?_
                 refine pq_ 21 73 HT_ ?_
                 refine pq_ 23 75 HT_ ?_
                 refine pq_ 24 76 HT_ ?_
                 refine pq_ 28 80 HT_ ?_
                 refine tk_ 22 74 HT_ HW_ hHeld ?_
                 refine pq_ 25 77 HT_ ?_
                 refine pq_ 26 78 HT_ ?_
                 refine tk_ 27 79 HT_ HW_ hHeld ?_
                 refine tk_ 29 81 HT_ HW_ hHeld ?_
                 refine pq_ 30 82 HT_ ?_
                 refine pq_ 31 83 HT_ ?_
                 refine pq_ 32 84 HT_ ?_
                 refine done_ (done_of HT_.out (by kernel_rfl)) ?_
                 try go_wp2
                 go_ret
                 exact ⟨by first | rfl | (simp [errW_none, errW_some] <;> rfl) | (simp only [← hji33]; first | rfl | (simp [errW_none, errW_some] <;> rfl)) | (simp [*, errW_none, errW_some] <;> rfl), by repeat (first | (with_reducible first | exact HB.out | apply wa_ | apply wn_ | apply wd_ | refine ws_ ?_ GE402.out | refine ws_ ?_ GE404.out) | exact HB.out)⟩
               · rw [if_neg c36] at H
                 have c36b0 : decide (((rd_T38 l0_2 x5_2).f1) ≤ ((rd_T38 l0_2 (ji33)).f1)) = false := decide_eq_false c36
                 clear c36
                 have H' := A_ H
                 clear H; have hcz44_0 : wr.cell? ⟨gb402, 0, none⟩ = some (.int .i64 a0_0) := e_ BK402 0; have hcz44_1 : wr.cell? ⟨gb402, 1, none⟩ = some (.int .i64 a0_1) := e_ BK402 1; have hcz44_2 : wr.cell? ⟨gb402, 2, none⟩ = some (.slice A0_2 l0_2.length c0_2) := e_ BK402 2; obtain ⟨hfz44_0, hfz44_1, hfz44_2⟩ := z3_ BK402
                 have p403 : 0 ≤ (x5_2 : Int) := of_decide_eq_true (by first | (with_reducible assumption) | assumption)
                 have q403 : x5_2 < (l0_2.length : Int) := of_decide_eq_true (by first | (with_reducible assumption) | assumption)
                 obtain ⟨ad403, e403, hx403_0, hx403_1, hx403_2, hx403_3, hx403_4, hx403_5⟩ := at_T38 HR0_2.out x5_2 p403 q403
                 cases e403
                 replace hx403_0 := on_ HB.out hx403_0
                 replace hx403_1 := on_ HB.out hx403_1
                 replace hx403_2 := on_ HB.out hx403_2
                 replace hx403_3 := on_ HB.out hx403_3
                 replace hx403_4 := on_ HB.out hx403_4
                 replace hx403_5 := on_ HB.out hx403_5
                 replace p403 := eq_true p403
                 replace q403 := eq_true q403
                 try go_wp2_with (first | ((with_reducible refine gate_dst (N := 6) rfl ?_); (try (refine gate_guard (by rfl) ?_; dsimp only)); refine box_event ?hg (N := 6) ?hd (cs := #[.int .i64 0, .int .i64 0, .int .i64 0, .int .i64 0, .int .i64 0, .string (⟨#[]⟩ : ByteArray)]) (t := 38) ?hr ?_; (case hd => rfl); (case hg => rfl); (case hr => first | (go_simp; done) | (go_simp; rfl)); intro gb404 hg w45 hbox hb; have n0_ := A_ (kb_ BK402 hb); have n1_ := A_ (below_step bw_ hb); have n2_ := A_ (hbox); have n3_ := A_ (gz_ (w := w) hg); have n4_ := A_ (gz_ (w := w) hg); have n5_ := A_ (nl_ BK402 hg); have n6_ := A_ (ng_ BK402 hg); replace BK402 := n0_; replace HB := n1_; have BK404 := n2_; have GW404 := n3_; have GE404 := n4_; have NB402_404 := n5_; have NB404_402 := n6_; clear n0_ n1_ n2_ n3_ n4_ n5_ n6_; clear hb hbox hg; have hnb46 := NB404_402.out; have hnc46 := NB402_404.out; have hcz47_0 : w45.cell? ⟨gb404, 0, none⟩ = some (.int .i64 0) := e_ BK404 0; have hcz47_1 : w45.cell? ⟨gb404, 1, none⟩ = some (.int .i64 0) := e_ BK404 1; have hcz47_2 : w45.cell? ⟨gb404, 2, none⟩ = some (.int .i64 0) := e_ BK404 2; have hcz47_3 : w45.cell? ⟨gb404, 3, none⟩ = some (.int .i64 0) := e_ BK404 3; have hcz47_4 : w45.cell? ⟨gb404, 4, none⟩ = some (.int .i64 0) := e_ BK404 4; have hcz47_5 : w45.cell? ⟨gb404, 5, none⟩ = some (.string (⟨#[]⟩ : ByteArray)) := e_ BK404 5; obtain ⟨hfz47_0, hfz47_1, hfz47_2, hfz47_3, hfz47_4, hfz47_5⟩ := z6_ BK404))
                 have n0_ : Aside0 (((((((w45.setCell ⟨gb404, 0, none⟩ (.int .i64 ((rd_T38 l0_2 x5_2).f0))).setCell ⟨gb404, 1, none⟩ (.int .i64 ((rd_T38 l0_2 x5_2).f1))).setCell ⟨gb404, 2, none⟩ (.int .i64 ((rd_T38 l0_2 x5_2).f2))).setCell ⟨gb404, 3, none⟩ (.int .i64 ((rd_T38 l0_2 x5_2).f3))).setCell ⟨gb404, 4, none⟩ (.int .i64 ((rd_T38 l0_2 x5_2).f4))).setCell ⟨gb404, 5, none⟩ (.string ((rd_T38 l0_2 x5_2).f5))).heap[gb402]? = some (.cells #[.int .i64 a0_0, .int .i64 a0_1, .slice (some ad403) l0_2.length c0_2] 35 (0, 0))) := ⟨bk_⟩; have n1_ : Aside0 (((((((w45.setCell ⟨gb404, 0, none⟩ (.int .i64 ((rd_T38 l0_2 x5_2).f0))).setCell ⟨gb404, 1, none⟩ (.int .i64 ((rd_T38 l0_2 x5_2).f1))).setCell ⟨gb404, 2, none⟩ (.int .i64 ((rd_T38 l0_2 x5_2).f2))).setCell ⟨gb404, 3, none⟩ (.int .i64 ((rd_T38 l0_2 x5_2).f3))).setCell ⟨gb404, 4, none⟩ (.int .i64 ((rd_T38 l0_2 x5_2).f4))).setCell ⟨gb404, 5, none⟩ (.string ((rd_T38 l0_2 x5_2).f5))).heap[gb404]? = some (.cells #[.int .i64 ((rd_T38 l0_2 x5_2).f0), .int .i64 ((rd_T38 l0_2 x5_2).f1), .int .i64 ((rd_T38 l0_2 x5_2).f2), .int .i64 ((rd_T38 l0_2 x5_2).f3), .int .i64 ((rd_T38 l0_2 x5_2).f4), .string ((rd_T38 l0_2 x5_2).f5)] 38 (0, 0))) := ⟨by exact pk_ (b6_ BK404.out)⟩; have n2_ : Aside0 (Below w.heap.size w ((((((w45.setCell ⟨gb404, 0, none⟩ (.int .i64 ((rd_T38 l0_2 x5_2).f0))).setCell ⟨gb404, 1, none⟩ (.int .i64 ((rd_T38 l0_2 x5_2).f1))).setCell ⟨gb404, 2, none⟩ (.int .i64 ((rd_T38 l0_2 x5_2).f2))).setCell ⟨gb404, 3, none⟩ (.int .i64 ((rd_T38 l0_2 x5_2).f3))).setCell ⟨gb404, 4, none⟩ (.int .i64 ((rd_T38 l0_2 x5_2).f4))).setCell ⟨gb404, 5, none⟩ (.string ((rd_T38 l0_2 x5_2).f5)))) := ⟨by repeat (first | (with_reducible first | exact HB.out | apply wa_ | apply wn_ | apply wd_ | refine ws_ ?_ GE402.out | refine ws_ ?_ GE404.out) | exact HB.out)⟩
                 (try clear BK402)
                 (try clear BK404)
                 (try clear HB)
                 generalize ((((((w45.setCell ⟨gb404, 0, none⟩ (.int .i64 ((rd_T38 l0_2 x5_2).f0))).setCell ⟨gb404, 1, none⟩ (.int .i64 ((rd_T38 l0_2 x5_2).f1))).setCell ⟨gb404, 2, none⟩ (.int .i64 ((rd_T38 l0_2 x5_2).f2))).setCell ⟨gb404, 3, none⟩ (.int .i64 ((rd_T38 l0_2 x5_2).f3))).setCell ⟨gb404, 4, none⟩ (.int .i64 ((rd_T38 l0_2 x5_2).f4))).setCell ⟨gb404, 5, none⟩ (.string ((rd_T38 l0_2 x5_2).f5))) = w48 at n0_ n1_ n2_ ⊢
                 have BK402 := n0_; have BK404 := n1_; have HB := n2_; clear n0_ n1_ n2_; have n0_ := A_ (bd_ BK402.out); have n1_ := A_ (bd_ BK404.out); have n2_ := A_ (wd_ HB.out); replace BK402 := n0_; replace BK404 := n1_; replace HB := n2_; clear n0_ n1_ n2_
                 have p406 : 0 ≤ ((ji33) : Int) := of_decide_eq_true (by first | (with_reducible assumption) | assumption)
                 have q406 : (ji33) < (l0_2.length : Int) := of_decide_eq_true (by first | (with_reducible assumption) | assumption)
                 obtain ⟨ad406, e406, hx406_0, hx406_1, hx406_2, hx406_3, hx406_4, hx406_5⟩ := at_T38 HR0_2.out (ji33) p406 q406
                 have hw406_5 := hx406_5
                 have hw406_4 := hx406_4
                 have hw406_3 := hx406_3
                 have hw406_2 := hx406_2
                 have hw406_1 := hx406_1
                 have hw406_0 := hx406_0
                 obtain rfl : ad403 = ad406 := (by injection e406)
                 replace hx406_0 := on_ HB.out hx406_0
                 replace hx406_1 := on_ HB.out hx406_1
                 replace hx406_2 := on_ HB.out hx406_2
                 replace hx406_3 := on_ HB.out hx406_3
                 replace hx406_4 := on_ HB.out hx406_4
                 replace hx406_5 := on_ HB.out hx406_5
                 replace p406 := eq_true p406
                 replace q406 := eq_true q406
                 refine start_ (n := 33) (S := fun w' => w'.cell? ⟨gb404, 0, none⟩ = some (.int .i64 ((rd_T38 l0_2 x5_2).f0)) ∧ w'.cell? ⟨gb404, 1, none⟩ = some (.int .i64 ((rd_T38 l0_2 x5_2).f1)) ∧ w'.cell? ⟨gb404, 2, none⟩ = some (.int .i64 ((rd_T38 l0_2 x5_2).f2)) ∧ w'.cell? ⟨gb404, 3, none⟩ = some (.int .i64 ((rd_T38 l0_2 x5_2).f3)) ∧ w'.cell? ⟨gb404, 4, none⟩ = some (.int .i64 ((rd_T38 l0_2 x5_2).f4)) ∧ w'.cell? ⟨gb404, 5, none⟩ = some (.string ((rd_T38 l0_2 x5_2).f5)) ∧ w'.cell? ⟨gb402, 0, none⟩ = some (.int .i64 a0_0) ∧ w'.cell? ⟨gb402, 1, none⟩ = some (.int .i64 a0_1) ∧ w'.cell? ⟨gb402, 2, none⟩ = some (.slice (some ad403) l0_2.length c0_2) ∧ w'.cell? (ad403.add (((ji33)).toNat * 6)) = some (.int .i64 ((rd_T38 l0_2 (ji33)).f0)) ∧ w'.cell? ⟨(ad403.add (((ji33)).toNat * 6)).block, (ad403.add (((ji33)).toNat * 6)).off + 1, none⟩ = some (.int .i64 ((rd_T38 l0_2 (ji33)).f1)) ∧ w'.cell? ⟨(ad403.add (((ji33)).toNat * 6)).block, (ad403.add (((ji33)).toNat * 6)).off + 2, none⟩ = some (.int .i64 ((rd_T38 l0_2 (ji33)).f2)) ∧ w'.cell? ⟨(ad403.add (((ji33)).toNat * 6)).block, (ad403.add (((ji33)).toNat * 6)).off + 3, none⟩ = some (.int .i64 ((rd_T38 l0_2 (ji33)).f3)) ∧ w'.cell? ⟨(ad403.add (((ji33)).toNat * 6)).block, (ad403.add (((ji33)).toNat * 6)).off + 4, none⟩ = some (.int .i64 ((rd_T38 l0_2 (ji33)).f4)) ∧ w'.cell? ⟨(ad403.add (((ji33)).toNat * 6)).block, (ad403.add (((ji33)).toNat * 6)).off + 5, none⟩ = some (.string ((rd_T38 l0_2 (ji33)).f5))) (ds := []) #[F,F,F,F,F,F,F,F,F,F,F,F,F,F,F,F,F,F,F,F,F,F,F,F,F,F,F,F,F,F,F,F,F] (by kernel_rfl) rfl rfl ⟨e_ BK404 0, e_ BK404 1, e_ BK404 2, e_ BK404 3, e_ BK404 4, e_ BK404 5, e_ BK402 0, e_ BK402 1, e_ BK402 2, ((HB.out.cell (World.block_lt_of_cell? w _ hw406_0)).trans hw406_0), ((HB.out.cell (World.block_lt_of_cell? w _ hw406_1)).trans hw406_1), ((HB.out.cell (World.block_lt_of_cell? w _ hw406_2)).trans hw406_2), ((HB.out.cell (World.block_lt_of_cell? w _ hw406_3)).trans hw406_3), ((HB.out.cell (World.block_lt_of_cell? w _ hw406_4)).trans hw406_4), ((HB.out.cell (World.block_lt_of_cell? w _ hw406_5)).trans hw406_5)⟩ (fun hHeld => ?_); refine with_tabW hopperref05_Check.tab7 hopperref05_Check.bits7 (fun HT_ HW_ => ?_)
                 generalize w48.drew = w49 at BK402 BK404 HB hx406_0 hx406_1 hx406_2 hx406_3 hx406_4 hx406_5 hHeld ⊢
                 refine tk_ 0 52 HT_ HW_ hHeld ?_
                 refine one_ (i := 1) (N := some 53) #[T,T,F,F,F,F,F,F,F,F,F,F,F,F,F,F,F,F,F,F,F,F,F,F,F,F,F,F,F,F,F,F,F] rfl rfl (one_of HT_.out (by kernel_rfl)) (by decide) (fun K hK => ?_)
                 refine goes_ Try.func36 (by kernel_rfl) rfl #[.agg #[.int .i64 ((rd_T38 l0_2 x5_2).f0), .int .i64 ((rd_T38 l0_2 x5_2).f1), .int .i64 ((rd_T38 l0_2 x5_2).f2), .int .i64 ((rd_T38 l0_2 x5_2).f3), .int .i64 ((rd_T38 l0_2 x5_2).f4), .string ((rd_T38 l0_2 x5_2).f5)]] (by rfl) rfl rfl (by (try simp only [m0_, m1_, m2_]); first | done | rfl) ?_
                 with_reducible refine (hopperref04_Check.calls ((rd_T38 l0_2 x5_2).f0) ((rd_T38 l0_2 x5_2).f1) ((rd_T38 l0_2 x5_2).f2) ((rd_T38 l0_2 x5_2).f3) ((rd_T38 l0_2 x5_2).f4) ((rd_T38 l0_2 x5_2).f5) true _ A21.out).mono ?_
                 rintro e w50 ⟨rfl, hb⟩
                 refine ⟨_, rfl, ?_⟩
                 have n0_ := A_ (kb_ BK402 hb); have n1_ := A_ (kb_ BK404 hb); have n2_ := A_ (below_step bw_ hb); replace BK402 := n0_; replace BK404 := n1_; replace HB := n2_; clear n0_ n1_ n2_
                 (try clear hb)
                 (try clear hb2)
                 (try clear hk)
                 (try clear hi)
                 refine hK.out _ _ ⟨e_ BK404 0, e_ BK404 1, e_ BK404 2, e_ BK404 3, e_ BK404 4, e_ BK404 5, e_ BK402 0, e_ BK402 1, e_ BK402 2, ((HB.out.cell (World.block_lt_of_cell? w _ hw406_0)).trans hw406_0), ((HB.out.cell (World.block_lt_of_cell? w _ hw406_1)).trans hw406_1), ((HB.out.cell (World.block_lt_of_cell? w _ hw406_2)).trans hw406_2), ((HB.out.cell (World.block_lt_of_cell? w _ hw406_3)).trans hw406_3), ((HB.out.cell (World.block_lt_of_cell? w _ hw406_4)).trans hw406_4), ((HB.out.cell (World.block_lt_of_cell? w _ hw406_5)).trans hw406_5)⟩ (fun hHeld => ?_)
                 clear hK K
                 refine norm_ (a' := ?_) ?_ ?_
                 rotate_left
                 · show Act.put _ (some 53) _ = _
                   simp only [Act.put, s0_, s1_, s2_, i64_w, i32_w]
                   rfl
                 refine pq_ 2 54 HT_ ?_
                 refine pq_ 3 55 HT_ ?_
                 refine pq_ 4 56 HT_ ?_
                 refine pq_ 6 58 HT_ ?_
                 refine tk_ 5 57 HT_ HW_ hHeld ?_
                 refine tk_ 7 59 HT_ HW_ hHeld ?_
                 refine pq_ 8 60 HT_ ?_
                 refine pq_ 9 61 HT_ ?_
                 refine pq_ 10 62 HT_ ?_
                 refine pq_ 11 63 HT_ ?_
                 refine pq_ 13 65 HT_ ?_
                 refine tk_ 12 64 HT_ HW_ hHeld ?_
                 refine tk_ 14 66 HT_ HW_ hHeld ?_
                 refine pq_ 15 67 HT_ ?_
                 refine pq_ 16 68 HT_ ?_
                 refine pq_ 17 69 HT_ ?_
                 refine pq_ 18 70 HT_ ?_
                 refine pq_ 19 71 HT_ ?_
                 refine pq_ 20 72 HT_ ?_
                 refine pq_ 21 73 HT_ ?_
                 refine pq_ 23 75 HT_ ?_
                 refine pq_ 24 76 HT_ ?_
                 refine pq_ 28 80 HT_ ?_
                 refine tk_ 22 74 HT_ HW_ hHeld ?_
                 refine pq_ 25 77 HT_ ?_
                 refine pq_ 26 78 HT_ ?_
                 refine tk_ 27 79 HT_ HW_ hHeld ?_
                 refine tk_ 29 81 HT_ HW_ hHeld ?_
                 refine pq_ 30 82 HT_ ?_
                 refine pq_ 31 83 HT_ ?_
                 refine pq_ 32 84 HT_ ?_
                 refine done_ (done_of HT_.out (by kernel_rfl)) ?_
                 try go_wp2
                 go_roundg k2
                 case measure => have := HJ2.out; have := HK2.out; omega
                 case rel => exact ⟨(wrap64 (x5_2 + 1)), (by first | rfl | (simp; done) | (simp [*]; done)), H', ⟨by have := HJ2.out; have := HK2.out; omega⟩, ⟨bk_⟩, ⟨by repeat (first | (with_reducible first | exact HB.out | apply wa_ | apply wn_ | apply wd_ | refine ws_ ?_ GE402.out | refine ws_ ?_ GE404.out) | exact HB.out)⟩⟩
             · rw [if_neg c32] at H
               have c32b0 : decide (0 < x5_2) = false := decide_eq_false c32
               clear c32
               have H' := A_ H
               clear H; have hcz51_0 : wr.cell? ⟨gb402, 0, none⟩ = some (.int .i64 a0_0) := e_ BK402 0; have hcz51_1 : wr.cell? ⟨gb402, 1, none⟩ = some (.int .i64 a0_1) := e_ BK402 1; have hcz51_2 : wr.cell? ⟨gb402, 2, none⟩ = some (.slice A0_2 l0_2.length c0_2) := e_ BK402 2; obtain ⟨hfz51_0, hfz51_1, hfz51_2⟩ := z3_ BK402
               have p403 : 0 ≤ (x5_2 : Int) := of_decide_eq_true (by first | (with_reducible assumption) | assumption)
               have q403 : x5_2 < (l0_2.length : Int) := of_decide_eq_true (by first | (with_reducible assumption) | assumption)
               obtain ⟨ad403, e403, hx403_0, hx403_1, hx403_2, hx403_3, hx403_4, hx403_5⟩ := at_T38 HR0_2.out x5_2 p403 q403
               cases e403
               replace hx403_0 := on_ HB.out hx403_0
               replace hx403_1 := on_ HB.out hx403_1
               replace hx403_2 := on_ HB.out hx403_2
               replace hx403_3 := on_ HB.out hx403_3
               replace hx403_4 := on_ HB.out hx403_4
               replace hx403_5 := on_ HB.out hx403_5
               replace p403 := eq_true p403
               replace q403 := eq_true q403
               try go_wp2_with (first | ((with_reducible refine gate_dst (N := 6) rfl ?_); (try (refine gate_guard (by rfl) ?_; dsimp only)); refine box_event ?hg (N := 6) ?hd (cs := #[.int .i64 0, .int .i64 0, .int .i64 0, .int .i64 0, .int .i64 0, .string (⟨#[]⟩ : ByteArray)]) (t := 38) ?hr ?_; (case hd => rfl); (case hg => rfl); (case hr => first | (go_simp; done) | (go_simp; rfl)); intro gb404 hg w52 hbox hb; have n0_ := A_ (kb_ BK402 hb); have n1_ := A_ (below_step bw_ hb); have n2_ := A_ (hbox); have n3_ := A_ (gz_ (w := w) hg); have n4_ := A_ (gz_ (w := w) hg); have n5_ := A_ (nl_ BK402 hg); have n6_ := A_ (ng_ BK402 hg); replace BK402 := n0_; replace HB := n1_; have BK404 := n2_; have GW404 := n3_; have GE404 := n4_; have NB402_404 := n5_; have NB404_402 := n6_; clear n0_ n1_ n2_ n3_ n4_ n5_ n6_; clear hb hbox hg; have hnb53 := NB404_402.out; have hnc53 := NB402_404.out; have hcz54_0 : w52.cell? ⟨gb404, 0, none⟩ = some (.int .i64 0) := e_ BK404 0; have hcz54_1 : w52.cell? ⟨gb404, 1, none⟩ = some (.int .i64 0) := e_ BK404 1; have hcz54_2 : w52.cell? ⟨gb404, 2, none⟩ = some (.int .i64 0) := e_ BK404 2; have hcz54_3 : w52.cell? ⟨gb404, 3, none⟩ = some (.int .i64 0) := e_ BK404 3; have hcz54_4 : w52.cell? ⟨gb404, 4, none⟩ = some (.int .i64 0) := e_ BK404 4; have hcz54_5 : w52.cell? ⟨gb404, 5, none⟩ = some (.string (⟨#[]⟩ : ByteArray)) := e_ BK404 5; obtain ⟨hfz54_0, hfz54_1, hfz54_2, hfz54_3, hfz54_4, hfz54_5⟩ := z6_ BK404))
               have n0_ : Aside0 (((((((w52.setCell ⟨gb404, 0, none⟩ (.int .i64 ((rd_T38 l0_2 x5_2).f0))).setCell ⟨gb404, 1, none⟩ (.int .i64 ((rd_T38 l0_2 x5_2).f1))).setCell ⟨gb404, 2, none⟩ (.int .i64 ((rd_T38 l0_2 x5_2).f2))).setCell ⟨gb404, 3, none⟩ (.int .i64 ((rd_T38 l0_2 x5_2).f3))).setCell ⟨gb404, 4, none⟩ (.int .i64 ((rd_T38 l0_2 x5_2).f4))).setCell ⟨gb404, 5, none⟩ (.string ((rd_T38 l0_2 x5_2).f5))).heap[gb402]? = some (.cells #[.int .i64 a0_0, .int .i64 a0_1, .slice (some ad403) l0_2.length c0_2] 35 (0, 0))) := ⟨bk_⟩; have n1_ : Aside0 (((((((w52.setCell ⟨gb404, 0, none⟩ (.int .i64 ((rd_T38 l0_2 x5_2).f0))).setCell ⟨gb404, 1, none⟩ (.int .i64 ((rd_T38 l0_2 x5_2).f1))).setCell ⟨gb404, 2, none⟩ (.int .i64 ((rd_T38 l0_2 x5_2).f2))).setCell ⟨gb404, 3, none⟩ (.int .i64 ((rd_T38 l0_2 x5_2).f3))).setCell ⟨gb404, 4, none⟩ (.int .i64 ((rd_T38 l0_2 x5_2).f4))).setCell ⟨gb404, 5, none⟩ (.string ((rd_T38 l0_2 x5_2).f5))).heap[gb404]? = some (.cells #[.int .i64 ((rd_T38 l0_2 x5_2).f0), .int .i64 ((rd_T38 l0_2 x5_2).f1), .int .i64 ((rd_T38 l0_2 x5_2).f2), .int .i64 ((rd_T38 l0_2 x5_2).f3), .int .i64 ((rd_T38 l0_2 x5_2).f4), .string ((rd_T38 l0_2 x5_2).f5)] 38 (0, 0))) := ⟨by exact pk_ (b6_ BK404.out)⟩; have n2_ : Aside0 (Below w.heap.size w ((((((w52.setCell ⟨gb404, 0, none⟩ (.int .i64 ((rd_T38 l0_2 x5_2).f0))).setCell ⟨gb404, 1, none⟩ (.int .i64 ((rd_T38 l0_2 x5_2).f1))).setCell ⟨gb404, 2, none⟩ (.int .i64 ((rd_T38 l0_2 x5_2).f2))).setCell ⟨gb404, 3, none⟩ (.int .i64 ((rd_T38 l0_2 x5_2).f3))).setCell ⟨gb404, 4, none⟩ (.int .i64 ((rd_T38 l0_2 x5_2).f4))).setCell ⟨gb404, 5, none⟩ (.string ((rd_T38 l0_2 x5_2).f5)))) := ⟨by repeat (first | (with_reducible first | exact HB.out | apply wa_ | apply wn_ | apply wd_ | refine ws_ ?_ GE402.out | refine ws_ ?_ GE404.out) | exact HB.out)⟩
               (try clear BK402)
               (try clear BK404)
               (try clear HB)
               generalize ((((((w52.setCell ⟨gb404, 0, none⟩ (.int .i64 ((rd_T38 l0_2 x5_2).f0))).setCell ⟨gb404, 1, none⟩ (.int .i64 ((rd_T38 l0_2 x5_2).f1))).setCell ⟨gb404, 2, none⟩ (.int .i64 ((rd_T38 l0_2 x5_2).f2))).setCell ⟨gb404, 3, none⟩ (.int .i64 ((rd_T38 l0_2 x5_2).f3))).setCell ⟨gb404, 4, none⟩ (.int .i64 ((rd_T38 l0_2 x5_2).f4))).setCell ⟨gb404, 5, none⟩ (.string ((rd_T38 l0_2 x5_2).f5))) = w55 at n0_ n1_ n2_ ⊢
               have BK402 := n0_; have BK404 := n1_; have HB := n2_; clear n0_ n1_ n2_; have n0_ := A_ (bd_ BK402.out); have n1_ := A_ (bd_ BK404.out); have n2_ := A_ (wd_ HB.out); replace BK402 := n0_; replace BK404 := n1_; replace HB := n2_; clear n0_ n1_ n2_
               refine start_ (n := 33) (S := fun w' => w'.cell? ⟨gb404, 0, none⟩ = some (.int .i64 ((rd_T38 l0_2 x5_2).f0)) ∧ w'.cell? ⟨gb404, 1, none⟩ = some (.int .i64 ((rd_T38 l0_2 x5_2).f1)) ∧ w'.cell? ⟨gb404, 2, none⟩ = some (.int .i64 ((rd_T38 l0_2 x5_2).f2)) ∧ w'.cell? ⟨gb404, 3, none⟩ = some (.int .i64 ((rd_T38 l0_2 x5_2).f3)) ∧ w'.cell? ⟨gb404, 4, none⟩ = some (.int .i64 ((rd_T38 l0_2 x5_2).f4)) ∧ w'.cell? ⟨gb404, 5, none⟩ = some (.string ((rd_T38 l0_2 x5_2).f5)) ∧ w'.cell? ⟨gb402, 0, none⟩ = some (.int .i64 a0_0) ∧ w'.cell? ⟨gb402, 1, none⟩ = some (.int .i64 a0_1) ∧ w'.cell? ⟨gb402, 2, none⟩ = some (.slice (some ad403) l0_2.length c0_2)) (ds := []) #[F,F,F,F,F,F,F,F,F,F,F,F,F,F,F,F,F,F,F,F,F,F,F,F,F,F,F,F,F,F,F,F,F] (by kernel_rfl) rfl rfl ⟨e_ BK404 0, e_ BK404 1, e_ BK404 2, e_ BK404 3, e_ BK404 4, e_ BK404 5, e_ BK402 0, e_ BK402 1, e_ BK402 2⟩ (fun hHeld => ?_); refine with_tabW hopperref05_Check.tab7 hopperref05_Check.bits7 (fun HT_ HW_ => ?_)
               generalize w55.drew = w56 at BK402 BK404 HB hHeld ⊢
               refine tk_ 0 52 HT_ HW_ hHeld ?_
               refine one_ (i := 1) (N := some 53) #[T,T,F,F,F,F,F,F,F,F,F,F,F,F,F,F,F,F,F,F,F,F,F,F,F,F,F,F,F,F,F,F,F] rfl rfl (one_of HT_.out (by kernel_rfl)) (by decide) (fun K hK => ?_)
               refine goes_ Try.func36 (by kernel_rfl) rfl #[.agg #[.int .i64 ((rd_T38 l0_2 x5_2).f0), .int .i64 ((rd_T38 l0_2 x5_2).f1), .int .i64 ((rd_T38 l0_2 x5_2).f2), .int .i64 ((rd_T38 l0_2 x5_2).f3), .int .i64 ((rd_T38 l0_2 x5_2).f4), .string ((rd_T38 l0_2 x5_2).f5)]] (by rfl) rfl rfl (by (try simp only [m0_, m1_, m2_]); first | done | rfl) ?_
               with_reducible refine (hopperref04_Check.calls ((rd_T38 l0_2 x5_2).f0) ((rd_T38 l0_2 x5_2).f1) ((rd_T38 l0_2 x5_2).f2) ((rd_T38 l0_2 x5_2).f3) ((rd_T38 l0_2 x5_2).f4) ((rd_T38 l0_2 x5_2).f5) true _ A21.out).mono ?_
               rintro e w57 ⟨rfl, hb⟩
               refine ⟨_, rfl, ?_⟩
               have n0_ := A_ (kb_ BK402 hb); have n1_ := A_ (kb_ BK404 hb); have n2_ := A_ (below_step bw_ hb); replace BK402 := n0_; replace BK404 := n1_; replace HB := n2_; clear n0_ n1_ n2_
               (try clear hb)
               (try clear hb2)
               (try clear hk)
               (try clear hi)
               refine hK.out _ _ ⟨e_ BK404 0, e_ BK404 1, e_ BK404 2, e_ BK404 3, e_ BK404 4, e_ BK404 5, e_ BK402 0, e_ BK402 1, e_ BK402 2⟩ (fun hHeld => ?_)
               clear hK K
               refine norm_ (a' := ?_) ?_ ?_
               rotate_left
               · show Act.put _ (some 53) _ = _
                 simp only [Act.put, s0_, s1_, s2_, i64_w, i32_w]
                 rfl
               refine pq_ 2 54 HT_ ?_
               refine pq_ 3 55 HT_ ?_
               refine pq_ 4 56 HT_ ?_
               refine pq_ 6 58 HT_ ?_
               refine tk_ 5 57 HT_ HW_ hHeld ?_
               refine tk_ 7 59 HT_ HW_ hHeld ?_
               refine pq_ 8 60 HT_ ?_
               refine pq_ 9 61 HT_ ?_
               refine pq_ 10 62 HT_ ?_
               refine pq_ 11 63 HT_ ?_
               refine pq_ 13 65 HT_ ?_
               refine tk_ 12 64 HT_ HW_ hHeld ?_
               refine tk_ 14 66 HT_ HW_ hHeld ?_
               refine pq_ 15 67 HT_ ?_
               refine pq_ 16 68 HT_ ?_
               refine pq_ 17 69 HT_ ?_
               refine pq_ 18 70 HT_ ?_
               refine pq_ 19 71 HT_ ?_
               refine pq_ 20 72 HT_ ?_
               refine pu_ 21 73 HT_ ?_
               refine pu_ 22 74 HT_ ?_
               refine pu_ 23 75 HT_ ?_
               refine pu_ 24 76 HT_ ?_
               refine pu_ 25 77 HT_ ?_
               refine pu_ 26 78 HT_ ?_
               refine pu_ 27 79 HT_ ?_
               refine pu_ 28 80 HT_ ?_
               refine pu_ 29 81 HT_ ?_
               refine pu_ 30 82 HT_ ?_
               refine pq_ 31 83 HT_ ?_
               refine pq_ 32 84 HT_ ?_
               refine done_ (done_of HT_.out (by kernel_rfl)) ?_
               try go_wp2
               go_roundg k2
               case measure => have := HJ2.out; have := HK2.out; omega
               case rel => exact ⟨(wrap64 (x5_2 + 1)), (by first | rfl | (simp; done) | (simp [*]; done)), H', ⟨by have := HJ2.out; have := HK2.out; omega⟩, ⟨bk_⟩, ⟨by repeat (first | (with_reducible first | exact HB.out | apply wa_ | apply wn_ | apply wd_ | refine ws_ ?_ GE402.out | refine ws_ ?_ GE404.out) | exact HB.out)⟩⟩
         · rw [if_neg c23] at H
           have c23b0 : (((rd_T38 l0_2 x5_2).f0) == a0_0) = false := beq_eq_false_iff_ne.mpr c23
           have c23b1 : (((rd_T38 l0_2 x5_2).f0) != a0_0) = true := bne_iff_ne.mpr c23
           obtain rfl := Option.some.inj H
           have hcz58_0 : wr.cell? ⟨gb402, 0, none⟩ = some (.int .i64 a0_0) := e_ BK402 0; have hcz58_1 : wr.cell? ⟨gb402, 1, none⟩ = some (.int .i64 a0_1) := e_ BK402 1; have hcz58_2 : wr.cell? ⟨gb402, 2, none⟩ = some (.slice A0_2 l0_2.length c0_2) := e_ BK402 2; obtain ⟨hfz58_0, hfz58_1, hfz58_2⟩ := z3_ BK402
           have p403 : 0 ≤ (x5_2 : Int) := of_decide_eq_true (by first | (with_reducible assumption) | assumption)
           have q403 : x5_2 < (l0_2.length : Int) := of_decide_eq_true (by first | (with_reducible assumption) | assumption)
           obtain ⟨ad403, e403, hx403_0, hx403_1, hx403_2, hx403_3, hx403_4, hx403_5⟩ := at_T38 HR0_2.out x5_2 p403 q403
           cases e403
           replace hx403_0 := on_ HB.out hx403_0
           replace hx403_1 := on_ HB.out hx403_1
           replace hx403_2 := on_ HB.out hx403_2
           replace hx403_3 := on_ HB.out hx403_3
           replace hx403_4 := on_ HB.out hx403_4
           replace hx403_5 := on_ HB.out hx403_5
           replace p403 := eq_true p403
           replace q403 := eq_true q403
           try go_wp2_with (first | ((with_reducible refine gate_dst (N := 6) rfl ?_); (try (refine gate_guard (by rfl) ?_; dsimp only)); refine box_event ?hg (N := 6) ?hd (cs := #[.int .i64 0, .int .i64 0, .int .i64 0, .int .i64 0, .int .i64 0, .string (⟨#[]⟩ : ByteArray)]) (t := 38) ?hr ?_; (case hd => rfl); (case hg => rfl); (case hr => first | (go_simp; done) | (go_simp; rfl)); intro gb404 hg w59 hbox hb; have n0_ := A_ (kb_ BK402 hb); have n1_ := A_ (below_step bw_ hb); have n2_ := A_ (hbox); have n3_ := A_ (gz_ (w := w) hg); have n4_ := A_ (gz_ (w := w) hg); have n5_ := A_ (nl_ BK402 hg); have n6_ := A_ (ng_ BK402 hg); replace BK402 := n0_; replace HB := n1_; have BK404 := n2_; have GW404 := n3_; have GE404 := n4_; have NB402_404 := n5_; have NB404_402 := n6_; clear n0_ n1_ n2_ n3_ n4_ n5_ n6_; clear hb hbox hg; have hnb60 := NB404_402.out; have hnc60 := NB402_404.out; have hcz61_0 : w59.cell? ⟨gb404, 0, none⟩ = some (.int .i64 0) := e_ BK404 0; have hcz61_1 : w59.cell? ⟨gb404, 1, none⟩ = some (.int .i64 0) := e_ BK404 1; have hcz61_2 : w59.cell? ⟨gb404, 2, none⟩ = some (.int .i64 0) := e_ BK404 2; have hcz61_3 : w59.cell? ⟨gb404, 3, none⟩ = some (.int .i64 0) := e_ BK404 3; have hcz61_4 : w59.cell? ⟨gb404, 4, none⟩ = some (.int .i64 0) := e_ BK404 4; have hcz61_5 : w59.cell? ⟨gb404, 5, none⟩ = some (.string (⟨#[]⟩ : ByteArray)) := e_ BK404 5; obtain ⟨hfz61_0, hfz61_1, hfz61_2, hfz61_3, hfz61_4, hfz61_5⟩ := z6_ BK404))
           have n0_ : Aside0 (((((((w59.setCell ⟨gb404, 0, none⟩ (.int .i64 ((rd_T38 l0_2 x5_2).f0))).setCell ⟨gb404, 1, none⟩ (.int .i64 ((rd_T38 l0_2 x5_2).f1))).setCell ⟨gb404, 2, none⟩ (.int .i64 ((rd_T38 l0_2 x5_2).f2))).setCell ⟨gb404, 3, none⟩ (.int .i64 ((rd_T38 l0_2 x5_2).f3))).setCell ⟨gb404, 4, none⟩ (.int .i64 ((rd_T38 l0_2 x5_2).f4))).setCell ⟨gb404, 5, none⟩ (.string ((rd_T38 l0_2 x5_2).f5))).heap[gb402]? = some (.cells #[.int .i64 a0_0, .int .i64 a0_1, .slice (some ad403) l0_2.length c0_2] 35 (0, 0))) := ⟨bk_⟩; have n1_ : Aside0 (((((((w59.setCell ⟨gb404, 0, none⟩ (.int .i64 ((rd_T38 l0_2 x5_2).f0))).setCell ⟨gb404, 1, none⟩ (.int .i64 ((rd_T38 l0_2 x5_2).f1))).setCell ⟨gb404, 2, none⟩ (.int .i64 ((rd_T38 l0_2 x5_2).f2))).setCell ⟨gb404, 3, none⟩ (.int .i64 ((rd_T38 l0_2 x5_2).f3))).setCell ⟨gb404, 4, none⟩ (.int .i64 ((rd_T38 l0_2 x5_2).f4))).setCell ⟨gb404, 5, none⟩ (.string ((rd_T38 l0_2 x5_2).f5))).heap[gb404]? = some (.cells #[.int .i64 ((rd_T38 l0_2 x5_2).f0), .int .i64 ((rd_T38 l0_2 x5_2).f1), .int .i64 ((rd_T38 l0_2 x5_2).f2), .int .i64 ((rd_T38 l0_2 x5_2).f3), .int .i64 ((rd_T38 l0_2 x5_2).f4), .string ((rd_T38 l0_2 x5_2).f5)] 38 (0, 0))) := ⟨by exact pk_ (b6_ BK404.out)⟩; have n2_ : Aside0 (Below w.heap.size w ((((((w59.setCell ⟨gb404, 0, none⟩ (.int .i64 ((rd_T38 l0_2 x5_2).f0))).setCell ⟨gb404, 1, none⟩ (.int .i64 ((rd_T38 l0_2 x5_2).f1))).setCell ⟨gb404, 2, none⟩ (.int .i64 ((rd_T38 l0_2 x5_2).f2))).setCell ⟨gb404, 3, none⟩ (.int .i64 ((rd_T38 l0_2 x5_2).f3))).setCell ⟨gb404, 4, none⟩ (.int .i64 ((rd_T38 l0_2 x5_2).f4))).setCell ⟨gb404, 5, none⟩ (.string ((rd_T38 l0_2 x5_2).f5)))) := ⟨by repeat (first | (with_reducible first | exact HB.out | apply wa_ | apply wn_ | apply wd_ | refine ws_ ?_ GE402.out | refine ws_ ?_ GE404.out) | exact HB.out)⟩
           (try clear BK402)
           (try clear BK404)
           (try clear HB)
           generalize ((((((w59.setCell ⟨gb404, 0, none⟩ (.int .i64 ((rd_T38 l0_2 x5_2).f0))).setCell ⟨gb404, 1, none⟩ (.int .i64 ((rd_T38 l0_2 x5_2).f1))).setCell ⟨gb404, 2, none⟩ (.int .i64 ((rd_T38 l0_2 x5_2).f2))).setCell ⟨gb404, 3, none⟩ (.int .i64 ((rd_T38 l0_2 x5_2).f3))).setCell ⟨gb404, 4, none⟩ (.int .i64 ((rd_T38 l0_2 x5_2).f4))).setCell ⟨gb404, 5, none⟩ (.string ((rd_T38 l0_2 x5_2).f5))) = w62 at n0_ n1_ n2_ ⊢
           have BK402 := n0_; have BK404 := n1_; have HB := n2_; clear n0_ n1_ n2_; have n0_ := A_ (bd_ BK402.out); have n1_ := A_ (bd_ BK404.out); have n2_ := A_ (wd_ HB.out); replace BK402 := n0_; replace BK404 := n1_; replace HB := n2_; clear n0_ n1_ n2_
           refine start_ (n := 33) (S := fun w' => w'.cell? ⟨gb404, 0, none⟩ = some (.int .i64 ((rd_T38 l0_2 x5_2).f0)) ∧ w'.cell? ⟨gb404, 1, none⟩ = some (.int .i64 ((rd_T38 l0_2 x5_2).f1)) ∧ w'.cell? ⟨gb404, 2, none⟩ = some (.int .i64 ((rd_T38 l0_2 x5_2).f2)) ∧ w'.cell? ⟨gb404, 3, none⟩ = some (.int .i64 ((rd_T38 l0_2 x5_2).f3)) ∧ w'.cell? ⟨gb404, 4, none⟩ = some (.int .i64 ((rd_T38 l0_2 x5_2).f4)) ∧ w'.cell? ⟨gb404, 5, none⟩ = some (.string ((rd_T38 l0_2 x5_2).f5)) ∧ w'.cell? ⟨gb402, 0, none⟩ = some (.int .i64 a0_0) ∧ w'.cell? ⟨gb402, 1, none⟩ = some (.int .i64 a0_1) ∧ w'.cell? ⟨gb402, 2, none⟩ = some (.slice (some ad403) l0_2.length c0_2)) (ds := []) #[F,F,F,F,F,F,F,F,F,F,F,F,F,F,F,F,F,F,F,F,F,F,F,F,F,F,F,F,F,F,F,F,F] (by kernel_rfl) rfl rfl ⟨e_ BK404 0, e_ BK404 1, e_ BK404 2, e_ BK404 3, e_ BK404 4, e_ BK404 5, e_ BK402 0, e_ BK402 1, e_ BK402 2⟩ (fun hHeld => ?_); refine with_tabW hopperref05_Check.tab7 hopperref05_Check.bits7 (fun HT_ HW_ => ?_)
           generalize w62.drew = w63 at BK402 BK404 HB hHeld ⊢
           refine tk_ 0 52 HT_ HW_ hHeld ?_
           refine one_ (i := 1) (N := some 53) #[T,T,F,F,F,F,F,F,F,F,F,F,F,F,F,F,F,F,F,F,F,F,F,F,F,F,F,F,F,F,F,F,F] rfl rfl (one_of HT_.out (by kernel_rfl)) (by decide) (fun K hK => ?_)
           refine goes_ Try.func36 (by kernel_rfl) rfl #[.agg #[.int .i64 ((rd_T38 l0_2 x5_2).f0), .int .i64 ((rd_T38 l0_2 x5_2).f1), .int .i64 ((rd_T38 l0_2 x5_2).f2), .int .i64 ((rd_T38 l0_2 x5_2).f3), .int .i64 ((rd_T38 l0_2 x5_2).f4), .string ((rd_T38 l0_2 x5_2).f5)]] (by rfl) rfl rfl (by (try simp only [m0_, m1_, m2_]); first | done | rfl) ?_
           with_reducible refine (hopperref04_Check.calls ((rd_T38 l0_2 x5_2).f0) ((rd_T38 l0_2 x5_2).f1) ((rd_T38 l0_2 x5_2).f2) ((rd_T38 l0_2 x5_2).f3) ((rd_T38 l0_2 x5_2).f4) ((rd_T38 l0_2 x5_2).f5) true _ A21.out).mono ?_
           rintro e w64 ⟨rfl, hb⟩
           refine ⟨_, rfl, ?_⟩
           have n0_ := A_ (kb_ BK402 hb); have n1_ := A_ (kb_ BK404 hb); have n2_ := A_ (below_step bw_ hb); replace BK402 := n0_; replace BK404 := n1_; replace HB := n2_; clear n0_ n1_ n2_
           (try clear hb)
           (try clear hb2)
           (try clear hk)
           (try clear hi)
           refine hK.out _ _ ⟨e_ BK404 0, e_ BK404 1, e_ BK404 2, e_ BK404 3, e_ BK404 4, e_ BK404 5, e_ BK402 0, e_ BK402 1, e_ BK402 2⟩ (fun hHeld => ?_)
           clear hK K
           refine norm_ (a' := ?_) ?_ ?_
           rotate_left
           · show Act.put _ (some 53) _ = _
             simp only [Act.put, s0_, s1_, s2_, i64_w, i32_w]
             rfl
           refine pq_ 2 54 HT_ ?_
           refine pq_ 3 55 HT_ ?_
           refine pq_ 4 56 HT_ ?_
           refine pq_ 6 58 HT_ ?_
           refine tk_ 5 57 HT_ HW_ hHeld ?_
           refine tk_ 7 59 HT_ HW_ hHeld ?_
           refine pq_ 8 60 HT_ ?_
           refine pq_ 9 61 HT_ ?_
           refine pq_ 10 62 HT_ ?_
           refine pu_ 11 63 HT_ ?_
           refine pu_ 12 64 HT_ ?_
           refine pu_ 13 65 HT_ ?_
           refine pu_ 14 66 HT_ ?_
           refine pu_ 15 67 HT_ ?_
           refine pq_ 16 68 HT_ ?_
           refine pq_ 17 69 HT_ ?_
           refine pu_ 18 70 HT_ ?_
           refine pu_ 19 71 HT_ ?_
           refine pu_ 20 72 HT_ ?_
           refine pu_ 21 73 HT_ ?_
           refine pu_ 22 74 HT_ ?_
           refine pu_ 23 75 HT_ ?_
           refine pu_ 24 76 HT_ ?_
           refine pu_ 25 77 HT_ ?_
           refine pu_ 26 78 HT_ ?_
           refine pu_ 27 79 HT_ ?_
           refine pu_ 28 80 HT_ ?_
           refine pu_ 29 81 HT_ ?_
           refine pu_ 30 82 HT_ ?_
           refine pu_ 31 83 HT_ ?_
           refine pq_ 32 84 HT_ ?_
           refine done_ (done_of HT_.out (by kernel_rfl)) ?_
           try go_wp2
           go_ret
           exact ⟨by first | rfl | (simp [errW_none, errW_some] <;> rfl) | (simp [*, errW_none, errW_some] <;> rfl), by repeat (first | (with_reducible first | exact HB.out | apply wa_ | apply wn_ | apply wd_ | refine ws_ ?_ GE402.out | refine ws_ ?_ GE404.out) | exact HB.out)⟩
       · replace c22 := Bool.eq_false_iff.mpr c22
         subst c22
         have H1 : (some false) = some r := by rw [if_neg (show ¬ (false = true) by decide)] at H; exact H
         clear H
         have H := H1
         clear H1
         obtain rfl := Option.some.inj H
         have hcz65_0 : wr.cell? ⟨gb402, 0, none⟩ = some (.int .i64 a0_0) := e_ BK402 0; have hcz65_1 : wr.cell? ⟨gb402, 1, none⟩ = some (.int .i64 a0_1) := e_ BK402 1; have hcz65_2 : wr.cell? ⟨gb402, 2, none⟩ = some (.slice A0_2 l0_2.length c0_2) := e_ BK402 2; obtain ⟨hfz65_0, hfz65_1, hfz65_2⟩ := z3_ BK402
         have p403 : 0 ≤ (x5_2 : Int) := of_decide_eq_true (by first | (with_reducible assumption) | assumption)
         have q403 : x5_2 < (l0_2.length : Int) := of_decide_eq_true (by first | (with_reducible assumption) | assumption)
         obtain ⟨ad403, e403, hx403_0, hx403_1, hx403_2, hx403_3, hx403_4, hx403_5⟩ := at_T38 HR0_2.out x5_2 p403 q403
         cases e403
         replace hx403_0 := on_ HB.out hx403_0
         replace hx403_1 := on_ HB.out hx403_1
         replace hx403_2 := on_ HB.out hx403_2
         replace hx403_3 := on_ HB.out hx403_3
         replace hx403_4 := on_ HB.out hx403_4
         replace hx403_5 := on_ HB.out hx403_5
         replace p403 := eq_true p403
         replace q403 := eq_true q403
         try go_wp2_with (first | ((with_reducible refine gate_dst (N := 6) rfl ?_); (try (refine gate_guard (by rfl) ?_; dsimp only)); refine box_event ?hg (N := 6) ?hd (cs := #[.int .i64 0, .int .i64 0, .int .i64 0, .int .i64 0, .int .i64 0, .string (⟨#[]⟩ : ByteArray)]) (t := 38) ?hr ?_; (case hd => rfl); (case hg => rfl); (case hr => first | (go_simp; done) | (go_simp; rfl)); intro gb404 hg w66 hbox hb; have n0_ := A_ (kb_ BK402 hb); have n1_ := A_ (below_step bw_ hb); have n2_ := A_ (hbox); have n3_ := A_ (gz_ (w := w) hg); have n4_ := A_ (gz_ (w := w) hg); have n5_ := A_ (nl_ BK402 hg); have n6_ := A_ (ng_ BK402 hg); replace BK402 := n0_; replace HB := n1_; have BK404 := n2_; have GW404 := n3_; have GE404 := n4_; have NB402_404 := n5_; have NB404_402 := n6_; clear n0_ n1_ n2_ n3_ n4_ n5_ n6_; clear hb hbox hg; have hnb67 := NB404_402.out; have hnc67 := NB402_404.out; have hcz68_0 : w66.cell? ⟨gb404, 0, none⟩ = some (.int .i64 0) := e_ BK404 0; have hcz68_1 : w66.cell? ⟨gb404, 1, none⟩ = some (.int .i64 0) := e_ BK404 1; have hcz68_2 : w66.cell? ⟨gb404, 2, none⟩ = some (.int .i64 0) := e_ BK404 2; have hcz68_3 : w66.cell? ⟨gb404, 3, none⟩ = some (.int .i64 0) := e_ BK404 3; have hcz68_4 : w66.cell? ⟨gb404, 4, none⟩ = some (.int .i64 0) := e_ BK404 4; have hcz68_5 : w66.cell? ⟨gb404, 5, none⟩ = some (.string (⟨#[]⟩ : ByteArray)) := e_ BK404 5; obtain ⟨hfz68_0, hfz68_1, hfz68_2, hfz68_3, hfz68_4, hfz68_5⟩ := z6_ BK404))
         have n0_ : Aside0 (((((((w66.setCell ⟨gb404, 0, none⟩ (.int .i64 ((rd_T38 l0_2 x5_2).f0))).setCell ⟨gb404, 1, none⟩ (.int .i64 ((rd_T38 l0_2 x5_2).f1))).setCell ⟨gb404, 2, none⟩ (.int .i64 ((rd_T38 l0_2 x5_2).f2))).setCell ⟨gb404, 3, none⟩ (.int .i64 ((rd_T38 l0_2 x5_2).f3))).setCell ⟨gb404, 4, none⟩ (.int .i64 ((rd_T38 l0_2 x5_2).f4))).setCell ⟨gb404, 5, none⟩ (.string ((rd_T38 l0_2 x5_2).f5))).heap[gb402]? = some (.cells #[.int .i64 a0_0, .int .i64 a0_1, .slice (some ad403) l0_2.length c0_2] 35 (0, 0))) := ⟨bk_⟩; have n1_ : Aside0 (((((((w66.setCell ⟨gb404, 0, none⟩ (.int .i64 ((rd_T38 l0_2 x5_2).f0))).setCell ⟨gb404, 1, none⟩ (.int .i64 ((rd_T38 l0_2 x5_2).f1))).setCell ⟨gb404, 2, none⟩ (.int .i64 ((rd_T38 l0_2 x5_2).f2))).setCell ⟨gb404, 3, none⟩ (.int .i64 ((rd_T38 l0_2 x5_2).f3))).setCell ⟨gb404, 4, none⟩ (.int .i64 ((rd_T38 l0_2 x5_2).f4))).setCell ⟨gb404, 5, none⟩ (.string ((rd_T38 l0_2 x5_2).f5))).heap[gb404]? = some (.cells #[.int .i64 ((rd_T38 l0_2 x5_2).f0), .int .i64 ((rd_T38 l0_2 x5_2).f1), .int .i64 ((rd_T38 l0_2 x5_2).f2), .int .i64 ((rd_T38 l0_2 x5_2).f3), .int .i64 ((rd_T38 l0_2 x5_2).f4), .string ((rd_T38 l0_2 x5_2).f5)] 38 (0, 0))) := ⟨by exact pk_ (b6_ BK404.out)⟩; have n2_ : Aside0 (Below w.heap.size w ((((((w66.setCell ⟨gb404, 0, none⟩ (.int .i64 ((rd_T38 l0_2 x5_2).f0))).setCell ⟨gb404, 1, none⟩ (.int .i64 ((rd_T38 l0_2 x5_2).f1))).setCell ⟨gb404, 2, none⟩ (.int .i64 ((rd_T38 l0_2 x5_2).f2))).setCell ⟨gb404, 3, none⟩ (.int .i64 ((rd_T38 l0_2 x5_2).f3))).setCell ⟨gb404, 4, none⟩ (.int .i64 ((rd_T38 l0_2 x5_2).f4))).setCell ⟨gb404, 5, none⟩ (.string ((rd_T38 l0_2 x5_2).f5)))) := ⟨by repeat (first | (with_reducible first | exact HB.out | apply wa_ | apply wn_ | apply wd_ | refine ws_ ?_ GE402.out | refine ws_ ?_ GE404.out) | exact HB.out)⟩
         (try clear BK402)
         (try clear BK404)
         (try clear HB)
         generalize ((((((w66.setCell ⟨gb404, 0, none⟩ (.int .i64 ((rd_T38 l0_2 x5_2).f0))).setCell ⟨gb404, 1, none⟩ (.int .i64 ((rd_T38 l0_2 x5_2).f1))).setCell ⟨gb404, 2, none⟩ (.int .i64 ((rd_T38 l0_2 x5_2).f2))).setCell ⟨gb404, 3, none⟩ (.int .i64 ((rd_T38 l0_2 x5_2).f3))).setCell ⟨gb404, 4, none⟩ (.int .i64 ((rd_T38 l0_2 x5_2).f4))).setCell ⟨gb404, 5, none⟩ (.string ((rd_T38 l0_2 x5_2).f5))) = w69 at n0_ n1_ n2_ ⊢
         have BK402 := n0_; have BK404 := n1_; have HB := n2_; clear n0_ n1_ n2_; have n0_ := A_ (bd_ BK402.out); have n1_ := A_ (bd_ BK404.out); have n2_ := A_ (wd_ HB.out); replace BK402 := n0_; replace BK404 := n1_; replace HB := n2_; clear n0_ n1_ n2_
         refine start_ (n := 33) (S := fun w' => w'.cell? ⟨gb404, 0, none⟩ = some (.int .i64 ((rd_T38 l0_2 x5_2).f0)) ∧ w'.cell? ⟨gb404, 1, none⟩ = some (.int .i64 ((rd_T38 l0_2 x5_2).f1)) ∧ w'.cell? ⟨gb404, 2, none⟩ = some (.int .i64 ((rd_T38 l0_2 x5_2).f2)) ∧ w'.cell? ⟨gb404, 3, none⟩ = some (.int .i64 ((rd_T38 l0_2 x5_2).f3)) ∧ w'.cell? ⟨gb404, 4, none⟩ = some (.int .i64 ((rd_T38 l0_2 x5_2).f4)) ∧ w'.cell? ⟨gb404, 5, none⟩ = some (.string ((rd_T38 l0_2 x5_2).f5))) (ds := []) #[F,F,F,F,F,F,F,F,F,F,F,F,F,F,F,F,F,F,F,F,F,F,F,F,F,F,F,F,F,F,F,F,F] (by kernel_rfl) rfl rfl ⟨e_ BK404 0, e_ BK404 1, e_ BK404 2, e_ BK404 3, e_ BK404 4, e_ BK404 5⟩ (fun hHeld => ?_); refine with_tabW hopperref05_Check.tab7 hopperref05_Check.bits7 (fun HT_ HW_ => ?_)
         generalize w69.drew = w70 at BK402 BK404 HB hHeld ⊢
         refine tk_ 0 52 HT_ HW_ hHeld ?_
         refine one_ (i := 1) (N := some 53) #[T,T,F,F,F,F,F,F,F,F,F,F,F,F,F,F,F,F,F,F,F,F,F,F,F,F,F,F,F,F,F,F,F] rfl rfl (one_of HT_.out (by kernel_rfl)) (by decide) (fun K hK => ?_)
         refine goes_ Try.func36 (by kernel_rfl) rfl #[.agg #[.int .i64 ((rd_T38 l0_2 x5_2).f0), .int .i64 ((rd_T38 l0_2 x5_2).f1), .int .i64 ((rd_T38 l0_2 x5_2).f2), .int .i64 ((rd_T38 l0_2 x5_2).f3), .int .i64 ((rd_T38 l0_2 x5_2).f4), .string ((rd_T38 l0_2 x5_2).f5)]] (by rfl) rfl rfl (by (try simp only [m0_, m1_, m2_]); first | done | rfl) ?_
         with_reducible refine (hopperref04_Check.calls ((rd_T38 l0_2 x5_2).f0) ((rd_T38 l0_2 x5_2).f1) ((rd_T38 l0_2 x5_2).f2) ((rd_T38 l0_2 x5_2).f3) ((rd_T38 l0_2 x5_2).f4) ((rd_T38 l0_2 x5_2).f5) false _ A21.out).mono ?_
         rintro e w71 ⟨rfl, hb⟩
         refine ⟨_, rfl, ?_⟩
         have n0_ := A_ (kb_ BK402 hb); have n1_ := A_ (kb_ BK404 hb); have n2_ := A_ (below_step bw_ hb); replace BK402 := n0_; replace BK404 := n1_; replace HB := n2_; clear n0_ n1_ n2_
         (try clear hb)
         (try clear hb2)
         (try clear hk)
         (try clear hi)
         refine hK.out _ _ ⟨e_ BK404 0, e_ BK404 1, e_ BK404 2, e_ BK404 3, e_ BK404 4, e_ BK404 5⟩ (fun hHeld => ?_)
         clear hK K
         refine norm_ (a' := ?_) ?_ ?_
         rotate_left
         · show Act.put _ (some 53) _ = _
           simp only [Act.put, s0_, s1_, s2_, i64_w, i32_w]
           rfl
         refine pq_ 2 54 HT_ ?_
         refine pq_ 3 55 HT_ ?_
         refine pu_ 4 56 HT_ ?_
         refine pu_ 5 57 HT_ ?_
         refine pu_ 6 58 HT_ ?_
         refine pu_ 7 59 HT_ ?_
         refine pu_ 8 60 HT_ ?_
         refine pq_ 9 61 HT_ ?_
         refine pq_ 10 62 HT_ ?_
         refine pu_ 11 63 HT_ ?_
         refine pu_ 12 64 HT_ ?_
         refine pu_ 13 65 HT_ ?_
         refine pu_ 14 66 HT_ ?_
         refine pu_ 15 67 HT_ ?_
         refine pq_ 16 68 HT_ ?_
         refine pq_ 17 69 HT_ ?_
         refine pu_ 18 70 HT_ ?_
         refine pu_ 19 71 HT_ ?_
         refine pu_ 20 72 HT_ ?_
         refine pu_ 21 73 HT_ ?_
         refine pu_ 22 74 HT_ ?_
         refine pu_ 23 75 HT_ ?_
         refine pu_ 24 76 HT_ ?_
         refine pu_ 25 77 HT_ ?_
         refine pu_ 26 78 HT_ ?_
         refine pu_ 27 79 HT_ ?_
         refine pu_ 28 80 HT_ ?_
         refine pu_ 29 81 HT_ ?_
         refine pu_ 30 82 HT_ ?_
         refine pu_ 31 83 HT_ ?_
         refine pq_ 32 84 HT_ ?_
         refine done_ (done_of HT_.out (by kernel_rfl)) ?_
         try go_wp2
         go_ret
         exact ⟨by first | rfl | (simp [errW_none, errW_some] <;> rfl) | (simp [*, errW_none, errW_some] <;> rfl), by repeat (first | (with_reducible first | exact HB.out | apply wa_ | apply wn_ | apply wd_ | refine ws_ ?_ GE402.out | refine ws_ ?_ GE404.out) | exact HB.out)⟩
     · rw [if_neg c19] at H
       have c19b0 : decide (x5_2 < (l0_2.length : Int)) = false := decide_eq_false c19
       clear c19
       obtain rfl := Option.some.inj H
       have hcz72_0 : wr.cell? ⟨gb402, 0, none⟩ = some (.int .i64 a0_0) := e_ BK402 0; have hcz72_1 : wr.cell? ⟨gb402, 1, none⟩ = some (.int .i64 a0_1) := e_ BK402 1; have hcz72_2 : wr.cell? ⟨gb402, 2, none⟩ = some (.slice A0_2 l0_2.length c0_2) := e_ BK402 2; obtain ⟨hfz72_0, hfz72_1, hfz72_2⟩ := z3_ BK402
       go_wp2
       go_ret
       exact ⟨by first | rfl | (simp [errW_none, errW_some] <;> rfl) | (simp [*, errW_none, errW_some] <;> rfl), by repeat (first | (with_reducible first | exact HB.out | apply wa_ | apply wn_ | apply wd_ | refine ws_ ?_ GE402.out) | exact HB.out)⟩

end Go.Proofs.Ytahopljippfadaa.D
