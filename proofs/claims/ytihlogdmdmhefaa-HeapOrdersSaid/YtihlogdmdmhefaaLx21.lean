/- Written by this session's own program over the kit's print: functions of Go told as plain functions, or the row of one statement; proved for every input, with no condition of ours. -/
import Derived.Test.YtihlogdmdmhefaaLx0
import Derived.Test.YtihlogdmdmhefaaLx9
import Derived.Test.YtihlogdmdmhefaaLx20
namespace Go.Proofs.Ytihlogdmdmhefaa.L
open Go.RowKit Go.Proofs.YtihlogdmdmhefaaW.PrintWords Go.Proofs.YtihlogdmdmhefaaW.PrintLast Go.Proofs.YtihlogdmdmhefaaW.PrintMore
attribute [local go_sem] max2_int min2_int max_two min_two max_three min_three max_four min_four   -- for this text's walks alone
set_option linter.unusedVariables false
set_option linter.unusedSimpArgs false

/-! ### hopperref02_Text: function 119, by hand -/
-- HAND rounds=0 making=0
/-- The last k digits of h. -/
def hexTail (h k : Nat) : ByteArray := strOfNums ((hexL h).drop (16 - k))
def hexD : ByteArray := { data := #[48, 49, 50, 51, 52, 53, 54, 55, 56, 57, 97, 98, 99, 100, 101, 102] }
theorem hexTail_step (h k : Nat) (hk : k < 16) : hexTail h (k + 1) = hexD.extract (h / 16 ^ k % 16) (h / 16 ^ k % 16 + 1) ++ hexTail h k := by
  have e : (hexL h).drop (16 - (k + 1)) = hexC (h / 16 ^ k % 16) :: (hexL h).drop (16 - k) := by
    have hl : 16 - (k + 1) < (hexL h).length := by simp [hexL]; omega
    rw [List.drop_eq_getElem_cons hl, show 16 - (k + 1) + 1 = 16 - k by omega]
    congr 1
    simp only [hexL, List.getElem_map, List.getElem_range]
    rw [show 15 - (16 - (k + 1)) = k by omega]
  have hd : ∀ d, d < 16 → hexD.extract d (d + 1) = strOfNums [hexC d] := by decide
  unfold hexTail
  rw [e, hd _ (Nat.mod_lt _ (by omega))]
  rfl
theorem hexTail_size (h k : Nat) : (hexTail h k).size ≤ 16 := by
  have e : (hexTail h k).size = ((hexL h).drop (16 - k)).length := by simp [hexTail, strOfNums, ByteArray.size]
  rw [e, List.length_drop]; simp [hexL]
def hopperref02_Text.f (a0 : Int) : Option ByteArray := if 0 ≤ a0 then (if a0 < 18446744073709551616 then some (strOfNums (hexL a0.toNat)) else none) else none
set_option maxHeartbeats 1000000 in
set_option maxRecDepth 100000 in
theorem hopperref02_Text.calls (a0 : Int) (r : ByteArray) (w : World) (h : hopperref02_Text.f a0 = some r) :
    Calls Try.prog 119 #[.int .u64 a0] w fun e w' => e = .returned (.string r) ∧ Drawn0 w w' := by
  unfold hopperref02_Text.f at h
  by_cases h0 : 0 ≤ a0
  · rw [if_pos h0] at h
    by_cases h1 : a0 < 18446744073709551616
    · rw [if_pos h1] at h
      obtain ⟨x, rfl⟩ := Int.eq_ofNat_of_zero_le h0
      have HR := Aside0.mk (Option.some.inj h)
      have H1 := Aside0.mk h1
      clear h h0 h1
      rw [Int.toNat_natCast] at HR
      go_enter Try.func119, Try.ntmps119
      go_wp2
      go_loop [0, 4, 5] (fun v0 v4 v5 => ∃ k y : Nat, ∃ t : ByteArray, k ≤ 16 ∧ y = x / 16 ^ k ∧ t = hexTail x k ∧ t.size ≤ 100 ∧ v0 = .int .u64 (y : Int) ∧ v4 = .string t ∧ v5 = .int .i64 (k : Int)) (fun _ _ i => 16 - (intOf i).toNat)
      case atStart => exact ⟨0, x, ⟨#[]⟩, by omega, by simp, rfl, by decide, rfl, rfl, rfl⟩
      case round =>
        obtain ⟨k, y, t, hk, hy, ht, hts, rfl, rfl, rfl⟩ := hrel
        have HY := Aside0.mk hy
        have HT := Aside0.mk ht
        clear hy ht
        have hsl : ∀ W : World, (Instr.slice 9 (.string { data := #[48, 49, 50, 51, 52, 53, 54, 55, 56, 57, 97, 98, 99, 100, 101, 102] }) (some (.int .i64 ((y : Int) % 16))) (some (.int .i64 ((y : Int) % 16 + 1))) none).run Try.prog W = .ok (.string (hexD.extract (y % 16) (y % 16 + 1))) W := by
          intro W
          have e := run_slice_string (P := Try.prog) (w := W) 9 hexD .i64 .i64 ((y : Int) % 16) ((y : Int) % 16 + 1) Try.underlying9 (by omega) (by omega) (by have : hexD.size = 16 := rfl; omega)
          rw [show ((y : Int) % 16 + 1).toNat = y % 16 + 1 by omega, show ((y : Int) % 16).toNat = y % 16 by omega] at e
          exact e
        have hz : (hexD.extract (y % 16) (y % 16 + 1)).size ≤ 1 := by rw [ByteArray.size_extract]; omega
        by_cases hlt : k < 16
        · go_wp2
          have h64 : (y : Int) < 18446744073709551616 := by
            have h2 : y ≤ x := by rw [HY.out]; exact Nat.div_le_self _ _
            have := H1.out; omega
          refine ⟨⟨k + 1, y / 16, _, by omega, ?_, (hexTail_step x k hlt).symm, ?_, ?_, ?_, rfl⟩, by simp [intOf]; omega⟩
          · rw [HY.out, Nat.div_div_eq_div_mul, ← Nat.pow_succ]
          · rw [← hexTail_step x k hlt]; exact Nat.le_trans (hexTail_size _ _) (by omega)
          · have e : IntKind.u64.wrap ((y : Int) / 16) = ((y / 16 : Nat) : Int) := by
              rw [IntKind.wrap_u64]; omega
            rw [e]
          · rw [HY.out, HT.out]
        · go_wp2
          go_ret
          refine ⟨?_, Drawn0.refl _⟩
          show Ending.returned (.string t) = _
          have e : k = 16 := by omega
          rw [HT.out, ← HR.out, e]
          rfl
    · rw [if_neg h1] at h; cases h
  · rw [if_neg h0] at h; cases h


/-! ### hopperref02_Roll: function 167 -/
def hopperref02_Roll.l0 : Nat → Int → ByteArray → Int → Option (Int)
  | 0, _, _, _ => none
  | k + 1, x0, x1, x5 => if x5 < (x1.size : Int) then (if 0 ≤ x5 then (hopperref02_Roll.l0 k (IntKind.u64.wrap ((Go.bits .xor .u64 x0 (IntKind.u64.wrap (bt x1 x5))) * 1099511628211)) x1 (wrap64 (x5 + 1))) else (none)) else (some x0)
def hopperref02_Roll.f (k : Nat) (a0 : Int) (a1 : ByteArray) : Option (Int) := hopperref02_Roll.l0 k a0 a1 0
theorem hopperref02_Roll.mono_l : ∀ k, (∀ y0 y1 y2, LeO (hopperref02_Roll.l0 k y0 y1 y2) (hopperref02_Roll.l0 (k + 1) y0 y1 y2))
  | 0 => fun _ _ _ r h => by simp [hopperref02_Roll.l0] at h
  | k + 1 => by
    have ih0 := hopperref02_Roll.mono_l k
    · intro y0 y1 y2
      unfold hopperref02_Roll.l0
      repeat' first
      | (with_reducible exact ih0 _ _ _)
      | (with_reducible exact LeO.refl _)
      | (with_reducible exact LeO.none _)
      | (with_reducible refine LeO.ite ?_ ?_)
      | (with_reducible refine LeO.bind ?_ (fun _ => ?_))
      | exact ih0 _ _ _
      | exact LeO.none _
      | refine LeO.ite ?_ ?_
      | refine LeO.bind ?_ (fun _ => ?_)
theorem hopperref02_Roll.mono : ∀ a0 a1 k, LeO (hopperref02_Roll.f k a0 a1) (hopperref02_Roll.f (k + 1) a0 a1) := by
  intro a0 a1 k
  have ih0 := hopperref02_Roll.mono_l k
  unfold hopperref02_Roll.f
  repeat' first
      | (with_reducible exact ih0 _ _ _)
      | (with_reducible exact LeO.refl _)
      | (with_reducible exact LeO.none _)
      | (with_reducible refine LeO.ite ?_ ?_)
      | (with_reducible refine LeO.bind ?_ (fun _ => ?_))
      | exact ih0 _ _ _
      | exact LeO.none _
      | refine LeO.ite ?_ ?_
      | refine LeO.bind ?_ (fun _ => ?_)
set_option maxHeartbeats 8000000 in
set_option maxRecDepth 100000 in
theorem hopperref02_Roll.calls (k : Nat) (a0 : Int) (a1 : ByteArray) (r : Int) (w : World) (h : hopperref02_Roll.f k a0 a1 = some r) :
    Calls Try.prog 167 #[.int .u64 a0, .string a1] w fun e w' => e = .returned (.int .u64 r) ∧ Drawn0 w w' := by
  have H : (hopperref02_Roll.l0 k a0 a1 0) = some r := h
  clear h
  have H' := Aside0.mk H
  clear H
  go_enter Try.func167, Try.ntmps167
  go_wp2
  go_loopg [0, 5] k (fun kq v0 v5 w' => ∃ (x0_1 : Int) (x5_1 : Int), v0 = .int .u64 x0_1 ∧ v5 = .int .i64 x5_1 ∧ Aside0 (hopperref02_Roll.l0 kq x0_1 a1 x5_1 = some r) ∧ Aside0 (kq ≤ k) ∧ Drawn0 w w')
  case atStart => exact ⟨(a0), (0), (by first | rfl | (simp; done) | (simp [*]; done)), (by first | rfl | (simp; done) | (simp [*]; done)), H', ⟨Nat.le_refl _⟩, by repeat (first | exact Drawn0.refl _ | apply Drawn0.step)⟩
  case round =>
    clear H'
    try clear c1
    try clear p2
    obtain ⟨x0_1, x5_1, rfl, rfl, HA, HK1, ⟨m1, rfl⟩⟩ := hrel
    cases gk with
    | zero => exact absurd HA.out (by simp [hopperref02_Roll.l0])
    | succ k1 =>
      have H := HA.out
      clear HA
      simp only [hopperref02_Roll.l0] at H
      by_cases c3 : x5_1 < (a1.size : Int)
      · rw [if_pos c3] at H
        have c3b0 : decide (x5_1 < (a1.size : Int)) = true := decide_eq_true c3
        clear c3
        by_cases c4 : 0 ≤ x5_1
        · rw [if_pos c4] at H
          have c4b0 : decide (0 ≤ x5_1) = true := decide_eq_true c4
          clear c4
          have H' := Aside0.mk H
          clear H
          have p5 : 0 ≤ (x5_1 : Int) := of_decide_eq_true (by first | (with_reducible assumption) | assumption)
          have q5 : x5_1 < (a1.size : Int) := of_decide_eq_true (by first | (with_reducible assumption) | assumption)
          have hx5 := bt_at a1 x5_1
          replace p5 := eq_true p5
          replace q5 := eq_true q5
          go_wp2
          go_roundg k1
          case measure => have := HK1.out; omega
          case rel => exact ⟨(IntKind.u64.wrap ((Go.bits .xor .u64 x0_1 (IntKind.u64.wrap (bt a1 x5_1))) * 1099511628211)), (wrap64 (x5_1 + 1)), (by first | rfl | (simp; done) | (simp [*]; done)), (by first | rfl | (simp; done) | (simp [*]; done)), H', ⟨by have := HK1.out; omega⟩, by repeat (first | exact Drawn0.refl _ | apply Drawn0.step)⟩
        · rw [if_neg c4] at H
          exact absurd H (by simp)
      · rw [if_neg c3] at H
        have c3b0 : decide (x5_1 < (a1.size : Int)) = false := decide_eq_false c3
        clear c3
        obtain rfl := Option.some.inj H
        go_wp2
        go_ret
        exact ⟨by first | rfl | (simp; done) | (simp [*]; done), by repeat (first | exact Drawn0.refl _ | apply Drawn0.step)⟩

/-! ### hopperref02_Of: function 120 -/
def hopperref02_Of.f (k : Nat) (a0 : ByteArray) : Option (Int) := (hopperref02_Roll.f k 14695981039346656037 a0).bind fun t370 => (some t370)
theorem hopperref02_Of.mono : ∀ a0 k, LeO (hopperref02_Of.f k a0) (hopperref02_Of.f (k + 1) a0) := by
  intro a0 k
  unfold hopperref02_Of.f
  repeat' first
      | (with_reducible exact hopperref02_Roll.mono _ _ _)
      | (with_reducible exact LeO.refl _)
      | (with_reducible exact LeO.none _)
      | (with_reducible refine LeO.ite ?_ ?_)
      | (with_reducible refine LeO.bind ?_ (fun _ => ?_))
      | exact hopperref02_Roll.mono _ _ _
      | exact LeO.none _
      | refine LeO.ite ?_ ?_
      | refine LeO.bind ?_ (fun _ => ?_)
set_option maxHeartbeats 8000000 in
set_option maxRecDepth 100000 in
theorem hopperref02_Of.calls (k : Nat) (a0 : ByteArray) (r : Int) (w : World) (h : hopperref02_Of.f k a0 = some r) :
    Calls Try.prog 120 #[.string a0] w fun e w' => e = .returned (.int .u64 r) ∧ Drawn0 w w' := by
  have H : ((hopperref02_Roll.f k 14695981039346656037 a0).bind fun t370 => (some t370)) = some r := h
  clear h
  replace H := Option.bind_eq_some_iff.mp H
  obtain ⟨t370, A20, H⟩ := H
  replace H : (some t370) = some r := H
  have A2 := Aside0.mk A20
  clear A20
  obtain rfl := Option.some.inj H
  go_enter Try.func120, Try.ntmps120
  go_wp2_with (first | ((with_reducible refine gate_callee (f := 167) rfl ?_); refine goesL_ (some 4) rfl rfl Try.func167 (by kernel_rfl) rfl #[.int .u64 14695981039346656037, .string a0] rfl (by (try simp only [List.map_toArray, List.map_cons, List.map_nil]); first | done | rfl | (simp only [List.length_drop, List.length_take]; rfl)) ?_; (with_reducible refine (hopperref02_Roll.calls k 14695981039346656037 a0 t370 _ A2.out).mono ?_); rintro e w' ⟨rfl, ⟨nd, rfl⟩⟩; refine ⟨_, rfl, ?_⟩))
  go_ret
  exact ⟨by first | rfl | (simp; done) | (simp [*]; done), by repeat (first | exact Drawn0.refl _ | apply Drawn0.step)⟩

/-! ### hopperref04_ID: function 43 -/
def hopperref04_ID.f (k : Nat) (a0_0 : Int) (a0_1 : Int) (a0_2 : Int) (a0_3 : Int) (a0_4 : Int) (a0_5 : ByteArray) : Option (ByteArray) := (hopperref04_Encode.f k a0_0 a0_1 a0_2 a0_3 a0_4 a0_5).bind fun bt372 => (if bt372.2 = true then ((hopperref02_Of.f k bt372.1).bind fun t374 => ((hopperref02_Text.f t374).bind fun t375 => (some t375))) else (some (⟨#[]⟩ : ByteArray)))
theorem hopperref04_ID.mono : ∀ a0 a1 a2 a3 a4 a5 k, LeO (hopperref04_ID.f k a0 a1 a2 a3 a4 a5) (hopperref04_ID.f (k + 1) a0 a1 a2 a3 a4 a5) := by
  intro a0 a1 a2 a3 a4 a5 k
  unfold hopperref04_ID.f
  repeat' first
      | (with_reducible exact hopperref02_Of.mono _ _)
      | (with_reducible exact hopperref04_Encode.mono _ _ _ _ _ _ _)
      | (with_reducible exact LeO.refl _)
      | (with_reducible exact LeO.none _)
      | (with_reducible refine LeO.ite ?_ ?_)
      | (with_reducible refine LeO.bind ?_ (fun _ => ?_))
      | exact hopperref02_Of.mono _ _
      | exact hopperref04_Encode.mono _ _ _ _ _ _ _
      | exact LeO.none _
      | refine LeO.ite ?_ ?_
      | refine LeO.bind ?_ (fun _ => ?_)
set_option maxHeartbeats 8000000 in
set_option maxRecDepth 100000 in
theorem hopperref04_ID.calls (k : Nat) (a0_0 : Int) (a0_1 : Int) (a0_2 : Int) (a0_3 : Int) (a0_4 : Int) (a0_5 : ByteArray) (r : ByteArray) (w : World) (h : hopperref04_ID.f k a0_0 a0_1 a0_2 a0_3 a0_4 a0_5 = some r) :
    Calls Try.prog 43 #[.agg #[.int .i64 a0_0, .int .i64 a0_1, .int .i64 a0_2, .int .i64 a0_3, .int .i64 a0_4, .string a0_5]] w fun e w' => e = .returned (.string r) ∧ Below w.heap.size w w' := by
  have hu23 := Try.underlying23
  have HB := Aside0.mk (Below.refl w.heap.size w)
  have H : ((hopperref04_Encode.f k a0_0 a0_1 a0_2 a0_3 a0_4 a0_5).bind fun bt372 => (if bt372.2 = true then ((hopperref02_Of.f k bt372.1).bind fun t374 => ((hopperref02_Text.f t374).bind fun t375 => (some t375))) else (some (⟨#[]⟩ : ByteArray)))) = some r := h
  clear h
  replace H := Option.bind_eq_some_iff.mp H
  obtain ⟨⟨t372, t373⟩, A20, H⟩ := H
  replace H : (if t373 = true then ((hopperref02_Of.f k t372).bind fun t374 => ((hopperref02_Text.f t374).bind fun t375 => (some t375))) else (some (⟨#[]⟩ : ByteArray))) = some r := H
  have A2 := Aside0.mk A20
  clear A20
  by_cases c3 : t373 = true
  · subst c3
    have H1 : ((hopperref02_Of.f k t372).bind fun t374 => ((hopperref02_Text.f t374).bind fun t375 => (some t375))) = some r := by rw [if_pos rfl] at H; exact H
    clear H
    have H := H1
    clear H1
    replace H := Option.bind_eq_some_iff.mp H
    obtain ⟨t374, A40, H⟩ := H
    replace H : ((hopperref02_Text.f t374).bind fun t375 => (some t375)) = some r := H
    have A4 := Aside0.mk A40
    clear A40
    replace H := Option.bind_eq_some_iff.mp H
    obtain ⟨t375, A50, H⟩ := H
    replace H : (some t375) = some r := H
    have A5 := Aside0.mk A50
    clear A50
    obtain rfl := Option.some.inj H
    go_enter Try.func43, Try.ntmps43
    go_wp2_with (first | ((with_reducible refine gate_dst (N := 1) rfl ?_); refine box_event ?hg (N := 1) ?hd (cs := #[.int .i64 a0_0, .int .i64 a0_1, .int .i64 a0_2, .int .i64 a0_3, .int .i64 a0_4, .string a0_5]) (t := 23) ?hr ?_; (case hd => rfl); (case hg => rfl); (case hr => first | (go_simp; done) | (go_simp; rfl)); intro gb371 hg w6 hbox hb; have n0_ := Aside0.mk (below_step (by repeat (first | (with_reducible first | exact HB.out | apply below_alloc | apply pw_below_drewN | apply below_drew1) | exact HB.out)) hb); have n1_ := Aside0.mk (hbox); have n2_ := Aside0.mk ((by rw [hg]; exact (below_size (by repeat (first | (with_reducible first | exact HB.out | apply below_alloc | apply pw_below_drewN | apply below_drew1) | exact HB.out))) : w.heap.size ≤ gb371)); have n3_ := Aside0.mk ((by rw [hg]; exact (below_size (by repeat (first | (with_reducible first | exact HB.out | apply below_alloc | apply pw_below_drewN | apply below_drew1) | exact HB.out))) : w.heap.size ≤ gb371)); clear HB; have HB := n0_; have BK371 := n1_; have GW371 := n2_; have GE371 := n3_; clear n0_ n1_ n2_ n3_; clear hb hbox hg; have hcz7_0 : w6.cell? ⟨gb371, 0, none⟩ = some (.int .i64 a0_0) := (blk_cell BK371.out 0).trans rfl; have hcz7_1 : w6.cell? ⟨gb371, 1, none⟩ = some (.int .i64 a0_1) := (blk_cell BK371.out 1).trans rfl; have hcz7_2 : w6.cell? ⟨gb371, 2, none⟩ = some (.int .i64 a0_2) := (blk_cell BK371.out 2).trans rfl; have hcz7_3 : w6.cell? ⟨gb371, 3, none⟩ = some (.int .i64 a0_3) := (blk_cell BK371.out 3).trans rfl; have hcz7_4 : w6.cell? ⟨gb371, 4, none⟩ = some (.int .i64 a0_4) := (blk_cell BK371.out 4).trans rfl; have hcz7_5 : w6.cell? ⟨gb371, 5, none⟩ = some (.string a0_5) := (blk_cell BK371.out 5).trans rfl; have hfz7_0 := blk_frozen BK371.out 0; have hfz7_1 := blk_frozen BK371.out 1; have hfz7_2 := blk_frozen BK371.out 2; have hfz7_3 := blk_frozen BK371.out 3; have hfz7_4 := blk_frozen BK371.out 4; have hfz7_5 := blk_frozen BK371.out 5) | ((with_reducible refine gate_callee (f := 35) rfl ?_); refine goesL_ (some 7) rfl rfl Try.func35 (by kernel_rfl) rfl #[.agg #[.int .i64 a0_0, .int .i64 a0_1, .int .i64 a0_2, .int .i64 a0_3, .int .i64 a0_4, .string a0_5]] rfl (by (try simp only [List.map_toArray, List.map_cons, List.map_nil]); first | done | rfl | (simp only [List.length_drop, List.length_take]; rfl)) ?_; (with_reducible refine (hopperref04_Encode.calls k a0_0 a0_1 a0_2 a0_3 a0_4 a0_5 t372 true _ A2.out).mono ?_); rintro e w8 ⟨rfl, hb⟩; refine ⟨_, rfl, ?_⟩; have n0_ := Aside0.mk (blk_below (g := gb371) (o := .cells #[.int .i64 a0_0, .int .i64 a0_1, .int .i64 a0_2, .int .i64 a0_3, .int .i64 a0_4, .string a0_5] 23 (0, 0)) (by (with_reducible repeat (first | refine blk_drewN ?_ _ | refine blk_drew ?_ | refine blk_alloc ?_ _)); exact BK371.out) hb); have n1_ := Aside0.mk (below_step (by repeat (first | (with_reducible first | exact HB.out | apply below_alloc | apply pw_below_drewN | apply below_drew1 | refine below_set ?_ GE371.out) | exact HB.out)) hb); clear BK371; clear HB; have BK371 := n0_; have HB := n1_; clear n0_ n1_; (try clear hb); (try clear hb2); (try clear hk); (try clear hi)) | ((with_reducible refine gate_callee (f := 120) rfl ?_); refine goesL_ (some 13) rfl rfl Try.func120 (by kernel_rfl) rfl #[.string t372] rfl (by (try simp only [List.map_toArray, List.map_cons, List.map_nil]); first | done | rfl | (simp only [List.length_drop, List.length_take]; rfl)) ?_; (with_reducible refine (hopperref02_Of.calls k t372 t374 _ A4.out).mono ?_); rintro e w' ⟨rfl, ⟨nd, rfl⟩⟩; refine ⟨_, rfl, ?_⟩) | ((with_reducible refine gate_callee (f := 119) rfl ?_); refine goesL_ (some 14) rfl rfl Try.func119 (by kernel_rfl) rfl #[.int .u64 t374] rfl (by (try simp only [List.map_toArray, List.map_cons, List.map_nil]); first | done | rfl | (simp only [List.length_drop, List.length_take]; rfl)) ?_; (with_reducible refine (hopperref02_Text.calls t374 t375 _ A5.out).mono ?_); rintro e w' ⟨rfl, ⟨nd, rfl⟩⟩; refine ⟨_, rfl, ?_⟩))
    go_ret
    exact ⟨by first | rfl | (simp [errW_none, errW_some] <;> rfl) | (simp [*, errW_none, errW_some] <;> rfl), by repeat (first | (with_reducible first | exact HB.out | apply below_alloc | apply pw_below_drewN | apply below_drew1 | refine below_set ?_ GE371.out) | exact HB.out)⟩
  · replace c3 := Bool.eq_false_iff.mpr c3
    subst c3
    have H1 : (some (⟨#[]⟩ : ByteArray)) = some r := by rw [if_neg (show ¬ (false = true) by decide)] at H; exact H
    clear H
    have H := H1
    clear H1
    obtain rfl := Option.some.inj H
    go_enter Try.func43, Try.ntmps43
    go_wp2_with (first | ((with_reducible refine gate_dst (N := 1) rfl ?_); refine box_event ?hg (N := 1) ?hd (cs := #[.int .i64 a0_0, .int .i64 a0_1, .int .i64 a0_2, .int .i64 a0_3, .int .i64 a0_4, .string a0_5]) (t := 23) ?hr ?_; (case hd => rfl); (case hg => rfl); (case hr => first | (go_simp; done) | (go_simp; rfl)); intro gb371 hg w9 hbox hb; have n0_ := Aside0.mk (below_step (by repeat (first | (with_reducible first | exact HB.out | apply below_alloc | apply pw_below_drewN | apply below_drew1) | exact HB.out)) hb); have n1_ := Aside0.mk (hbox); have n2_ := Aside0.mk ((by rw [hg]; exact (below_size (by repeat (first | (with_reducible first | exact HB.out | apply below_alloc | apply pw_below_drewN | apply below_drew1) | exact HB.out))) : w.heap.size ≤ gb371)); have n3_ := Aside0.mk ((by rw [hg]; exact (below_size (by repeat (first | (with_reducible first | exact HB.out | apply below_alloc | apply pw_below_drewN | apply below_drew1) | exact HB.out))) : w.heap.size ≤ gb371)); clear HB; have HB := n0_; have BK371 := n1_; have GW371 := n2_; have GE371 := n3_; clear n0_ n1_ n2_ n3_; clear hb hbox hg; have hcz10_0 : w9.cell? ⟨gb371, 0, none⟩ = some (.int .i64 a0_0) := (blk_cell BK371.out 0).trans rfl; have hcz10_1 : w9.cell? ⟨gb371, 1, none⟩ = some (.int .i64 a0_1) := (blk_cell BK371.out 1).trans rfl; have hcz10_2 : w9.cell? ⟨gb371, 2, none⟩ = some (.int .i64 a0_2) := (blk_cell BK371.out 2).trans rfl; have hcz10_3 : w9.cell? ⟨gb371, 3, none⟩ = some (.int .i64 a0_3) := (blk_cell BK371.out 3).trans rfl; have hcz10_4 : w9.cell? ⟨gb371, 4, none⟩ = some (.int .i64 a0_4) := (blk_cell BK371.out 4).trans rfl; have hcz10_5 : w9.cell? ⟨gb371, 5, none⟩ = some (.string a0_5) := (blk_cell BK371.out 5).trans rfl; have hfz10_0 := blk_frozen BK371.out 0; have hfz10_1 := blk_frozen BK371.out 1; have hfz10_2 := blk_frozen BK371.out 2; have hfz10_3 := blk_frozen BK371.out 3; have hfz10_4 := blk_frozen BK371.out 4; have hfz10_5 := blk_frozen BK371.out 5) | ((with_reducible refine gate_callee (f := 35) rfl ?_); refine goesL_ (some 7) rfl rfl Try.func35 (by kernel_rfl) rfl #[.agg #[.int .i64 a0_0, .int .i64 a0_1, .int .i64 a0_2, .int .i64 a0_3, .int .i64 a0_4, .string a0_5]] rfl (by (try simp only [List.map_toArray, List.map_cons, List.map_nil]); first | done | rfl | (simp only [List.length_drop, List.length_take]; rfl)) ?_; (with_reducible refine (hopperref04_Encode.calls k a0_0 a0_1 a0_2 a0_3 a0_4 a0_5 t372 false _ A2.out).mono ?_); rintro e w11 ⟨rfl, hb⟩; refine ⟨_, rfl, ?_⟩; have n0_ := Aside0.mk (blk_below (g := gb371) (o := .cells #[.int .i64 a0_0, .int .i64 a0_1, .int .i64 a0_2, .int .i64 a0_3, .int .i64 a0_4, .string a0_5] 23 (0, 0)) (by (with_reducible repeat (first | refine blk_drewN ?_ _ | refine blk_drew ?_ | refine blk_alloc ?_ _)); exact BK371.out) hb); have n1_ := Aside0.mk (below_step (by repeat (first | (with_reducible first | exact HB.out | apply below_alloc | apply pw_below_drewN | apply below_drew1 | refine below_set ?_ GE371.out) | exact HB.out)) hb); clear BK371; clear HB; have BK371 := n0_; have HB := n1_; clear n0_ n1_; (try clear hb); (try clear hb2); (try clear hk); (try clear hi)))
    go_ret
    exact ⟨by first | rfl | (simp [errW_none, errW_some] <;> rfl) | (simp [*, errW_none, errW_some] <;> rfl), by repeat (first | (with_reducible first | exact HB.out | apply below_alloc | apply pw_below_drewN | apply below_drew1 | refine below_set ?_ GE371.out) | exact HB.out)⟩

end Go.Proofs.Ytihlogdmdmhefaa.L
