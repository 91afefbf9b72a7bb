/- Written by this session's own program over the kit's print: functions of Go told as plain functions, or the row of one statement; proved for every input, with no condition of ours. -/
import Derived.Test.YtahopljippfadaaDx0
import Derived.Test.YtahopljippfadaaDx7
import Derived.Test.YtahopljippfadaaDx13
namespace Go.Proofs.Ytahopljippfadaa.D
open Go.RowKit Go.Proofs.YtahopljippfadaaW.PrintWords Go.Proofs.YtahopljippfadaaW.PrintLast Go.Proofs.YtahopljippfadaaW.PrintMore
attribute [local go_sem] max2_int min2_int max_two min_two max_three min_three max_four min_four   -- for this text's walks alone
set_option linter.unusedVariables false
set_option linter.unusedSimpArgs false

/-! ### hopperref02_Text: function 46, by hand -/
-- HAND rounds=0 making=0
/-- The last k digits of h. -/
def hexTail (h k : Nat) : ByteArray := strOfNums ((hexL h).drop (16 - k))
def hexD : ByteArray := { data := #[48, 49, 50, 51, 52, 53, 54, 55, 56, 57, 97, 98, 99, 100, 101, 102] }
theorem hexTail_step (h k : Nat) (hk : k < 16) : hexTail h (k + 1) = hexD.extract (h / 16 ^ k % 16) (h / 16 ^ k % 16 + 1) ++ hexTail h k := by
  have e : (hexL h).drop (16 - (k + 1)) = hexC (h / 16 ^ k % 16) :: (hexL h).drop (16 - k) := by
    have hl : 16 - (k + 1) < (hexL h).length := by simp [hexL]; omega
    rw [List.drop_eq_getElem_cons hl, show 16 - (k + 1) + 1 = 16 - k by omega]
    congr 1
    simp only [hexL, List.getElem_map, List.getElem_range]
    rw [show 15 - (16 - (k + 1)) = k by omega]
  have hd : ∀ d, d < 16 → hexD.extract d (d + 1) = strOfNums [hexC d] := by decide
  unfold hexTail
  rw [e, hd _ (Nat.mod_lt _ (by omega))]
  rfl
theorem hexTail_size (h k : Nat) : (hexTail h k).size ≤ 16 := by
  have e : (hexTail h k).size = ((hexL h).drop (16 - k)).length := by simp [hexTail, strOfNums, ByteArray.size]
  rw [e, List.length_drop]; simp [hexL]
def hopperref02_Text.f (a0 : Int) : Option ByteArray := if 0 ≤ a0 then (if a0 < 18446744073709551616 then some (strOfNums (hexL a0.toNat)) else none) else none
set_option maxHeartbeats 1000000 in
set_option maxRecDepth 100000 in
theorem hopperref02_Text.calls (a0 : Int) (r : ByteArray) (w : World) (h : hopperref02_Text.f a0 = some r) :
    Calls Try.prog 46 #[.int .u64 a0] w fun e w' => e = .returned (.string r) ∧ Drawn0 w w' := by
  unfold hopperref02_Text.f at h
  by_cases h0 : 0 ≤ a0
  · rw [if_pos h0] at h
    by_cases h1 : a0 < 18446744073709551616
    · rw [if_pos h1] at h
      obtain ⟨x, rfl⟩ := Int.eq_ofNat_of_zero_le h0
      have HR := Aside0.mk (Option.some.inj h)
      have H1 := Aside0.mk h1
      clear h h0 h1
      rw [Int.toNat_natCast] at HR
      go_enter Try.func46, Try.ntmps46
      go_wp2
      go_loop [0, 4, 5] (fun v0 v4 v5 => ∃ k y : Nat, ∃ t : ByteArray, k ≤ 16 ∧ y = x / 16 ^ k ∧ t = hexTail x k ∧ t.size ≤ 100 ∧ v0 = .int .u64 (y : Int) ∧ v4 = .string t ∧ v5 = .int .i64 (k : Int)) (fun _ _ i => 16 - (intOf i).toNat)
      case atStart => exact ⟨0, x, ⟨#[]⟩, by omega, by simp, rfl, by decide, rfl, rfl, rfl⟩
      case round =>
        obtain ⟨k, y, t, hk, hy, ht, hts, rfl, rfl, rfl⟩ := hrel
        have HY := Aside0.mk hy
        have HT := Aside0.mk ht
        clear hy ht
        have hsl : ∀ W : World, (Instr.slice 9 (.string { data := #[48, 49, 50, 51, 52, 53, 54, 55, 56, 57, 97, 98, 99, 100, 101, 102] }) (some (.int .i64 ((y : Int) % 16))) (some (.int .i64 ((y : Int) % 16 + 1))) none).run Try.prog W = .ok (.string (hexD.extract (y % 16) (y % 16 + 1))) W := by
          intro W
          have e := run_slice_string (P := Try.prog) (w := W) 9 hexD .i64 .i64 ((y : Int) % 16) ((y : Int) % 16 + 1) Try.underlying9 (by omega) (by omega) (by have : hexD.size = 16 := rfl; omega)
          rw [show ((y : Int) % 16 + 1).toNat = y % 16 + 1 by omega, show ((y : Int) % 16).toNat = y % 16 by omega] at e
          exact e
        have hz : (hexD.extract (y % 16) (y % 16 + 1)).size ≤ 1 := by rw [ByteArray.size_extract]; omega
        by_cases hlt : k < 16
        · go_wp2
          have h64 : (y : Int) < 18446744073709551616 := by
            have h2 : y ≤ x := by rw [HY.out]; exact Nat.div_le_self _ _
            have := H1.out; omega
          refine ⟨⟨k + 1, y / 16, _, by omega, ?_, (hexTail_step x k hlt).symm, ?_, ?_, ?_, rfl⟩, by simp [intOf]; omega⟩
          · rw [HY.out, Nat.div_div_eq_div_mul, ← Nat.pow_succ]
          · rw [← hexTail_step x k hlt]; exact Nat.le_trans (hexTail_size _ _) (by omega)
          · have e : IntKind.u64.wrap ((y : Int) / 16) = ((y / 16 : Nat) : Int) := by
              rw [IntKind.wrap_u64]; omega
            rw [e]
          · rw [HY.out, HT.out]
        · go_wp2
          go_ret
          refine ⟨?_, Drawn0.refl _⟩
          show Ending.returned (.string t) = _
          have e : k = 16 := by omega
          rw [HT.out, ← HR.out, e]
          rfl
    · rw [if_neg h1] at h; cases h
  · rw [if_neg h0] at h; cases h


/-! ### hopperref02_Roll: function 55 -/
def hopperref02_Roll.l0 : Nat → Int → ByteArray → Int → Option (Int)
  | 0, _, _, _ => none
  | k + 1, x0, x1, x5 => if x5 < (x1.size : Int) then (if 0 ≤ x5 then (hopperref02_Roll.l0 k (IntKind.u64.wrap ((Go.bits .xor .u64 x0 (IntKind.u64.wrap (bt x1 x5))) * 1099511628211)) x1 (wrap64 (x5 + 1))) else (none)) else (some x0)
def hopperref02_Roll.f (k : Nat) (a0 : Int) (a1 : ByteArray) : Option (Int) := hopperref02_Roll.l0 k a0 a1 0
theorem hopperref02_Roll.mono_l : ∀ k, (∀ y0 y1 y2, LeO (hopperref02_Roll.l0 k y0 y1 y2) (hopperref02_Roll.l0 (k + 1) y0 y1 y2))
  | 0 => fun _ _ _ r h => by simp [hopperref02_Roll.l0] at h
  | k + 1 => by
    have ih0 := hopperref02_Roll.mono_l k
    · intro y0 y1 y2
      unfold hopperref02_Roll.l0
      repeat' first
      | (with_reducible exact ih0 _ _ _)
      | (with_reducible exact LeO.refl _)
      | (with_reducible exact LeO.none _)
      | (with_reducible refine LeO.ite ?_ ?_)
      | (with_reducible refine LeO.bind ?_ (fun _ => ?_))
      | exact ih0 _ _ _
      | exact LeO.none _
      | refine LeO.ite ?_ ?_
      | refine LeO.bind ?_ (fun _ => ?_)
theorem hopperref02_Roll.mono : ∀ a0 a1 k, LeO (hopperref02_Roll.f k a0 a1) (hopperref02_Roll.f (k + 1) a0 a1) := by
  intro a0 a1 k
  have ih0 := hopperref02_Roll.mono_l k
  unfold hopperref02_Roll.f
  repeat' first
      | (with_reducible exact ih0 _ _ _)
      | (with_reducible exact LeO.refl _)
      | (with_reducible exact LeO.none _)
      | (with_reducible refine LeO.ite ?_ ?_)
      | (with_reducible refine LeO.bind ?_ (fun _ => ?_))
      | exact ih0 _ _ _
      | exact LeO.none _
      | refine LeO.ite ?_ ?_
      | refine LeO.bind ?_ (fun _ => ?_)
set_option maxHeartbeats 8000000 in
set_option maxRecDepth 100000 in
theorem hopperref02_Roll.calls (k : Nat) (a0 : Int) (a1 : ByteArray) (r : Int) (w : World) (h : hopperref02_Roll.f k a0 a1 = some r) :
    Calls Try.prog 55 #[.int .u64 a0, .string a1] w fun e w' => e = .returned (.int .u64 r) ∧ Drawn0 w w' := by
  have H : (hopperref02_Roll.l0 k a0 a1 0) = some r := h
  clear h
  have H' := Aside0.mk H
  clear H
  go_enter Try.func55, Try.ntmps55
  go_wp2
  go_loopg [0, 5] k (fun kq v0 v5 w' => ∃ (x0_1 : Int) (x5_1 : Int), v0 = .int .u64 x0_1 ∧ v5 = .int .i64 x5_1 ∧ Aside0 (hopperref02_Roll.l0 kq x0_1 a1 x5_1 = some r) ∧ Aside0 (kq ≤ k) ∧ Drawn0 w w')
  case atStart => exact ⟨(a0), (0), (by first | rfl | (simp; done) | (simp [*]; done)), (by first | rfl | (simp; done) | (simp [*]; done)), H', ⟨Nat.le_refl _⟩, by repeat (first | exact Drawn0.refl _ | apply Drawn0.step)⟩
  case round =>
    clear H'
    try clear p2
    obtain ⟨x0_1, x5_1, rfl, rfl, HA, HK1, ⟨m1, rfl⟩⟩ := hrel
    cases gk with
    | zero => exact absurd HA.out (by simp [hopperref02_Roll.l0])
    | succ k1 =>
      have H := HA.out
      clear HA
      simp only [hopperref02_Roll.l0] at H
      by_cases c3 : x5_1 < (a1.size : Int)
      · rw [if_pos c3] at H
        have c3b0 : decide (x5_1 < (a1.size : Int)) = true := decide_eq_true c3
        clear c3
        by_cases c4 : 0 ≤ x5_1
        · rw [if_pos c4] at H
          have c4b0 : decide (0 ≤ x5_1) = true := decide_eq_true c4
          clear c4
          have H' := Aside0.mk H
          clear H
          have p5 : 0 ≤ (x5_1 : Int) := of_decide_eq_true (by first | (with_reducible assumption) | assumption)
          have q5 : x5_1 < (a1.size : Int) := of_decide_eq_true (by first | (with_reducible assumption) | assumption)
          have hx5 := bt_at a1 x5_1
          replace p5 := eq_true p5
          replace q5 := eq_true q5
          go_wp2
          go_roundg k1
          case measure => have := HK1.out; omega
          case rel => exact ⟨(IntKind.u64.wrap ((Go.bits .xor .u64 x0_1 (IntKind.u64.wrap (bt a1 x5_1))) * 1099511628211)), (wrap64 (x5_1 + 1)), (by first | rfl | (simp; done) | (simp [*]; done)), (by first | rfl | (simp; done) | (simp [*]; done)), H', ⟨by have := HK1.out; omega⟩, by repeat (first | exact Drawn0.refl _ | apply Drawn0.step)⟩
        · rw [if_neg c4] at H
          exact absurd H (by simp)
      · rw [if_neg c3] at H
        have c3b0 : decide (x5_1 < (a1.size : Int)) = false := decide_eq_false c3
        clear c3
        obtain rfl := Option.some.inj H
        go_wp2
        go_ret
        exact ⟨by first | rfl | (simp; done) | (simp [*]; done), by repeat (first | exact Drawn0.refl _ | apply Drawn0.step)⟩

/-! ### hopperref02_Of: function 47 -/
def hopperref02_Of.f (k : Nat) (a0 : ByteArray) : Option (Int) := (hopperref02_Roll.f k 14695981039346656037 a0).bind fun t313 => (some t313)
theorem hopperref02_Of.mono : ∀ a0 k, LeO (hopperref02_Of.f k a0) (hopperref02_Of.f (k + 1) a0) := by
  intro a0 k
  unfold hopperref02_Of.f
  repeat' first
      | (with_reducible exact hopperref02_Roll.mono _ _ _)
      | (with_reducible exact LeO.refl _)
      | (with_reducible exact LeO.none _)
      | (with_reducible refine LeO.ite ?_ ?_)
      | (with_reducible refine LeO.bind ?_ (fun _ => ?_))
      | exact hopperref02_Roll.mono _ _ _
      | exact LeO.none _
      | refine LeO.ite ?_ ?_
      | refine LeO.bind ?_ (fun _ => ?_)
set_option maxHeartbeats 8000000 in
set_option maxRecDepth 100000 in
theorem hopperref02_Of.calls (k : Nat) (a0 : ByteArray) (r : Int) (w : World) (h : hopperref02_Of.f k a0 = some r) :
    Calls Try.prog 47 #[.string a0] w fun e w' => e = .returned (.int .u64 r) ∧ Drawn0 w w' := by
  have H : ((hopperref02_Roll.f k 14695981039346656037 a0).bind fun t313 => (some t313)) = some r := h
  clear h
  replace H := Option.bind_eq_some_iff.mp H
  obtain ⟨t313, A20, H⟩ := H
  replace H : (some t313) = some r := H
  have A2 := Aside0.mk A20
  clear A20
  obtain rfl := Option.some.inj H
  go_enter Try.func47, Try.ntmps47
  go_wp2_with (first | ((with_reducible refine gate_callee (f := 55) rfl ?_); refine goesL_ (some 4) rfl rfl Try.func55 (by kernel_rfl) rfl #[.int .u64 14695981039346656037, .string a0] rfl (by (try simp only [List.map_toArray, List.map_cons, List.map_nil]); first | done | rfl | (simp only [List.length_drop, List.length_take]; rfl)) ?_; (with_reducible refine (hopperref02_Roll.calls k 14695981039346656037 a0 t313 _ A2.out).mono ?_); rintro e w' ⟨rfl, ⟨nd, rfl⟩⟩; refine ⟨_, rfl, ?_⟩))
  go_ret
  exact ⟨by first | rfl | (simp; done) | (simp [*]; done), by repeat (first | exact Drawn0.refl _ | apply Drawn0.step)⟩

/-! ### hopperref04_ID: function 37 -/
def hopperref04_ID.f (k : Nat) (a0_0 : Int) (a0_1 : Int) (a0_2 : Int) (a0_3 : Int) (a0_4 : Int) (a0_5 : ByteArray) : Option (ByteArray) := (hopperref04_Encode.f k a0_0 a0_1 a0_2 a0_3 a0_4 a0_5).bind fun bt315 => (if bt315.2 = true then ((hopperref02_Of.f k bt315.1).bind fun t317 => ((hopperref02_Text.f t317).bind fun t318 => (some t318))) else (some (⟨#[]⟩ : ByteArray)))
theorem hopperref04_ID.mono : ∀ a0 a1 a2 a3 a4 a5 k, LeO (hopperref04_ID.f k a0 a1 a2 a3 a4 a5) (hopperref04_ID.f (k + 1) a0 a1 a2 a3 a4 a5) := by
 intro a0 a1 a2 a3 a4 a5 k
 unfold hopperref04_ID.f
 repeat' first
  | (with_reducible exact hopperref02_Of.mono _ _)
  | (with_reducible exact hopperref04_Encode.mono _ _ _ _ _ _ _)
  | (with_reducible exact LeO.refl _)
  | (with_reducible exact LeO.none _)
  | (with_reducible refine LeO.ite ?_ ?_)
  | (with_reducible refine LeO.bind ?_ (fun _ => ?_))
  | exact hopperref02_Of.mono _ _
  | exact hopperref04_Encode.mono _ _ _ _ _ _ _
  | exact LeO.none _
  | refine LeO.ite ?_ ?_
  | refine LeO.bind ?_ (fun _ => ?_)
set_option maxHeartbeats 8000000 in
set_option maxRecDepth 100000 in
theorem hopperref04_ID.calls (k : Nat) (a0_0 : Int) (a0_1 : Int) (a0_2 : Int) (a0_3 : Int) (a0_4 : Int) (a0_5 : ByteArray) (r : ByteArray) (w : World) (h : hopperref04_ID.f k a0_0 a0_1 a0_2 a0_3 a0_4 a0_5 = some r) :
 Calls Try.prog 37 #[.agg #[.int .i64 a0_0, .int .i64 a0_1, .int .i64 a0_2, .int .i64 a0_3, .int .i64 a0_4, .string a0_5]] w fun e w' => e = .returned (.string r) ∧ Below w.heap.size w w' := by
 have hu38 := Try.underlying38
 have HB := A_ (Below.refl w.heap.size w)
 have H : ((hopperref04_Encode.f k a0_0 a0_1 a0_2 a0_3 a0_4 a0_5).bind fun bt315 => (if bt315.2 = true then ((hopperref02_Of.f k bt315.1).bind fun t317 => ((hopperref02_Text.f t317).bind fun t318 => (some t318))) else (some (⟨#[]⟩ : ByteArray)))) = some r := h
 clear h
 replace H := Option.bind_eq_some_iff.mp H
 obtain ⟨⟨t315, t316⟩, A20, H⟩ := H
 try dsimp only at H
 have A2 := A_ A20
 clear A20
 by_cases c3 : t316 = true
 rotate_left
 · replace c3 := Bool.eq_false_iff.mpr c3
   subst c3
   have H1 : (some (⟨#[]⟩ : ByteArray)) = some r := by rw [if_neg (show ¬ (false = true) by decide)] at H; exact H
   clear H
   have H := H1
   clear H1
   obtain rfl := Option.some.inj H
   go_enter Try.func37, Try.ntmps37
   go_wp2_with (first | ((with_reducible refine gate_dst (N := 1) rfl ?_); refine box_event ?hg (N := 1) ?hd (cs := #[.int .i64 a0_0, .int .i64 a0_1, .int .i64 a0_2, .int .i64 a0_3, .int .i64 a0_4, .string a0_5]) (t := 38) ?hr ?_; (case hd => rfl); (case hg => rfl); (case hr => first | (go_simp; done) | (go_simp; rfl)); intro gb314 hg w9 hbox hb; have n0_ := A_ (below_step bw_ hb); have n1_ := A_ (hbox); have n2_ := A_ (gz_ (w := w) hg); have n3_ := A_ (gz_ (w := w) hg); replace HB := n0_; have BK314 := n1_; have GW314 := n2_; have GE314 := n3_; clear n0_ n1_ n2_ n3_; clear hb hbox hg; have hcz10_0 : w9.cell? ⟨gb314, 0, none⟩ = some (.int .i64 a0_0) := e_ BK314 0; have hcz10_1 : w9.cell? ⟨gb314, 1, none⟩ = some (.int .i64 a0_1) := e_ BK314 1; have hcz10_2 : w9.cell? ⟨gb314, 2, none⟩ = some (.int .i64 a0_2) := e_ BK314 2; have hcz10_3 : w9.cell? ⟨gb314, 3, none⟩ = some (.int .i64 a0_3) := e_ BK314 3; have hcz10_4 : w9.cell? ⟨gb314, 4, none⟩ = some (.int .i64 a0_4) := e_ BK314 4; have hcz10_5 : w9.cell? ⟨gb314, 5, none⟩ = some (.string a0_5) := e_ BK314 5; obtain ⟨hfz10_0, hfz10_1, hfz10_2, hfz10_3, hfz10_4, hfz10_5⟩ := z6_ BK314) | ((with_reducible refine gate_callee (f := 45) rfl ?_); refine goesL_ (some 7) rfl rfl Try.func45 (by kernel_rfl) rfl #[.agg #[.int .i64 a0_0, .int .i64 a0_1, .int .i64 a0_2, .int .i64 a0_3, .int .i64 a0_4, .string a0_5]] rfl (by (try simp only [m0_, m1_, m2_]); first | done | rfl) ?_; (with_reducible refine (hopperref04_Encode.calls k a0_0 a0_1 a0_2 a0_3 a0_4 a0_5 t315 false _ A2.out).mono ?_); rintro e w11 ⟨rfl, hb⟩; refine ⟨_, rfl, ?_⟩; replace BK314 := A_ (kb_ BK314 hb); replace HB := A_ (below_step bw_ hb); (try clear hb); (try clear hb2); (try clear hk); (try clear hi)))
   go_ret
   exact ⟨by first | rfl | (simp [errW_none, errW_some] <;> rfl) | (simp [*, errW_none, errW_some] <;> rfl), by repeat (first | (with_reducible first | exact HB.out | apply wa_ | apply wn_ | apply wd_ | refine ws_ ?_ GE314.out) | exact HB.out)⟩

 subst c3
 have H1 : ((hopperref02_Of.f k t315).bind fun t317 => ((hopperref02_Text.f t317).bind fun t318 => (some t318))) = some r := by rw [if_pos rfl] at H; exact H
 clear H
 have H := H1
 clear H1
 replace H := Option.bind_eq_some_iff.mp H
 obtain ⟨t317, A40, H⟩ := H
 try dsimp only at H
 have A4 := A_ A40
 clear A40
 replace H := Option.bind_eq_some_iff.mp H
 obtain ⟨t318, A50, H⟩ := H
 replace H : (some t318) = some r := H
 have A5 := A_ A50
 clear A50
 obtain rfl := Option.some.inj H
 go_enter Try.func37, Try.ntmps37
 go_wp2_with (first | ((with_reducible refine gate_dst (N := 1) rfl ?_); refine box_event ?hg (N := 1) ?hd (cs := #[.int .i64 a0_0, .int .i64 a0_1, .int .i64 a0_2, .int .i64 a0_3, .int .i64 a0_4, .string a0_5]) (t := 38) ?hr ?_; (case hd => rfl); (case hg => rfl); (case hr => first | (go_simp; done) | (go_simp; rfl)); intro gb314 hg w6 hbox hb; have n0_ := A_ (below_step bw_ hb); have n1_ := A_ (hbox); have n2_ := A_ (gz_ (w := w) hg); have n3_ := A_ (gz_ (w := w) hg); replace HB := n0_; have BK314 := n1_; have GW314 := n2_; have GE314 := n3_; clear n0_ n1_ n2_ n3_; clear hb hbox hg; have hcz7_0 : w6.cell? ⟨gb314, 0, none⟩ = some (.int .i64 a0_0) := e_ BK314 0; have hcz7_1 : w6.cell? ⟨gb314, 1, none⟩ = some (.int .i64 a0_1) := e_ BK314 1; have hcz7_2 : w6.cell? ⟨gb314, 2, none⟩ = some (.int .i64 a0_2) := e_ BK314 2; have hcz7_3 : w6.cell? ⟨gb314, 3, none⟩ = some (.int .i64 a0_3) := e_ BK314 3; have hcz7_4 : w6.cell? ⟨gb314, 4, none⟩ = some (.int .i64 a0_4) := e_ BK314 4; have hcz7_5 : w6.cell? ⟨gb314, 5, none⟩ = some (.string a0_5) := e_ BK314 5; obtain ⟨hfz7_0, hfz7_1, hfz7_2, hfz7_3, hfz7_4, hfz7_5⟩ := z6_ BK314) | ((with_reducible refine gate_callee (f := 45) rfl ?_); refine goesL_ (some 7) rfl rfl Try.func45 (by kernel_rfl) rfl #[.agg #[.int .i64 a0_0, .int .i64 a0_1, .int .i64 a0_2, .int .i64 a0_3, .int .i64 a0_4, .string a0_5]] rfl (by (try simp only [m0_, m1_, m2_]); first | done | rfl) ?_; (with_reducible refine (hopperref04_Encode.calls k a0_0 a0_1 a0_2 a0_3 a0_4 a0_5 t315 true _ A2.out).mono ?_); rintro e w8 ⟨rfl, hb⟩; refine ⟨_, rfl, ?_⟩; replace BK314 := A_ (kb_ BK314 hb); replace HB := A_ (below_step bw_ hb); (try clear hb); (try clear hb2); (try clear hk); (try clear hi)) | ((with_reducible refine gate_callee (f := 47) rfl ?_); refine goesL_ (some 13) rfl rfl Try.func47 (by kernel_rfl) rfl #[.string t315] rfl (by (try simp only [m0_, m1_, m2_]); first | done | rfl) ?_; (with_reducible refine (hopperref02_Of.calls k t315 t317 _ A4.out).mono ?_); rintro e w' ⟨rfl, ⟨nd, rfl⟩⟩; refine ⟨_, rfl, ?_⟩) | ((with_reducible refine gate_callee (f := 46) rfl ?_); refine goesL_ (some 14) rfl rfl Try.func46 (by kernel_rfl) rfl #[.int .u64 t317] rfl (by (try simp only [m0_, m1_, m2_]); first | done | rfl) ?_; (with_reducible refine (hopperref02_Text.calls t317 t318 _ A5.out).mono ?_); rintro e w' ⟨rfl, ⟨nd, rfl⟩⟩; refine ⟨_, rfl, ?_⟩))
 go_ret
 exact ⟨by first | rfl | (simp [errW_none, errW_some] <;> rfl) | (simp [*, errW_none, errW_some] <;> rfl), by repeat (first | (with_reducible first | exact HB.out | apply wa_ | apply wn_ | apply wd_ | refine ws_ ?_ GE314.out) | exact HB.out)⟩
/-! ### hopperref04_Better: function 22 -/
def hopperref04_Better.f (k : Nat) (a0_0 : Int) (a0_1 : Int) (a0_2 : Int) (a0_3 : Int) (a0_4 : Int) (a0_5 : ByteArray) (a1_0 : Int) (a1_1 : Int) (a1_2 : Int) (a1_3 : Int) (a1_4 : Int) (a1_5 : ByteArray) : Option (Bool) := (hopperref04_ID.f k a0_0 a0_1 a0_2 a0_3 a0_4 a0_5).bind fun t321 => ((hopperref04_ID.f k a1_0 a1_1 a1_2 a1_3 a1_4 a1_5).bind fun t322 => (if a0_2 = a1_2 then (if t321.toList = t322.toList then (if a0_0 = a1_0 then (some (decide (a0_1 < a1_1))) else (some (decide (a0_0 < a1_0)))) else (some (Op.bytesLess t321.toList t322.toList))) else (some (decide (a0_2 > a1_2)))))
theorem hopperref04_Better.mono : ∀ a0 a1 a2 a3 a4 a5 a6 a7 a8 a9 a10 a11 k, LeO (hopperref04_Better.f k a0 a1 a2 a3 a4 a5 a6 a7 a8 a9 a10 a11) (hopperref04_Better.f (k + 1) a0 a1 a2 a3 a4 a5 a6 a7 a8 a9 a10 a11) := by
 intro a0 a1 a2 a3 a4 a5 a6 a7 a8 a9 a10 a11 k
 unfold hopperref04_Better.f
 repeat' first
  | (with_reducible exact hopperref04_ID.mono _ _ _ _ _ _ _)
  | (with_reducible exact LeO.refl _)
  | (with_reducible exact LeO.none _)
  | (with_reducible refine LeO.ite ?_ ?_)
  | (with_reducible refine LeO.bind ?_ (fun _ => ?_))
  | exact hopperref04_ID.mono _ _ _ _ _ _ _
  | exact LeO.none _
  | refine LeO.ite ?_ ?_
  | refine LeO.bind ?_ (fun _ => ?_)
set_option maxHeartbeats 8000000 in
set_option maxRecDepth 100000 in
theorem hopperref04_Better.calls (k : Nat) (a0_0 : Int) (a0_1 : Int) (a0_2 : Int) (a0_3 : Int) (a0_4 : Int) (a0_5 : ByteArray) (a1_0 : Int) (a1_1 : Int) (a1_2 : Int) (a1_3 : Int) (a1_4 : Int) (a1_5 : ByteArray) (r : Bool) (w : World) (h : hopperref04_Better.f k a0_0 a0_1 a0_2 a0_3 a0_4 a0_5 a1_0 a1_1 a1_2 a1_3 a1_4 a1_5 = some r) :
 Calls Try.prog 22 #[.agg #[.int .i64 a0_0, .int .i64 a0_1, .int .i64 a0_2, .int .i64 a0_3, .int .i64 a0_4, .string a0_5], .agg #[.int .i64 a1_0, .int .i64 a1_1, .int .i64 a1_2, .int .i64 a1_3, .int .i64 a1_4, .string a1_5]] w fun e w' => e = .returned (.bool r) ∧ Below w.heap.size w w' := by
 have hu38 := Try.underlying38
 have HB := A_ (Below.refl w.heap.size w)
 have H : ((hopperref04_ID.f k a0_0 a0_1 a0_2 a0_3 a0_4 a0_5).bind fun t321 => ((hopperref04_ID.f k a1_0 a1_1 a1_2 a1_3 a1_4 a1_5).bind fun t322 => (if a0_2 = a1_2 then (if t321.toList = t322.toList then (if a0_0 = a1_0 then (some (decide (a0_1 < a1_1))) else (some (decide (a0_0 < a1_0)))) else (some (Op.bytesLess t321.toList t322.toList))) else (some (decide (a0_2 > a1_2)))))) = some r := h
 clear h
 replace H := Option.bind_eq_some_iff.mp H
 obtain ⟨t321, A30, H⟩ := H
 try dsimp only at H
 have A3 := A_ A30
 clear A30
 replace H := Option.bind_eq_some_iff.mp H
 obtain ⟨t322, A40, H⟩ := H
 try dsimp only at H
 have A4 := A_ A40
 clear A40
 by_cases c5 : a0_2 = a1_2
 rotate_left
 · rw [if_neg c5] at H
   have c5b0 : (a0_2 == a1_2) = false := beq_eq_false_iff_ne.mpr c5
   have c5b1 : (a0_2 != a1_2) = true := bne_iff_ne.mpr c5
   obtain rfl := Option.some.inj H
   go_enter Try.func22, Try.ntmps22
   go_wp2_with (first | ((with_reducible refine gate_dst (N := 2) rfl ?_); refine box_event ?hg (N := 2) ?hd (cs := #[.int .i64 a0_0, .int .i64 a0_1, .int .i64 a0_2, .int .i64 a0_3, .int .i64 a0_4, .string a0_5]) (t := 38) ?hr ?_; (case hd => rfl); (case hg => rfl); (case hr => first | (go_simp; done) | (go_simp; rfl)); intro gb319 hg w35 hbox hb; have n0_ := A_ (below_step bw_ hb); have n1_ := A_ (hbox); have n2_ := A_ (gz_ (w := w) hg); have n3_ := A_ (gz_ (w := w) hg); replace HB := n0_; have BK319 := n1_; have GW319 := n2_; have GE319 := n3_; clear n0_ n1_ n2_ n3_; clear hb hbox hg) | ((with_reducible refine gate_dst (N := 3) rfl ?_); refine box_event ?hg (N := 3) ?hd (cs := #[.int .i64 a1_0, .int .i64 a1_1, .int .i64 a1_2, .int .i64 a1_3, .int .i64 a1_4, .string a1_5]) (t := 38) ?hr ?_; (case hd => rfl); (case hg => rfl); (case hr => first | (go_simp; done) | (go_simp; rfl)); intro gb320 hg w36 hbox hb; have n0_ := A_ (kb_ BK319 hb); have n1_ := A_ (below_step bw_ hb); have n2_ := A_ (hbox); have n3_ := A_ (gz_ (w := w) hg); have n4_ := A_ (gz_ (w := w) hg); have n5_ := A_ (nl_ BK319 hg); have n6_ := A_ (ng_ BK319 hg); replace BK319 := n0_; replace HB := n1_; have BK320 := n2_; have GW320 := n3_; have GE320 := n4_; have NB319_320 := n5_; have NB320_319 := n6_; clear n0_ n1_ n2_ n3_ n4_ n5_ n6_; clear hb hbox hg; have hnb37 := NB319_320.out; have hnc37 := NB320_319.out; have hcz38_0 : w36.cell? ⟨gb319, 0, none⟩ = some (.int .i64 a0_0) := e_ BK319 0; have hcz38_1 : w36.cell? ⟨gb319, 1, none⟩ = some (.int .i64 a0_1) := e_ BK319 1; have hcz38_2 : w36.cell? ⟨gb319, 2, none⟩ = some (.int .i64 a0_2) := e_ BK319 2; have hcz38_3 : w36.cell? ⟨gb319, 3, none⟩ = some (.int .i64 a0_3) := e_ BK319 3; have hcz38_4 : w36.cell? ⟨gb319, 4, none⟩ = some (.int .i64 a0_4) := e_ BK319 4; have hcz38_5 : w36.cell? ⟨gb319, 5, none⟩ = some (.string a0_5) := e_ BK319 5; obtain ⟨hfz38_0, hfz38_1, hfz38_2, hfz38_3, hfz38_4, hfz38_5⟩ := z6_ BK319) | ((with_reducible refine gate_callee (f := 37) rfl ?_); refine goesL_ (some 8) rfl rfl Try.func37 (by kernel_rfl) rfl #[.agg #[.int .i64 a0_0, .int .i64 a0_1, .int .i64 a0_2, .int .i64 a0_3, .int .i64 a0_4, .string a0_5]] rfl (by (try simp only [m0_, m1_, m2_]); first | done | rfl) ?_; (with_reducible refine (hopperref04_ID.calls k a0_0 a0_1 a0_2 a0_3 a0_4 a0_5 t321 _ A3.out).mono ?_); rintro e w39 ⟨rfl, hb⟩; refine ⟨_, rfl, ?_⟩; replace BK319 := A_ (kb_ BK319 hb); replace BK320 := A_ (kb_ BK320 hb); replace HB := A_ (below_step bw_ hb); (try clear hb); (try clear hb2); (try clear hk); (try clear hi); have hcz40_0 : w39.cell? ⟨gb320, 0, none⟩ = some (.int .i64 a1_0) := e_ BK320 0; have hcz40_1 : w39.cell? ⟨gb320, 1, none⟩ = some (.int .i64 a1_1) := e_ BK320 1; have hcz40_2 : w39.cell? ⟨gb320, 2, none⟩ = some (.int .i64 a1_2) := e_ BK320 2; have hcz40_3 : w39.cell? ⟨gb320, 3, none⟩ = some (.int .i64 a1_3) := e_ BK320 3; have hcz40_4 : w39.cell? ⟨gb320, 4, none⟩ = some (.int .i64 a1_4) := e_ BK320 4; have hcz40_5 : w39.cell? ⟨gb320, 5, none⟩ = some (.string a1_5) := e_ BK320 5; obtain ⟨hfz40_0, hfz40_1, hfz40_2, hfz40_3, hfz40_4, hfz40_5⟩ := z6_ BK320) | ((with_reducible refine gate_callee (f := 37) rfl ?_); refine goesL_ (some 10) rfl rfl Try.func37 (by kernel_rfl) rfl #[.agg #[.int .i64 a1_0, .int .i64 a1_1, .int .i64 a1_2, .int .i64 a1_3, .int .i64 a1_4, .string a1_5]] rfl (by (try simp only [m0_, m1_, m2_]); first | done | rfl) ?_; (with_reducible refine (hopperref04_ID.calls k a1_0 a1_1 a1_2 a1_3 a1_4 a1_5 t322 _ A4.out).mono ?_); rintro e w41 ⟨rfl, hb⟩; refine ⟨_, rfl, ?_⟩; replace BK319 := A_ (kb_ BK319 hb); replace BK320 := A_ (kb_ BK320 hb); replace HB := A_ (below_step bw_ hb); (try clear hb); (try clear hb2); (try clear hk); (try clear hi); have hcz42_0 : w41.cell? ⟨gb319, 0, none⟩ = some (.int .i64 a0_0) := e_ BK319 0; have hcz42_1 : w41.cell? ⟨gb319, 1, none⟩ = some (.int .i64 a0_1) := e_ BK319 1; have hcz42_2 : w41.cell? ⟨gb319, 2, none⟩ = some (.int .i64 a0_2) := e_ BK319 2; have hcz42_3 : w41.cell? ⟨gb319, 3, none⟩ = some (.int .i64 a0_3) := e_ BK319 3; have hcz42_4 : w41.cell? ⟨gb319, 4, none⟩ = some (.int .i64 a0_4) := e_ BK319 4; have hcz42_5 : w41.cell? ⟨gb319, 5, none⟩ = some (.string a0_5) := e_ BK319 5; obtain ⟨hfz42_0, hfz42_1, hfz42_2, hfz42_3, hfz42_4, hfz42_5⟩ := z6_ BK319; have hcz43_0 : w41.cell? ⟨gb320, 0, none⟩ = some (.int .i64 a1_0) := e_ BK320 0; have hcz43_1 : w41.cell? ⟨gb320, 1, none⟩ = some (.int .i64 a1_1) := e_ BK320 1; have hcz43_2 : w41.cell? ⟨gb320, 2, none⟩ = some (.int .i64 a1_2) := e_ BK320 2; have hcz43_3 : w41.cell? ⟨gb320, 3, none⟩ = some (.int .i64 a1_3) := e_ BK320 3; have hcz43_4 : w41.cell? ⟨gb320, 4, none⟩ = some (.int .i64 a1_4) := e_ BK320 4; have hcz43_5 : w41.cell? ⟨gb320, 5, none⟩ = some (.string a1_5) := e_ BK320 5; obtain ⟨hfz43_0, hfz43_1, hfz43_2, hfz43_3, hfz43_4, hfz43_5⟩ := z6_ BK320))
   go_ret
   exact ⟨by first | rfl | (simp [errW_none, errW_some] <;> rfl) | (simp [*, errW_none, errW_some] <;> rfl), by repeat (first | (with_reducible first | exact HB.out | apply wa_ | apply wn_ | apply wd_ | refine ws_ ?_ GE319.out | refine ws_ ?_ GE320.out) | exact HB.out)⟩

 rw [if_pos c5] at H
 have c5b0 : (a0_2 == a1_2) = true := beq_iff_eq.mpr c5
 have c5b1 : (a0_2 != a1_2) = false := bne_eq_false_iff_eq.mpr c5
 clear c5
 by_cases c6 : t321.toList = t322.toList
 rotate_left
 · rw [if_neg c6] at H
   have c6b0 : (t321.toList == t322.toList) = false := beq_eq_false_iff_ne.mpr c6
   have c6b1 : (t321.toList != t322.toList) = true := bne_iff_ne.mpr c6
   obtain rfl := Option.some.inj H
   go_enter Try.func22, Try.ntmps22
   go_wp2_with (first | ((with_reducible refine gate_dst (N := 2) rfl ?_); refine box_event ?hg (N := 2) ?hd (cs := #[.int .i64 a0_0, .int .i64 a0_1, .int .i64 a0_2, .int .i64 a0_3, .int .i64 a0_4, .string a0_5]) (t := 38) ?hr ?_; (case hd => rfl); (case hg => rfl); (case hr => first | (go_simp; done) | (go_simp; rfl)); intro gb319 hg w26 hbox hb; have n0_ := A_ (below_step bw_ hb); have n1_ := A_ (hbox); have n2_ := A_ (gz_ (w := w) hg); have n3_ := A_ (gz_ (w := w) hg); replace HB := n0_; have BK319 := n1_; have GW319 := n2_; have GE319 := n3_; clear n0_ n1_ n2_ n3_; clear hb hbox hg) | ((with_reducible refine gate_dst (N := 3) rfl ?_); refine box_event ?hg (N := 3) ?hd (cs := #[.int .i64 a1_0, .int .i64 a1_1, .int .i64 a1_2, .int .i64 a1_3, .int .i64 a1_4, .string a1_5]) (t := 38) ?hr ?_; (case hd => rfl); (case hg => rfl); (case hr => first | (go_simp; done) | (go_simp; rfl)); intro gb320 hg w27 hbox hb; have n0_ := A_ (kb_ BK319 hb); have n1_ := A_ (below_step bw_ hb); have n2_ := A_ (hbox); have n3_ := A_ (gz_ (w := w) hg); have n4_ := A_ (gz_ (w := w) hg); have n5_ := A_ (nl_ BK319 hg); have n6_ := A_ (ng_ BK319 hg); replace BK319 := n0_; replace HB := n1_; have BK320 := n2_; have GW320 := n3_; have GE320 := n4_; have NB319_320 := n5_; have NB320_319 := n6_; clear n0_ n1_ n2_ n3_ n4_ n5_ n6_; clear hb hbox hg; have hnb28 := NB319_320.out; have hnc28 := NB320_319.out; have hcz29_0 : w27.cell? ⟨gb319, 0, none⟩ = some (.int .i64 a0_0) := e_ BK319 0; have hcz29_1 : w27.cell? ⟨gb319, 1, none⟩ = some (.int .i64 a0_1) := e_ BK319 1; have hcz29_2 : w27.cell? ⟨gb319, 2, none⟩ = some (.int .i64 a0_2) := e_ BK319 2; have hcz29_3 : w27.cell? ⟨gb319, 3, none⟩ = some (.int .i64 a0_3) := e_ BK319 3; have hcz29_4 : w27.cell? ⟨gb319, 4, none⟩ = some (.int .i64 a0_4) := e_ BK319 4; have hcz29_5 : w27.cell? ⟨gb319, 5, none⟩ = some (.string a0_5) := e_ BK319 5; obtain ⟨hfz29_0, hfz29_1, hfz29_2, hfz29_3, hfz29_4, hfz29_5⟩ := z6_ BK319) | ((with_reducible refine gate_callee (f := 37) rfl ?_); refine goesL_ (some 8) rfl rfl Try.func37 (by kernel_rfl) rfl #[.agg #[.int .i64 a0_0, .int .i64 a0_1, .int .i64 a0_2, .int .i64 a0_3, .int .i64 a0_4, .string a0_5]] rfl (by (try simp only [m0_, m1_, m2_]); first | done | rfl) ?_; (with_reducible refine (hopperref04_ID.calls k a0_0 a0_1 a0_2 a0_3 a0_4 a0_5 t321 _ A3.out).mono ?_); rintro e w30 ⟨rfl, hb⟩; refine ⟨_, rfl, ?_⟩; replace BK319 := A_ (kb_ BK319 hb); replace BK320 := A_ (kb_ BK320 hb); replace HB := A_ (below_step bw_ hb); (try clear hb); (try clear hb2); (try clear hk); (try clear hi); have hcz31_0 : w30.cell? ⟨gb320, 0, none⟩ = some (.int .i64 a1_0) := e_ BK320 0; have hcz31_1 : w30.cell? ⟨gb320, 1, none⟩ = some (.int .i64 a1_1) := e_ BK320 1; have hcz31_2 : w30.cell? ⟨gb320, 2, none⟩ = some (.int .i64 a1_2) := e_ BK320 2; have hcz31_3 : w30.cell? ⟨gb320, 3, none⟩ = some (.int .i64 a1_3) := e_ BK320 3; have hcz31_4 : w30.cell? ⟨gb320, 4, none⟩ = some (.int .i64 a1_4) := e_ BK320 4; have hcz31_5 : w30.cell? ⟨gb320, 5, none⟩ = some (.string a1_5) := e_ BK320 5; obtain ⟨hfz31_0, hfz31_1, hfz31_2, hfz31_3, hfz31_4, hfz31_5⟩ := z6_ BK320) | ((with_reducible refine gate_callee (f := 37) rfl ?_); refine goesL_ (some 10) rfl rfl Try.func37 (by kernel_rfl) rfl #[.agg #[.int .i64 a1_0, .int .i64 a1_1, .int .i64 a1_2, .int .i64 a1_3, .int .i64 a1_4, .string a1_5]] rfl (by (try simp only [m0_, m1_, m2_]); first | done | rfl) ?_; (with_reducible refine (hopperref04_ID.calls k a1_0 a1_1 a1_2 a1_3 a1_4 a1_5 t322 _ A4.out).mono ?_); rintro e w32 ⟨rfl, hb⟩; refine ⟨_, rfl, ?_⟩; replace BK319 := A_ (kb_ BK319 hb); replace BK320 := A_ (kb_ BK320 hb); replace HB := A_ (below_step bw_ hb); (try clear hb); (try clear hb2); (try clear hk); (try clear hi); have hcz33_0 : w32.cell? ⟨gb319, 0, none⟩ = some (.int .i64 a0_0) := e_ BK319 0; have hcz33_1 : w32.cell? ⟨gb319, 1, none⟩ = some (.int .i64 a0_1) := e_ BK319 1; have hcz33_2 : w32.cell? ⟨gb319, 2, none⟩ = some (.int .i64 a0_2) := e_ BK319 2; have hcz33_3 : w32.cell? ⟨gb319, 3, none⟩ = some (.int .i64 a0_3) := e_ BK319 3; have hcz33_4 : w32.cell? ⟨gb319, 4, none⟩ = some (.int .i64 a0_4) := e_ BK319 4; have hcz33_5 : w32.cell? ⟨gb319, 5, none⟩ = some (.string a0_5) := e_ BK319 5; obtain ⟨hfz33_0, hfz33_1, hfz33_2, hfz33_3, hfz33_4, hfz33_5⟩ := z6_ BK319; have hcz34_0 : w32.cell? ⟨gb320, 0, none⟩ = some (.int .i64 a1_0) := e_ BK320 0; have hcz34_1 : w32.cell? ⟨gb320, 1, none⟩ = some (.int .i64 a1_1) := e_ BK320 1; have hcz34_2 : w32.cell? ⟨gb320, 2, none⟩ = some (.int .i64 a1_2) := e_ BK320 2; have hcz34_3 : w32.cell? ⟨gb320, 3, none⟩ = some (.int .i64 a1_3) := e_ BK320 3; have hcz34_4 : w32.cell? ⟨gb320, 4, none⟩ = some (.int .i64 a1_4) := e_ BK320 4; have hcz34_5 : w32.cell? ⟨gb320, 5, none⟩ = some (.string a1_5) := e_ BK320 5; obtain ⟨hfz34_0, hfz34_1, hfz34_2, hfz34_3, hfz34_4, hfz34_5⟩ := z6_ BK320))
   go_ret
   exact ⟨by first | rfl | (simp [errW_none, errW_some] <;> rfl) | (simp [*, errW_none, errW_some] <;> rfl), by repeat (first | (with_reducible first | exact HB.out | apply wa_ | apply wn_ | apply wd_ | refine ws_ ?_ GE319.out | refine ws_ ?_ GE320.out) | exact HB.out)⟩
 rw [if_pos c6] at H
 have c6b0 : (t321.toList == t322.toList) = true := beq_iff_eq.mpr c6
 have c6b1 : (t321.toList != t322.toList) = false := bne_eq_false_iff_eq.mpr c6
 clear c6
 by_cases c7 : a0_0 = a1_0
 · rw [if_pos c7] at H
   have c7b0 : (a0_0 == a1_0) = true := beq_iff_eq.mpr c7
   have c7b1 : (a0_0 != a1_0) = false := bne_eq_false_iff_eq.mpr c7
   clear c7
   obtain rfl := Option.some.inj H
   go_enter Try.func22, Try.ntmps22
   go_wp2_with (first | ((with_reducible refine gate_dst (N := 2) rfl ?_); refine box_event ?hg (N := 2) ?hd (cs := #[.int .i64 a0_0, .int .i64 a0_1, .int .i64 a0_2, .int .i64 a0_3, .int .i64 a0_4, .string a0_5]) (t := 38) ?hr ?_; (case hd => rfl); (case hg => rfl); (case hr => first | (go_simp; done) | (go_simp; rfl)); intro gb319 hg w8 hbox hb; have n0_ := A_ (below_step bw_ hb); have n1_ := A_ (hbox); have n2_ := A_ (gz_ (w := w) hg); have n3_ := A_ (gz_ (w := w) hg); replace HB := n0_; have BK319 := n1_; have GW319 := n2_; have GE319 := n3_; clear n0_ n1_ n2_ n3_; clear hb hbox hg) | ((with_reducible refine gate_dst (N := 3) rfl ?_); refine box_event ?hg (N := 3) ?hd (cs := #[.int .i64 a1_0, .int .i64 a1_1, .int .i64 a1_2, .int .i64 a1_3, .int .i64 a1_4, .string a1_5]) (t := 38) ?hr ?_; (case hd => rfl); (case hg => rfl); (case hr => first | (go_simp; done) | (go_simp; rfl)); intro gb320 hg w9 hbox hb; have n0_ := A_ (kb_ BK319 hb); have n1_ := A_ (below_step bw_ hb); have n2_ := A_ (hbox); have n3_ := A_ (gz_ (w := w) hg); have n4_ := A_ (gz_ (w := w) hg); have n5_ := A_ (nl_ BK319 hg); have n6_ := A_ (ng_ BK319 hg); replace BK319 := n0_; replace HB := n1_; have BK320 := n2_; have GW320 := n3_; have GE320 := n4_; have NB319_320 := n5_; have NB320_319 := n6_; clear n0_ n1_ n2_ n3_ n4_ n5_ n6_; clear hb hbox hg; have hnb10 := NB319_320.out; have hnc10 := NB320_319.out; have hcz11_0 : w9.cell? ⟨gb319, 0, none⟩ = some (.int .i64 a0_0) := e_ BK319 0; have hcz11_1 : w9.cell? ⟨gb319, 1, none⟩ = some (.int .i64 a0_1) := e_ BK319 1; have hcz11_2 : w9.cell? ⟨gb319, 2, none⟩ = some (.int .i64 a0_2) := e_ BK319 2; have hcz11_3 : w9.cell? ⟨gb319, 3, none⟩ = some (.int .i64 a0_3) := e_ BK319 3; have hcz11_4 : w9.cell? ⟨gb319, 4, none⟩ = some (.int .i64 a0_4) := e_ BK319 4; have hcz11_5 : w9.cell? ⟨gb319, 5, none⟩ = some (.string a0_5) := e_ BK319 5; obtain ⟨hfz11_0, hfz11_1, hfz11_2, hfz11_3, hfz11_4, hfz11_5⟩ := z6_ BK319) | ((with_reducible refine gate_callee (f := 37) rfl ?_); refine goesL_ (some 8) rfl rfl Try.func37 (by kernel_rfl) rfl #[.agg #[.int .i64 a0_0, .int .i64 a0_1, .int .i64 a0_2, .int .i64 a0_3, .int .i64 a0_4, .string a0_5]] rfl (by (try simp only [m0_, m1_, m2_]); first | done | rfl) ?_; (with_reducible refine (hopperref04_ID.calls k a0_0 a0_1 a0_2 a0_3 a0_4 a0_5 t321 _ A3.out).mono ?_); rintro e w12 ⟨rfl, hb⟩; refine ⟨_, rfl, ?_⟩; replace BK319 := A_ (kb_ BK319 hb); replace BK320 := A_ (kb_ BK320 hb); replace HB := A_ (below_step bw_ hb); (try clear hb); (try clear hb2); (try clear hk); (try clear hi); have hcz13_0 : w12.cell? ⟨gb320, 0, none⟩ = some (.int .i64 a1_0) := e_ BK320 0; have hcz13_1 : w12.cell? ⟨gb320, 1, none⟩ = some (.int .i64 a1_1) := e_ BK320 1; have hcz13_2 : w12.cell? ⟨gb320, 2, none⟩ = some (.int .i64 a1_2) := e_ BK320 2; have hcz13_3 : w12.cell? ⟨gb320, 3, none⟩ = some (.int .i64 a1_3) := e_ BK320 3; have hcz13_4 : w12.cell? ⟨gb320, 4, none⟩ = some (.int .i64 a1_4) := e_ BK320 4; have hcz13_5 : w12.cell? ⟨gb320, 5, none⟩ = some (.string a1_5) := e_ BK320 5; obtain ⟨hfz13_0, hfz13_1, hfz13_2, hfz13_3, hfz13_4, hfz13_5⟩ := z6_ BK320) | ((with_reducible refine gate_callee (f := 37) rfl ?_); refine goesL_ (some 10) rfl rfl Try.func37 (by kernel_rfl) rfl #[.agg #[.int .i64 a1_0, .int .i64 a1_1, .int .i64 a1_2, .int .i64 a1_3, .int .i64 a1_4, .string a1_5]] rfl (by (try simp only [m0_, m1_, m2_]); first | done | rfl) ?_; (with_reducible refine (hopperref04_ID.calls k a1_0 a1_1 a1_2 a1_3 a1_4 a1_5 t322 _ A4.out).mono ?_); rintro e w14 ⟨rfl, hb⟩; refine ⟨_, rfl, ?_⟩; replace BK319 := A_ (kb_ BK319 hb); replace BK320 := A_ (kb_ BK320 hb); replace HB := A_ (below_step bw_ hb); (try clear hb); (try clear hb2); (try clear hk); (try clear hi); have hcz15_0 : w14.cell? ⟨gb319, 0, none⟩ = some (.int .i64 a0_0) := e_ BK319 0; have hcz15_1 : w14.cell? ⟨gb319, 1, none⟩ = some (.int .i64 a0_1) := e_ BK319 1; have hcz15_2 : w14.cell? ⟨gb319, 2, none⟩ = some (.int .i64 a0_2) := e_ BK319 2; have hcz15_3 : w14.cell? ⟨gb319, 3, none⟩ = some (.int .i64 a0_3) := e_ BK319 3; have hcz15_4 : w14.cell? ⟨gb319, 4, none⟩ = some (.int .i64 a0_4) := e_ BK319 4; have hcz15_5 : w14.cell? ⟨gb319, 5, none⟩ = some (.string a0_5) := e_ BK319 5; obtain ⟨hfz15_0, hfz15_1, hfz15_2, hfz15_3, hfz15_4, hfz15_5⟩ := z6_ BK319; have hcz16_0 : w14.cell? ⟨gb320, 0, none⟩ = some (.int .i64 a1_0) := e_ BK320 0; have hcz16_1 : w14.cell? ⟨gb320, 1, none⟩ = some (.int .i64 a1_1) := e_ BK320 1; have hcz16_2 : w14.cell? ⟨gb320, 2, none⟩ = some (.int .i64 a1_2) := e_ BK320 2; have hcz16_3 : w14.cell? ⟨gb320, 3, none⟩ = some (.int .i64 a1_3) := e_ BK320 3; have hcz16_4 : w14.cell? ⟨gb320, 4, none⟩ = some (.int .i64 a1_4) := e_ BK320 4; have hcz16_5 : w14.cell? ⟨gb320, 5, none⟩ = some (.string a1_5) := e_ BK320 5; obtain ⟨hfz16_0, hfz16_1, hfz16_2, hfz16_3, hfz16_4, hfz16_5⟩ := z6_ BK320))
   go_ret
   exact ⟨by first | rfl | (simp [errW_none, errW_some] <;> rfl) | (simp [*, errW_none, errW_some] <;> rfl), by repeat (first | (with_reducible first | exact HB.out | apply wa_ | apply wn_ | apply wd_ | refine ws_ ?_ GE319.out | refine ws_ ?_ GE320.out) | exact HB.out)⟩
 · rw [if_neg c7] at H
   have c7b0 : (a0_0 == a1_0) = false := beq_eq_false_iff_ne.mpr c7
   have c7b1 : (a0_0 != a1_0) = true := bne_iff_ne.mpr c7
   obtain rfl := Option.some.inj H
   go_enter Try.func22, Try.ntmps22
   go_wp2_with (first | ((with_reducible refine gate_dst (N := 2) rfl ?_); refine box_event ?hg (N := 2) ?hd (cs := #[.int .i64 a0_0, .int .i64 a0_1, .int .i64 a0_2, .int .i64 a0_3, .int .i64 a0_4, .string a0_5]) (t := 38) ?hr ?_; (case hd => rfl); (case hg => rfl); (case hr => first | (go_simp; done) | (go_simp; rfl)); intro gb319 hg w17 hbox hb; have n0_ := A_ (below_step bw_ hb); have n1_ := A_ (hbox); have n2_ := A_ (gz_ (w := w) hg); have n3_ := A_ (gz_ (w := w) hg); replace HB := n0_; have BK319 := n1_; have GW319 := n2_; have GE319 := n3_; clear n0_ n1_ n2_ n3_; clear hb hbox hg) | ((with_reducible refine gate_dst (N := 3) rfl ?_); refine box_event ?hg (N := 3) ?hd (cs := #[.int .i64 a1_0, .int .i64 a1_1, .int .i64 a1_2, .int .i64 a1_3, .int .i64 a1_4, .string a1_5]) (t := 38) ?hr ?_; (case hd => rfl); (case hg => rfl); (case hr => first | (go_simp; done) | (go_simp; rfl)); intro gb320 hg w18 hbox hb; have n0_ := A_ (kb_ BK319 hb); have n1_ := A_ (below_step bw_ hb); have n2_ := A_ (hbox); have n3_ := A_ (gz_ (w := w) hg); have n4_ := A_ (gz_ (w := w) hg); have n5_ := A_ (nl_ BK319 hg); have n6_ := A_ (ng_ BK319 hg); replace BK319 := n0_; replace HB := n1_; have BK320 := n2_; have GW320 := n3_; have GE320 := n4_; have NB319_320 := n5_; have NB320_319 := n6_; clear n0_ n1_ n2_ n3_ n4_ n5_ n6_; clear hb hbox hg; have hnb19 := NB319_320.out; have hnc19 := NB320_319.out; have hcz20_0 : w18.cell? ⟨gb319, 0, none⟩ = some (.int .i64 a0_0) := e_ BK319 0; have hcz20_1 : w18.cell? ⟨gb319, 1, none⟩ = some (.int .i64 a0_1) := e_ BK319 1; have hcz20_2 : w18.cell? ⟨gb319, 2, none⟩ = some (.int .i64 a0_2) := e_ BK319 2; have hcz20_3 : w18.cell? ⟨gb319, 3, none⟩ = some (.int .i64 a0_3) := e_ BK319 3; have hcz20_4 : w18.cell? ⟨gb319, 4, none⟩ = some (.int .i64 a0_4) := e_ BK319 4; have hcz20_5 : w18.cell? ⟨gb319, 5, none⟩ = some (.string a0_5) := e_ BK319 5; obtain ⟨hfz20_0, hfz20_1, hfz20_2, hfz20_3, hfz20_4, hfz20_5⟩ := z6_ BK319) | ((with_reducible refine gate_callee (f := 37) rfl ?_); refine goesL_ (some 8) rfl rfl Try.func37 (by kernel_rfl) rfl #[.agg #[.int .i64 a0_0, .int .i64 a0_1, .int .i64 a0_2, .int .i64 a0_3, .int .i64 a0_4, .string a0_5]] rfl (by (try simp only [m0_, m1_, m2_]); first | done | rfl) ?_; (with_reducible refine (hopperref04_ID.calls k a0_0 a0_1 a0_2 a0_3 a0_4 a0_5 t321 _ A3.out).mono ?_); rintro e w21 ⟨rfl, hb⟩; refine ⟨_, rfl, ?_⟩; replace BK319 := A_ (kb_ BK319 hb); replace BK320 := A_ (kb_ BK320 hb); replace HB := A_ (below_step bw_ hb); (try clear hb); (try clear hb2); (try clear hk); (try clear hi); have hcz22_0 : w21.cell? ⟨gb320, 0, none⟩ = some (.int .i64 a1_0) := e_ BK320 0; have hcz22_1 : w21.cell? ⟨gb320, 1, none⟩ = some (.int .i64 a1_1) := e_ BK320 1; have hcz22_2 : w21.cell? ⟨gb320, 2, none⟩ = some (.int .i64 a1_2) := e_ BK320 2; have hcz22_3 : w21.cell? ⟨gb320, 3, none⟩ = some (.int .i64 a1_3) := e_ BK320 3; have hcz22_4 : w21.cell? ⟨gb320, 4, none⟩ = some (.int .i64 a1_4) := e_ BK320 4; have hcz22_5 : w21.cell? ⟨gb320, 5, none⟩ = some (.string a1_5) := e_ BK320 5; obtain ⟨hfz22_0, hfz22_1, hfz22_2, hfz22_3, hfz22_4, hfz22_5⟩ := z6_ BK320) | ((with_reducible refine gate_callee (f := 37) rfl ?_); refine goesL_ (some 10) rfl rfl Try.func37 (by kernel_rfl) rfl #[.agg #[.int .i64 a1_0, .int .i64 a1_1, .int .i64 a1_2, .int .i64 a1_3, .int .i64 a1_4, .string a1_5]] rfl (by (try simp only [m0_, m1_, m2_]); first | done | rfl) ?_; (with_reducible refine (hopperref04_ID.calls k a1_0 a1_1 a1_2 a1_3 a1_4 a1_5 t322 _ A4.out).mono ?_); rintro e w23 ⟨rfl, hb⟩; refine ⟨_, rfl, ?_⟩; replace BK319 := A_ (kb_ BK319 hb); replace BK320 := A_ (kb_ BK320 hb); replace HB := A_ (below_step bw_ hb); (try clear hb); (try clear hb2); (try clear hk); (try clear hi); have hcz24_0 : w23.cell? ⟨gb319, 0, none⟩ = some (.int .i64 a0_0) := e_ BK319 0; have hcz24_1 : w23.cell? ⟨gb319, 1, none⟩ = some (.int .i64 a0_1) := e_ BK319 1; have hcz24_2 : w23.cell? ⟨gb319, 2, none⟩ = some (.int .i64 a0_2) := e_ BK319 2; have hcz24_3 : w23.cell? ⟨gb319, 3, none⟩ = some (.int .i64 a0_3) := e_ BK319 3; have hcz24_4 : w23.cell? ⟨gb319, 4, none⟩ = some (.int .i64 a0_4) := e_ BK319 4; have hcz24_5 : w23.cell? ⟨gb319, 5, none⟩ = some (.string a0_5) := e_ BK319 5; obtain ⟨hfz24_0, hfz24_1, hfz24_2, hfz24_3, hfz24_4, hfz24_5⟩ := z6_ BK319; have hcz25_0 : w23.cell? ⟨gb320, 0, none⟩ = some (.int .i64 a1_0) := e_ BK320 0; have hcz25_1 : w23.cell? ⟨gb320, 1, none⟩ = some (.int .i64 a1_1) := e_ BK320 1; have hcz25_2 : w23.cell? ⟨gb320, 2, none⟩ = some (.int .i64 a1_2) := e_ BK320 2; have hcz25_3 : w23.cell? ⟨gb320, 3, none⟩ = some (.int .i64 a1_3) := e_ BK320 3; have hcz25_4 : w23.cell? ⟨gb320, 4, none⟩ = some (.int .i64 a1_4) := e_ BK320 4; have hcz25_5 : w23.cell? ⟨gb320, 5, none⟩ = some (.string a1_5) := e_ BK320 5; obtain ⟨hfz25_0, hfz25_1, hfz25_2, hfz25_3, hfz25_4, hfz25_5⟩ := z6_ BK320))
   go_ret
   exact ⟨by first | rfl | (simp [errW_none, errW_some] <;> rfl) | (simp [*, errW_none, errW_some] <;> rfl), by repeat (first | (with_reducible first | exact HB.out | apply wa_ | apply wn_ | apply wd_ | refine ws_ ?_ GE319.out | refine ws_ ?_ GE320.out) | exact HB.out)⟩
end Go.Proofs.Ytahopljippfadaa.D
