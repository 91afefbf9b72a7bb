/- Written by this session's own program over the kit's print: functions of Go told as plain functions, or the row of one statement; proved for every input, with no condition of ours. -/
import Derived.Test.YtfpomamhcjkoeaaLx0
namespace Go.Proofs.Ytfpomamhcjkoeaa.L
open Go.RowKit Go.Proofs.YtfpomamhcjkoeaaW.PrintWords Go.Proofs.YtfpomamhcjkoeaaW.PrintLast Go.Proofs.YtfpomamhcjkoeaaW.PrintMore
attribute [local go_sem] max2_int min2_int max_two min_two max_three min_three max_four min_four   -- for this text's walks alone
set_option linter.unusedVariables false
set_option linter.unusedSimpArgs false

/-! ### fnv_Roll: function 29, by hand -/
-- HAND rounds=0 making=0
-- IMPORT Derived.Test.YtfpomamhcjkoeaaGoto
def rollB (h : Int) (c : Int) : Int := IntKind.u64.wrap (Go.bits .xor .u64 h (IntKind.u64.wrap c) * 1099511628211)
def rollL (h : Int) : List UInt8 → Int
  | [] => h
  | c :: l => rollL (rollB h (c.toNat : Int)) l
theorem rollL_append (h : Int) (l m : List UInt8) : rollL h (l ++ m) = rollL (rollL h l) m := by
  induction l generalizing h with
  | nil => rfl
  | cons c l ih => exact ih _
theorem rollL_snoc (h : Int) (s : ByteArray) (k : Nat) (hk : k < s.size) : rollL h (s.data.toList.take (k + 1)) = rollB (rollL h (s.data.toList.take k)) ((s[k].toNat : Nat) : Int) := by
  have e : s.data.toList.take (k + 1) = s.data.toList.take k ++ [s[k]] := by
    rw [List.take_succ_eq_append_getElem (by simpa using hk)]; rfl
  rw [e, rollL_append]; rfl
def fnv_Roll.f (a0 : Int) (a1 : ByteArray) : Option Int := if a1.size ≤ 9223372036854775806 then some (rollL a0 a1.data.toList) else none
def FnvRollJ (a0 : Int) (a1 : ByteArray) (w w' : World) (a : Act) : Prop := ∃ k : Nat, ∃ h : Int, k ≤ a1.size ∧ h = rollL a0 (a1.data.toList.take k) ∧ (∃ n, w' = w.drewN n) ∧ ∃ u2 u3 u4 u6 u7 u8 u9 u10 u11 u12 u13 u14 u15 u16 u17 u18 u19 u20 : Value, a = { tmps := #[.int .u64 h, .string a1, u2, u3, u4, .int .i64 (k : Int), u6, u7, u8, u9, u10, u11, u12, u13, u14, u15, u16, u17, u18, u19, u20], defers := [] }
set_option maxHeartbeats 1000000 in
theorem fnv_Roll.calls (a0 : Int) (a1 : ByteArray) (r : Int) (w : World) (h : fnv_Roll.f a0 a1 = some r) :
    Calls Try.prog 29 #[.int .u64 a0, .string a1] w fun e w' => e = .returned (.int .u64 r) ∧ Drawn0 w w' := by
  have hs : a1.size ≤ 9223372036854775806 := by
    unfold fnv_Roll.f at h
    by_cases c : a1.size ≤ 9223372036854775806
    · exact c
    · rw [if_neg c] at h; cases h
  have hr : r = rollL a0 a1.data.toList := by
    unfold fnv_Roll.f at h
    rw [if_pos hs] at h
    exact (Option.some.inj h).symm
  have HR := Aside0.mk hr
  clear hr h
  go_enter Try.func29, Try.ntmps29
  go_wp2
  refine Goto.scope_label 0 (fun a' w' => FnvRollJ a0 a1 w w' a') (fun a' _ => a1.size - (intOf (a'.tmps.getD 5 undef)).toNat) rfl ?_ ?_
  · rintro a' w' ⟨k, h, hk, hh, ⟨n, rfl⟩, u2, u3, u4, u6, u7, u8, u9, u10, u11, u12, u13, u14, u15, u16, u17, u18, u19, u20, rfl⟩
    have HH := Aside0.mk hh
    clear hh
    by_cases hlt : k < a1.size
    · go_wp2
      go_step3
      refine ⟨rfl, ⟨k + 1, _, by omega, ?_, ⟨n, rfl⟩, _, _, _, _, _, _, _, _, _, _, _, _, _, _, _, _, _, _, rfl⟩, by simp [intOf]; omega⟩
      rw [rollL_snoc a0 a1 k hlt, ← HH.out]; rfl
    · go_wp2
      simp only [Exit.jump]
      go_ret
      have e : k = a1.size := by omega
      refine ⟨?_, ⟨n, rfl⟩⟩
      show Ending.returned (.int .u64 h) = _
      rw [HR.out, HH.out, e, List.take_of_length_le (by simp)]
  · intro L hL hLr
    have HL := Aside0.mk hL
    have HLr := Aside0.mk hLr
    clear hL hLr
    go_wp2
    go_step3
    rename_i K hK
    refine hK _ _ (HLr.out _ _ (HL.out _ _ ⟨0, a0, by omega, by simp [rollL], ⟨0, rfl⟩, _, _, _, _, _, _, _, _, _, _, _, _, _, _, _, _, _, _, rfl⟩))


/-! ### fnv_Of: function 27 -/
def fnv_Of.f (a0 : ByteArray) : Option (Int) := (fnv_Roll.f 14695981039346656037 a0).bind fun t101 => (some t101)
set_option maxHeartbeats 8000000 in
set_option maxRecDepth 100000 in
theorem fnv_Of.calls (a0 : ByteArray) (r : Int) (w : World) (h : fnv_Of.f a0 = some r) :
    Calls Try.prog 27 #[.string a0] w fun e w' => e = .returned (.int .u64 r) ∧ Drawn0 w w' := by
  have H : ((fnv_Roll.f 14695981039346656037 a0).bind fun t101 => (some t101)) = some r := h
  clear h
  replace H := Option.bind_eq_some_iff.mp H
  obtain ⟨t101, A20, H⟩ := H
  replace H : (some t101) = some r := H
  have A2 := Aside0.mk A20
  clear A20
  obtain rfl := Option.some.inj H
  go_enter Try.func27, Try.ntmps27
  go_wp2_with (first | ((with_reducible refine gate_callee (f := 29) rfl ?_); refine goesL_ (some 4) rfl rfl Try.func29 (by kernel_rfl) rfl #[.int .u64 14695981039346656037, .string a0] rfl (by (try simp only [List.map_toArray, List.map_cons, List.map_nil]); first | done | rfl | (simp only [List.length_drop, List.length_take]; rfl)) ?_; (with_reducible refine (fnv_Roll.calls 14695981039346656037 a0 t101 _ A2.out).mono ?_); rintro e w' ⟨rfl, ⟨nd, rfl⟩⟩; refine ⟨_, rfl, ?_⟩))
  go_ret
  exact ⟨by first | rfl | (simp; done) | (simp [*]; done), by repeat (first | exact Drawn0.refl _ | apply Drawn0.step)⟩

/-! ### fnv_Text: function 31, by hand -/
-- HAND rounds=0 making=1
-- IMPORT Derived.Test.YtfpomamhcjkoeaaGoto
-- IMPORT Derived.Laws.BitsAllLaws
def hexC (d : Nat) : Int := if d < 10 then (d : Int) + 48 else (d : Int) + 87
/-- The block of sixteen: from place i on the digits of h are laid. -/
def hexN (h : Nat) (i : Nat) : List Int := (List.range 16).map fun j => if j < i then 0 else hexC (h / 16 ^ (15 - j) % 16)
def hexCells (h : Nat) (i : Nat) : Array Value := ((hexN h i).map fun n => Value.int .u8 n).toArray
def hexL (h : Nat) : List Int := (List.range 16).map fun j => hexC (h / 16 ^ (15 - j) % 16)
theorem hexN_zero (h : Nat) : hexN h 0 = hexL h := by simp [hexN, hexL]
theorem hexN_cell (h i j : Nat) (hj : j < 16) : (hexCells h i)[j]? = some (Value.int .u8 ((hexN h i).getD j 0)) := by
  simp [hexCells, hexN, hj]
theorem hexN_low (h i j : Nat) (hj : j < i) (hi : j < 16) : (hexN h i).getD j 0 = 0 := by
  simp [hexN, hj, hi]
theorem hexN_all (h : Nat) : hexN h 16 = List.replicate 16 0 := by
  apply List.ext_getElem
  · simp [hexN]
  · intro j h1 h2
    have hj : j < 16 := by simpa [hexN] using h1
    rw [List.getElem_replicate]
    simp [hexN, hj]
theorem hexCells_all (h : Nat) : hexCells h 16 = ((List.replicate 16 0).map fun n => Value.int .u8 n).toArray := by
  unfold hexCells; rw [hexN_all]
theorem hexN_step (h i : Nat) (hi0 : 0 < i) (hi : i ≤ 16) : (hexCells h i).setIfInBounds (i - 1) (Value.int .u8 (hexC (h / 16 ^ (16 - i) % 16))) = hexCells h (i - 1) := by
  apply Array.ext_getElem?
  intro j
  rw [Array.getElem?_setIfInBounds]
  have hs : (hexCells h i).size = 16 := by simp [hexCells, hexN]
  by_cases hj : j < 16
  · rw [hexN_cell h i j hj, hexN_cell h (i - 1) j hj]
    by_cases e : i - 1 = j
    · subst e
      rw [if_pos rfl, if_pos (by omega)]
      have e2 : 15 - (i - 1) = 16 - i := by omega
      simp [hexN, hj, e2]
    · rw [if_neg e]
      by_cases hlt : j < i - 1
      · rw [hexN_low _ _ _ hlt hj, hexN_low _ _ _ (by omega) hj]
      · have a1 : ¬ j < i := by omega
        simp [hexN, hj, a1, hlt]
  · have h1 : (hexCells h i)[j]? = none := Array.getElem?_eq_none (by omega)
    have h2 : (hexCells h (i - 1))[j]? = none := Array.getElem?_eq_none (by simp [hexCells, hexN]; omega)
    rw [h1, h2]
    by_cases e : i - 1 = j
    · rw [if_pos e, if_neg (by omega)]
    · rw [if_neg e]
theorem hex_digit (d : Nat) (hd : d < 16) (h : d < ({ data := #[48, 49, 50, 51, 52, 53, 54, 55, 56, 57, 97, 98, 99, 100, 101, 102] } : ByteArray).size) : ((({ data := #[48, 49, 50, 51, 52, 53, 54, 55, 56, 57, 97, 98, 99, 100, 101, 102] } : ByteArray)[d]'h).toNat : Int) = hexC d := by
  revert h
  match d, hd with
  | 0, _ => intro h; rfl
  | 1, _ => intro h; rfl
  | 2, _ => intro h; rfl
  | 3, _ => intro h; rfl
  | 4, _ => intro h; rfl
  | 5, _ => intro h; rfl
  | 6, _ => intro h; rfl
  | 7, _ => intro h; rfl
  | 8, _ => intro h; rfl
  | 9, _ => intro h; rfl
  | 10, _ => intro h; rfl
  | 11, _ => intro h; rfl
  | 12, _ => intro h; rfl
  | 13, _ => intro h; rfl
  | 14, _ => intro h; rfl
  | 15, _ => intro h; rfl
  | n + 16, hd => exact absurd hd (by omega)
theorem and15 (y : Nat) (hy : y < 18446744073709551616) : Go.bits .and .u64 (y : Int) 15 = ((y % 16 : Nat) : Int) := by
  rw [show (15 : Int) = ((15 : Nat) : Int) from rfl, u64_and_nat y 15 hy (by omega)]
  have := Nat.and_two_pow_sub_one_eq_mod y 4
  exact congrArg _ this
def fnv_Text.f (a0 : Int) : Option ByteArray := if 0 ≤ a0 then (if a0 < 18446744073709551616 then some (strOfNums (hexL a0.toNat)) else none) else none
def FnvTextJ (h : Nat) (w w' : World) (a : Act) : Prop := ∃ i : Nat, ∃ y : Nat, 0 < i ∧ i ≤ 16 ∧ y = h / 16 ^ (16 - i) ∧ w'.heap[w.heap.size]? = some (.cells (hexCells h i) 49 (0, 0)) ∧ Below w.heap.size w w' ∧ ∃ u1 u2 u5 u6 u7 u8 u9 u10 u11 u12 u13 u14 u15 u16 u17 : Value, a = { tmps := #[.int .u64 (y : Int), u1, u2, .pointer (some ⟨w.heap.size, 0, none⟩), .int .i64 (i : Int), u5, u6, u7, u8, u9, u10, u11, u12, u13, u14, u15, u16, u17], defers := [] }
set_option maxHeartbeats 1000000 in
theorem fnv_Text.calls (a0 : Int) (r : ByteArray) (w : World) (h : fnv_Text.f a0 = some r) :
    Calls Try.prog 31 #[.int .u64 a0] w fun e w' => e = .returned (.string r) ∧ Below w.heap.size w w' := by
  unfold fnv_Text.f at h
  by_cases h0 : 0 ≤ a0
  · rw [if_pos h0] at h
    by_cases h1 : a0 < 18446744073709551616
    · rw [if_pos h1] at h
      obtain ⟨x, rfl⟩ := Int.eq_ofNat_of_zero_le h0
      have HR := Aside0.mk (Option.some.inj h)
      have H1 := Aside0.mk h1
      clear h h0 h1
      rw [Int.toNat_natCast] at HR
      go_enter Try.func31, Try.ntmps31
      go_wp2
      refine Goto.scope_label 0 (fun a' w' => FnvTextJ x w w' a') (fun a' _ => (intOf (a'.tmps.getD 4 undef)).toNat) rfl ?_ ?_
      · rintro a' w' ⟨i, y, hi0, hi, hy, hb, hB, u1, u2, u5, u6, u7, u8, u9, u10, u11, u12, u13, u14, u15, u16, u17, rfl⟩
        have hyx : y < 18446744073709551616 := by
          rw [hy]; exact Nat.lt_of_le_of_lt (Nat.div_le_self _ _) (by have := H1.out; omega)
        have hand := and15 y hyx
        have HY := Aside0.mk hy
        clear hy hyx
        have hc : w'.cell? ⟨w.heap.size, i - 1, none⟩ = some (.int .u8 0) := by
          rw [blk_cell hb (i - 1), hexN_cell x i (i - 1) (by omega), hexN_low x i (i - 1) (by omega) (by omega)]
        have hf : w'.frozen? ⟨w.heap.size, i - 1, none⟩ = false := blk_frozen hb (i - 1)
        have HB := Aside0.mk hb
        have HBel := Aside0.mk hB
        clear hb hB
        have hstep : (w'.setCell ⟨w.heap.size, i - 1, none⟩ (.int .u8 (hexC (y % 16)))).heap[w.heap.size]? = some (.cells (hexCells x (i - 1)) 49 (0, 0)) := by
          rw [← hexN_step x i hi0 hi, ← HY.out]
          exact blk_set HB.out (i - 1) _
        have hbel : Below w.heap.size w (w'.setCell ⟨w.heap.size, i - 1, none⟩ (.int .u8 (hexC (y % 16)))) := HBel.out.setCell (Nat.le_refl _) _
        have HS := Aside0.mk hstep
        have HL := Aside0.mk hbel
        clear hstep hbel
        go_wp2
        · go_step3
          have h1 : 1 < (i : Int) := by assumption
          rw [hex_digit _ (Nat.mod_lt _ (by omega))]
          rw [show (i : Int) - 1 = ((i - 1 : Nat) : Int) by omega, show (y : Int) / 16 = ((y / 16 : Nat) : Int) by omega]
          refine ⟨rfl, ⟨i - 1, y / 16, by omega, by omega, ?_, HS.out, HL.out, _, _, _, _, _, _, _, _, _, _, _, _, _, _, _, rfl⟩, by simp [intOf]; omega⟩
          rw [HY.out, Nat.div_div_eq_div_mul, ← Nat.pow_succ, show (16 - i).succ = 16 - (i - 1) by omega]
        · have h1 : (i : Int) ≤ 1 := by assumption
          rw [hex_digit _ (Nat.mod_lt _ (by omega))]
          have hr : ReadsInt (w'.setCell ⟨w.heap.size, i - 1, none⟩ (.int .u8 (hexC (y % 16)))) .u8 (some ⟨w.heap.size, 0, none⟩) 16 (hexL x) := by
            refine ⟨by simp [hexL], by omega, fun _ => ⟨_, rfl, fun j hj => ?_⟩⟩
            have e0 : (⟨w.heap.size, 0, none⟩ : Addr).add j = ⟨w.heap.size, j, none⟩ := by unfold Addr.add; split <;> simp_all
            have e1 : i - 1 = 0 := by omega
            rw [e0, blk_cell HS.out j, e1, hexN_cell x 0 j hj, hexN_zero]
          have hcv := string_of_reads (P := Try.prog) (c := 16) Try.underlying42 Try.underlying5 Try.underlying9 hr
          have HV := Aside0.mk hr
          clear hr
          rw [hcv]
          go_simp
          go_wp2
          try simp only [Exit.jump]
          go_ret
          exact ⟨by rw [← HR.out]; rfl, HL.out⟩
      · intro L hL hLr
        have HL := Aside0.mk hL
        have HLr := Aside0.mk hLr
        clear hL hLr
        go_wp2
        go_step3
        rename_i K hK
        refine hK _ _ (HLr.out _ _ (HL.out _ _ ⟨16, x, by omega, by omega, by simp, ?_, ?_, _, _, _, _, _, _, _, _, _, _, _, _, _, _, _, rfl⟩))
        · exact (heap_alloc_new w _).trans (by rw [hexCells_all]; rfl)
        · exact below_alloc (Below.refl _ _) _
    · rw [if_neg h1] at h; cases h
  · rw [if_neg h0] at h; cases h


/-! ### fnv_Shard: function 33 -/
def fnv_Shard.f (a0 : Int) (a1 : Int) : Option (Int) := if a0 < 0 then (some (-1)) else (if a0 > 255 then (some (-1)) else (if a1 < 1 then (some (-1)) else (if a1 > 8 then (some (-1)) else ((fnv_Of.f (strOfNums (([(a0) % 256] : List Int)))).bind fun t105 => (if (IntKind.u64.wrap (a1)) = 0 then (none) else (some (wrap64 (Int.tmod t105 (IntKind.u64.wrap (a1))))))))))
set_option maxHeartbeats 8000000 in
set_option maxRecDepth 100000 in
theorem fnv_Shard.calls (a0 : Int) (a1 : Int) (r : Int) (w : World) (h : fnv_Shard.f a0 a1 = some r) :
    Calls Try.prog 33 #[.int .i64 a0, .int .i64 a1] w fun e w' => e = .returned (.int .i64 r) ∧ Below w.heap.size w w' := by
  have HB := Aside0.mk (Below.refl w.heap.size w)
  have H : (if a0 < 0 then (some (-1)) else (if a0 > 255 then (some (-1)) else (if a1 < 1 then (some (-1)) else (if a1 > 8 then (some (-1)) else ((fnv_Of.f (strOfNums (([(a0) % 256] : List Int)))).bind fun t105 => (if (IntKind.u64.wrap (a1)) = 0 then (none) else (some (wrap64 (Int.tmod t105 (IntKind.u64.wrap (a1))))))))))) = some r := h
  clear h
  by_cases c3 : a0 < 0
  · rw [if_pos c3] at H
    have c3b0 : decide (a0 < 0) = true := decide_eq_true c3
    clear c3
    obtain rfl := Option.some.inj H
    go_enter Try.func33, Try.ntmps33
    go_wp2
    go_ret
    exact ⟨by first | rfl | (simp [errW_none, errW_some] <;> rfl) | (simp [*, errW_none, errW_some] <;> rfl), by repeat (first | (with_reducible first | exact HB.out | apply below_alloc | apply pw_below_drewN | apply below_drew1) | exact HB.out)⟩
  · rw [if_neg c3] at H
    have c3b0 : decide (a0 < 0) = false := decide_eq_false c3
    clear c3
    by_cases c4 : a0 > 255
    · rw [if_pos c4] at H
      have c4b0 : decide (255 < a0) = true := decide_eq_true c4
      clear c4
      obtain rfl := Option.some.inj H
      go_enter Try.func33, Try.ntmps33
      go_wp2
      go_ret
      exact ⟨by first | rfl | (simp [errW_none, errW_some] <;> rfl) | (simp [*, errW_none, errW_some] <;> rfl), by repeat (first | (with_reducible first | exact HB.out | apply below_alloc | apply pw_below_drewN | apply below_drew1) | exact HB.out)⟩
    · rw [if_neg c4] at H
      have c4b0 : decide (255 < a0) = false := decide_eq_false c4
      clear c4
      by_cases c5 : a1 < 1
      · rw [if_pos c5] at H
        have c5b0 : decide (a1 < 1) = true := decide_eq_true c5
        clear c5
        obtain rfl := Option.some.inj H
        go_enter Try.func33, Try.ntmps33
        go_wp2
        go_ret
        exact ⟨by first | rfl | (simp [errW_none, errW_some] <;> rfl) | (simp [*, errW_none, errW_some] <;> rfl), by repeat (first | (with_reducible first | exact HB.out | apply below_alloc | apply pw_below_drewN | apply below_drew1) | exact HB.out)⟩
      · rw [if_neg c5] at H
        have c5b0 : decide (a1 < 1) = false := decide_eq_false c5
        clear c5
        by_cases c6 : a1 > 8
        · rw [if_pos c6] at H
          have c6b0 : decide (8 < a1) = true := decide_eq_true c6
          clear c6
          obtain rfl := Option.some.inj H
          go_enter Try.func33, Try.ntmps33
          go_wp2
          go_ret
          exact ⟨by first | rfl | (simp [errW_none, errW_some] <;> rfl) | (simp [*, errW_none, errW_some] <;> rfl), by repeat (first | (with_reducible first | exact HB.out | apply below_alloc | apply pw_below_drewN | apply below_drew1) | exact HB.out)⟩
        · rw [if_neg c6] at H
          have c6b0 : decide (8 < a1) = false := decide_eq_false c6
          clear c6
          obtain ⟨y102, hy102⟩ : ∃ y_ : List Int, y_ = (([(a0) % 256] : List Int)) := ⟨_, rfl⟩
          replace H : ((fnv_Of.f (strOfNums y102)).bind fun t105 => (if (IntKind.u64.wrap (a1)) = 0 then (none) else (some (wrap64 (Int.tmod t105 (IntKind.u64.wrap (a1))))))) = some r := by first | (rw [hy102]; with_reducible exact H) | (have H2_ := (Option.bind_some _ _).symm.trans H; rw [hy102]; with_reducible exact H2_) | (have H2_ := (Option.bind_some _ _).symm.trans H; with_reducible exact H2_) | with_reducible exact H | (rw [hy102]; exact H) | exact H
          have Ny102 := Aside0.mk hy102
          clear hy102
          replace H := Option.bind_eq_some_iff.mp H
          obtain ⟨t105, A70, H⟩ := H
          replace H : (if (IntKind.u64.wrap (a1)) = 0 then (none) else (some (wrap64 (Int.tmod t105 (IntKind.u64.wrap (a1)))))) = some r := H
          have A7 := Aside0.mk A70
          clear A70
          by_cases c8 : (IntKind.u64.wrap (a1)) = 0
          · rw [if_pos c8] at H
            exact absurd H (by simp)
          · rw [if_neg c8] at H
            have c8b0 : ((IntKind.u64.wrap (a1)) == 0) = false := beq_eq_false_iff_ne.mpr c8
            have c8b1 : ((IntKind.u64.wrap (a1)) != 0) = true := bne_iff_ne.mpr c8
            obtain rfl := Option.some.inj H
            go_enter Try.func33, Try.ntmps33
            go_wp2_with (first | ((with_reducible refine gate_dst (N := 21) rfl ?_); refine Kd.R_lit (Kd.int .u8) _ 5 ?hg (N := 21) ?hd (xs := ([(a0) % 256] : List Int)) (inner := [.int .u8 ((a0) % 256)]) (ok := fun _ => True) (okp := fun _ => True) ?hr ?hp (fun _ hk => hk) trivial (Below.refl _ _) (Nat.le_refl _) (by simp) ?_; (case hd => rfl); (case hg => rfl); (case hr => first | (go_simp; done) | (go_simp; rfl)); (case hp => exact (Reps.one (show Kd.M (Kd.int .u8) _ _ _ ((a0) % 256) [.int .u8 ((a0) % 256)] from rfl) (Reps.none _ _))); intro v103 w9 ho10 hb hg_ hnew_; clear hg_ hnew_; (first | rw [← Ny102.out] at ho10 | (simp only [Int.reduceToNat] at ho10; rw [← Ny102.out] at ho10)); have n0_ := Aside0.mk (Kd.R_lower ho10 (below_size (by repeat (first | (with_reducible first | exact HB.out | apply below_alloc | apply pw_below_drewN | apply below_drew1) | exact HB.out)))); have n1_ := Aside0.mk (below_step (by repeat (first | (with_reducible first | exact HB.out | apply below_alloc | apply pw_below_drewN | apply below_drew1) | exact HB.out)) hb); clear HB; have HO104 := n0_; have HB := n1_; clear n0_ n1_; clear hb ho10; have hcv11 := own_string (P := Try.prog) Try.underlying42 Try.underlying5 Try.underlying9 (Kd.own_of_R HO104.out)) | ((with_reducible refine gate_callee (f := 27) rfl ?_); refine goesL_ (some 23) rfl rfl Try.func27 (by kernel_rfl) rfl #[.string (strOfNums y102)] rfl (by (try simp only [List.map_toArray, List.map_cons, List.map_nil]); first | done | rfl | (simp only [List.length_drop, List.length_take]; rfl)) ?_; (with_reducible refine (fnv_Of.calls (strOfNums y102) t105 _ A7.out).mono ?_); rintro e w' ⟨rfl, ⟨nd, rfl⟩⟩; refine ⟨_, rfl, ?_⟩))
            go_ret
            exact ⟨by first | rfl | (simp [errW_none, errW_some] <;> rfl) | (simp [*, errW_none, errW_some] <;> rfl), by repeat (first | (with_reducible first | exact HB.out | apply below_alloc | apply pw_below_drewN | apply below_drew1) | exact HB.out)⟩

/-! ### hopperlaw02_live: function 26 -/
def hopperlaw02_live.f  : Option (Bool) := (fnv_Of.f (⟨#[]⟩ : ByteArray)).bind fun t106 => (if t106 = 14695981039346656037 then ((fnv_Of.f (⟨#[97]⟩ : ByteArray)).bind fun t107 => (if t107 = 12638187200555641996 then ((fnv_Of.f (⟨#[102, 111, 111, 98, 97, 114]⟩ : ByteArray)).bind fun t108 => (if t108 = 9625390261332436968 then ((fnv_Text.f 175).bind fun t109 => (if t109.toList = ([48, 48, 48, 48, 48, 48, 48, 48, 48, 48, 48, 48, 48, 48, 97, 102] : List UInt8) then ((fnv_Shard.f 7 1).bind fun t110 => (if t110 = 0 then ((fnv_Shard.f 256 2).bind fun t111 => (if t111 = (-1) then ((fnv_Shard.f 0 9).bind fun t112 => (some (t112 == (-1)))) else (some false))) else (some false))) else (some false))) else (some false))) else (some false))) else (some false))
set_option maxHeartbeats 8000000 in
set_option maxRecDepth 100000 in
theorem hopperlaw02_live.calls  (r : Bool) (w : World) (h : hopperlaw02_live.f  = some r) :
    Calls Try.prog 26 #[] w fun e w' => e = .returned (.bool r) ∧ Below w.heap.size w w' := by
  have HB := Aside0.mk (Below.refl w.heap.size w)
  have H : ((fnv_Of.f (⟨#[]⟩ : ByteArray)).bind fun t106 => (if t106 = 14695981039346656037 then ((fnv_Of.f (⟨#[97]⟩ : ByteArray)).bind fun t107 => (if t107 = 12638187200555641996 then ((fnv_Of.f (⟨#[102, 111, 111, 98, 97, 114]⟩ : ByteArray)).bind fun t108 => (if t108 = 9625390261332436968 then ((fnv_Text.f 175).bind fun t109 => (if t109.toList = ([48, 48, 48, 48, 48, 48, 48, 48, 48, 48, 48, 48, 48, 48, 97, 102] : List UInt8) then ((fnv_Shard.f 7 1).bind fun t110 => (if t110 = 0 then ((fnv_Shard.f 256 2).bind fun t111 => (if t111 = (-1) then ((fnv_Shard.f 0 9).bind fun t112 => (some (t112 == (-1)))) else (some false))) else (some false))) else (some false))) else (some false))) else (some false))) else (some false))) = some r := h
  clear h
  replace H := Option.bind_eq_some_iff.mp H
  obtain ⟨t106, A10, H⟩ := H
  replace H : (if t106 = 14695981039346656037 then ((fnv_Of.f (⟨#[97]⟩ : ByteArray)).bind fun t107 => (if t107 = 12638187200555641996 then ((fnv_Of.f (⟨#[102, 111, 111, 98, 97, 114]⟩ : ByteArray)).bind fun t108 => (if t108 = 9625390261332436968 then ((fnv_Text.f 175).bind fun t109 => (if t109.toList = ([48, 48, 48, 48, 48, 48, 48, 48, 48, 48, 48, 48, 48, 48, 97, 102] : List UInt8) then ((fnv_Shard.f 7 1).bind fun t110 => (if t110 = 0 then ((fnv_Shard.f 256 2).bind fun t111 => (if t111 = (-1) then ((fnv_Shard.f 0 9).bind fun t112 => (some (t112 == (-1)))) else (some false))) else (some false))) else (some false))) else (some false))) else (some false))) else (some false)) = some r := H
  have A1 := Aside0.mk A10
  clear A10
  by_cases c2 : t106 = 14695981039346656037
  · rw [if_pos c2] at H
    have c2b0 : (t106 == 14695981039346656037) = true := beq_iff_eq.mpr c2
    have c2b1 : (t106 != 14695981039346656037) = false := bne_eq_false_iff_eq.mpr c2
    clear c2
    replace H := Option.bind_eq_some_iff.mp H
    obtain ⟨t107, A30, H⟩ := H
    replace H : (if t107 = 12638187200555641996 then ((fnv_Of.f (⟨#[102, 111, 111, 98, 97, 114]⟩ : ByteArray)).bind fun t108 => (if t108 = 9625390261332436968 then ((fnv_Text.f 175).bind fun t109 => (if t109.toList = ([48, 48, 48, 48, 48, 48, 48, 48, 48, 48, 48, 48, 48, 48, 97, 102] : List UInt8) then ((fnv_Shard.f 7 1).bind fun t110 => (if t110 = 0 then ((fnv_Shard.f 256 2).bind fun t111 => (if t111 = (-1) then ((fnv_Shard.f 0 9).bind fun t112 => (some (t112 == (-1)))) else (some false))) else (some false))) else (some false))) else (some false))) else (some false)) = some r := H
    have A3 := Aside0.mk A30
    clear A30
    by_cases c4 : t107 = 12638187200555641996
    · rw [if_pos c4] at H
      have c4b0 : (t107 == 12638187200555641996) = true := beq_iff_eq.mpr c4
      have c4b1 : (t107 != 12638187200555641996) = false := bne_eq_false_iff_eq.mpr c4
      clear c4
      replace H := Option.bind_eq_some_iff.mp H
      obtain ⟨t108, A50, H⟩ := H
      replace H : (if t108 = 9625390261332436968 then ((fnv_Text.f 175).bind fun t109 => (if t109.toList = ([48, 48, 48, 48, 48, 48, 48, 48, 48, 48, 48, 48, 48, 48, 97, 102] : List UInt8) then ((fnv_Shard.f 7 1).bind fun t110 => (if t110 = 0 then ((fnv_Shard.f 256 2).bind fun t111 => (if t111 = (-1) then ((fnv_Shard.f 0 9).bind fun t112 => (some (t112 == (-1)))) else (some false))) else (some false))) else (some false))) else (some false)) = some r := H
      have A5 := Aside0.mk A50
      clear A50
      by_cases c6 : t108 = 9625390261332436968
      · rw [if_pos c6] at H
        have c6b0 : (t108 == 9625390261332436968) = true := beq_iff_eq.mpr c6
        have c6b1 : (t108 != 9625390261332436968) = false := bne_eq_false_iff_eq.mpr c6
        clear c6
        replace H := Option.bind_eq_some_iff.mp H
        obtain ⟨t109, A70, H⟩ := H
        replace H : (if t109.toList = ([48, 48, 48, 48, 48, 48, 48, 48, 48, 48, 48, 48, 48, 48, 97, 102] : List UInt8) then ((fnv_Shard.f 7 1).bind fun t110 => (if t110 = 0 then ((fnv_Shard.f 256 2).bind fun t111 => (if t111 = (-1) then ((fnv_Shard.f 0 9).bind fun t112 => (some (t112 == (-1)))) else (some false))) else (some false))) else (some false)) = some r := H
        have A7 := Aside0.mk A70
        clear A70
        by_cases c8 : t109.toList = ([48, 48, 48, 48, 48, 48, 48, 48, 48, 48, 48, 48, 48, 48, 97, 102] : List UInt8)
        · rw [if_pos c8] at H
          have c8b0 : (t109.toList == ([48, 48, 48, 48, 48, 48, 48, 48, 48, 48, 48, 48, 48, 48, 97, 102] : List UInt8)) = true := beq_iff_eq.mpr c8
          have c8b1 : (t109.toList != ([48, 48, 48, 48, 48, 48, 48, 48, 48, 48, 48, 48, 48, 48, 97, 102] : List UInt8)) = false := bne_eq_false_iff_eq.mpr c8
          clear c8
          replace H := Option.bind_eq_some_iff.mp H
          obtain ⟨t110, A90, H⟩ := H
          replace H : (if t110 = 0 then ((fnv_Shard.f 256 2).bind fun t111 => (if t111 = (-1) then ((fnv_Shard.f 0 9).bind fun t112 => (some (t112 == (-1)))) else (some false))) else (some false)) = some r := H
          have A9 := Aside0.mk A90
          clear A90
          by_cases c10 : t110 = 0
          · rw [if_pos c10] at H
            have c10b0 : (t110 == 0) = true := beq_iff_eq.mpr c10
            have c10b1 : (t110 != 0) = false := bne_eq_false_iff_eq.mpr c10
            clear c10
            replace H := Option.bind_eq_some_iff.mp H
            obtain ⟨t111, A110, H⟩ := H
            replace H : (if t111 = (-1) then ((fnv_Shard.f 0 9).bind fun t112 => (some (t112 == (-1)))) else (some false)) = some r := H
            have A11 := Aside0.mk A110
            clear A110
            by_cases c12 : t111 = (-1)
            · rw [if_pos c12] at H
              have c12b0 : (t111 == (-1)) = true := beq_iff_eq.mpr c12
              have c12b1 : (t111 != (-1)) = false := bne_eq_false_iff_eq.mpr c12
              clear c12
              replace H := Option.bind_eq_some_iff.mp H
              obtain ⟨t112, A130, H⟩ := H
              replace H : (some (t112 == (-1))) = some r := H
              have A13 := Aside0.mk A130
              clear A130
              obtain rfl := Option.some.inj H
              go_enter Try.func26, Try.ntmps26
              go_wp2_with (first | ((with_reducible refine gate_callee (f := 27) rfl ?_); refine goesL_ (some 1) rfl rfl Try.func27 (by kernel_rfl) rfl #[.string (⟨#[]⟩ : ByteArray)] rfl (by (try simp only [List.map_toArray, List.map_cons, List.map_nil]); first | done | rfl | (simp only [List.length_drop, List.length_take]; rfl)) ?_; (with_reducible refine (fnv_Of.calls (⟨#[]⟩ : ByteArray) t106 _ A1.out).mono ?_); rintro e w' ⟨rfl, ⟨nd, rfl⟩⟩; refine ⟨_, rfl, ?_⟩) | (go_at_call 27; (with_reducible refine (fnv_Of.calls (⟨#[97]⟩ : ByteArray) t107 _ A3.out).mono ?_); rintro e w' ⟨rfl, ⟨nd, rfl⟩⟩) | (go_at_call 27; (with_reducible refine (fnv_Of.calls (⟨#[102, 111, 111, 98, 97, 114]⟩ : ByteArray) t108 _ A5.out).mono ?_); rintro e w' ⟨rfl, ⟨nd, rfl⟩⟩) | (go_at_call 31; (with_reducible refine (fnv_Text.calls 175 t109 _ A7.out).mono ?_); rintro e w14 ⟨rfl, hb⟩; have n0_ := Aside0.mk (below_step (by repeat (first | (with_reducible first | exact HB.out | apply below_alloc | apply pw_below_drewN | apply below_drew1) | exact HB.out)) hb); clear HB; have HB := n0_; clear n0_; (try clear hb); (try clear hb2); (try clear hk); (try clear hi)) | (go_at_call 33; (with_reducible refine (fnv_Shard.calls 7 1 t110 _ A9.out).mono ?_); rintro e w15 ⟨rfl, hb⟩; have n0_ := Aside0.mk (below_step (by repeat (first | (with_reducible first | exact HB.out | apply below_alloc | apply pw_below_drewN | apply below_drew1) | exact HB.out)) hb); clear HB; have HB := n0_; clear n0_; (try clear hb); (try clear hb2); (try clear hk); (try clear hi)) | (go_at_call 33; (with_reducible refine (fnv_Shard.calls 256 2 t111 _ A11.out).mono ?_); rintro e w16 ⟨rfl, hb⟩; have n0_ := Aside0.mk (below_step (by repeat (first | (with_reducible first | exact HB.out | apply below_alloc | apply pw_below_drewN | apply below_drew1) | exact HB.out)) hb); clear HB; have HB := n0_; clear n0_; (try clear hb); (try clear hb2); (try clear hk); (try clear hi)) | (go_at_call 33; (with_reducible refine (fnv_Shard.calls 0 9 t112 _ A13.out).mono ?_); rintro e w17 ⟨rfl, hb⟩; have n0_ := Aside0.mk (below_step (by repeat (first | (with_reducible first | exact HB.out | apply below_alloc | apply pw_below_drewN | apply below_drew1) | exact HB.out)) hb); clear HB; have HB := n0_; clear n0_; (try clear hb); (try clear hb2); (try clear hk); (try clear hi)))
              go_ret
              exact ⟨by first | rfl | (simp [errW_none, errW_some] <;> rfl) | (simp [*, errW_none, errW_some] <;> rfl), by repeat (first | (with_reducible first | exact HB.out | apply below_alloc | apply pw_below_drewN | apply below_drew1) | exact HB.out)⟩
            · rw [if_neg c12] at H
              have c12b0 : (t111 == (-1)) = false := beq_eq_false_iff_ne.mpr c12
              have c12b1 : (t111 != (-1)) = true := bne_iff_ne.mpr c12
              obtain rfl := Option.some.inj H
              go_enter Try.func26, Try.ntmps26
              go_wp2_with (first | ((with_reducible refine gate_callee (f := 27) rfl ?_); refine goesL_ (some 1) rfl rfl Try.func27 (by kernel_rfl) rfl #[.string (⟨#[]⟩ : ByteArray)] rfl (by (try simp only [List.map_toArray, List.map_cons, List.map_nil]); first | done | rfl | (simp only [List.length_drop, List.length_take]; rfl)) ?_; (with_reducible refine (fnv_Of.calls (⟨#[]⟩ : ByteArray) t106 _ A1.out).mono ?_); rintro e w' ⟨rfl, ⟨nd, rfl⟩⟩; refine ⟨_, rfl, ?_⟩) | (go_at_call 27; (with_reducible refine (fnv_Of.calls (⟨#[97]⟩ : ByteArray) t107 _ A3.out).mono ?_); rintro e w' ⟨rfl, ⟨nd, rfl⟩⟩) | (go_at_call 27; (with_reducible refine (fnv_Of.calls (⟨#[102, 111, 111, 98, 97, 114]⟩ : ByteArray) t108 _ A5.out).mono ?_); rintro e w' ⟨rfl, ⟨nd, rfl⟩⟩) | (go_at_call 31; (with_reducible refine (fnv_Text.calls 175 t109 _ A7.out).mono ?_); rintro e w18 ⟨rfl, hb⟩; have n0_ := Aside0.mk (below_step (by repeat (first | (with_reducible first | exact HB.out | apply below_alloc | apply pw_below_drewN | apply below_drew1) | exact HB.out)) hb); clear HB; have HB := n0_; clear n0_; (try clear hb); (try clear hb2); (try clear hk); (try clear hi)) | (go_at_call 33; (with_reducible refine (fnv_Shard.calls 7 1 t110 _ A9.out).mono ?_); rintro e w19 ⟨rfl, hb⟩; have n0_ := Aside0.mk (below_step (by repeat (first | (with_reducible first | exact HB.out | apply below_alloc | apply pw_below_drewN | apply below_drew1) | exact HB.out)) hb); clear HB; have HB := n0_; clear n0_; (try clear hb); (try clear hb2); (try clear hk); (try clear hi)) | (go_at_call 33; (with_reducible refine (fnv_Shard.calls 256 2 t111 _ A11.out).mono ?_); rintro e w20 ⟨rfl, hb⟩; have n0_ := Aside0.mk (below_step (by repeat (first | (with_reducible first | exact HB.out | apply below_alloc | apply pw_below_drewN | apply below_drew1) | exact HB.out)) hb); clear HB; have HB := n0_; clear n0_; (try clear hb); (try clear hb2); (try clear hk); (try clear hi)))
              go_ret
              exact ⟨by first | rfl | (simp [errW_none, errW_some] <;> rfl) | (simp [*, errW_none, errW_some] <;> rfl), by repeat (first | (with_reducible first | exact HB.out | apply below_alloc | apply pw_below_drewN | apply below_drew1) | exact HB.out)⟩
          · rw [if_neg c10] at H
            have c10b0 : (t110 == 0) = false := beq_eq_false_iff_ne.mpr c10
            have c10b1 : (t110 != 0) = true := bne_iff_ne.mpr c10
            obtain rfl := Option.some.inj H
            go_enter Try.func26, Try.ntmps26
            go_wp2_with (first | ((with_reducible refine gate_callee (f := 27) rfl ?_); refine goesL_ (some 1) rfl rfl Try.func27 (by kernel_rfl) rfl #[.string (⟨#[]⟩ : ByteArray)] rfl (by (try simp only [List.map_toArray, List.map_cons, List.map_nil]); first | done | rfl | (simp only [List.length_drop, List.length_take]; rfl)) ?_; (with_reducible refine (fnv_Of.calls (⟨#[]⟩ : ByteArray) t106 _ A1.out).mono ?_); rintro e w' ⟨rfl, ⟨nd, rfl⟩⟩; refine ⟨_, rfl, ?_⟩) | (go_at_call 27; (with_reducible refine (fnv_Of.calls (⟨#[97]⟩ : ByteArray) t107 _ A3.out).mono ?_); rintro e w' ⟨rfl, ⟨nd, rfl⟩⟩) | (go_at_call 27; (with_reducible refine (fnv_Of.calls (⟨#[102, 111, 111, 98, 97, 114]⟩ : ByteArray) t108 _ A5.out).mono ?_); rintro e w' ⟨rfl, ⟨nd, rfl⟩⟩) | (go_at_call 31; (with_reducible refine (fnv_Text.calls 175 t109 _ A7.out).mono ?_); rintro e w21 ⟨rfl, hb⟩; have n0_ := Aside0.mk (below_step (by repeat (first | (with_reducible first | exact HB.out | apply below_alloc | apply pw_below_drewN | apply below_drew1) | exact HB.out)) hb); clear HB; have HB := n0_; clear n0_; (try clear hb); (try clear hb2); (try clear hk); (try clear hi)) | (go_at_call 33; (with_reducible refine (fnv_Shard.calls 7 1 t110 _ A9.out).mono ?_); rintro e w22 ⟨rfl, hb⟩; have n0_ := Aside0.mk (below_step (by repeat (first | (with_reducible first | exact HB.out | apply below_alloc | apply pw_below_drewN | apply below_drew1) | exact HB.out)) hb); clear HB; have HB := n0_; clear n0_; (try clear hb); (try clear hb2); (try clear hk); (try clear hi)))
            go_ret
            exact ⟨by first | rfl | (simp [errW_none, errW_some] <;> rfl) | (simp [*, errW_none, errW_some] <;> rfl), by repeat (first | (with_reducible first | exact HB.out | apply below_alloc | apply pw_below_drewN | apply below_drew1) | exact HB.out)⟩
        · rw [if_neg c8] at H
          have c8b0 : (t109.toList == ([48, 48, 48, 48, 48, 48, 48, 48, 48, 48, 48, 48, 48, 48, 97, 102] : List UInt8)) = false := beq_eq_false_iff_ne.mpr c8
          have c8b1 : (t109.toList != ([48, 48, 48, 48, 48, 48, 48, 48, 48, 48, 48, 48, 48, 48, 97, 102] : List UInt8)) = true := bne_iff_ne.mpr c8
          obtain rfl := Option.some.inj H
          go_enter Try.func26, Try.ntmps26
          go_wp2_with (first | ((with_reducible refine gate_callee (f := 27) rfl ?_); refine goesL_ (some 1) rfl rfl Try.func27 (by kernel_rfl) rfl #[.string (⟨#[]⟩ : ByteArray)] rfl (by (try simp only [List.map_toArray, List.map_cons, List.map_nil]); first | done | rfl | (simp only [List.length_drop, List.length_take]; rfl)) ?_; (with_reducible refine (fnv_Of.calls (⟨#[]⟩ : ByteArray) t106 _ A1.out).mono ?_); rintro e w' ⟨rfl, ⟨nd, rfl⟩⟩; refine ⟨_, rfl, ?_⟩) | (go_at_call 27; (with_reducible refine (fnv_Of.calls (⟨#[97]⟩ : ByteArray) t107 _ A3.out).mono ?_); rintro e w' ⟨rfl, ⟨nd, rfl⟩⟩) | (go_at_call 27; (with_reducible refine (fnv_Of.calls (⟨#[102, 111, 111, 98, 97, 114]⟩ : ByteArray) t108 _ A5.out).mono ?_); rintro e w' ⟨rfl, ⟨nd, rfl⟩⟩) | (go_at_call 31; (with_reducible refine (fnv_Text.calls 175 t109 _ A7.out).mono ?_); rintro e w23 ⟨rfl, hb⟩; have n0_ := Aside0.mk (below_step (by repeat (first | (with_reducible first | exact HB.out | apply below_alloc | apply pw_below_drewN | apply below_drew1) | exact HB.out)) hb); clear HB; have HB := n0_; clear n0_; (try clear hb); (try clear hb2); (try clear hk); (try clear hi)))
          go_ret
          exact ⟨by first | rfl | (simp [errW_none, errW_some] <;> rfl) | (simp [*, errW_none, errW_some] <;> rfl), by repeat (first | (with_reducible first | exact HB.out | apply below_alloc | apply pw_below_drewN | apply below_drew1) | exact HB.out)⟩
      · rw [if_neg c6] at H
        have c6b0 : (t108 == 9625390261332436968) = false := beq_eq_false_iff_ne.mpr c6
        have c6b1 : (t108 != 9625390261332436968) = true := bne_iff_ne.mpr c6
        obtain rfl := Option.some.inj H
        go_enter Try.func26, Try.ntmps26
        go_wp2_with (first | ((with_reducible refine gate_callee (f := 27) rfl ?_); refine goesL_ (some 1) rfl rfl Try.func27 (by kernel_rfl) rfl #[.string (⟨#[]⟩ : ByteArray)] rfl (by (try simp only [List.map_toArray, List.map_cons, List.map_nil]); first | done | rfl | (simp only [List.length_drop, List.length_take]; rfl)) ?_; (with_reducible refine (fnv_Of.calls (⟨#[]⟩ : ByteArray) t106 _ A1.out).mono ?_); rintro e w' ⟨rfl, ⟨nd, rfl⟩⟩; refine ⟨_, rfl, ?_⟩) | (go_at_call 27; (with_reducible refine (fnv_Of.calls (⟨#[97]⟩ : ByteArray) t107 _ A3.out).mono ?_); rintro e w' ⟨rfl, ⟨nd, rfl⟩⟩) | (go_at_call 27; (with_reducible refine (fnv_Of.calls (⟨#[102, 111, 111, 98, 97, 114]⟩ : ByteArray) t108 _ A5.out).mono ?_); rintro e w' ⟨rfl, ⟨nd, rfl⟩⟩))
        go_ret
        exact ⟨by first | rfl | (simp [errW_none, errW_some] <;> rfl) | (simp [*, errW_none, errW_some] <;> rfl), by repeat (first | (with_reducible first | exact HB.out | apply below_alloc | apply pw_below_drewN | apply below_drew1) | exact HB.out)⟩
    · rw [if_neg c4] at H
      have c4b0 : (t107 == 12638187200555641996) = false := beq_eq_false_iff_ne.mpr c4
      have c4b1 : (t107 != 12638187200555641996) = true := bne_iff_ne.mpr c4
      obtain rfl := Option.some.inj H
      go_enter Try.func26, Try.ntmps26
      go_wp2_with (first | ((with_reducible refine gate_callee (f := 27) rfl ?_); refine goesL_ (some 1) rfl rfl Try.func27 (by kernel_rfl) rfl #[.string (⟨#[]⟩ : ByteArray)] rfl (by (try simp only [List.map_toArray, List.map_cons, List.map_nil]); first | done | rfl | (simp only [List.length_drop, List.length_take]; rfl)) ?_; (with_reducible refine (fnv_Of.calls (⟨#[]⟩ : ByteArray) t106 _ A1.out).mono ?_); rintro e w' ⟨rfl, ⟨nd, rfl⟩⟩; refine ⟨_, rfl, ?_⟩) | (go_at_call 27; (with_reducible refine (fnv_Of.calls (⟨#[97]⟩ : ByteArray) t107 _ A3.out).mono ?_); rintro e w' ⟨rfl, ⟨nd, rfl⟩⟩))
      go_ret
      exact ⟨by first | rfl | (simp [errW_none, errW_some] <;> rfl) | (simp [*, errW_none, errW_some] <;> rfl), by repeat (first | (with_reducible first | exact HB.out | apply below_alloc | apply pw_below_drewN | apply below_drew1) | exact HB.out)⟩
  · rw [if_neg c2] at H
    have c2b0 : (t106 == 14695981039346656037) = false := beq_eq_false_iff_ne.mpr c2
    have c2b1 : (t106 != 14695981039346656037) = true := bne_iff_ne.mpr c2
    obtain rfl := Option.some.inj H
    go_enter Try.func26, Try.ntmps26
    go_wp2_with (first | ((with_reducible refine gate_callee (f := 27) rfl ?_); refine goesL_ (some 1) rfl rfl Try.func27 (by kernel_rfl) rfl #[.string (⟨#[]⟩ : ByteArray)] rfl (by (try simp only [List.map_toArray, List.map_cons, List.map_nil]); first | done | rfl | (simp only [List.length_drop, List.length_take]; rfl)) ?_; (with_reducible refine (fnv_Of.calls (⟨#[]⟩ : ByteArray) t106 _ A1.out).mono ?_); rintro e w' ⟨rfl, ⟨nd, rfl⟩⟩; refine ⟨_, rfl, ?_⟩))
    go_ret
    exact ⟨by first | rfl | (simp [errW_none, errW_some] <;> rfl) | (simp [*, errW_none, errW_some] <;> rfl), by repeat (first | (with_reducible first | exact HB.out | apply below_alloc | apply pw_below_drewN | apply below_drew1) | exact HB.out)⟩

/-! ### hopperref02_Roll: function 30 -/
def hopperref02_Roll.l0 : Nat → Int → ByteArray → Int → Option (Int)
  | 0, _, _, _ => none
  | k + 1, x0, x1, x5 => if x5 < (x1.size : Int) then (if 0 ≤ x5 then (hopperref02_Roll.l0 k (IntKind.u64.wrap ((Go.bits .xor .u64 x0 (IntKind.u64.wrap (bt x1 x5))) * 1099511628211)) x1 (wrap64 (x5 + 1))) else (none)) else (some x0)
def hopperref02_Roll.f (k : Nat) (a0 : Int) (a1 : ByteArray) : Option (Int) := hopperref02_Roll.l0 k a0 a1 0
theorem hopperref02_Roll.mono_l : ∀ k, (∀ y0 y1 y2, LeO (hopperref02_Roll.l0 k y0 y1 y2) (hopperref02_Roll.l0 (k + 1) y0 y1 y2))
  | 0 => fun _ _ _ r h => by simp [hopperref02_Roll.l0] at h
  | k + 1 => by
    have ih0 := hopperref02_Roll.mono_l k
    · intro y0 y1 y2
      unfold hopperref02_Roll.l0
      repeat' first
      | (with_reducible exact ih0 _ _ _)
      | (with_reducible exact LeO.refl _)
      | (with_reducible exact LeO.none _)
      | (with_reducible refine LeO.ite ?_ ?_)
      | (with_reducible refine LeO.bind ?_ (fun _ => ?_))
      | exact ih0 _ _ _
      | exact LeO.none _
      | refine LeO.ite ?_ ?_
      | refine LeO.bind ?_ (fun _ => ?_)
theorem hopperref02_Roll.mono : ∀ a0 a1 k, LeO (hopperref02_Roll.f k a0 a1) (hopperref02_Roll.f (k + 1) a0 a1) := by
  intro a0 a1 k
  have ih0 := hopperref02_Roll.mono_l k
  unfold hopperref02_Roll.f
  repeat' first
      | (with_reducible exact ih0 _ _ _)
      | (with_reducible exact LeO.refl _)
      | (with_reducible exact LeO.none _)
      | (with_reducible refine LeO.ite ?_ ?_)
      | (with_reducible refine LeO.bind ?_ (fun _ => ?_))
      | exact ih0 _ _ _
      | exact LeO.none _
      | refine LeO.ite ?_ ?_
      | refine LeO.bind ?_ (fun _ => ?_)
set_option maxHeartbeats 8000000 in
set_option maxRecDepth 100000 in
theorem hopperref02_Roll.calls (k : Nat) (a0 : Int) (a1 : ByteArray) (r : Int) (w : World) (h : hopperref02_Roll.f k a0 a1 = some r) :
    Calls Try.prog 30 #[.int .u64 a0, .string a1] w fun e w' => e = .returned (.int .u64 r) ∧ Drawn0 w w' := by
  have H : (hopperref02_Roll.l0 k a0 a1 0) = some r := h
  clear h
  have H' := Aside0.mk H
  clear H
  go_enter Try.func30, Try.ntmps30
  go_wp2
  go_loopg [0, 5] k (fun kq v0 v5 w' => ∃ (x0_1 : Int) (x5_1 : Int), v0 = .int .u64 x0_1 ∧ v5 = .int .i64 x5_1 ∧ Aside0 (hopperref02_Roll.l0 kq x0_1 a1 x5_1 = some r) ∧ Aside0 (kq ≤ k) ∧ Drawn0 w w')
  case atStart => exact ⟨(a0), (0), (by first | rfl | (simp; done) | (simp [*]; done)), (by first | rfl | (simp; done) | (simp [*]; done)), H', ⟨Nat.le_refl _⟩, by repeat (first | exact Drawn0.refl _ | apply Drawn0.step)⟩
  case round =>
    clear H'
    try clear p2
    obtain ⟨x0_1, x5_1, rfl, rfl, HA, HK1, ⟨m1, rfl⟩⟩ := hrel
    cases gk with
    | zero => exact absurd HA.out (by simp [hopperref02_Roll.l0])
    | succ k1 =>
      have H := HA.out
      clear HA
      simp only [hopperref02_Roll.l0] at H
      by_cases c3 : x5_1 < (a1.size : Int)
      · rw [if_pos c3] at H
        have c3b0 : decide (x5_1 < (a1.size : Int)) = true := decide_eq_true c3
        clear c3
        by_cases c4 : 0 ≤ x5_1
        · rw [if_pos c4] at H
          have c4b0 : decide (0 ≤ x5_1) = true := decide_eq_true c4
          clear c4
          have H' := Aside0.mk H
          clear H
          have p5 : 0 ≤ (x5_1 : Int) := of_decide_eq_true (by first | (with_reducible assumption) | assumption)
          have q5 : x5_1 < (a1.size : Int) := of_decide_eq_true (by first | (with_reducible assumption) | assumption)
          have hx5 := bt_at a1 x5_1
          replace p5 := eq_true p5
          replace q5 := eq_true q5
          go_wp2
          go_roundg k1
          case measure => have := HK1.out; omega
          case rel => exact ⟨(IntKind.u64.wrap ((Go.bits .xor .u64 x0_1 (IntKind.u64.wrap (bt a1 x5_1))) * 1099511628211)), (wrap64 (x5_1 + 1)), (by first | rfl | (simp; done) | (simp [*]; done)), (by first | rfl | (simp; done) | (simp [*]; done)), H', ⟨by have := HK1.out; omega⟩, by repeat (first | exact Drawn0.refl _ | apply Drawn0.step)⟩
        · rw [if_neg c4] at H
          exact absurd H (by simp)
      · rw [if_neg c3] at H
        have c3b0 : decide (x5_1 < (a1.size : Int)) = false := decide_eq_false c3
        clear c3
        obtain rfl := Option.some.inj H
        go_wp2
        go_ret
        exact ⟨by first | rfl | (simp; done) | (simp [*]; done), by repeat (first | exact Drawn0.refl _ | apply Drawn0.step)⟩

/-! ### hopperref02_Of: function 28 -/
def hopperref02_Of.f (k : Nat) (a0 : ByteArray) : Option (Int) := (hopperref02_Roll.f k 14695981039346656037 a0).bind fun t113 => (some t113)
theorem hopperref02_Of.mono : ∀ a0 k, LeO (hopperref02_Of.f k a0) (hopperref02_Of.f (k + 1) a0) := by
  intro a0 k
  unfold hopperref02_Of.f
  repeat' first
      | (with_reducible exact hopperref02_Roll.mono _ _ _)
      | (with_reducible exact LeO.refl _)
      | (with_reducible exact LeO.none _)
      | (with_reducible refine LeO.ite ?_ ?_)
      | (with_reducible refine LeO.bind ?_ (fun _ => ?_))
      | exact hopperref02_Roll.mono _ _ _
      | exact LeO.none _
      | refine LeO.ite ?_ ?_
      | refine LeO.bind ?_ (fun _ => ?_)
set_option maxHeartbeats 8000000 in
set_option maxRecDepth 100000 in
theorem hopperref02_Of.calls (k : Nat) (a0 : ByteArray) (r : Int) (w : World) (h : hopperref02_Of.f k a0 = some r) :
    Calls Try.prog 28 #[.string a0] w fun e w' => e = .returned (.int .u64 r) ∧ Drawn0 w w' := by
  have H : ((hopperref02_Roll.f k 14695981039346656037 a0).bind fun t113 => (some t113)) = some r := h
  clear h
  replace H := Option.bind_eq_some_iff.mp H
  obtain ⟨t113, A20, H⟩ := H
  replace H : (some t113) = some r := H
  have A2 := Aside0.mk A20
  clear A20
  obtain rfl := Option.some.inj H
  go_enter Try.func28, Try.ntmps28
  go_wp2_with (first | ((with_reducible refine gate_callee (f := 30) rfl ?_); refine goesL_ (some 4) rfl rfl Try.func30 (by kernel_rfl) rfl #[.int .u64 14695981039346656037, .string a0] rfl (by (try simp only [List.map_toArray, List.map_cons, List.map_nil]); first | done | rfl | (simp only [List.length_drop, List.length_take]; rfl)) ?_; (with_reducible refine (hopperref02_Roll.calls k 14695981039346656037 a0 t113 _ A2.out).mono ?_); rintro e w' ⟨rfl, ⟨nd, rfl⟩⟩; refine ⟨_, rfl, ?_⟩))
  go_ret
  exact ⟨by first | rfl | (simp; done) | (simp [*]; done), by repeat (first | exact Drawn0.refl _ | apply Drawn0.step)⟩

/-! ### hopperref02_Text: function 32, by hand -/
-- HAND rounds=0 making=0
/-- The last k digits of h. -/
def hexTail (h k : Nat) : ByteArray := strOfNums ((hexL h).drop (16 - k))
def hexD : ByteArray := { data := #[48, 49, 50, 51, 52, 53, 54, 55, 56, 57, 97, 98, 99, 100, 101, 102] }
theorem hexTail_step (h k : Nat) (hk : k < 16) : hexTail h (k + 1) = hexD.extract (h / 16 ^ k % 16) (h / 16 ^ k % 16 + 1) ++ hexTail h k := by
  have e : (hexL h).drop (16 - (k + 1)) = hexC (h / 16 ^ k % 16) :: (hexL h).drop (16 - k) := by
    have hl : 16 - (k + 1) < (hexL h).length := by simp [hexL]; omega
    rw [List.drop_eq_getElem_cons hl, show 16 - (k + 1) + 1 = 16 - k by omega]
    congr 1
    simp only [hexL, List.getElem_map, List.getElem_range]
    rw [show 15 - (16 - (k + 1)) = k by omega]
  have hd : ∀ d, d < 16 → hexD.extract d (d + 1) = strOfNums [hexC d] := by decide
  unfold hexTail
  rw [e, hd _ (Nat.mod_lt _ (by omega))]
  rfl
theorem hexTail_size (h k : Nat) : (hexTail h k).size ≤ 16 := by
  have e : (hexTail h k).size = ((hexL h).drop (16 - k)).length := by simp [hexTail, strOfNums, ByteArray.size]
  rw [e, List.length_drop]; simp [hexL]
def hopperref02_Text.f (a0 : Int) : Option ByteArray := if 0 ≤ a0 then (if a0 < 18446744073709551616 then some (strOfNums (hexL a0.toNat)) else none) else none
set_option maxHeartbeats 1000000 in
theorem hopperref02_Text.calls (a0 : Int) (r : ByteArray) (w : World) (h : hopperref02_Text.f a0 = some r) :
    Calls Try.prog 32 #[.int .u64 a0] w fun e w' => e = .returned (.string r) ∧ Drawn0 w w' := by
  unfold hopperref02_Text.f at h
  by_cases h0 : 0 ≤ a0
  · rw [if_pos h0] at h
    by_cases h1 : a0 < 18446744073709551616
    · rw [if_pos h1] at h
      obtain ⟨x, rfl⟩ := Int.eq_ofNat_of_zero_le h0
      have HR := Aside0.mk (Option.some.inj h)
      have H1 := Aside0.mk h1
      clear h h0 h1
      rw [Int.toNat_natCast] at HR
      go_enter Try.func32, Try.ntmps32
      go_wp2
      go_loop [0, 4, 5] (fun v0 v4 v5 => ∃ k y : Nat, ∃ t : ByteArray, k ≤ 16 ∧ y = x / 16 ^ k ∧ t = hexTail x k ∧ t.size ≤ 100 ∧ v0 = .int .u64 (y : Int) ∧ v4 = .string t ∧ v5 = .int .i64 (k : Int)) (fun _ _ i => 16 - (intOf i).toNat)
      case atStart => exact ⟨0, x, ⟨#[]⟩, by omega, by simp, rfl, by decide, rfl, rfl, rfl⟩
      case round =>
        obtain ⟨k, y, t, hk, hy, ht, hts, rfl, rfl, rfl⟩ := hrel
        have HY := Aside0.mk hy
        have HT := Aside0.mk ht
        clear hy ht
        have hsl : ∀ W : World, (Instr.slice 9 (.string { data := #[48, 49, 50, 51, 52, 53, 54, 55, 56, 57, 97, 98, 99, 100, 101, 102] }) (some (.int .i64 ((y : Int) % 16))) (some (.int .i64 ((y : Int) % 16 + 1))) none).run Try.prog W = .ok (.string (hexD.extract (y % 16) (y % 16 + 1))) W := by
          intro W
          have e := run_slice_string (P := Try.prog) (w := W) 9 hexD .i64 .i64 ((y : Int) % 16) ((y : Int) % 16 + 1) Try.underlying9 (by omega) (by omega) (by have : hexD.size = 16 := rfl; omega)
          rw [show ((y : Int) % 16 + 1).toNat = y % 16 + 1 by omega, show ((y : Int) % 16).toNat = y % 16 by omega] at e
          exact e
        have hz : (hexD.extract (y % 16) (y % 16 + 1)).size ≤ 1 := by rw [ByteArray.size_extract]; omega
        by_cases hlt : k < 16
        · go_wp2
          have h64 : (y : Int) < 18446744073709551616 := by
            have h2 : y ≤ x := by rw [HY.out]; exact Nat.div_le_self _ _
            have := H1.out; omega
          refine ⟨⟨k + 1, y / 16, _, by omega, ?_, (hexTail_step x k hlt).symm, ?_, ?_, ?_, rfl⟩, by simp [intOf]; omega⟩
          · rw [HY.out, Nat.div_div_eq_div_mul, ← Nat.pow_succ]
          · rw [← hexTail_step x k hlt]; exact Nat.le_trans (hexTail_size _ _) (by omega)
          · have e : IntKind.u64.wrap ((y : Int) / 16) = ((y / 16 : Nat) : Int) := by
              rw [IntKind.wrap_u64]; omega
            rw [e]
          · rw [HY.out, HT.out]
        · go_wp2
          go_ret
          refine ⟨?_, Drawn0.refl _⟩
          show Ending.returned (.string t) = _
          have e : k = 16 := by omega
          rw [HT.out, ← HR.out, e]
          rfl
    · rw [if_neg h1] at h; cases h
  · rw [if_neg h0] at h; cases h


/-! ### hopperref02_Shard: function 34 -/
def hopperref02_Shard.f (k : Nat) (a0 : Int) (a1 : Int) : Option (Int) := if a0 < 0 then (some (-1)) else (if a0 > 255 then (some (-1)) else (if a1 < 1 then (some (-1)) else (if a1 > 8 then (some (-1)) else ((hopperref02_Of.f k (strOfNums (([(a0) % 256] : List Int)))).bind fun t117 => (if (IntKind.u64.wrap (a1)) = 0 then (none) else (some (wrap64 (Int.tmod t117 (IntKind.u64.wrap (a1))))))))))
theorem hopperref02_Shard.mono : ∀ a0 a1 k, LeO (hopperref02_Shard.f k a0 a1) (hopperref02_Shard.f (k + 1) a0 a1) := by
  intro a0 a1 k
  unfold hopperref02_Shard.f
  repeat' first
      | (with_reducible exact hopperref02_Of.mono _ _)
      | (with_reducible exact LeO.refl _)
      | (with_reducible exact LeO.none _)
      | (with_reducible refine LeO.ite ?_ ?_)
      | (with_reducible refine LeO.bind ?_ (fun _ => ?_))
      | exact hopperref02_Of.mono _ _
      | exact LeO.none _
      | refine LeO.ite ?_ ?_
      | refine LeO.bind ?_ (fun _ => ?_)
set_option maxHeartbeats 8000000 in
set_option maxRecDepth 100000 in
theorem hopperref02_Shard.calls (k : Nat) (a0 : Int) (a1 : Int) (r : Int) (w : World) (h : hopperref02_Shard.f k a0 a1 = some r) :
    Calls Try.prog 34 #[.int .i64 a0, .int .i64 a1] w fun e w' => e = .returned (.int .i64 r) ∧ Below w.heap.size w w' := by
  have HB := Aside0.mk (Below.refl w.heap.size w)
  have H : (if a0 < 0 then (some (-1)) else (if a0 > 255 then (some (-1)) else (if a1 < 1 then (some (-1)) else (if a1 > 8 then (some (-1)) else ((hopperref02_Of.f k (strOfNums (([(a0) % 256] : List Int)))).bind fun t117 => (if (IntKind.u64.wrap (a1)) = 0 then (none) else (some (wrap64 (Int.tmod t117 (IntKind.u64.wrap (a1))))))))))) = some r := h
  clear h
  by_cases c3 : a0 < 0
  · rw [if_pos c3] at H
    have c3b0 : decide (a0 < 0) = true := decide_eq_true c3
    clear c3
    obtain rfl := Option.some.inj H
    go_enter Try.func34, Try.ntmps34
    go_wp2
    go_ret
    exact ⟨by first | rfl | (simp [errW_none, errW_some] <;> rfl) | (simp [*, errW_none, errW_some] <;> rfl), by repeat (first | (with_reducible first | exact HB.out | apply below_alloc | apply pw_below_drewN | apply below_drew1) | exact HB.out)⟩
  · rw [if_neg c3] at H
    have c3b0 : decide (a0 < 0) = false := decide_eq_false c3
    clear c3
    by_cases c4 : a0 > 255
    · rw [if_pos c4] at H
      have c4b0 : decide (255 < a0) = true := decide_eq_true c4
      clear c4
      obtain rfl := Option.some.inj H
      go_enter Try.func34, Try.ntmps34
      go_wp2
      go_ret
      exact ⟨by first | rfl | (simp [errW_none, errW_some] <;> rfl) | (simp [*, errW_none, errW_some] <;> rfl), by repeat (first | (with_reducible first | exact HB.out | apply below_alloc | apply pw_below_drewN | apply below_drew1) | exact HB.out)⟩
    · rw [if_neg c4] at H
      have c4b0 : decide (255 < a0) = false := decide_eq_false c4
      clear c4
      by_cases c5 : a1 < 1
      · rw [if_pos c5] at H
        have c5b0 : decide (a1 < 1) = true := decide_eq_true c5
        clear c5
        obtain rfl := Option.some.inj H
        go_enter Try.func34, Try.ntmps34
        go_wp2
        go_ret
        exact ⟨by first | rfl | (simp [errW_none, errW_some] <;> rfl) | (simp [*, errW_none, errW_some] <;> rfl), by repeat (first | (with_reducible first | exact HB.out | apply below_alloc | apply pw_below_drewN | apply below_drew1) | exact HB.out)⟩
      · rw [if_neg c5] at H
        have c5b0 : decide (a1 < 1) = false := decide_eq_false c5
        clear c5
        by_cases c6 : a1 > 8
        · rw [if_pos c6] at H
          have c6b0 : decide (8 < a1) = true := decide_eq_true c6
          clear c6
          obtain rfl := Option.some.inj H
          go_enter Try.func34, Try.ntmps34
          go_wp2
          go_ret
          exact ⟨by first | rfl | (simp [errW_none, errW_some] <;> rfl) | (simp [*, errW_none, errW_some] <;> rfl), by repeat (first | (with_reducible first | exact HB.out | apply below_alloc | apply pw_below_drewN | apply below_drew1) | exact HB.out)⟩
        · rw [if_neg c6] at H
          have c6b0 : decide (8 < a1) = false := decide_eq_false c6
          clear c6
          obtain ⟨y114, hy114⟩ : ∃ y_ : List Int, y_ = (([(a0) % 256] : List Int)) := ⟨_, rfl⟩
          replace H : ((hopperref02_Of.f k (strOfNums y114)).bind fun t117 => (if (IntKind.u64.wrap (a1)) = 0 then (none) else (some (wrap64 (Int.tmod t117 (IntKind.u64.wrap (a1))))))) = some r := by first | (rw [hy114]; with_reducible exact H) | (have H2_ := (Option.bind_some _ _).symm.trans H; rw [hy114]; with_reducible exact H2_) | (have H2_ := (Option.bind_some _ _).symm.trans H; with_reducible exact H2_) | with_reducible exact H | (rw [hy114]; exact H) | exact H
          have Ny114 := Aside0.mk hy114
          clear hy114
          replace H := Option.bind_eq_some_iff.mp H
          obtain ⟨t117, A70, H⟩ := H
          replace H : (if (IntKind.u64.wrap (a1)) = 0 then (none) else (some (wrap64 (Int.tmod t117 (IntKind.u64.wrap (a1)))))) = some r := H
          have A7 := Aside0.mk A70
          clear A70
          by_cases c8 : (IntKind.u64.wrap (a1)) = 0
          · rw [if_pos c8] at H
            exact absurd H (by simp)
          · rw [if_neg c8] at H
            have c8b0 : ((IntKind.u64.wrap (a1)) == 0) = false := beq_eq_false_iff_ne.mpr c8
            have c8b1 : ((IntKind.u64.wrap (a1)) != 0) = true := bne_iff_ne.mpr c8
            obtain rfl := Option.some.inj H
            go_enter Try.func34, Try.ntmps34
            go_wp2_with (first | ((with_reducible refine gate_dst (N := 21) rfl ?_); refine Kd.R_lit (Kd.int .u8) _ 5 ?hg (N := 21) ?hd (xs := ([(a0) % 256] : List Int)) (inner := [.int .u8 ((a0) % 256)]) (ok := fun _ => True) (okp := fun _ => True) ?hr ?hp (fun _ hk => hk) trivial (Below.refl _ _) (Nat.le_refl _) (by simp) ?_; (case hd => rfl); (case hg => rfl); (case hr => first | (go_simp; done) | (go_simp; rfl)); (case hp => exact (Reps.one (show Kd.M (Kd.int .u8) _ _ _ ((a0) % 256) [.int .u8 ((a0) % 256)] from rfl) (Reps.none _ _))); intro v115 w9 ho10 hb hg_ hnew_; clear hg_ hnew_; (first | rw [← Ny114.out] at ho10 | (simp only [Int.reduceToNat] at ho10; rw [← Ny114.out] at ho10)); have n0_ := Aside0.mk (Kd.R_lower ho10 (below_size (by repeat (first | (with_reducible first | exact HB.out | apply below_alloc | apply pw_below_drewN | apply below_drew1) | exact HB.out)))); have n1_ := Aside0.mk (below_step (by repeat (first | (with_reducible first | exact HB.out | apply below_alloc | apply pw_below_drewN | apply below_drew1) | exact HB.out)) hb); clear HB; have HO116 := n0_; have HB := n1_; clear n0_ n1_; clear hb ho10; have hcv11 := own_string (P := Try.prog) Try.underlying42 Try.underlying5 Try.underlying9 (Kd.own_of_R HO116.out)) | ((with_reducible refine gate_callee (f := 28) rfl ?_); refine goesL_ (some 23) rfl rfl Try.func28 (by kernel_rfl) rfl #[.string (strOfNums y114)] rfl (by (try simp only [List.map_toArray, List.map_cons, List.map_nil]); first | done | rfl | (simp only [List.length_drop, List.length_take]; rfl)) ?_; (with_reducible refine (hopperref02_Of.calls k (strOfNums y114) t117 _ A7.out).mono ?_); rintro e w' ⟨rfl, ⟨nd, rfl⟩⟩; refine ⟨_, rfl, ?_⟩))
            go_ret
            exact ⟨by first | rfl | (simp [errW_none, errW_some] <;> rfl) | (simp [*, errW_none, errW_some] <;> rfl), by repeat (first | (with_reducible first | exact HB.out | apply below_alloc | apply pw_below_drewN | apply below_drew1) | exact HB.out)⟩

end Go.Proofs.Ytfpomamhcjkoeaa.L
