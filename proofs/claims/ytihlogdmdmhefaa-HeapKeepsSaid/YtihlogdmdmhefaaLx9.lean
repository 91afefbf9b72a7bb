/- Written by this session's own program over the kit's print: functions of Go told as plain functions, or the row of one statement; proved for every input, with no condition of ours. -/
import Derived.Test.YtihlogdmdmhefaaLx0
namespace Go.Proofs.Ytihlogdmdmhefaa.L
open Go.RowKit Go.Proofs.YtihlogdmdmhefaaW.PrintWords Go.Proofs.YtihlogdmdmhefaaW.PrintLast Go.Proofs.YtihlogdmdmhefaaW.PrintMore
attribute [local go_sem] max2_int min2_int max_two min_two max_three min_three max_four min_four   -- for this text's walks alone
set_option linter.unusedVariables false
set_option linter.unusedSimpArgs false

/-! ### fnv_Text: function 117, by hand -/
-- HAND rounds=0 making=1
-- IMPORT Derived.Test.YtihlogdmdmhefaaGoto
-- IMPORT Derived.Laws.BitsAllLaws
def hexC (d : Nat) : Int := if d < 10 then (d : Int) + 48 else (d : Int) + 87
/-- The block of sixteen: from place i on the digits of h are laid. -/
def hexN (h : Nat) (i : Nat) : List Int := (List.range 16).map fun j => if j < i then 0 else hexC (h / 16 ^ (15 - j) % 16)
def hexCells (h : Nat) (i : Nat) : Array Value := ((hexN h i).map fun n => Value.int .u8 n).toArray
def hexL (h : Nat) : List Int := (List.range 16).map fun j => hexC (h / 16 ^ (15 - j) % 16)
theorem hexN_zero (h : Nat) : hexN h 0 = hexL h := by simp [hexN, hexL]
theorem hexN_cell (h i j : Nat) (hj : j < 16) : (hexCells h i)[j]? = some (Value.int .u8 ((hexN h i).getD j 0)) := by
  simp [hexCells, hexN, hj]
theorem hexN_low (h i j : Nat) (hj : j < i) (hi : j < 16) : (hexN h i).getD j 0 = 0 := by
  simp [hexN, hj, hi]
theorem hexN_all (h : Nat) : hexN h 16 = List.replicate 16 0 := by
  apply List.ext_getElem
  · simp [hexN]
  · intro j h1 h2
    have hj : j < 16 := by simpa [hexN] using h1
    rw [List.getElem_replicate]
    simp [hexN, hj]
theorem hexCells_all (h : Nat) : hexCells h 16 = ((List.replicate 16 0).map fun n => Value.int .u8 n).toArray := by
  unfold hexCells; rw [hexN_all]
theorem hexN_step (h i : Nat) (hi0 : 0 < i) (hi : i ≤ 16) : (hexCells h i).setIfInBounds (i - 1) (Value.int .u8 (hexC (h / 16 ^ (16 - i) % 16))) = hexCells h (i - 1) := by
  apply Array.ext_getElem?
  intro j
  rw [Array.getElem?_setIfInBounds]
  have hs : (hexCells h i).size = 16 := by simp [hexCells, hexN]
  by_cases hj : j < 16
  · rw [hexN_cell h i j hj, hexN_cell h (i - 1) j hj]
    by_cases e : i - 1 = j
    · subst e
      rw [if_pos rfl, if_pos (by omega)]
      have e2 : 15 - (i - 1) = 16 - i := by omega
      simp [hexN, hj, e2]
    · rw [if_neg e]
      by_cases hlt : j < i - 1
      · rw [hexN_low _ _ _ hlt hj, hexN_low _ _ _ (by omega) hj]
      · have a1 : ¬ j < i := by omega
        simp [hexN, hj, a1, hlt]
  · have h1 : (hexCells h i)[j]? = none := Array.getElem?_eq_none (by omega)
    have h2 : (hexCells h (i - 1))[j]? = none := Array.getElem?_eq_none (by simp [hexCells, hexN]; omega)
    rw [h1, h2]
    by_cases e : i - 1 = j
    · rw [if_pos e, if_neg (by omega)]
    · rw [if_neg e]
theorem hex_digit (d : Nat) (hd : d < 16) (h : d < ({ data := #[48, 49, 50, 51, 52, 53, 54, 55, 56, 57, 97, 98, 99, 100, 101, 102] } : ByteArray).size) : ((({ data := #[48, 49, 50, 51, 52, 53, 54, 55, 56, 57, 97, 98, 99, 100, 101, 102] } : ByteArray)[d]'h).toNat : Int) = hexC d := by
  revert h
  match d, hd with
  | 0, _ => intro h; rfl
  | 1, _ => intro h; rfl
  | 2, _ => intro h; rfl
  | 3, _ => intro h; rfl
  | 4, _ => intro h; rfl
  | 5, _ => intro h; rfl
  | 6, _ => intro h; rfl
  | 7, _ => intro h; rfl
  | 8, _ => intro h; rfl
  | 9, _ => intro h; rfl
  | 10, _ => intro h; rfl
  | 11, _ => intro h; rfl
  | 12, _ => intro h; rfl
  | 13, _ => intro h; rfl
  | 14, _ => intro h; rfl
  | 15, _ => intro h; rfl
  | n + 16, hd => exact absurd hd (by omega)
theorem and15 (y : Nat) (hy : y < 18446744073709551616) : Go.bits .and .u64 (y : Int) 15 = ((y % 16 : Nat) : Int) := by
  rw [show (15 : Int) = ((15 : Nat) : Int) from rfl, u64_and_nat y 15 hy (by omega)]
  have := Nat.and_two_pow_sub_one_eq_mod y 4
  exact congrArg _ this
def fnv_Text.f (a0 : Int) : Option ByteArray := if 0 ≤ a0 then (if a0 < 18446744073709551616 then some (strOfNums (hexL a0.toNat)) else none) else none
def FnvTextJ (h : Nat) (w w' : World) (a : Act) : Prop := ∃ i : Nat, ∃ y : Nat, 0 < i ∧ i ≤ 16 ∧ y = h / 16 ^ (16 - i) ∧ w'.heap[w.heap.size]? = some (.cells (hexCells h i) 172 (0, 0)) ∧ Below w.heap.size w w' ∧ ∃ u1 u2 u5 u6 u7 u8 u9 u10 u11 u12 u13 u14 u15 u16 u17 : Value, a = { tmps := #[.int .u64 (y : Int), u1, u2, .pointer (some ⟨w.heap.size, 0, none⟩), .int .i64 (i : Int), u5, u6, u7, u8, u9, u10, u11, u12, u13, u14, u15, u16, u17], defers := [] }
set_option maxHeartbeats 1000000 in
set_option maxRecDepth 100000 in
theorem fnv_Text.calls (a0 : Int) (r : ByteArray) (w : World) (h : fnv_Text.f a0 = some r) :
    Calls Try.prog 117 #[.int .u64 a0] w fun e w' => e = .returned (.string r) ∧ Below w.heap.size w w' := by
  unfold fnv_Text.f at h
  by_cases h0 : 0 ≤ a0
  · rw [if_pos h0] at h
    by_cases h1 : a0 < 18446744073709551616
    · rw [if_pos h1] at h
      obtain ⟨x, rfl⟩ := Int.eq_ofNat_of_zero_le h0
      have HR := Aside0.mk (Option.some.inj h)
      have H1 := Aside0.mk h1
      clear h h0 h1
      rw [Int.toNat_natCast] at HR
      go_enter Try.func117, Try.ntmps117
      go_wp2
      refine Goto.scope_label 0 (fun a' w' => FnvTextJ x w w' a') (fun a' _ => (intOf (a'.tmps.getD 4 undef)).toNat) rfl ?_ ?_
      · rintro a' w' ⟨i, y, hi0, hi, hy, hb, hB, u1, u2, u5, u6, u7, u8, u9, u10, u11, u12, u13, u14, u15, u16, u17, rfl⟩
        have hyx : y < 18446744073709551616 := by
          rw [hy]; exact Nat.lt_of_le_of_lt (Nat.div_le_self _ _) (by have := H1.out; omega)
        have hand := and15 y hyx
        have HY := Aside0.mk hy
        clear hy hyx
        have hc : w'.cell? ⟨w.heap.size, i - 1, none⟩ = some (.int .u8 0) := by
          rw [blk_cell hb (i - 1), hexN_cell x i (i - 1) (by omega), hexN_low x i (i - 1) (by omega) (by omega)]
        have hf : w'.frozen? ⟨w.heap.size, i - 1, none⟩ = false := blk_frozen hb (i - 1)
        have HB := Aside0.mk hb
        have HBel := Aside0.mk hB
        clear hb hB
        have hstep : (w'.setCell ⟨w.heap.size, i - 1, none⟩ (.int .u8 (hexC (y % 16)))).heap[w.heap.size]? = some (.cells (hexCells x (i - 1)) 172 (0, 0)) := by
          rw [← hexN_step x i hi0 hi, ← HY.out]
          exact blk_set HB.out (i - 1) _
        have hbel : Below w.heap.size w (w'.setCell ⟨w.heap.size, i - 1, none⟩ (.int .u8 (hexC (y % 16)))) := HBel.out.setCell (Nat.le_refl _) _
        have HS := Aside0.mk hstep
        have HL := Aside0.mk hbel
        clear hstep hbel
        go_wp2
        · go_step3
          have h1 : 1 < (i : Int) := by assumption
          rw [hex_digit _ (Nat.mod_lt _ (by omega))]
          rw [show (i : Int) - 1 = ((i - 1 : Nat) : Int) by omega, show (y : Int) / 16 = ((y / 16 : Nat) : Int) by omega]
          refine ⟨rfl, ⟨i - 1, y / 16, by omega, by omega, ?_, HS.out, HL.out, _, _, _, _, _, _, _, _, _, _, _, _, _, _, _, rfl⟩, by simp [intOf]; omega⟩
          rw [HY.out, Nat.div_div_eq_div_mul, ← Nat.pow_succ, show (16 - i).succ = 16 - (i - 1) by omega]
        · have h1 : (i : Int) ≤ 1 := by assumption
          rw [hex_digit _ (Nat.mod_lt _ (by omega))]
          have hr : ReadsInt (w'.setCell ⟨w.heap.size, i - 1, none⟩ (.int .u8 (hexC (y % 16)))) .u8 (some ⟨w.heap.size, 0, none⟩) 16 (hexL x) := by
            refine ⟨by simp [hexL], by omega, fun _ => ⟨_, rfl, fun j hj => ?_⟩⟩
            have e0 : (⟨w.heap.size, 0, none⟩ : Addr).add j = ⟨w.heap.size, j, none⟩ := by unfold Addr.add; split <;> simp_all
            have e1 : i - 1 = 0 := by omega
            rw [e0, blk_cell HS.out j, e1, hexN_cell x 0 j hj, hexN_zero]
          have hcv := string_of_reads (P := Try.prog) (c := 16) Try.underlying95 Try.underlying5 Try.underlying9 hr
          have HV := Aside0.mk hr
          clear hr
          rw [hcv]
          go_simp
          go_wp2
          try simp only [Exit.jump]
          go_ret
          exact ⟨by rw [← HR.out]; rfl, HL.out⟩
      · intro L hL hLr
        have HL := Aside0.mk hL
        have HLr := Aside0.mk hLr
        clear hL hLr
        go_wp2
        go_step3
        rename_i K hK
        refine hK _ _ (HLr.out _ _ (HL.out _ _ ⟨16, x, by omega, by omega, by simp, ?_, ?_, _, _, _, _, _, _, _, _, _, _, _, _, _, _, _, rfl⟩))
        · exact (heap_alloc_new w _).trans (by rw [hexCells_all]; rfl)
        · exact below_alloc (Below.refl _ _) _
    · rw [if_neg h1] at h; cases h
  · rw [if_neg h0] at h; cases h


/-! ### fnv_Roll: function 166, by hand -/
-- HAND rounds=0 making=0
-- IMPORT Derived.Test.YtihlogdmdmhefaaGoto
def rollB (h : Int) (c : Int) : Int := IntKind.u64.wrap (Go.bits .xor .u64 h (IntKind.u64.wrap c) * 1099511628211)
def rollL (h : Int) : List UInt8 → Int
  | [] => h
  | c :: l => rollL (rollB h (c.toNat : Int)) l
theorem rollL_append (h : Int) (l m : List UInt8) : rollL h (l ++ m) = rollL (rollL h l) m := by
  induction l generalizing h with
  | nil => rfl
  | cons c l ih => exact ih _
theorem rollL_snoc (h : Int) (s : ByteArray) (k : Nat) (hk : k < s.size) : rollL h (s.data.toList.take (k + 1)) = rollB (rollL h (s.data.toList.take k)) ((s[k].toNat : Nat) : Int) := by
  have e : s.data.toList.take (k + 1) = s.data.toList.take k ++ [s[k]] := by
    rw [List.take_succ_eq_append_getElem (by simpa using hk)]; rfl
  rw [e, rollL_append]; rfl
def fnv_Roll.f (a0 : Int) (a1 : ByteArray) : Option Int := if a1.size ≤ 9223372036854775806 then some (rollL a0 a1.data.toList) else none
def FnvRollJ (a0 : Int) (a1 : ByteArray) (w w' : World) (a : Act) : Prop := ∃ k : Nat, ∃ h : Int, k ≤ a1.size ∧ h = rollL a0 (a1.data.toList.take k) ∧ (∃ n, w' = w.drewN n) ∧ ∃ u2 u3 u4 u6 u7 u8 u9 u10 u11 u12 u13 u14 u15 u16 u17 u18 u19 u20 : Value, a = { tmps := #[.int .u64 h, .string a1, u2, u3, u4, .int .i64 (k : Int), u6, u7, u8, u9, u10, u11, u12, u13, u14, u15, u16, u17, u18, u19, u20], defers := [] }
set_option maxHeartbeats 1000000 in
set_option maxRecDepth 100000 in
theorem fnv_Roll.calls (a0 : Int) (a1 : ByteArray) (r : Int) (w : World) (h : fnv_Roll.f a0 a1 = some r) :
    Calls Try.prog 166 #[.int .u64 a0, .string a1] w fun e w' => e = .returned (.int .u64 r) ∧ Drawn0 w w' := by
  have hs : a1.size ≤ 9223372036854775806 := by
    unfold fnv_Roll.f at h
    by_cases c : a1.size ≤ 9223372036854775806
    · exact c
    · rw [if_neg c] at h; cases h
  have hr : r = rollL a0 a1.data.toList := by
    unfold fnv_Roll.f at h
    rw [if_pos hs] at h
    exact (Option.some.inj h).symm
  have HR := Aside0.mk hr
  clear hr h
  go_enter Try.func166, Try.ntmps166
  go_wp2
  refine Goto.scope_label 0 (fun a' w' => FnvRollJ a0 a1 w w' a') (fun a' _ => a1.size - (intOf (a'.tmps.getD 5 undef)).toNat) rfl ?_ ?_
  · rintro a' w' ⟨k, h, hk, hh, ⟨n, rfl⟩, u2, u3, u4, u6, u7, u8, u9, u10, u11, u12, u13, u14, u15, u16, u17, u18, u19, u20, rfl⟩
    have HH := Aside0.mk hh
    clear hh
    by_cases hlt : k < a1.size
    · go_wp2
      go_step3
      refine ⟨rfl, ⟨k + 1, _, by omega, ?_, ⟨n, rfl⟩, _, _, _, _, _, _, _, _, _, _, _, _, _, _, _, _, _, _, rfl⟩, by simp [intOf]; omega⟩
      rw [rollL_snoc a0 a1 k hlt, ← HH.out]; rfl
    · go_wp2
      simp only [Exit.jump]
      go_ret
      have e : k = a1.size := by omega
      refine ⟨?_, ⟨n, rfl⟩⟩
      show Ending.returned (.int .u64 h) = _
      rw [HR.out, HH.out, e, List.take_of_length_le (by simp)]
  · intro L hL hLr
    have HL := Aside0.mk hL
    have HLr := Aside0.mk hLr
    clear hL hLr
    go_wp2
    go_step3
    rename_i K hK
    refine hK _ _ (HLr.out _ _ (HL.out _ _ ⟨0, a0, by omega, by simp [rollL], ⟨0, rfl⟩, _, _, _, _, _, _, _, _, _, _, _, _, _, _, _, _, _, _, rfl⟩))


/-! ### fnv_Of: function 118 -/
def fnv_Of.f (a0 : ByteArray) : Option (Int) := (fnv_Roll.f 14695981039346656037 a0).bind fun t115 => (some t115)
set_option maxHeartbeats 8000000 in
set_option maxRecDepth 100000 in
theorem fnv_Of.calls (a0 : ByteArray) (r : Int) (w : World) (h : fnv_Of.f a0 = some r) :
    Calls Try.prog 118 #[.string a0] w fun e w' => e = .returned (.int .u64 r) ∧ Drawn0 w w' := by
  have H : ((fnv_Roll.f 14695981039346656037 a0).bind fun t115 => (some t115)) = some r := h
  clear h
  replace H := Option.bind_eq_some_iff.mp H
  obtain ⟨t115, A20, H⟩ := H
  replace H : (some t115) = some r := H
  have A2 := Aside0.mk A20
  clear A20
  obtain rfl := Option.some.inj H
  go_enter Try.func118, Try.ntmps118
  go_wp2_with (first | ((with_reducible refine gate_callee (f := 166) rfl ?_); refine goesL_ (some 4) rfl rfl Try.func166 (by kernel_rfl) rfl #[.int .u64 14695981039346656037, .string a0] rfl (by (try simp only [List.map_toArray, List.map_cons, List.map_nil]); first | done | rfl | (simp only [List.length_drop, List.length_take]; rfl)) ?_; (with_reducible refine (fnv_Roll.calls 14695981039346656037 a0 t115 _ A2.out).mono ?_); rintro e w' ⟨rfl, ⟨nd, rfl⟩⟩; refine ⟨_, rfl, ?_⟩))
  go_ret
  exact ⟨by first | rfl | (simp; done) | (simp [*]; done), by repeat (first | exact Drawn0.refl _ | apply Drawn0.step)⟩

end Go.Proofs.Ytihlogdmdmhefaa.L
