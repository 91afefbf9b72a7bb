/- Written by this session's own program over the kit's print: functions of Go told as plain functions, or the row of one statement; proved for every input, with no condition of ours. -/
import Derived.Test.YtihlogdmdmhefaaLx0
import Derived.Test.YtihlogdmdmhefaaLx3
import Derived.Test.YtihlogdmdmhefaaLx5
namespace Go.Proofs.Ytihlogdmdmhefaa.L
open Go.RowKit Go.Proofs.YtihlogdmdmhefaaW.PrintWords Go.Proofs.YtihlogdmdmhefaaW.PrintLast Go.Proofs.YtihlogdmdmhefaaW.PrintMore
attribute [local go_sem] max2_int min2_int max_two min_two max_three min_three max_four min_four   -- for this text's walks alone
set_option linter.unusedVariables false
set_option linter.unusedSimpArgs false

/-! ### codec_TakeNumber: function 110, by hand -/
-- HAND rounds=0 making=1
-- IMPORT Derived.Laws.BitsAllLaws
/-- The number of a row of bytes, as the code counts it. -/
def valW (l : List Int) : Int := l.foldl (fun n c => Go.bits .or .i64 (wrap64 (n * 256)) (wrap64 c)) 0
theorem valW_snoc (l : List Int) (x : Int) : valW (l ++ [x]) = Go.bits .or .i64 (wrap64 (valW l * 256)) (wrap64 x) := by simp [valW]
theorem value_at (l : List Int) (hl : l.length ≤ 9223372036854775806) : ∀ (d j : Nat), d + j = l.length → codec_value.l0 (d + 1) (valW (l.take j)) l (l.length : Int) (j : Int) = some (valW l) := by
  intro d
  induction d with
  | zero =>
    intro j hj
    simp only [codec_value.l0]
    rw [if_neg (by omega), List.take_of_length_le (by omega)]
  | succ d ih =>
    intro j hj
    rw [codec_value.l0, if_pos (by omega), if_pos (by omega), if_pos (by omega)]
    have e : wrap64 ((j : Int) + 1) = ((j + 1 : Nat) : Int) := by unfold wrap64; omega
    have t : valW (l.take (j + 1)) = Go.bits .or .i64 (wrap64 (valW (l.take j) * 256)) (wrap64 (rd l j)) := by
      rw [List.take_succ_eq_append_getElem (show j < l.length by omega), valW_snoc]
      congr 2
      simp [rd, List.getD, List.getElem?_eq_getElem (show j < l.length by omega)]
    rw [e, ← t]
    exact ih (j + 1) (by omega)
theorem value_all (l : List Int) (hl : l.length ≤ 9223372036854775806) : codec_value.f (l.length + 1) l = some (valW l) := value_at l hl l.length 0 (by omega)
theorem or_range (a b : Int) : -9223372036854775808 ≤ Go.bits .or .i64 a b ∧ Go.bits .or .i64 a b ≤ 9223372036854775807 := by
  show -9223372036854775808 ≤ IntKind.i64.wrap ((BitVec.ofInt 64 a ||| BitVec.ofInt 64 b).toNat : Int) ∧ IntKind.i64.wrap ((BitVec.ofInt 64 a ||| BitVec.ofInt 64 b).toNat : Int) ≤ 9223372036854775807
  rw [i64_w]
  generalize ((BitVec.ofInt 64 a ||| BitVec.ofInt 64 b).toNat : Int) = z
  unfold wrap64
  omega
theorem or_step (X c : Int) (h0 : 0 ≤ c) (h1 : c < 256) : Go.bits .or .i64 (wrap64 (X * 256)) (wrap64 c) = wrap64 (X * 256 + c) := by
  show IntKind.i64.wrap ((BitVec.ofInt 64 (wrap64 (X * 256)) ||| BitVec.ofInt 64 (wrap64 c)).toNat : Int) = _
  rw [i64_w, BitVec.toNat_or, BitVec.toNat_ofInt, BitVec.toNat_ofInt]
  have e1 : (wrap64 (X * 256) % ((2 ^ 64 : Nat) : Int)).toNat = 256 * (X % 72057594037927936).toNat := by unfold wrap64; omega
  have e2 : (wrap64 c % ((2 ^ 64 : Nat) : Int)).toNat = c.toNat := by unfold wrap64; omega
  rw [e1, e2, nat_join 8 _ _ (by omega) (by omega)]
  unfold wrap64
  omega
theorem valW_le (l : List Int) : valW l ≤ 9223372036854775807 := by
  rcases List.eq_nil_or_concat l with rfl | ⟨l, x, rfl⟩
  · simp [valW]
  · rw [List.concat_eq_append, valW_snoc]
    exact (or_range _ _).2
theorem bt_first (s : ByteArray) : bt (s.extract 0 1) 0 = bt s 0 := by
  unfold bt
  by_cases h : 0 < s.size
  · have h1 : (0 : Int).toNat < s.size := h
    have h2 : (0 : Int).toNat < (s.extract 0 1).size := by rw [ByteArray.size_extract]; show 0 < _; omega
    rw [dif_pos h1, dif_pos h2]
    congr 2
    exact (ByteArray.getElem_extract ..).trans (by simp)
  · have h1 : ¬ (0 : Int).toNat < s.size := h
    have h2 : ¬ (0 : Int).toNat < (s.extract 0 1).size := by rw [ByteArray.size_extract]; show ¬ 0 < _; omega
    rw [dif_neg h1, dif_neg h2]
theorem str_bytesOf (s : ByteArray) : strOfNums (bytesOf s) = s := by
  unfold strOfNums bytesOf
  rw [List.map_map]
  have e : ((fun n : Int => UInt8.ofNat n.toNat) ∘ fun b : UInt8 => (b.toNat : Int)) = id := by
    funext b
    simp
  rw [e, List.map_id]
theorem first_cell (w1 : World) (b : Nat) (s : ByteArray) (hr : ReadsInt w1 .u8 (some ⟨b, 0, none⟩) 1 (bytesOf (s.extract 0 1))) : w1.cell? ⟨b, 0, none⟩ = some (.int .u8 (bt s 0)) := by
  obtain ⟨ad, e1, e2⟩ := hr.at_ 0 (by omega) (by omega)
  cases e1
  rw [rd_bytesOf, bt_first] at e2
  exact e2
def takeN (s : ByteArray) (most : Int) : Int × ByteArray × Bool :=
  if s.size = 0 then (0, ⟨#[]⟩, false) else if 8 < bt s 0 then (0, ⟨#[]⟩, false) else if (s.size : Int) - 1 < bt s 0 then (0, ⟨#[]⟩, false) else
  let n := valW (bytesOf (s.extract 1 (1 + (bt s 0).toNat)))
  if n < 0 then (0, ⟨#[]⟩, false) else if most < n then (0, ⟨#[]⟩, false) else
  if strOfNums (numL n.toNat) = s.extract 0 (1 + (bt s 0).toNat) then (n, s.extract (1 + (bt s 0).toNat) s.size, true) else (0, ⟨#[]⟩, false)
def codec_TakeNumber.f (a0 : ByteArray) (a1 : Int) : Option (Int × ByteArray × Bool) := if a0.size ≤ 9223372036854775806 then some (takeN a0 a1) else none
set_option maxHeartbeats 4000000 in
set_option maxRecDepth 100000 in
theorem codec_TakeNumber.calls (a0 : ByteArray) (a1 : Int) (r1 : Int) (r2 : ByteArray) (r3 : Bool) (w : World) (h : codec_TakeNumber.f a0 a1 = some (r1, r2, r3)) :
    Calls Try.prog 110 #[.string a0, .int .i64 a1] w fun e w' => e = .returned (.tuple #[.int .i64 r1, .string r2, .bool r3]) ∧ Below w.heap.size w w' := by
  unfold codec_TakeNumber.f at h
  by_cases hs : a0.size ≤ 9223372036854775806
  · rw [if_pos hs] at h
    have h := Option.some.inj h
    unfold takeN at h
    by_cases c0 : a0.size = 0
    · rw [if_pos c0] at h
      have HH := Aside0.mk h
      clear h
      have HC := Aside0.mk (codec_cut.short a0 1 w (by omega))
      go_enter Try.func110, Try.ntmps110
      go_wp2_with (first | (go_at_call 164; (with_reducible refine HC.out.mono ?_); rintro e w1 ⟨rfl, hb⟩; have HB := Aside0.mk hb; clear hb))
      go_ret3
      have HH := HH.out
      simp only [Prod.mk.injEq] at HH
      obtain ⟨rfl, rfl, rfl⟩ := HH
      exact ⟨rfl, HB.out⟩
    · rw [if_neg c0] at h
      have hc1 := codec_cut.long a0 1 w (by omega) (by omega)
      rw [show ((1 : Nat) : Int) = 1 from rfl] at hc1
      have HC := Aside0.mk hc1
      clear hc1
      obtain ⟨m, hm⟩ : ∃ m : Nat, bt a0 0 = m := ⟨(bt a0 0).toNat, by have := (bt_range a0 0).1; omega⟩
      rw [hm] at h
      by_cases c1 : 8 < (m : Int)
      · rw [if_pos c1] at h
        have HH := Aside0.mk h
        clear h
        go_enter Try.func110, Try.ntmps110
        go_wp2_with (first | (go_at_call 164; (with_reducible refine HC.out.mono ?_); rintro e w1 ⟨⟨rfl, hr⟩, hb⟩; have HB := Aside0.mk hb; have hce : w1.cell? ⟨w.heap.size, 0, none⟩ = some (.int .u8 (m : Int)) := (by rw [← hm]; exact first_cell _ _ _ hr); have HR := Aside0.mk hr; clear hb hr))
        go_ret3
        have HH := HH.out
        simp only [Prod.mk.injEq] at HH
        obtain ⟨rfl, rfl, rfl⟩ := HH
        exact ⟨rfl, HB.out⟩
      · rw [if_neg c1] at h
        have hm8 : m ≤ 8 := by omega
        clear c1
        by_cases c2 : (a0.size : Int) - 1 < (m : Int)
        · rw [if_pos c2] at h
          have HH := Aside0.mk h
          clear h
          have HC2 := Aside0.mk (fun W => codec_cut.short (a0.extract 1 a0.size) (m : Int) W (by rw [ByteArray.size_extract]; omega))
          have hv := fun W : World => codec_value.calls 1 none 0 [] 0 W (Kd.C_nil _ _) (by simp) (value_all [] (by simp))
          simp only [List.length_nil] at hv
          have HV := Aside0.mk hv
          clear hv
          clear c2
          go_enter Try.func110, Try.ntmps110
          go_wp2_with (first | (go_at_call 164; (with_reducible refine HC.out.mono ?_); rintro e w1 ⟨⟨rfl, hr⟩, hb⟩; have HB := Aside0.mk hb; have hce : w1.cell? ⟨w.heap.size, 0, none⟩ = some (.int .u8 (m : Int)) := (by rw [← hm]; exact first_cell _ _ _ hr); have HR := Aside0.mk hr; clear hb hr) | (go_at_call 164; (with_reducible refine (HC2.out _).mono ?_); rintro e w2 ⟨rfl, hb⟩; have HB2 := Aside0.mk (below_step HB.out hb); clear hb) | (go_at_call 165; (with_reducible refine (HV.out _).mono ?_); rintro e w3 ⟨rfl, ⟨nd, rfl⟩⟩))
          go_region
          go_wp2_with (fail)
          go_ret3
          have HH := HH.out
          simp only [Prod.mk.injEq] at HH
          obtain ⟨rfl, rfl, rfl⟩ := HH
          exact ⟨rfl, by repeat (first | exact HB2.out | apply below_drew1 | apply pw_below_drewN)⟩
        · rw [if_neg c2] at h
          have hx : (a0.extract 1 a0.size).extract 0 m = a0.extract 1 (1 + m) := by
            rw [ByteArray.extract_extract, Nat.min_eq_left (by omega)]
          have hy : (a0.extract 1 a0.size).extract m (a0.extract 1 a0.size).size = a0.extract (1 + m) a0.size := by
            rw [ByteArray.size_extract, ByteArray.extract_extract]; congr 1; omega
          have hz : a0.extract 0 1 ++ a0.extract 1 (1 + m) = a0.extract 0 (1 + m) := by
            rw [ByteArray.extract_append_extract]; congr 1; omega
          have hl : (bytesOf (a0.extract 1 (1 + m))).length = m := by rw [bytesOf_length, ByteArray.size_extract]; omega
          have hc2 := fun W => codec_cut.long (a0.extract 1 a0.size) m W (by rw [ByteArray.size_extract]; omega) (by rw [ByteArray.size_extract]; omega)
          rw [hx, hy] at hc2
          have HC2 := Aside0.mk hc2
          clear hc2
          have hv := fun (W : World) (B : Nat) (hr : ReadsInt W .u8 (some ⟨B, 0, none⟩) m (bytesOf (a0.extract 1 (1 + m)))) => codec_value.calls (m + 1) (some ⟨B, 0, none⟩) m (bytesOf (a0.extract 1 (1 + m))) _ W (Kd.C_of_reads (enc := Value.int .u8) (d := (0 : Int)) (h1 := fun _ => rfl) (by rw [hl]; exact hr)) (by omega) (by have z := value_all (bytesOf (a0.extract 1 (1 + m))) (by omega); rw [hl] at z; exact z)
          simp only [hl] at hv
          have HV := Aside0.mk hv
          clear hv
          rw [show (m : Int).toNat = m from rfl] at h
          generalize hn : valW (bytesOf (a0.extract 1 (1 + m))) = n at *
          have hn' := valW_le (bytesOf (a0.extract 1 (1 + m)))
          rw [hn] at hn'
          clear hn
          have HX := Aside0.mk (And.intro hx (And.intro hy (And.intro hz (And.intro hl hn'))))
          clear hx hy hz hl hn'
          have HC2 : Aside0 (∀ W, Calls Try.prog 164 #[.string (a0.extract 1 a0.size), .int .i64 (m : Int)] W fun e w' => (e = .returned (.tuple #[.slice (some ⟨W.heap.size, 0, none⟩) m m, .string (a0.extract (1 + m) a0.size), .bool true]) ∧ ReadsInt w' .u8 (some ⟨W.heap.size, 0, none⟩) m (bytesOf (a0.extract 1 (1 + m)))) ∧ Below W.heap.size W w') := HC2
          by_cases c3 : n < 0
          · rw [if_pos c3] at h
            have HH := Aside0.mk h
            clear h
            go_enter Try.func110, Try.ntmps110
            go_wp2_with (first | (go_at_call 164; (with_reducible refine HC.out.mono ?_); rintro e w1 ⟨⟨rfl, hr⟩, hb⟩; have HB := Aside0.mk hb; have hce : w1.cell? ⟨w.heap.size, 0, none⟩ = some (.int .u8 (m : Int)) := (by rw [← hm]; exact first_cell _ _ _ hr); have HR := Aside0.mk hr; clear hb hr) | (go_at_call 164; (with_reducible refine (HC2.out _).mono ?_); rintro e w2 ⟨⟨rfl, hr⟩, hb⟩; have HB2 := Aside0.mk (below_step HB.out hb); have HR2 := Aside0.mk hr; clear hb hr) | (go_at_call 165; (with_reducible refine (HV.out _ _ HR2.out).mono ?_); rintro e w3 ⟨rfl, ⟨nd, rfl⟩⟩))
            go_region
            go_wp2_with (fail)
            go_ret3
            have HH := HH.out
            simp only [Prod.mk.injEq] at HH
            obtain ⟨rfl, rfl, rfl⟩ := HH
            exact ⟨rfl, by repeat (first | exact HB2.out | apply below_drew1 | apply pw_below_drewN)⟩
          · rw [if_neg c3] at h
            by_cases c4 : a1 < n
            · rw [if_pos c4] at h
              have HH := Aside0.mk h
              clear h
              have c3b : decide (n < 0) = false := decide_eq_false c3
              have c4b : decide (a1 < n) = true := decide_eq_true c4
              go_enter Try.func110, Try.ntmps110
              go_wp2_with (first | (go_at_call 164; (with_reducible refine HC.out.mono ?_); rintro e w1 ⟨⟨rfl, hr⟩, hb⟩; have HB := Aside0.mk hb; have hce : w1.cell? ⟨w.heap.size, 0, none⟩ = some (.int .u8 (m : Int)) := (by rw [← hm]; exact first_cell _ _ _ hr); have HR := Aside0.mk hr; clear hb hr) | (go_at_call 164; (with_reducible refine (HC2.out _).mono ?_); rintro e w2 ⟨⟨rfl, hr⟩, hb⟩; have HB2 := Aside0.mk (below_step HB.out hb); have HR2 := Aside0.mk hr; clear hb hr) | (go_at_call 165; (with_reducible refine (HV.out _ _ HR2.out).mono ?_); rintro e w3 ⟨rfl, hq⟩; have HB3 := Aside0.mk (below_step HB2.out (hq.below)); have hb0 : Below w3.heap.size w3 w3.drew := below_drew1 (Below.refl _ _); clear hq))
              refine start_ (n := 21) (S := fun w' => Below w3.heap.size w3 w') (ds := []) #[false, false, false, false, false, false, false, false, false, false, false, false, false, false, false, false, false, false, false, false, false] rfl rfl rfl hb0 (fun hHeld => ?_)
              generalize w3.drew = w5 at hHeld ⊢
              refine take_ (i := 0) (N := some 38) (v := ?_) (a' := ?_) #[true, false, false, false, false, false, false, false, false, false, false, false, false, false, false, false, false, false, false, false, false] rfl rfl (by kernel_rfl) (fun _ _ _ h => h) (Or.inl ⟨by rfl, ?_⟩) hHeld ?_ ?_
              rotate_left
              · rintro w' s0
                go_simp
                with_reducible rfl
              rotate_left
              · simp only [Act.put, List.setIfInBounds_toArray, List.set_cons_zero, List.set_cons_succ, i64_w, i32_w]
                rfl
              refine take_ (i := 1) (N := some 39) (v := ?_) (a' := ?_) #[true, true, false, false, false, false, false, false, false, false, false, false, false, false, false, false, false, false, false, false, false] rfl rfl (by kernel_rfl) (fun _ _ _ h => h) (Or.inl ⟨by rfl, ?_⟩) hHeld ?_ ?_
              rotate_left
              · rintro w' s0
                go_simp
                with_reducible rfl
              rotate_left
              · simp only [Act.put, List.setIfInBounds_toArray, List.set_cons_zero, List.set_cons_succ, i64_w, i32_w]
                rfl
              refine take_ (i := 2) (N := some 40) (v := ?_) (a' := ?_) #[true, true, true, false, false, false, false, false, false, false, false, false, false, false, false, false, false, false, false, false, false] rfl rfl (by kernel_rfl) (fun _ _ _ h => h) (Or.inl ⟨by rfl, ?_⟩) hHeld ?_ ?_
              rotate_left
              · rintro w' s0
                go_simp
                with_reducible rfl
              rotate_left
              · simp only [Act.put, List.setIfInBounds_toArray, List.set_cons_zero, List.set_cons_succ, i64_w, i32_w]
                rfl
              refine take_ (i := 3) (N := some 41) (v := ?_) (a' := ?_) #[true, true, true, true, false, false, false, false, false, false, false, false, false, false, false, false, false, false, false, false, false] rfl rfl (by kernel_rfl) (fun _ _ _ h => h) (Or.inl ⟨by rfl, ?_⟩) hHeld ?_ ?_
              rotate_left
              · rintro w' s0
                go_simp
                with_reducible rfl
              rotate_left
              · simp only [Act.put, List.setIfInBounds_toArray, List.set_cons_zero, List.set_cons_succ, i64_w, i32_w]
                rfl
              refine take_ (i := 4) (N := some 42) (v := ?_) (a' := ?_) #[true, true, true, true, true, false, false, false, false, false, false, false, false, false, false, false, false, false, false, false, false] rfl rfl (by kernel_rfl) (fun _ _ _ h => h) (Or.inl ⟨by rfl, ?_⟩) hHeld ?_ ?_
              rotate_left
              · rintro w' s0
                go_simp
                with_reducible rfl
              rotate_left
              · simp only [Act.put, List.setIfInBounds_toArray, List.set_cons_zero, List.set_cons_succ, i64_w, i32_w]
                rfl
              refine take_ (i := 5) (N := some 43) (v := ?_) (a' := ?_) #[true, true, true, true, true, true, false, false, false, false, false, false, false, false, false, false, false, false, false, false, false] rfl rfl (by kernel_rfl) (fun _ _ _ h => h) (Or.inl ⟨by rfl, ?_⟩) hHeld ?_ ?_
              rotate_left
              · rintro w' s0
                go_simp
                with_reducible rfl
              rotate_left
              · simp only [Act.put, List.setIfInBounds_toArray, List.set_cons_zero, List.set_cons_succ, i64_w, i32_w]
                rfl
              refine take_ (i := 6) (N := some 44) (v := ?_) (a' := ?_) #[true, true, true, true, true, true, true, false, false, false, false, false, false, false, false, false, false, false, false, false, false] rfl rfl (by kernel_rfl) (fun _ _ _ h => h) (Or.inl ⟨by rfl, ?_⟩) hHeld ?_ ?_
              rotate_left
              · rintro w' s0
                go_simp
                with_reducible rfl
              rotate_left
              · simp only [Act.put, List.setIfInBounds_toArray, List.set_cons_zero, List.set_cons_succ, i64_w, i32_w]
                rfl
              refine take_ (i := 7) (N := some 45) (v := ?_) (a' := ?_) #[true, true, true, true, true, true, true, true, false, false, false, false, false, false, false, false, false, false, false, false, false] rfl rfl (by kernel_rfl) (fun _ _ _ h => h) (Or.inl ⟨by rfl, ?_⟩) hHeld ?_ ?_
              rotate_left
              · rintro w' s0
                go_simp
                with_reducible rfl
              rotate_left
              · simp only [Act.put, List.setIfInBounds_toArray, List.set_cons_zero, List.set_cons_succ, i64_w, i32_w]
                rfl
              refine take_ (i := 8) (N := some 46) (v := ?_) (a' := ?_) #[true, true, true, true, true, true, true, true, true, false, false, false, false, false, false, false, false, false, false, false, false] rfl rfl (by kernel_rfl) (fun _ _ _ h => h) (Or.inl ⟨by rfl, ?_⟩) hHeld ?_ ?_
              rotate_left
              · rintro w' s0
                go_simp
                with_reducible rfl
              rotate_left
              · simp only [Act.put, List.setIfInBounds_toArray, List.set_cons_zero, List.set_cons_succ, i64_w, i32_w]
                rfl
              refine take_ (i := 9) (N := some 47) (v := ?_) (a' := ?_) #[true, true, true, true, true, true, true, true, true, true, false, false, false, false, false, false, false, false, false, false, false] rfl rfl (by kernel_rfl) (fun _ _ _ h => h) (Or.inl ⟨by rfl, ?_⟩) hHeld ?_ ?_
              rotate_left
              · rintro w' s0
                go_simp
                with_reducible rfl
              rotate_left
              · simp only [Act.put, List.setIfInBounds_toArray, List.set_cons_zero, List.set_cons_succ, i64_w, i32_w]
                rfl
              refine take_ (i := 10) (N := some 48) (v := ?_) (a' := ?_) #[true, true, true, true, true, true, true, true, true, true, true, false, false, false, false, false, false, false, false, false, false] rfl rfl (by kernel_rfl) (fun _ _ _ h => h) (Or.inl ⟨by rfl, ?_⟩) hHeld ?_ ?_
              rotate_left
              · rintro w' s0
                go_simp
                with_reducible rfl
              rotate_left
              · simp only [Act.put, List.setIfInBounds_toArray, List.set_cons_zero, List.set_cons_succ, i64_w, i32_w]
                rfl
              refine take_ (i := 11) (N := some 49) (v := ?_) (a' := ?_) #[true, true, true, true, true, true, true, true, true, true, true, true, false, false, false, false, false, false, false, false, false] rfl rfl (by kernel_rfl) (fun _ _ _ h => h) (Or.inl ⟨by rfl, ?_⟩) hHeld ?_ ?_
              rotate_left
              · rintro w' s0
                go_simp
                with_reducible rfl
              rotate_left
              · simp only [Act.put, List.setIfInBounds_toArray, List.set_cons_zero, List.set_cons_succ, i64_w, i32_w]
                rfl
              refine take_ (i := 12) (N := some 50) (v := undef) (a' := ?_) #[true, true, true, true, true, true, true, true, true, true, true, true, true, false, false, false, false, false, false, false, false] rfl rfl (by kernel_rfl) (fun _ _ _ h => h) (Or.inr ⟨by rfl, rfl⟩) hHeld ?_ ?_
              rotate_left
              · simp only [Act.put, List.setIfInBounds_toArray, List.set_cons_zero, List.set_cons_succ, i64_w, i32_w]
                rfl
              refine take_ (i := 14) (N := some 52) (v := undef) (a' := ?_) #[true, true, true, true, true, true, true, true, true, true, true, true, true, false, true, false, false, false, false, false, false] rfl rfl (by kernel_rfl) (fun _ _ _ h => h) (Or.inr ⟨by rfl, rfl⟩) hHeld ?_ ?_
              rotate_left
              · simp only [Act.put, List.setIfInBounds_toArray, List.set_cons_zero, List.set_cons_succ, i64_w, i32_w]
                rfl
              refine take_ (i := 15) (N := some 53) (v := undef) (a' := ?_) #[true, true, true, true, true, true, true, true, true, true, true, true, true, false, true, true, false, false, false, false, false] rfl rfl (by kernel_rfl) (fun _ _ _ h => h) (Or.inr ⟨by rfl, rfl⟩) hHeld ?_ ?_
              rotate_left
              · simp only [Act.put, List.setIfInBounds_toArray, List.set_cons_zero, List.set_cons_succ, i64_w, i32_w]
                rfl
              refine take_ (i := 16) (N := some 54) (v := undef) (a' := ?_) #[true, true, true, true, true, true, true, true, true, true, true, true, true, false, true, true, true, false, false, false, false] rfl rfl (by kernel_rfl) (fun _ _ _ h => h) (Or.inr ⟨by rfl, rfl⟩) hHeld ?_ ?_
              rotate_left
              · simp only [Act.put, List.setIfInBounds_toArray, List.set_cons_zero, List.set_cons_succ, i64_w, i32_w]
                rfl
              refine take_ (i := 17) (N := some 55) (v := undef) (a' := ?_) #[true, true, true, true, true, true, true, true, true, true, true, true, true, false, true, true, true, true, false, false, false] rfl rfl (by kernel_rfl) (fun _ _ _ h => h) (Or.inr ⟨by rfl, rfl⟩) hHeld ?_ ?_
              rotate_left
              · simp only [Act.put, List.setIfInBounds_toArray, List.set_cons_zero, List.set_cons_succ, i64_w, i32_w]
                rfl
              refine take_ (i := 18) (N := some 56) (v := undef) (a' := ?_) #[true, true, true, true, true, true, true, true, true, true, true, true, true, false, true, true, true, true, true, false, false] rfl rfl (by kernel_rfl) (fun _ _ _ h => h) (Or.inr ⟨by rfl, rfl⟩) hHeld ?_ ?_
              rotate_left
              · simp only [Act.put, List.setIfInBounds_toArray, List.set_cons_zero, List.set_cons_succ, i64_w, i32_w]
                rfl
              refine one_ (i := 13) (N := some 51) #[true, true, true, true, true, true, true, true, true, true, true, true, true, true, true, true, true, true, true, false, false] rfl rfl (by kernel_rfl) (by decide) (fun K hK => ?_)
              refine off_ (by rfl) ?_
              refine hK.out _ _ hHeld (fun hHeld => ?_)
              clear hK K
              refine norm_ (a' := ?_) ?_ ?_
              rotate_left
              · show Act.put _ (some 51) _ = _
                simp only [Act.put, List.setIfInBounds_toArray, List.set_cons_zero, List.set_cons_succ, i64_w, i32_w]
                rfl
              refine take_ (i := 19) (N := some 57) (v := undef) (a' := ?_) #[true, true, true, true, true, true, true, true, true, true, true, true, true, true, true, true, true, true, true, true, false] rfl rfl (by kernel_rfl) (fun _ _ _ h => h) (Or.inr ⟨by rfl, rfl⟩) hHeld ?_ ?_
              rotate_left
              · simp only [Act.put, List.setIfInBounds_toArray, List.set_cons_zero, List.set_cons_succ, i64_w, i32_w]
                rfl
              refine take_ (i := 20) (N := some 58) (v := ?_) (a' := ?_) #[true, true, true, true, true, true, true, true, true, true, true, true, true, true, true, true, true, true, true, true, true] rfl rfl (by kernel_rfl) (fun _ _ _ h => h) (Or.inl ⟨by rfl, ?_⟩) hHeld ?_ ?_
              rotate_left
              · rintro w' s0
                go_simp
                with_reducible rfl
              rotate_left
              · simp only [Act.put, List.setIfInBounds_toArray, List.set_cons_zero, List.set_cons_succ, i64_w, i32_w]
                rfl
              refine done_ (by kernel_rfl) ?_
              go_wp2_with (fail)
              go_ret3
              have HH := HH.out
              simp only [Prod.mk.injEq] at HH
              obtain ⟨rfl, rfl, rfl⟩ := HH
              exact ⟨rfl, below_step HB3.out hHeld⟩
            · rw [if_neg c4] at h
              have HN := Aside0.mk (fun W : World => codec_Number.calls n (strOfNums (numL n.toNat)) W (by unfold codec_Number.f; rw [if_neg c3, if_pos HX.out.2.2.2.2]))
              have hsz : ¬ 9223372036854775807 < min 1 a0.size + (min (1 + m) a0.size - 1) := by omega
              by_cases c5 : strOfNums (numL n.toNat) = a0.extract 0 (1 + m)
              · rw [if_pos c5] at h
                have HH := Aside0.mk h
                clear h
                have hq5 : ((strOfNums (numL n.toNat)).toList == (a0.extract 0 (1 + m)).toList) = true := by rw [c5]; exact beq_self_eq_true _
                clear c5
                have c3b : decide (n < 0) = false := decide_eq_false c3
                have c4b : decide (a1 < n) = false := decide_eq_false c4
                clear c3 c4
                go_enter Try.func110, Try.ntmps110
                go_wp2_with (first | (go_at_call 164; (with_reducible refine HC.out.mono ?_); rintro e w1 ⟨⟨rfl, hr⟩, hb⟩; have HB := Aside0.mk hb; have hce : w1.cell? ⟨w.heap.size, 0, none⟩ = some (.int .u8 (m : Int)) := (by rw [← hm]; exact first_cell _ _ _ hr); have HR := Aside0.mk hr; clear hb hr) | (go_at_call 164; (with_reducible refine (HC2.out _).mono ?_); rintro e w2 ⟨⟨rfl, hr⟩, hb⟩; have HB2 := Aside0.mk (below_step HB.out hb); have HR2 := Aside0.mk hr; have HR1 := Aside0.mk (HR.out.below hb); clear hb hr) | (go_at_call 165; (with_reducible refine (HV.out _ _ HR2.out).mono ?_); rintro e w3 ⟨rfl, hq⟩; have HB3 := Aside0.mk (below_step HB2.out (hq.below)); have HR3 := Aside0.mk (HR2.out.below hq.below); have HR0 := Aside0.mk (HR1.out.below hq.below); have hk1 : ∀ W, Below w3.heap.size w3 W → (convert 95 9 (.slice (some ⟨w.heap.size, 0, none⟩) 1 1)).run Try.prog W = .ok (.string (a0.extract 0 1)) W := (fun W hW => by have z := string_of_reads (P := Try.prog) (c := 1) Try.underlying95 Try.underlying5 Try.underlying9 (HR0.out.below hW); rw [str_bytesOf] at z; exact z); have hk2 : ∀ W, Below w3.heap.size w3 W → (convert 95 9 (.slice (some ⟨w1.heap.size, 0, none⟩) m m)).run Try.prog W = .ok (.string (a0.extract 1 (1 + m))) W := (fun W hW => by have z := string_of_reads (P := Try.prog) (c := m) Try.underlying95 Try.underlying5 Try.underlying9 (HR3.out.below hW); rw [str_bytesOf] at z; exact z); have hb0 : Below w3.heap.size w3 w3.drew := below_drew1 (Below.refl _ _); clear hq))
                refine start_ (n := 21) (S := fun w' => (convert 95 9 (.slice (some ⟨w.heap.size, 0, none⟩) 1 1)).run Try.prog w' = .ok (.string (a0.extract 0 1)) w' ∧ (convert 95 9 (.slice (some ⟨w1.heap.size, 0, none⟩) m m)).run Try.prog w' = .ok (.string (a0.extract 1 (1 + m))) w' ∧ Below w3.heap.size w3 w') (ds := []) #[false, false, false, false, false, false, false, false, false, false, false, false, false, false, false, false, false, false, false, false, false] rfl rfl rfl ⟨hk1 _ hb0, hk2 _ hb0, hb0⟩ (fun hHeld => ?_)
                generalize w3.drew = w5 at hHeld ⊢
                generalize hN5 : strOfNums (numL n.toNat) = sN at *
                refine take_ (i := 0) (N := some 38) (v := ?_) (a' := ?_) #[true, false, false, false, false, false, false, false, false, false, false, false, false, false, false, false, false, false, false, false, false] rfl rfl (by kernel_rfl) (fun _ _ _ h => h) (Or.inl ⟨by rfl, ?_⟩) hHeld ?_ ?_
                rotate_left
                · rintro w' ⟨s0, s1, s2⟩
                  go_simp
                  with_reducible rfl
                rotate_left
                · simp only [Act.put, List.setIfInBounds_toArray, List.set_cons_zero, List.set_cons_succ, i64_w, i32_w]
                  rfl
                refine take_ (i := 1) (N := some 39) (v := ?_) (a' := ?_) #[true, true, false, false, false, false, false, false, false, false, false, false, false, false, false, false, false, false, false, false, false] rfl rfl (by kernel_rfl) (fun _ _ _ h => h) (Or.inl ⟨by rfl, ?_⟩) hHeld ?_ ?_
                rotate_left
                · rintro w' ⟨s0, s1, s2⟩
                  go_simp
                  with_reducible rfl
                rotate_left
                · simp only [Act.put, List.setIfInBounds_toArray, List.set_cons_zero, List.set_cons_succ, i64_w, i32_w]
                  rfl
                refine take_ (i := 2) (N := some 40) (v := ?_) (a' := ?_) #[true, true, true, false, false, false, false, false, false, false, false, false, false, false, false, false, false, false, false, false, false] rfl rfl (by kernel_rfl) (fun _ _ _ h => h) (Or.inl ⟨by rfl, ?_⟩) hHeld ?_ ?_
                rotate_left
                · rintro w' ⟨s0, s1, s2⟩
                  go_simp
                  with_reducible rfl
                rotate_left
                · simp only [Act.put, List.setIfInBounds_toArray, List.set_cons_zero, List.set_cons_succ, i64_w, i32_w]
                  rfl
                refine take_ (i := 3) (N := some 41) (v := ?_) (a' := ?_) #[true, true, true, true, false, false, false, false, false, false, false, false, false, false, false, false, false, false, false, false, false] rfl rfl (by kernel_rfl) (fun _ _ _ h => h) (Or.inl ⟨by rfl, ?_⟩) hHeld ?_ ?_
                rotate_left
                · rintro w' ⟨s0, s1, s2⟩
                  go_simp
                  with_reducible rfl
                rotate_left
                · simp only [Act.put, List.setIfInBounds_toArray, List.set_cons_zero, List.set_cons_succ, i64_w, i32_w]
                  rfl
                refine take_ (i := 4) (N := some 42) (v := ?_) (a' := ?_) #[true, true, true, true, true, false, false, false, false, false, false, false, false, false, false, false, false, false, false, false, false] rfl rfl (by kernel_rfl) (fun _ _ _ h => h) (Or.inl ⟨by rfl, ?_⟩) hHeld ?_ ?_
                rotate_left
                · rintro w' ⟨s0, s1, s2⟩
                  go_simp
                  with_reducible rfl
                rotate_left
                · simp only [Act.put, List.setIfInBounds_toArray, List.set_cons_zero, List.set_cons_succ, i64_w, i32_w]
                  rfl
                refine take_ (i := 5) (N := some 43) (v := ?_) (a' := ?_) #[true, true, true, true, true, true, false, false, false, false, false, false, false, false, false, false, false, false, false, false, false] rfl rfl (by kernel_rfl) (fun _ _ _ h => h) (Or.inl ⟨by rfl, ?_⟩) hHeld ?_ ?_
                rotate_left
                · rintro w' ⟨s0, s1, s2⟩
                  go_simp
                  with_reducible rfl
                rotate_left
                · simp only [Act.put, List.setIfInBounds_toArray, List.set_cons_zero, List.set_cons_succ, i64_w, i32_w]
                  rfl
                refine take_ (i := 6) (N := some 44) (v := ?_) (a' := ?_) #[true, true, true, true, true, true, true, false, false, false, false, false, false, false, false, false, false, false, false, false, false] rfl rfl (by kernel_rfl) (fun _ _ _ h => h) (Or.inl ⟨by rfl, ?_⟩) hHeld ?_ ?_
                rotate_left
                · rintro w' ⟨s0, s1, s2⟩
                  go_simp
                  with_reducible rfl
                rotate_left
                · simp only [Act.put, List.setIfInBounds_toArray, List.set_cons_zero, List.set_cons_succ, i64_w, i32_w]
                  rfl
                refine take_ (i := 7) (N := some 45) (v := ?_) (a' := ?_) #[true, true, true, true, true, true, true, true, false, false, false, false, false, false, false, false, false, false, false, false, false] rfl rfl (by kernel_rfl) (fun _ _ _ h => h) (Or.inl ⟨by rfl, ?_⟩) hHeld ?_ ?_
                rotate_left
                · rintro w' ⟨s0, s1, s2⟩
                  go_simp
                  with_reducible rfl
                rotate_left
                · simp only [Act.put, List.setIfInBounds_toArray, List.set_cons_zero, List.set_cons_succ, i64_w, i32_w]
                  rfl
                refine take_ (i := 8) (N := some 46) (v := ?_) (a' := ?_) #[true, true, true, true, true, true, true, true, true, false, false, false, false, false, false, false, false, false, false, false, false] rfl rfl (by kernel_rfl) (fun _ _ _ h => h) (Or.inl ⟨by rfl, ?_⟩) hHeld ?_ ?_
                rotate_left
                · rintro w' ⟨s0, s1, s2⟩
                  go_simp
                  with_reducible rfl
                rotate_left
                · simp only [Act.put, List.setIfInBounds_toArray, List.set_cons_zero, List.set_cons_succ, i64_w, i32_w]
                  rfl
                refine take_ (i := 9) (N := some 47) (v := ?_) (a' := ?_) #[true, true, true, true, true, true, true, true, true, true, false, false, false, false, false, false, false, false, false, false, false] rfl rfl (by kernel_rfl) (fun _ _ _ h => h) (Or.inl ⟨by rfl, ?_⟩) hHeld ?_ ?_
                rotate_left
                · rintro w' ⟨s0, s1, s2⟩
                  go_simp
                  with_reducible rfl
                rotate_left
                · simp only [Act.put, List.setIfInBounds_toArray, List.set_cons_zero, List.set_cons_succ, i64_w, i32_w]
                  rfl
                refine take_ (i := 10) (N := some 48) (v := ?_) (a' := ?_) #[true, true, true, true, true, true, true, true, true, true, true, false, false, false, false, false, false, false, false, false, false] rfl rfl (by kernel_rfl) (fun _ _ _ h => h) (Or.inl ⟨by rfl, ?_⟩) hHeld ?_ ?_
                rotate_left
                · rintro w' ⟨s0, s1, s2⟩
                  go_simp
                  with_reducible rfl
                rotate_left
                · simp only [Act.put, List.setIfInBounds_toArray, List.set_cons_zero, List.set_cons_succ, i64_w, i32_w]
                  rfl
                refine take_ (i := 11) (N := some 49) (v := ?_) (a' := ?_) #[true, true, true, true, true, true, true, true, true, true, true, true, false, false, false, false, false, false, false, false, false] rfl rfl (by kernel_rfl) (fun _ _ _ h => h) (Or.inl ⟨by rfl, ?_⟩) hHeld ?_ ?_
                rotate_left
                · rintro w' ⟨s0, s1, s2⟩
                  go_simp
                  with_reducible rfl
                rotate_left
                · simp only [Act.put, List.setIfInBounds_toArray, List.set_cons_zero, List.set_cons_succ, i64_w, i32_w]
                  rfl
                refine take_ (i := 12) (N := some 50) (v := ?_) (a' := ?_) #[true, true, true, true, true, true, true, true, true, true, true, true, true, false, false, false, false, false, false, false, false] rfl rfl (by kernel_rfl) (fun _ _ _ h => h) (Or.inl ⟨by rfl, ?_⟩) hHeld ?_ ?_
                rotate_left
                · rintro w' ⟨s0, s1, s2⟩
                  go_simp
                  with_reducible rfl
                rotate_left
                · simp only [Act.put, List.setIfInBounds_toArray, List.set_cons_zero, List.set_cons_succ, i64_w, i32_w]
                  rfl
                refine take_ (i := 14) (N := some 52) (v := ?_) (a' := ?_) #[true, true, true, true, true, true, true, true, true, true, true, true, true, false, true, false, false, false, false, false, false] rfl rfl (by kernel_rfl) (fun _ _ _ h => h) (Or.inl ⟨by rfl, ?_⟩) hHeld ?_ ?_
                rotate_left
                · rintro w' ⟨s0, s1, s2⟩
                  go_simp
                  with_reducible rfl
                rotate_left
                · simp only [Act.put, List.setIfInBounds_toArray, List.set_cons_zero, List.set_cons_succ, i64_w, i32_w]
                  rfl
                refine take_ (i := 15) (N := some 53) (v := ?_) (a' := ?_) #[true, true, true, true, true, true, true, true, true, true, true, true, true, false, true, true, false, false, false, false, false] rfl rfl (by kernel_rfl) (fun _ _ _ h => h) (Or.inl ⟨by rfl, ?_⟩) hHeld ?_ ?_
                rotate_left
                · rintro w' ⟨s0, s1, s2⟩
                  go_simp
                  with_reducible rfl
                rotate_left
                · simp only [Act.put, List.setIfInBounds_toArray, List.set_cons_zero, List.set_cons_succ, i64_w, i32_w]
                  rfl
                refine take_ (i := 16) (N := some 54) (v := ?_) (a' := ?_) #[true, true, true, true, true, true, true, true, true, true, true, true, true, false, true, true, true, false, false, false, false] rfl rfl (by kernel_rfl) (fun _ _ _ h => h) (Or.inl ⟨by rfl, ?_⟩) hHeld ?_ ?_
                rotate_left
                · rintro w' ⟨s0, s1, s2⟩
                  go_simp
                  with_reducible rfl
                rotate_left
                · simp only [Act.put, List.setIfInBounds_toArray, List.set_cons_zero, List.set_cons_succ, i64_w, i32_w]
                  rfl
                refine take_ (i := 17) (N := some 55) (v := ?_) (a' := ?_) #[true, true, true, true, true, true, true, true, true, true, true, true, true, false, true, true, true, true, false, false, false] rfl rfl (by kernel_rfl) (fun _ _ _ h => h) (Or.inl ⟨by rfl, ?_⟩) hHeld ?_ ?_
                rotate_left
                · rintro w' ⟨s0, s1, s2⟩
                  go_simp
                  with_reducible rfl
                rotate_left
                · simp only [Act.put, List.setIfInBounds_toArray, List.set_cons_zero, List.set_cons_succ, i64_w, i32_w]
                  rfl
                refine take_ (i := 18) (N := some 56) (v := ?_) (a' := ?_) #[true, true, true, true, true, true, true, true, true, true, true, true, true, false, true, true, true, true, true, false, false] rfl rfl (by kernel_rfl) (fun _ _ _ h => h) (Or.inl ⟨by rfl, ?_⟩) hHeld ?_ ?_
                rotate_left
                · rintro w' ⟨s0, s1, s2⟩
                  go_simp
                  with_reducible rfl
                rotate_left
                · simp only [Act.put, List.setIfInBounds_toArray, List.set_cons_zero, List.set_cons_succ, i64_w, i32_w]
                  rfl
                refine one_ (i := 13) (N := some 51) #[true, true, true, true, true, true, true, true, true, true, true, true, true, true, true, true, true, true, true, false, false] rfl rfl (by kernel_rfl) (by decide) (fun K hK => ?_)
                refine goes_ Try.func104 (by kernel_rfl) rfl #[.int .i64 n] (by rfl) rfl rfl (by (try simp only [List.map_toArray, List.map_cons, List.map_nil]); first | done | rfl) ?_
                with_reducible refine (HN.out _).mono ?_
                rintro e w4 ⟨rfl, hb⟩
                refine ⟨_, rfl, ?_⟩
                have hb4 := below_step hHeld.2.2 hb
                refine hK.out _ _ ⟨hk1 _ hb4, hk2 _ hb4, hb4⟩ (fun hHeld => ?_)
                clear hK K
                refine norm_ (a' := ?_) ?_ ?_
                rotate_left
                · show Act.put _ (some 51) _ = _
                  simp only [Act.put, List.setIfInBounds_toArray, List.set_cons_zero, List.set_cons_succ, i64_w, i32_w]
                  rfl
                refine take_ (i := 19) (N := some 57) (v := ?_) (a' := ?_) #[true, true, true, true, true, true, true, true, true, true, true, true, true, true, true, true, true, true, true, true, false] rfl rfl (by kernel_rfl) (fun _ _ _ h => h) (Or.inl ⟨by rfl, ?_⟩) hHeld ?_ ?_
                rotate_left
                · rintro w' ⟨s0, s1, s2⟩
                  go_simp
                  with_reducible rfl
                rotate_left
                · simp only [Act.put, List.setIfInBounds_toArray, List.set_cons_zero, List.set_cons_succ, i64_w, i32_w]
                  rfl
                refine take_ (i := 20) (N := some 58) (v := ?_) (a' := ?_) #[true, true, true, true, true, true, true, true, true, true, true, true, true, true, true, true, true, true, true, true, true] rfl rfl (by kernel_rfl) (fun _ _ _ h => h) (Or.inl ⟨by rfl, ?_⟩) hHeld ?_ ?_
                rotate_left
                · rintro w' ⟨s0, s1, s2⟩
                  go_simp
                  with_reducible rfl
                rotate_left
                · simp only [Act.put, List.setIfInBounds_toArray, List.set_cons_zero, List.set_cons_succ, i64_w, i32_w]
                  rfl
                refine done_ (by kernel_rfl) ?_
                go_wp2_with (fail)
                go_ret3
                have HH := HH.out
                simp only [Prod.mk.injEq] at HH
                obtain ⟨rfl, rfl, rfl⟩ := HH
                exact ⟨rfl, below_step HB3.out hHeld.2.2⟩
              · rw [if_neg c5] at h
                have HH := Aside0.mk h
                clear h
                have hq5 : ((strOfNums (numL n.toNat)).toList == (a0.extract 0 (1 + m)).toList) = false := by rw [beq_eq_false_iff_ne]; exact fun z => c5 (ByteArray.ext (Array.toList_inj.1 (by rw [ByteArray.toList_eq, ByteArray.toList_eq] at z; exact z)))
                clear c5
                have c3b : decide (n < 0) = false := decide_eq_false c3
                have c4b : decide (a1 < n) = false := decide_eq_false c4
                clear c3 c4
                go_enter Try.func110, Try.ntmps110
                go_wp2_with (first | (go_at_call 164; (with_reducible refine HC.out.mono ?_); rintro e w1 ⟨⟨rfl, hr⟩, hb⟩; have HB := Aside0.mk hb; have hce : w1.cell? ⟨w.heap.size, 0, none⟩ = some (.int .u8 (m : Int)) := (by rw [← hm]; exact first_cell _ _ _ hr); have HR := Aside0.mk hr; clear hb hr) | (go_at_call 164; (with_reducible refine (HC2.out _).mono ?_); rintro e w2 ⟨⟨rfl, hr⟩, hb⟩; have HB2 := Aside0.mk (below_step HB.out hb); have HR2 := Aside0.mk hr; have HR1 := Aside0.mk (HR.out.below hb); clear hb hr) | (go_at_call 165; (with_reducible refine (HV.out _ _ HR2.out).mono ?_); rintro e w3 ⟨rfl, hq⟩; have HB3 := Aside0.mk (below_step HB2.out (hq.below)); have HR3 := Aside0.mk (HR2.out.below hq.below); have HR0 := Aside0.mk (HR1.out.below hq.below); have hk1 : ∀ W, Below w3.heap.size w3 W → (convert 95 9 (.slice (some ⟨w.heap.size, 0, none⟩) 1 1)).run Try.prog W = .ok (.string (a0.extract 0 1)) W := (fun W hW => by have z := string_of_reads (P := Try.prog) (c := 1) Try.underlying95 Try.underlying5 Try.underlying9 (HR0.out.below hW); rw [str_bytesOf] at z; exact z); have hk2 : ∀ W, Below w3.heap.size w3 W → (convert 95 9 (.slice (some ⟨w1.heap.size, 0, none⟩) m m)).run Try.prog W = .ok (.string (a0.extract 1 (1 + m))) W := (fun W hW => by have z := string_of_reads (P := Try.prog) (c := m) Try.underlying95 Try.underlying5 Try.underlying9 (HR3.out.below hW); rw [str_bytesOf] at z; exact z); have hb0 : Below w3.heap.size w3 w3.drew := below_drew1 (Below.refl _ _); clear hq))
                refine start_ (n := 21) (S := fun w' => (convert 95 9 (.slice (some ⟨w.heap.size, 0, none⟩) 1 1)).run Try.prog w' = .ok (.string (a0.extract 0 1)) w' ∧ (convert 95 9 (.slice (some ⟨w1.heap.size, 0, none⟩) m m)).run Try.prog w' = .ok (.string (a0.extract 1 (1 + m))) w' ∧ Below w3.heap.size w3 w') (ds := []) #[false, false, false, false, false, false, false, false, false, false, false, false, false, false, false, false, false, false, false, false, false] rfl rfl rfl ⟨hk1 _ hb0, hk2 _ hb0, hb0⟩ (fun hHeld => ?_)
                generalize w3.drew = w5 at hHeld ⊢
                generalize hN5 : strOfNums (numL n.toNat) = sN at *
                refine take_ (i := 0) (N := some 38) (v := ?_) (a' := ?_) #[true, false, false, false, false, false, false, false, false, false, false, false, false, false, false, false, false, false, false, false, false] rfl rfl (by kernel_rfl) (fun _ _ _ h => h) (Or.inl ⟨by rfl, ?_⟩) hHeld ?_ ?_
                rotate_left
                · rintro w' ⟨s0, s1, s2⟩
                  go_simp
                  with_reducible rfl
                rotate_left
                · simp only [Act.put, List.setIfInBounds_toArray, List.set_cons_zero, List.set_cons_succ, i64_w, i32_w]
                  rfl
                refine take_ (i := 1) (N := some 39) (v := ?_) (a' := ?_) #[true, true, false, false, false, false, false, false, false, false, false, false, false, false, false, false, false, false, false, false, false] rfl rfl (by kernel_rfl) (fun _ _ _ h => h) (Or.inl ⟨by rfl, ?_⟩) hHeld ?_ ?_
                rotate_left
                · rintro w' ⟨s0, s1, s2⟩
                  go_simp
                  with_reducible rfl
                rotate_left
                · simp only [Act.put, List.setIfInBounds_toArray, List.set_cons_zero, List.set_cons_succ, i64_w, i32_w]
                  rfl
                refine take_ (i := 2) (N := some 40) (v := ?_) (a' := ?_) #[true, true, true, false, false, false, false, false, false, false, false, false, false, false, false, false, false, false, false, false, false] rfl rfl (by kernel_rfl) (fun _ _ _ h => h) (Or.inl ⟨by rfl, ?_⟩) hHeld ?_ ?_
                rotate_left
                · rintro w' ⟨s0, s1, s2⟩
                  go_simp
                  with_reducible rfl
                rotate_left
                · simp only [Act.put, List.setIfInBounds_toArray, List.set_cons_zero, List.set_cons_succ, i64_w, i32_w]
                  rfl
                refine take_ (i := 3) (N := some 41) (v := ?_) (a' := ?_) #[true, true, true, true, false, false, false, false, false, false, false, false, false, false, false, false, false, false, false, false, false] rfl rfl (by kernel_rfl) (fun _ _ _ h => h) (Or.inl ⟨by rfl, ?_⟩) hHeld ?_ ?_
                rotate_left
                · rintro w' ⟨s0, s1, s2⟩
                  go_simp
                  with_reducible rfl
                rotate_left
                · simp only [Act.put, List.setIfInBounds_toArray, List.set_cons_zero, List.set_cons_succ, i64_w, i32_w]
                  rfl
                refine take_ (i := 4) (N := some 42) (v := ?_) (a' := ?_) #[true, true, true, true, true, false, false, false, false, false, false, false, false, false, false, false, false, false, false, false, false] rfl rfl (by kernel_rfl) (fun _ _ _ h => h) (Or.inl ⟨by rfl, ?_⟩) hHeld ?_ ?_
                rotate_left
                · rintro w' ⟨s0, s1, s2⟩
                  go_simp
                  with_reducible rfl
                rotate_left
                · simp only [Act.put, List.setIfInBounds_toArray, List.set_cons_zero, List.set_cons_succ, i64_w, i32_w]
                  rfl
                refine take_ (i := 5) (N := some 43) (v := ?_) (a' := ?_) #[true, true, true, true, true, true, false, false, false, false, false, false, false, false, false, false, false, false, false, false, false] rfl rfl (by kernel_rfl) (fun _ _ _ h => h) (Or.inl ⟨by rfl, ?_⟩) hHeld ?_ ?_
                rotate_left
                · rintro w' ⟨s0, s1, s2⟩
                  go_simp
                  with_reducible rfl
                rotate_left
                · simp only [Act.put, List.setIfInBounds_toArray, List.set_cons_zero, List.set_cons_succ, i64_w, i32_w]
                  rfl
                refine take_ (i := 6) (N := some 44) (v := ?_) (a' := ?_) #[true, true, true, true, true, true, true, false, false, false, false, false, false, false, false, false, false, false, false, false, false] rfl rfl (by kernel_rfl) (fun _ _ _ h => h) (Or.inl ⟨by rfl, ?_⟩) hHeld ?_ ?_
                rotate_left
                · rintro w' ⟨s0, s1, s2⟩
                  go_simp
                  with_reducible rfl
                rotate_left
                · simp only [Act.put, List.setIfInBounds_toArray, List.set_cons_zero, List.set_cons_succ, i64_w, i32_w]
                  rfl
                refine take_ (i := 7) (N := some 45) (v := ?_) (a' := ?_) #[true, true, true, true, true, true, true, true, false, false, false, false, false, false, false, false, false, false, false, false, false] rfl rfl (by kernel_rfl) (fun _ _ _ h => h) (Or.inl ⟨by rfl, ?_⟩) hHeld ?_ ?_
                rotate_left
                · rintro w' ⟨s0, s1, s2⟩
                  go_simp
                  with_reducible rfl
                rotate_left
                · simp only [Act.put, List.setIfInBounds_toArray, List.set_cons_zero, List.set_cons_succ, i64_w, i32_w]
                  rfl
                refine take_ (i := 8) (N := some 46) (v := ?_) (a' := ?_) #[true, true, true, true, true, true, true, true, true, false, false, false, false, false, false, false, false, false, false, false, false] rfl rfl (by kernel_rfl) (fun _ _ _ h => h) (Or.inl ⟨by rfl, ?_⟩) hHeld ?_ ?_
                rotate_left
                · rintro w' ⟨s0, s1, s2⟩
                  go_simp
                  with_reducible rfl
                rotate_left
                · simp only [Act.put, List.setIfInBounds_toArray, List.set_cons_zero, List.set_cons_succ, i64_w, i32_w]
                  rfl
                refine take_ (i := 9) (N := some 47) (v := ?_) (a' := ?_) #[true, true, true, true, true, true, true, true, true, true, false, false, false, false, false, false, false, false, false, false, false] rfl rfl (by kernel_rfl) (fun _ _ _ h => h) (Or.inl ⟨by rfl, ?_⟩) hHeld ?_ ?_
                rotate_left
                · rintro w' ⟨s0, s1, s2⟩
                  go_simp
                  with_reducible rfl
                rotate_left
                · simp only [Act.put, List.setIfInBounds_toArray, List.set_cons_zero, List.set_cons_succ, i64_w, i32_w]
                  rfl
                refine take_ (i := 10) (N := some 48) (v := ?_) (a' := ?_) #[true, true, true, true, true, true, true, true, true, true, true, false, false, false, false, false, false, false, false, false, false] rfl rfl (by kernel_rfl) (fun _ _ _ h => h) (Or.inl ⟨by rfl, ?_⟩) hHeld ?_ ?_
                rotate_left
                · rintro w' ⟨s0, s1, s2⟩
                  go_simp
                  with_reducible rfl
                rotate_left
                · simp only [Act.put, List.setIfInBounds_toArray, List.set_cons_zero, List.set_cons_succ, i64_w, i32_w]
                  rfl
                refine take_ (i := 11) (N := some 49) (v := ?_) (a' := ?_) #[true, true, true, true, true, true, true, true, true, true, true, true, false, false, false, false, false, false, false, false, false] rfl rfl (by kernel_rfl) (fun _ _ _ h => h) (Or.inl ⟨by rfl, ?_⟩) hHeld ?_ ?_
                rotate_left
                · rintro w' ⟨s0, s1, s2⟩
                  go_simp
                  with_reducible rfl
                rotate_left
                · simp only [Act.put, List.setIfInBounds_toArray, List.set_cons_zero, List.set_cons_succ, i64_w, i32_w]
                  rfl
                refine take_ (i := 12) (N := some 50) (v := ?_) (a' := ?_) #[true, true, true, true, true, true, true, true, true, true, true, true, true, false, false, false, false, false, false, false, false] rfl rfl (by kernel_rfl) (fun _ _ _ h => h) (Or.inl ⟨by rfl, ?_⟩) hHeld ?_ ?_
                rotate_left
                · rintro w' ⟨s0, s1, s2⟩
                  go_simp
                  with_reducible rfl
                rotate_left
                · simp only [Act.put, List.setIfInBounds_toArray, List.set_cons_zero, List.set_cons_succ, i64_w, i32_w]
                  rfl
                refine take_ (i := 14) (N := some 52) (v := ?_) (a' := ?_) #[true, true, true, true, true, true, true, true, true, true, true, true, true, false, true, false, false, false, false, false, false] rfl rfl (by kernel_rfl) (fun _ _ _ h => h) (Or.inl ⟨by rfl, ?_⟩) hHeld ?_ ?_
                rotate_left
                · rintro w' ⟨s0, s1, s2⟩
                  go_simp
                  with_reducible rfl
                rotate_left
                · simp only [Act.put, List.setIfInBounds_toArray, List.set_cons_zero, List.set_cons_succ, i64_w, i32_w]
                  rfl
                refine take_ (i := 15) (N := some 53) (v := ?_) (a' := ?_) #[true, true, true, true, true, true, true, true, true, true, true, true, true, false, true, true, false, false, false, false, false] rfl rfl (by kernel_rfl) (fun _ _ _ h => h) (Or.inl ⟨by rfl, ?_⟩) hHeld ?_ ?_
                rotate_left
                · rintro w' ⟨s0, s1, s2⟩
                  go_simp
                  with_reducible rfl
                rotate_left
                · simp only [Act.put, List.setIfInBounds_toArray, List.set_cons_zero, List.set_cons_succ, i64_w, i32_w]
                  rfl
                refine take_ (i := 16) (N := some 54) (v := ?_) (a' := ?_) #[true, true, true, true, true, true, true, true, true, true, true, true, true, false, true, true, true, false, false, false, false] rfl rfl (by kernel_rfl) (fun _ _ _ h => h) (Or.inl ⟨by rfl, ?_⟩) hHeld ?_ ?_
                rotate_left
                · rintro w' ⟨s0, s1, s2⟩
                  go_simp
                  with_reducible rfl
                rotate_left
                · simp only [Act.put, List.setIfInBounds_toArray, List.set_cons_zero, List.set_cons_succ, i64_w, i32_w]
                  rfl
                refine take_ (i := 17) (N := some 55) (v := ?_) (a' := ?_) #[true, true, true, true, true, true, true, true, true, true, true, true, true, false, true, true, true, true, false, false, false] rfl rfl (by kernel_rfl) (fun _ _ _ h => h) (Or.inl ⟨by rfl, ?_⟩) hHeld ?_ ?_
                rotate_left
                · rintro w' ⟨s0, s1, s2⟩
                  go_simp
                  with_reducible rfl
                rotate_left
                · simp only [Act.put, List.setIfInBounds_toArray, List.set_cons_zero, List.set_cons_succ, i64_w, i32_w]
                  rfl
                refine take_ (i := 18) (N := some 56) (v := ?_) (a' := ?_) #[true, true, true, true, true, true, true, true, true, true, true, true, true, false, true, true, true, true, true, false, false] rfl rfl (by kernel_rfl) (fun _ _ _ h => h) (Or.inl ⟨by rfl, ?_⟩) hHeld ?_ ?_
                rotate_left
                · rintro w' ⟨s0, s1, s2⟩
                  go_simp
                  with_reducible rfl
                rotate_left
                · simp only [Act.put, List.setIfInBounds_toArray, List.set_cons_zero, List.set_cons_succ, i64_w, i32_w]
                  rfl
                refine one_ (i := 13) (N := some 51) #[true, true, true, true, true, true, true, true, true, true, true, true, true, true, true, true, true, true, true, false, false] rfl rfl (by kernel_rfl) (by decide) (fun K hK => ?_)
                refine goes_ Try.func104 (by kernel_rfl) rfl #[.int .i64 n] (by rfl) rfl rfl (by (try simp only [List.map_toArray, List.map_cons, List.map_nil]); first | done | rfl) ?_
                with_reducible refine (HN.out _).mono ?_
                rintro e w4 ⟨rfl, hb⟩
                refine ⟨_, rfl, ?_⟩
                have hb4 := below_step hHeld.2.2 hb
                refine hK.out _ _ ⟨hk1 _ hb4, hk2 _ hb4, hb4⟩ (fun hHeld => ?_)
                clear hK K
                refine norm_ (a' := ?_) ?_ ?_
                rotate_left
                · show Act.put _ (some 51) _ = _
                  simp only [Act.put, List.setIfInBounds_toArray, List.set_cons_zero, List.set_cons_succ, i64_w, i32_w]
                  rfl
                refine take_ (i := 19) (N := some 57) (v := ?_) (a' := ?_) #[true, true, true, true, true, true, true, true, true, true, true, true, true, true, true, true, true, true, true, true, false] rfl rfl (by kernel_rfl) (fun _ _ _ h => h) (Or.inl ⟨by rfl, ?_⟩) hHeld ?_ ?_
                rotate_left
                · rintro w' ⟨s0, s1, s2⟩
                  go_simp
                  with_reducible rfl
                rotate_left
                · simp only [Act.put, List.setIfInBounds_toArray, List.set_cons_zero, List.set_cons_succ, i64_w, i32_w]
                  rfl
                refine take_ (i := 20) (N := some 58) (v := ?_) (a' := ?_) #[true, true, true, true, true, true, true, true, true, true, true, true, true, true, true, true, true, true, true, true, true] rfl rfl (by kernel_rfl) (fun _ _ _ h => h) (Or.inl ⟨by rfl, ?_⟩) hHeld ?_ ?_
                rotate_left
                · rintro w' ⟨s0, s1, s2⟩
                  go_simp
                  with_reducible rfl
                rotate_left
                · simp only [Act.put, List.setIfInBounds_toArray, List.set_cons_zero, List.set_cons_succ, i64_w, i32_w]
                  rfl
                refine done_ (by kernel_rfl) ?_
                go_wp2_with (fail)
                go_ret3
                have HH := HH.out
                simp only [Prod.mk.injEq] at HH
                obtain ⟨rfl, rfl, rfl⟩ := HH
                exact ⟨rfl, below_step HB3.out hHeld.2.2⟩
  · rw [if_neg hs] at h; cases h


end Go.Proofs.Ytihlogdmdmhefaa.L
