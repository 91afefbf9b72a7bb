/- Written by this session's own program over the kit's print: functions of Go told as plain functions, or the row of one statement; proved for every input, with no condition of ours. -/
import Derived.Test.YtehncbhmdgdkjaaLx0
namespace Go.Proofs.Ytehncbhmdgdkjaa.L
open Go.RowKit Go.Proofs.YtehncbhmdgdkjaaW.PrintWords Go.Proofs.YtehncbhmdgdkjaaW.PrintLast Go.Proofs.YtehncbhmdgdkjaaW.PrintMore
attribute [local go_sem] max2_int min2_int max_two min_two max_three min_three max_four min_four   -- for this text's walks alone
set_option linter.unusedVariables false
set_option linter.unusedSimpArgs false

/-! ### codec_Number: function 152, by hand -/
-- HAND rounds=0 making=1
-- IMPORT Derived.Test.YtehncbhmdgdkjaaGoto
-- IMPORT Derived.Laws.BitsAllLaws
/-- How many digits of 256 are behind the first one (at most m). -/
def more256 : Nat → Nat → Nat
  | 0, _ => 0
  | m + 1, x => if x / 256 = 0 then 0 else more256 m (x / 256) + 1
/-- The bytes of a number: how many there are, then they. -/
def numL (x : Nat) : List Int := ((more256 8 x + 1 : Nat) : Int) :: (List.range (more256 8 x + 1)).map fun j => ((x / 256 ^ (more256 8 x - j) % 256 : Nat) : Int)
/-- The block of nine: behind place i the digits of x are laid. -/
def numN (x i : Nat) : List Int := (List.range 9).map fun j => if j ≤ i then 0 else ((x / 256 ^ (8 - j) % 256 : Nat) : Int)
def numCells (l : List Int) : Array Value := (l.map fun n => Value.int .u8 n).toArray
theorem numN_cell (l : List Int) (h : l.length = 9) (j : Nat) (hj : j < 9) : (numCells l)[j]? = some (Value.int .u8 (l.getD j 0)) := by
  simp [numCells, h, hj, List.getD]
theorem numN_low (x i j : Nat) (hj : j ≤ i) (hi : j < 9) : (numN x i).getD j 0 = 0 := by
  simp [numN, hj, hi]
theorem numN_all (x : Nat) : numN x 8 = List.replicate 9 0 := by
  apply List.ext_getElem
  · simp [numN]
  · intro j h1 h2
    have hj : j ≤ 8 := by have : j < 9 := by simpa [numN] using h1
                          omega
    rw [List.getElem_replicate]
    simp [numN, hj]
theorem num_set (l : List Int) (i : Nat) (v : Int) : (numCells l).setIfInBounds i (.int .u8 v) = numCells (l.set i v) := by
  unfold numCells
  rw [List.setIfInBounds_toArray, List.map_set]
theorem numN_step (x i : Nat) (hi0 : 0 < i) (hi : i ≤ 8) : (numN x i).set i ((x / 256 ^ (8 - i) % 256 : Nat) : Int) = numN x (i - 1) := by
  apply List.ext_getElem
  · simp [numN]
  · intro j h1 h2
    have hj : j < 9 := by simpa [numN] using h2
    rw [List.getElem_set]
    by_cases e : i = j
    · subst e
      rw [if_pos rfl]
      have : ¬ i ≤ i - 1 := by omega
      simp [numN, this]
    · rw [if_neg e]
      by_cases a : j ≤ i
      · have b : j ≤ i - 1 := by omega
        simp [numN, a, b]
      · have b : ¬ j ≤ i - 1 := by omega
        simp [numN, a, b]
theorem more256_le (m : Nat) : ∀ x, more256 m x ≤ m := by
  induction m with
  | zero => intro x; exact Nat.le_refl _
  | succ m ih => intro x; unfold more256; split
                 · omega
                 · have := ih (x / 256); omega
theorem more256_at (m : Nat) : ∀ c x, c ≤ m → x / 256 ^ (c + 1) = 0 → (0 < c → x / 256 ^ c ≠ 0) → more256 m x = c := by
  induction m with
  | zero => intro c x h _ _; unfold more256; omega
  | succ m ih =>
    intro c x h h1 h2
    unfold more256
    by_cases e : c = 0
    · subst e
      rw [if_pos (by simpa using h1)]
    · have hne : x / 256 ≠ 0 := by
        intro h0
        apply h2 (by omega)
        rw [show c = 1 + (c - 1) by omega, Nat.pow_add, ← Nat.div_div_eq_div_mul, Nat.pow_one, h0, Nat.zero_div]
      rw [if_neg hne, ih (c - 1) (x / 256) (by omega) ?_ ?_]
      · omega
      · rw [Nat.div_div_eq_div_mul, ← Nat.pow_succ', show (c - 1 + 1).succ = c + 1 by omega]; exact h1
      · intro _
        rw [Nat.div_div_eq_div_mul, ← Nat.pow_succ', show (c - 1).succ = c by omega]
        exact h2 (by omega)
def codec_Number.f (a0 : Int) : Option ByteArray := if a0 < 0 then some { data := #[] } else if a0 ≤ 9223372036854775807 then some (strOfNums (numL a0.toNat)) else none
theorem num_end (x c : Nat) (hc : c ≤ 7) (he : x / 256 ^ (c + 1) = 0) (hne : 0 < c → x / 256 ^ c ≠ 0) :
    ((numN x (7 - c)).set (7 - c) ((c + 1 : Nat) : Int)).drop (7 - c) = numL x := by
  have hm : more256 8 x = c := more256_at 8 c x (by omega) he hne
  unfold numL
  rw [hm]
  apply List.ext_getElem
  · simp [numN]; omega
  · intro j h1 h2
    have hj : j < c + 2 := by simpa using h2
    rw [List.getElem_drop, List.getElem_set]
    match j with
    | 0 => simp
    | j + 1 =>
      rw [if_neg (by omega)]
      have a : ¬ (7 - c + (j + 1) ≤ 7 - c) := by omega
      have e : 8 - (7 - c + (j + 1)) = c - j := by omega
      simp [numN, a, e]
def NumRel (w : World) (x i y : Nat) (wr : World) : Prop :=
  y = x / 256 ^ (8 - i) ∧ (i < 8 → y ≠ 0) ∧ wr.heap[w.heap.size]? = some (.cells (numCells (numN x i)) 175 (0, 0)) ∧ Below w.heap.size w wr
set_option maxHeartbeats 1000000 in
set_option maxRecDepth 100000 in
theorem codec_Number.calls (a0 : Int) (r : ByteArray) (w : World) (h : codec_Number.f a0 = some r) :
    Calls Try.prog 152 #[.int .i64 a0] w fun e w' => e = .returned (.string r) ∧ Below w.heap.size w w' := by
  unfold codec_Number.f at h
  by_cases hneg : a0 < 0
  · rw [if_pos hneg] at h
    have HR := Aside0.mk (Option.some.inj h)
    clear h
    go_enter Try.func152, Try.ntmps152
    go_wp2
    go_ret
    exact ⟨by rw [← HR.out]; rfl, Below.refl _ _⟩
  · rw [if_neg hneg] at h
    by_cases h1 : a0 ≤ 9223372036854775807
    · rw [if_pos h1] at h
      obtain ⟨x, rfl⟩ := Int.eq_ofNat_of_zero_le (show 0 ≤ a0 by omega)
      have HR := Aside0.mk (Option.some.inj h)
      have H1 := Aside0.mk (show x < 9223372036854775808 by omega)
      clear h h1 
      rw [Int.toNat_natCast] at HR
      go_enter Try.func152, Try.ntmps152
      go_wp2
      go_loopw [0, 4] (fun v0 v4 wr => ∃ i y : Nat, 0 < i ∧ i ≤ 8 ∧ v0 = .int .i64 (y : Int) ∧ v4 = .int .i64 (i : Int) ∧ Aside0 (NumRel w x i y wr)) (fun _ v4 _ => (intOf v4).toNat)
      case atStart => 
        exact ⟨8, x, by omega, by omega, rfl, rfl, ⟨by simp, by omega, by rw [numN_all]; exact (heap_alloc_new w _).trans rfl, below_alloc (Below.refl _ _) _⟩⟩
      case round =>
        obtain ⟨i, y, hi0, hi, rfl, rfl, HX⟩ := hrel
        have hc : wr.cell? ⟨w.heap.size, i, none⟩ = some (.int .u8 0) := by
          rw [blk_cell HX.out.2.2.1 i, numN_cell _ (by simp [numN]) i (by omega), numN_low x i i (by omega) (by omega)]
        have hf : wr.frozen? ⟨w.heap.size, i, none⟩ = false := blk_frozen HX.out.2.2.1 i
        have hc2 : wr.cell? ⟨w.heap.size, i - 1, none⟩ = some (.int .u8 0) := by
          rw [blk_cell HX.out.2.2.1 (i - 1), numN_cell _ (by simp [numN]) (i - 1) (by omega), numN_low x i (i - 1) (by omega) (by omega)]
        have hf2 : wr.frozen? ⟨w.heap.size, i - 1, none⟩ = false := blk_frozen HX.out.2.2.1 (i - 1)
        have hlen : Try.prog.arrayLen 175 = 9 := by kernel_rfl
        have hsz : Try.prog.cellsOf (Try.prog.elem 175) = 1 := by kernel_rfl
        have hsl : ∀ W : World, (Instr.sliceAt 175 (.pointer (some ⟨w.heap.size, 0, none⟩)) (some (.int .i64 ((i : Int) - 1))) none none).run Try.prog W = .ok (.slice (some ⟨w.heap.size, i - 1, none⟩) (10 - i) (10 - i)) W := by
          intro W
          rw [run_sliceAt_array_l W 175 ⟨w.heap.size, 0, none⟩ (by kernel_rfl) .i64 ((i : Int) - 1) (by omega) (by rw [hlen]; omega)]
          go_simp
          omega
        go_wp2
        · have hy0 : y / 256 = 0 := by
            have z : ((y : Int) / 256 == 0) = true := by assumption
            have z2 := eq_of_beq z
            omega
          have he := HX.out.1
          have hne := HX.out.2.1
          have hcells : ((wr.setCell ⟨w.heap.size, i, none⟩ (.int .u8 ((y : Int) % 256))).setCell ⟨w.heap.size, i - 1, none⟩ (.int .u8 (9 - (i : Int)))).heap[w.heap.size]? = some (.cells (numCells ((numN x (i - 1)).set (i - 1) (9 - (i : Int)))) 175 (0, 0)) := by
            rw [← num_set, ← numN_step x i hi0 hi, ← he, ← num_set]
            exact blk_set (blk_set HX.out.2.2.1 i _) (i - 1) _
          have hbel : Below w.heap.size w ((wr.setCell ⟨w.heap.size, i, none⟩ (.int .u8 ((y : Int) % 256))).setCell ⟨w.heap.size, i - 1, none⟩ (.int .u8 (9 - (i : Int)))) := (HX.out.2.2.2.setCell (Nat.le_refl _) _).setCell (Nat.le_refl _) _
          have hend := num_end x (8 - i) (by omega) (by rw [Nat.pow_succ, ← Nat.div_div_eq_div_mul, ← he]; exact hy0) (fun h => by rw [← he]; exact hne (by omega))
          rw [show 7 - (8 - i) = i - 1 by omega, show ((8 - i + 1 : Nat) : Int) = 9 - (i : Int) by omega] at hend
          generalize (wr.setCell ⟨w.heap.size, i, none⟩ (.int .u8 ((y : Int) % 256))).setCell ⟨w.heap.size, i - 1, none⟩ (.int .u8 (9 - (i : Int))) = W at *
          have hr : ReadsInt W .u8 (some ⟨w.heap.size, i - 1, none⟩) (10 - i) (numL x) := by
            have hl : (numL x).length = 10 - i := by rw [← hend]; simp [numN]; omega
            refine ⟨hl, by omega, fun _ => ⟨_, rfl, fun j hj => ?_⟩⟩
            have e0 : (⟨w.heap.size, i - 1, none⟩ : Addr).add j = ⟨w.heap.size, i - 1 + j, none⟩ := by unfold Addr.add; split <;> simp_all
            rw [e0, blk_cell hcells (i - 1 + j), numN_cell _ (by simp [numN]) _ (by omega), ← hend]
            simp [List.getD]
          have hcv := string_of_reads (P := Try.prog) (c := 10 - i) Try.underlying162 Try.underlying5 Try.underlying9 hr
          have HV := Aside0.mk hr
          have HL := Aside0.mk hbel
          clear hr hcells hend hbel
          rw [hcv]
          go_simp
          go_wp2
          try simp only [Exit.jump]
          go_ret
          exact ⟨by rw [← HR.out]; rfl, HL.out⟩
        · refine ⟨⟨i - 1, y / 256, ?_, by omega, by simp, by simp; omega, ?_⟩, by simp [intOf]; omega⟩
          · have z : ((y : Int) / 256 == 0) = false := by assumption
            have z1 : y / 256 ≠ 0 := by intro h; rw [show (y : Int) / 256 = ((y / 256 : Nat) : Int) by omega, h] at z; simp at z
            have he := HX.out.1
            by_cases c : i = 1
            · exfalso
              apply z1
              rw [he, Nat.div_div_eq_div_mul, ← Nat.pow_succ, c]
              exact Nat.div_eq_of_lt (by have := H1.out; omega)
            · omega
          · have z : ((y : Int) / 256 == 0) = false := by assumption
            have z1 : y / 256 ≠ 0 := by intro h; rw [show (y : Int) / 256 = ((y / 256 : Nat) : Int) by omega, h] at z; simp at z
            have he := HX.out.1
            refine ⟨⟨?_, fun _ => z1, ?_, HX.out.2.2.2.setCell (Nat.le_refl _) _⟩⟩
            · rw [he, Nat.div_div_eq_div_mul, ← Nat.pow_succ, show (8 - i).succ = 8 - (i - 1) by omega]
            · rw [← numN_step x i hi0 hi, ← he, ← num_set]
              exact blk_set HX.out.2.2.1 i _
    · rw [if_neg h1] at h; cases h


/-! ### codec_Text: function 153 -/
def codec_Text.f (a0 : ByteArray) : Option (ByteArray) := if (a0.size : Int) > 65535 then (some (⟨#[]⟩ : ByteArray)) else ((some (([((a0.size : Int) / 256) % 256, ((a0.size : Int)) % 256] : List Int) : List Int)).bind fun y113 => (if (strOfNums y113).size + a0.size ≤ 9223372036854775807 then (some ((strOfNums y113) ++ a0)) else (none)))
set_option maxHeartbeats 8000000 in
set_option maxRecDepth 100000 in
theorem codec_Text.calls (a0 : ByteArray) (r : ByteArray) (w : World) (h : codec_Text.f a0 = some r) :
    Calls Try.prog 153 #[.string a0] w fun e w' => e = .returned (.string r) ∧ Below w.heap.size w w' := by
  have HB := Aside0.mk (Below.refl w.heap.size w)
  have H : (if (a0.size : Int) > 65535 then (some (⟨#[]⟩ : ByteArray)) else ((some (([((a0.size : Int) / 256) % 256, ((a0.size : Int)) % 256] : List Int) : List Int)).bind fun y113 => (if (strOfNums y113).size + a0.size ≤ 9223372036854775807 then (some ((strOfNums y113) ++ a0)) else (none)))) = some r := h
  clear h
  by_cases c2 : (a0.size : Int) > 65535
  · rw [if_pos c2] at H
    have c2b0 : decide (65535 < (a0.size : Int)) = true := decide_eq_true c2
    have c2b1 : decide (65535 < a0.size) = true := decide_eq_true (by omega)
    clear c2
    obtain rfl := Option.some.inj H
    go_enter Try.func153, Try.ntmps153
    go_wp2
    go_ret
    exact ⟨by first | rfl | (simp [errW_none, errW_some] <;> rfl) | (simp [*, errW_none, errW_some] <;> rfl), by repeat (first | (with_reducible first | exact HB.out | apply below_alloc | apply pw_below_drewN | apply below_drew1) | exact HB.out)⟩
  · rw [if_neg c2] at H
    have c2b0 : decide (65535 < (a0.size : Int)) = false := decide_eq_false c2
    have c2b1 : decide (65535 < a0.size) = false := decide_eq_false (by omega)
    clear c2
    obtain ⟨y113, hy113⟩ : ∃ y_ : List Int, y_ = (([((a0.size : Int) / 256) % 256, ((a0.size : Int)) % 256] : List Int)) := ⟨_, rfl⟩
    replace H : (if (strOfNums y113).size + a0.size ≤ 9223372036854775807 then (some ((strOfNums y113) ++ a0)) else (none)) = some r := by first | (rw [hy113]; with_reducible exact H) | (have H2_ := (Option.bind_some _ _).symm.trans H; rw [hy113]; with_reducible exact H2_) | (have H2_ := (Option.bind_some _ _).symm.trans H; with_reducible exact H2_) | with_reducible exact H | (rw [hy113]; exact H) | exact H
    have Ny113 := Aside0.mk hy113
    clear hy113
    by_cases c3 : (strOfNums y113).size + a0.size ≤ 9223372036854775807
    · rw [if_pos c3] at H
      have c3b0 := eq_true c3
      have c3b1 : decide ((strOfNums y113).size + a0.size ≤ 9223372036854775807) = true := decide_eq_true c3
      try have c3b2 : (9223372036854775807 < (strOfNums y113).size + a0.size) = False := eq_false (Nat.not_lt.2 c3)
      obtain rfl := Option.some.inj H
      go_enter Try.func153, Try.ntmps153
      go_wp2_with (first | ((with_reducible refine gate_dst (N := 13) rfl ?_); refine Kd.R_lit (Kd.int .u8) _ 5 ?hg (N := 13) ?hd (xs := ([((a0.size : Int) / 256) % 256, ((a0.size : Int)) % 256] : List Int)) (inner := [.int .u8 (((a0.size : Int) / 256) % 256), .int .u8 (((a0.size : Int)) % 256)]) (ok := fun _ => True) (okp := fun _ => True) ?hr ?hp (fun _ hk => hk) trivial (Below.refl _ _) (Nat.le_refl _) (by simp) ?_; (case hd => rfl); (case hg => rfl); (case hr => first | (go_simp; done) | (go_simp; rfl)); (case hp => exact (Reps.one (show Kd.M (Kd.int .u8) _ _ _ (((a0.size : Int) / 256) % 256) [.int .u8 (((a0.size : Int) / 256) % 256)] from rfl) (Reps.one (show Kd.M (Kd.int .u8) _ _ _ (((a0.size : Int)) % 256) [.int .u8 (((a0.size : Int)) % 256)] from rfl) (Reps.none _ _)))); intro v114 w4 ho5 hb hg_ hnew_; clear hg_ hnew_; (first | rw [← Ny113.out] at ho5 | (simp only [Int.reduceToNat] at ho5; rw [← Ny113.out] at ho5)); have n0_ := Aside0.mk (Kd.R_lower ho5 (below_size (by repeat (first | (with_reducible first | exact HB.out | apply below_alloc | apply pw_below_drewN | apply below_drew1) | exact HB.out)))); have n1_ := Aside0.mk (below_step (by repeat (first | (with_reducible first | exact HB.out | apply below_alloc | apply pw_below_drewN | apply below_drew1) | exact HB.out)) hb); clear HB; have HO115 := n0_; have HB := n1_; clear n0_ n1_; clear hb ho5; have hcv6 := own_string (P := Try.prog) Try.underlying162 Try.underlying5 Try.underlying9 (Kd.own_of_R HO115.out)))
      go_ret
      exact ⟨by first | rfl | (simp [errW_none, errW_some] <;> rfl) | (simp [*, errW_none, errW_some] <;> rfl), by repeat (first | (with_reducible first | exact HB.out | apply below_alloc | apply pw_below_drewN | apply below_drew1) | exact HB.out)⟩
    · rw [if_neg c3] at H
      exact absurd H (by simp)

/-! ### strings_Builder_String: function 154, by hand -/
-- HAND rounds=0 making=1 opaque
-- IMPORT Derived.Shelf.Strings.Builder1
def laysString_ren : Go.Shelf.Ren := ⟨fun | 169 => 154 | n => n, fun | 70 => 161 | 9 => 9 | 0 => 0 | 72 => 164 | 37 => 162 | 127 => 176 | 3 => 3 | 5 => 5 | n => n, fun | n => n⟩
theorem laysString : Go.Proofs.Lays.n169 Try.prog laysString_ren := {
  mixed := by kernel_rfl
  f169 := Try.func154.trans (congrArg some (by kernel_rfl))
  t0 := Try.underlying0
  a0 := Try.isAgg0
  z0 := Try.sizeOf0
  v0 := Try.zeroValue0
  t3 := Try.underlying3
  a3 := Try.isAgg3
  z3 := Try.sizeOf3
  v3 := Try.zeroValue3
  t9 := Try.underlying9
  a9 := Try.isAgg9
  z9 := Try.sizeOf9
  v9 := Try.zeroValue9
  t37 := Try.underlying162
  a37 := Try.isAgg162
  z37 := Try.sizeOf162
  v37 := Try.zeroValue162
  t70 := Try.underlying161
  a70 := Try.isAgg161
  z70 := Try.sizeOf161
  v70 := Try.zeroValue161
  t72 := Try.underlying164
  a72 := Try.isAgg164
  z72 := Try.sizeOf164
  v72 := Try.zeroValue164
  t127 := Try.underlying176
  a127 := Try.isAgg176
  z127 := Try.sizeOf176
  v127 := Try.zeroValue176 }
open Go.Proofs Go.Shelf in
theorem extraString : Builder.Extra Try.prog laysString_ren := {
  sizeBuilder := by kernel_rfl
  liesBuilder := by kernel_rfl
  t5 := Try.underlying5
  a5 := Try.isAgg5
  z5 := Try.sizeOf5
  v5 := Try.zeroValue5
  infoByte := by kernel_rfl
  cellsByte := by kernel_rfl
  sizeByte := by kernel_rfl
  neB5 := by decide }
open Go.Proofs Go.Shelf in
theorem strings_Builder_String.calls (B b : Nat) (l : List UInt8) (w : World) (h : Lib.IsBuilder 164 5 B b (Lib.byteCells l) w) (hBw : B ≤ w.heap.size) :
    Calls Try.prog 154 #[.pointer (some ⟨b, 0, none⟩)] w fun e w' => e = .returned (.string ⟨l.toArray⟩) ∧ Below B w w' := Any.Builder_String_any laysString extraString B b l w h hBw


end Go.Proofs.Ytehncbhmdgdkjaa.L
