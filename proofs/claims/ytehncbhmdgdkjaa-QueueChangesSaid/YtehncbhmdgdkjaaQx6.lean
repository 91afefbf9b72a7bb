/- Written by this session's own program over the kit's print: functions of Go told as plain functions, or the row of one statement; proved for every input, with no condition of ours. -/
import Derived.Test.YtehncbhmdgdkjaaQx0
import Derived.Test.YtehncbhmdgdkjaaQx5
namespace Go.Proofs.Ytehncbhmdgdkjaa.Q
open Go.RowKit Go.Proofs.YtehncbhmdgdkjaaW.PrintWords Go.Proofs.YtehncbhmdgdkjaaW.PrintLast Go.Proofs.YtehncbhmdgdkjaaW.PrintMore
attribute [local go_sem] max2_int min2_int max_two min_two max_three min_three max_four min_four   -- for this text's walks alone
set_option linter.unusedVariables false
set_option linter.unusedSimpArgs false

/-! ### codec_Number: function 152, by hand -/
-- HAND rounds=0 making=1
-- IMPORT Derived.Test.YtehncbhmdgdkjaaGoto
-- IMPORT Derived.Laws.BitsAllLaws
/-- How many digits of 256 are behind the first one (at most m). -/
def more256 : Nat → Nat → Nat
  | 0, _ => 0
  | m + 1, x => if x / 256 = 0 then 0 else more256 m (x / 256) + 1
/-- The bytes of a number: how many there are, then they. -/
def numL (x : Nat) : List Int := ((more256 8 x + 1 : Nat) : Int) :: (List.range (more256 8 x + 1)).map fun j => ((x / 256 ^ (more256 8 x - j) % 256 : Nat) : Int)
/-- The block of nine: behind place i the digits of x are laid. -/
def numN (x i : Nat) : List Int := (List.range 9).map fun j => if j ≤ i then 0 else ((x / 256 ^ (8 - j) % 256 : Nat) : Int)
def numCells (l : List Int) : Array Value := (l.map fun n => Value.int .u8 n).toArray
theorem numN_cell (l : List Int) (h : l.length = 9) (j : Nat) (hj : j < 9) : (numCells l)[j]? = some (Value.int .u8 (l.getD j 0)) := by
  simp [numCells, h, hj, List.getD]
theorem numN_low (x i j : Nat) (hj : j ≤ i) (hi : j < 9) : (numN x i).getD j 0 = 0 := by
  simp [numN, hj, hi]
theorem numN_all (x : Nat) : numN x 8 = List.replicate 9 0 := by
  apply List.ext_getElem
  · simp [numN]
  · intro j h1 h2
    have hj : j ≤ 8 := by have : j < 9 := by simpa [numN] using h1
                          omega
    rw [List.getElem_replicate]
    simp [numN, hj]
theorem num_set (l : List Int) (i : Nat) (v : Int) : (numCells l).setIfInBounds i (.int .u8 v) = numCells (l.set i v) := by
  unfold numCells
  rw [List.setIfInBounds_toArray, List.map_set]
theorem numN_step (x i : Nat) (hi0 : 0 < i) (hi : i ≤ 8) : (numN x i).set i ((x / 256 ^ (8 - i) % 256 : Nat) : Int) = numN x (i - 1) := by
  apply List.ext_getElem
  · simp [numN]
  · intro j h1 h2
    have hj : j < 9 := by simpa [numN] using h2
    rw [List.getElem_set]
    by_cases e : i = j
    · subst e
      rw [if_pos rfl]
      have : ¬ i ≤ i - 1 := by omega
      simp [numN, this]
    · rw [if_neg e]
      by_cases a : j ≤ i
      · have b : j ≤ i - 1 := by omega
        simp [numN, a, b]
      · have b : ¬ j ≤ i - 1 := by omega
        simp [numN, a, b]
theorem more256_le (m : Nat) : ∀ x, more256 m x ≤ m := by
  induction m with
  | zero => intro x; exact Nat.le_refl _
  | succ m ih => intro x; unfold more256; split
                 · omega
                 · have := ih (x / 256); omega
theorem more256_at (m : Nat) : ∀ c x, c ≤ m → x / 256 ^ (c + 1) = 0 → (0 < c → x / 256 ^ c ≠ 0) → more256 m x = c := by
  induction m with
  | zero => intro c x h _ _; unfold more256; omega
  | succ m ih =>
    intro c x h h1 h2
    unfold more256
    by_cases e : c = 0
    · subst e
      rw [if_pos (by simpa using h1)]
    · have hne : x / 256 ≠ 0 := by
        intro h0
        apply h2 (by omega)
        rw [show c = 1 + (c - 1) by omega, Nat.pow_add, ← Nat.div_div_eq_div_mul, Nat.pow_one, h0, Nat.zero_div]
      rw [if_neg hne, ih (c - 1) (x / 256) (by omega) ?_ ?_]
      · omega
      · rw [Nat.div_div_eq_div_mul, ← Nat.pow_succ', show (c - 1 + 1).succ = c + 1 by omega]; exact h1
      · intro _
        rw [Nat.div_div_eq_div_mul, ← Nat.pow_succ', show (c - 1).succ = c by omega]
        exact h2 (by omega)
def codec_Number.f (a0 : Int) : Option ByteArray := if a0 < 0 then some { data := #[] } else if a0 ≤ 9223372036854775807 then some (strOfNums (numL a0.toNat)) else none
theorem num_end (x c : Nat) (hc : c ≤ 7) (he : x / 256 ^ (c + 1) = 0) (hne : 0 < c → x / 256 ^ c ≠ 0) :
    ((numN x (7 - c)).set (7 - c) ((c + 1 : Nat) : Int)).drop (7 - c) = numL x := by
  have hm : more256 8 x = c := more256_at 8 c x (by omega) he hne
  unfold numL
  rw [hm]
  apply List.ext_getElem
  · simp [numN]; omega
  · intro j h1 h2
    have hj : j < c + 2 := by simpa using h2
    rw [List.getElem_drop, List.getElem_set]
    match j with
    | 0 => simp
    | j + 1 =>
      rw [if_neg (by omega)]
      have a : ¬ (7 - c + (j + 1) ≤ 7 - c) := by omega
      have e : 8 - (7 - c + (j + 1)) = c - j := by omega
      simp [numN, a, e]
def NumRel (w : World) (x i y : Nat) (wr : World) : Prop :=
  y = x / 256 ^ (8 - i) ∧ (i < 8 → y ≠ 0) ∧ wr.heap[w.heap.size]? = some (.cells (numCells (numN x i)) 175 (0, 0)) ∧ Below w.heap.size w wr
set_option maxHeartbeats 1000000 in
set_option maxRecDepth 100000 in
theorem codec_Number.calls (a0 : Int) (r : ByteArray) (w : World) (h : codec_Number.f a0 = some r) :
    Calls Try.prog 152 #[.int .i64 a0] w fun e w' => e = .returned (.string r) ∧ Below w.heap.size w w' := by
  unfold codec_Number.f at h
  by_cases hneg : a0 < 0
  · rw [if_pos hneg] at h
    have HR := Aside0.mk (Option.some.inj h)
    clear h
    go_enter Try.func152, Try.ntmps152
    go_wp2
    go_ret
    exact ⟨by rw [← HR.out]; rfl, Below.refl _ _⟩
  · rw [if_neg hneg] at h
    by_cases h1 : a0 ≤ 9223372036854775807
    · rw [if_pos h1] at h
      obtain ⟨x, rfl⟩ := Int.eq_ofNat_of_zero_le (show 0 ≤ a0 by omega)
      have HR := Aside0.mk (Option.some.inj h)
      have H1 := Aside0.mk (show x < 9223372036854775808 by omega)
      clear h h1 
      rw [Int.toNat_natCast] at HR
      go_enter Try.func152, Try.ntmps152
      go_wp2
      go_loopw [0, 4] (fun v0 v4 wr => ∃ i y : Nat, 0 < i ∧ i ≤ 8 ∧ v0 = .int .i64 (y : Int) ∧ v4 = .int .i64 (i : Int) ∧ Aside0 (NumRel w x i y wr)) (fun _ v4 _ => (intOf v4).toNat)
      case atStart => 
        exact ⟨8, x, by omega, by omega, rfl, rfl, ⟨by simp, by omega, by rw [numN_all]; exact (heap_alloc_new w _).trans rfl, below_alloc (Below.refl _ _) _⟩⟩
      case round =>
        obtain ⟨i, y, hi0, hi, rfl, rfl, HX⟩ := hrel
        have hc : wr.cell? ⟨w.heap.size, i, none⟩ = some (.int .u8 0) := by
          rw [blk_cell HX.out.2.2.1 i, numN_cell _ (by simp [numN]) i (by omega), numN_low x i i (by omega) (by omega)]
        have hf : wr.frozen? ⟨w.heap.size, i, none⟩ = false := blk_frozen HX.out.2.2.1 i
        have hc2 : wr.cell? ⟨w.heap.size, i - 1, none⟩ = some (.int .u8 0) := by
          rw [blk_cell HX.out.2.2.1 (i - 1), numN_cell _ (by simp [numN]) (i - 1) (by omega), numN_low x i (i - 1) (by omega) (by omega)]
        have hf2 : wr.frozen? ⟨w.heap.size, i - 1, none⟩ = false := blk_frozen HX.out.2.2.1 (i - 1)
        have hlen : Try.prog.arrayLen 175 = 9 := by kernel_rfl
        have hsz : Try.prog.cellsOf (Try.prog.elem 175) = 1 := by kernel_rfl
        have hsl : ∀ W : World, (Instr.sliceAt 175 (.pointer (some ⟨w.heap.size, 0, none⟩)) (some (.int .i64 ((i : Int) - 1))) none none).run Try.prog W = .ok (.slice (some ⟨w.heap.size, i - 1, none⟩) (10 - i) (10 - i)) W := by
          intro W
          rw [run_sliceAt_array_l W 175 ⟨w.heap.size, 0, none⟩ (by kernel_rfl) .i64 ((i : Int) - 1) (by omega) (by rw [hlen]; omega)]
          go_simp
          omega
        go_wp2
        · have hy0 : y / 256 = 0 := by
            have z : ((y : Int) / 256 == 0) = true := by assumption
            have z2 := eq_of_beq z
            omega
          have he := HX.out.1
          have hne := HX.out.2.1
          have hcells : ((wr.setCell ⟨w.heap.size, i, none⟩ (.int .u8 ((y : Int) % 256))).setCell ⟨w.heap.size, i - 1, none⟩ (.int .u8 (9 - (i : Int)))).heap[w.heap.size]? = some (.cells (numCells ((numN x (i - 1)).set (i - 1) (9 - (i : Int)))) 175 (0, 0)) := by
            rw [← num_set, ← numN_step x i hi0 hi, ← he, ← num_set]
            exact blk_set (blk_set HX.out.2.2.1 i _) (i - 1) _
          have hbel : Below w.heap.size w ((wr.setCell ⟨w.heap.size, i, none⟩ (.int .u8 ((y : Int) % 256))).setCell ⟨w.heap.size, i - 1, none⟩ (.int .u8 (9 - (i : Int)))) := (HX.out.2.2.2.setCell (Nat.le_refl _) _).setCell (Nat.le_refl _) _
          have hend := num_end x (8 - i) (by omega) (by rw [Nat.pow_succ, ← Nat.div_div_eq_div_mul, ← he]; exact hy0) (fun h => by rw [← he]; exact hne (by omega))
          rw [show 7 - (8 - i) = i - 1 by omega, show ((8 - i + 1 : Nat) : Int) = 9 - (i : Int) by omega] at hend
          generalize (wr.setCell ⟨w.heap.size, i, none⟩ (.int .u8 ((y : Int) % 256))).setCell ⟨w.heap.size, i - 1, none⟩ (.int .u8 (9 - (i : Int))) = W at *
          have hr : ReadsInt W .u8 (some ⟨w.heap.size, i - 1, none⟩) (10 - i) (numL x) := by
            have hl : (numL x).length = 10 - i := by rw [← hend]; simp [numN]; omega
            refine ⟨hl, by omega, fun _ => ⟨_, rfl, fun j hj => ?_⟩⟩
            have e0 : (⟨w.heap.size, i - 1, none⟩ : Addr).add j = ⟨w.heap.size, i - 1 + j, none⟩ := by unfold Addr.add; split <;> simp_all
            rw [e0, blk_cell hcells (i - 1 + j), numN_cell _ (by simp [numN]) _ (by omega), ← hend]
            simp [List.getD]
          have hcv := string_of_reads (P := Try.prog) (c := 10 - i) Try.underlying162 Try.underlying5 Try.underlying9 hr
          have HV := Aside0.mk hr
          have HL := Aside0.mk hbel
          clear hr hcells hend hbel
          rw [hcv]
          go_simp
          go_wp2
          try simp only [Exit.jump]
          go_ret
          exact ⟨by rw [← HR.out]; rfl, HL.out⟩
        · refine ⟨⟨i - 1, y / 256, ?_, by omega, by simp, by simp; omega, ?_⟩, by simp [intOf]; omega⟩
          · have z : ((y : Int) / 256 == 0) = false := by assumption
            have z1 : y / 256 ≠ 0 := by intro h; rw [show (y : Int) / 256 = ((y / 256 : Nat) : Int) by omega, h] at z; simp at z
            have he := HX.out.1
            by_cases c : i = 1
            · exfalso
              apply z1
              rw [he, Nat.div_div_eq_div_mul, ← Nat.pow_succ, c]
              exact Nat.div_eq_of_lt (by have := H1.out; omega)
            · omega
          · have z : ((y : Int) / 256 == 0) = false := by assumption
            have z1 : y / 256 ≠ 0 := by intro h; rw [show (y : Int) / 256 = ((y / 256 : Nat) : Int) by omega, h] at z; simp at z
            have he := HX.out.1
            refine ⟨⟨?_, fun _ => z1, ?_, HX.out.2.2.2.setCell (Nat.le_refl _) _⟩⟩
            · rw [he, Nat.div_div_eq_div_mul, ← Nat.pow_succ, show (8 - i).succ = 8 - (i - 1) by omega]
            · rw [← numN_step x i hi0 hi, ← he, ← num_set]
              exact blk_set HX.out.2.2.1 i _
    · rw [if_neg h1] at h; cases h


/-! ### codec_Text: function 153 -/
def codec_Text.f (a0 : ByteArray) : Option (ByteArray) := if (a0.size : Int) > 65535 then (some (⟨#[]⟩ : ByteArray)) else ((some (([((a0.size : Int) / 256) % 256, ((a0.size : Int)) % 256] : List Int) : List Int)).bind fun y145 => (if (strOfNums y145).size + a0.size ≤ 9223372036854775807 then (some ((strOfNums y145) ++ a0)) else (none)))
set_option maxHeartbeats 8000000 in
set_option maxRecDepth 100000 in
theorem codec_Text.calls (a0 : ByteArray) (r : ByteArray) (w : World) (h : codec_Text.f a0 = some r) :
    Calls Try.prog 153 #[.string a0] w fun e w' => e = .returned (.string r) ∧ Below w.heap.size w w' := by
  have HB := Aside0.mk (Below.refl w.heap.size w)
  have H : (if (a0.size : Int) > 65535 then (some (⟨#[]⟩ : ByteArray)) else ((some (([((a0.size : Int) / 256) % 256, ((a0.size : Int)) % 256] : List Int) : List Int)).bind fun y145 => (if (strOfNums y145).size + a0.size ≤ 9223372036854775807 then (some ((strOfNums y145) ++ a0)) else (none)))) = some r := h
  clear h
  by_cases c2 : (a0.size : Int) > 65535
  · rw [if_pos c2] at H
    have c2b0 : decide (65535 < (a0.size : Int)) = true := decide_eq_true c2
    have c2b1 : decide (65535 < a0.size) = true := decide_eq_true (by omega)
    clear c2
    obtain rfl := Option.some.inj H
    go_enter Try.func153, Try.ntmps153
    go_wp2
    go_ret
    exact ⟨by first | rfl | (simp [errW_none, errW_some] <;> rfl) | (simp [*, errW_none, errW_some] <;> rfl), by repeat (first | (with_reducible first | exact HB.out | apply below_alloc | apply pw_below_drewN | apply below_drew1) | exact HB.out)⟩
  · rw [if_neg c2] at H
    have c2b0 : decide (65535 < (a0.size : Int)) = false := decide_eq_false c2
    have c2b1 : decide (65535 < a0.size) = false := decide_eq_false (by omega)
    clear c2
    obtain ⟨y145, hy145⟩ : ∃ y_ : List Int, y_ = (([((a0.size : Int) / 256) % 256, ((a0.size : Int)) % 256] : List Int)) := ⟨_, rfl⟩
    replace H : (if (strOfNums y145).size + a0.size ≤ 9223372036854775807 then (some ((strOfNums y145) ++ a0)) else (none)) = some r := by first | (rw [hy145]; with_reducible exact H) | (have H2_ := (Option.bind_some _ _).symm.trans H; rw [hy145]; with_reducible exact H2_) | (have H2_ := (Option.bind_some _ _).symm.trans H; with_reducible exact H2_) | with_reducible exact H | (rw [hy145]; exact H) | exact H
    have Ny145 := Aside0.mk hy145
    clear hy145
    by_cases c3 : (strOfNums y145).size + a0.size ≤ 9223372036854775807
    · rw [if_pos c3] at H
      have c3b0 := eq_true c3
      have c3b1 : decide ((strOfNums y145).size + a0.size ≤ 9223372036854775807) = true := decide_eq_true c3
      try have c3b2 : (9223372036854775807 < (strOfNums y145).size + a0.size) = False := eq_false (Nat.not_lt.2 c3)
      obtain rfl := Option.some.inj H
      go_enter Try.func153, Try.ntmps153
      go_wp2_with (first | ((with_reducible refine gate_dst (N := 13) rfl ?_); refine Kd.R_lit (Kd.int .u8) _ 5 ?hg (N := 13) ?hd (xs := ([((a0.size : Int) / 256) % 256, ((a0.size : Int)) % 256] : List Int)) (inner := [.int .u8 (((a0.size : Int) / 256) % 256), .int .u8 (((a0.size : Int)) % 256)]) (ok := fun _ => True) (okp := fun _ => True) ?hr ?hp (fun _ hk => hk) trivial (Below.refl _ _) (Nat.le_refl _) (by simp) ?_; (case hd => rfl); (case hg => rfl); (case hr => first | (go_simp; done) | (go_simp; rfl)); (case hp => exact (Reps.one (show Kd.M (Kd.int .u8) _ _ _ (((a0.size : Int) / 256) % 256) [.int .u8 (((a0.size : Int) / 256) % 256)] from rfl) (Reps.one (show Kd.M (Kd.int .u8) _ _ _ (((a0.size : Int)) % 256) [.int .u8 (((a0.size : Int)) % 256)] from rfl) (Reps.none _ _)))); intro v146 w4 ho5 hb hg_ hnew_; clear hg_ hnew_; (first | rw [← Ny145.out] at ho5 | (simp only [Int.reduceToNat] at ho5; rw [← Ny145.out] at ho5)); have n0_ := Aside0.mk (Kd.R_lower ho5 (below_size (by repeat (first | (with_reducible first | exact HB.out | apply below_alloc | apply pw_below_drewN | apply below_drew1) | exact HB.out)))); have n1_ := Aside0.mk (below_step (by repeat (first | (with_reducible first | exact HB.out | apply below_alloc | apply pw_below_drewN | apply below_drew1) | exact HB.out)) hb); clear HB; have HO147 := n0_; have HB := n1_; clear n0_ n1_; clear hb ho5; have hcv6 := own_string (P := Try.prog) Try.underlying162 Try.underlying5 Try.underlying9 (Kd.own_of_R HO147.out)))
      go_ret
      exact ⟨by first | rfl | (simp [errW_none, errW_some] <;> rfl) | (simp [*, errW_none, errW_some] <;> rfl), by repeat (first | (with_reducible first | exact HB.out | apply below_alloc | apply pw_below_drewN | apply below_drew1) | exact HB.out)⟩
    · rw [if_neg c3] at H
      exact absurd H (by simp)

/-! ### strings_Builder_String: function 154, by hand -/
-- HAND rounds=0 making=1 opaque
-- IMPORT Derived.Shelf.Strings.Builder1
def laysString_ren : Go.Shelf.Ren := ⟨fun | 169 => 154 | n => n, fun | 70 => 161 | 9 => 9 | 0 => 0 | 72 => 164 | 37 => 162 | 127 => 176 | 3 => 3 | 5 => 5 | n => n, fun | n => n⟩
theorem laysString : Go.Proofs.Lays.n169 Try.prog laysString_ren := {
  mixed := by kernel_rfl
  f169 := Try.func154.trans (congrArg some (by kernel_rfl))
  t0 := Try.underlying0
  a0 := Try.isAgg0
  z0 := Try.sizeOf0
  v0 := Try.zeroValue0
  t3 := Try.underlying3
  a3 := Try.isAgg3
  z3 := Try.sizeOf3
  v3 := Try.zeroValue3
  t9 := Try.underlying9
  a9 := Try.isAgg9
  z9 := Try.sizeOf9
  v9 := Try.zeroValue9
  t37 := Try.underlying162
  a37 := Try.isAgg162
  z37 := Try.sizeOf162
  v37 := Try.zeroValue162
  t70 := Try.underlying161
  a70 := Try.isAgg161
  z70 := Try.sizeOf161
  v70 := Try.zeroValue161
  t72 := Try.underlying164
  a72 := Try.isAgg164
  z72 := Try.sizeOf164
  v72 := Try.zeroValue164
  t127 := Try.underlying176
  a127 := Try.isAgg176
  z127 := Try.sizeOf176
  v127 := Try.zeroValue176 }
open Go.Proofs Go.Shelf in
theorem extraString : Builder.Extra Try.prog laysString_ren := {
  sizeBuilder := by kernel_rfl
  liesBuilder := by kernel_rfl
  t5 := Try.underlying5
  a5 := Try.isAgg5
  z5 := Try.sizeOf5
  v5 := Try.zeroValue5
  infoByte := by kernel_rfl
  cellsByte := by kernel_rfl
  sizeByte := by kernel_rfl
  neB5 := by decide }
open Go.Proofs Go.Shelf in
theorem strings_Builder_String.calls (B b : Nat) (l : List UInt8) (w : World) (h : Lib.IsBuilder 164 5 B b (Lib.byteCells l) w) (hBw : B ≤ w.heap.size) :
    Calls Try.prog 154 #[.pointer (some ⟨b, 0, none⟩)] w fun e w' => e = .returned (.string ⟨l.toArray⟩) ∧ Below B w w' := Any.Builder_String_any laysString extraString B b l w h hBw


/-! ### txn_Encode: function 134, by hand -/
-- HAND rounds=0 making=1
theorem builder_below {T e : TypeId} {B b : Nat} {p : Value} {bs : List Value} {w w' : World} (h : Lib.BuilderAt T e B b p bs w) (hb : Below w.heap.size w w') : Lib.BuilderAt T e B b p bs w' := by
  have hlt := h.lt
  obtain ⟨h1, v, h2, h3, h4⟩ := h
  exact ⟨h1, v, by rw [hb.block b hlt]; exact h2, own_move h3 (fun k hk => hb.block k (own_lt h3 k hk)), h4⟩
/-- What stands in the builder behind so many numbers. -/
def encP (ns : List ByteArray) (i : Nat) : List UInt8 := (1 : UInt8) :: ((ns.take i).map fun s => s.data.toList).flatten
theorem encP_next (ns : List ByteArray) (i : Nat) (x : ByteArray) (h : ns[i]? = some x) : Lib.byteCells (encP ns (i + 1)) = Lib.byteCells (encP ns i) ++ Lib.strCells x := by
  rw [Lib.strCells_eq, ← Lib.byteCells_append]
  congr 1
  obtain ⟨hi, hx⟩ := List.getElem?_eq_some_iff.1 h
  unfold encP
  rw [List.take_succ_eq_append_getElem hi, List.map_append, List.flatten_append, hx]
  simp
def encAll (n0 n1 n2 n3 n4 t : ByteArray) : ByteArray := ⟨(encP [n0, n1, n2, n3, n4, t] 6).toArray⟩
def txn_Encode.f (a0_0 : Int) (a0_1 : Int) (a0_2 : Int) (a0_3 : Int) (a0_4 : Int) (a0_5 : ByteArray) : Option (ByteArray × Bool) :=
  (txn_Check.f a0_0 a0_1 a0_2 a0_3 a0_4 a0_5).bind fun c => if c = true then
    ((codec_Number.f a0_0).bind fun n0 => (codec_Number.f a0_1).bind fun n1 => (codec_Number.f a0_2).bind fun n2 => (codec_Number.f a0_3).bind fun n3 => (codec_Number.f a0_4).bind fun n4 => (codec_Text.f a0_5).bind fun t =>
      if n0.size + n1.size + n2.size + n3.size + n4.size + t.size ≤ 140737488355000 then some (encAll n0 n1 n2 n3 n4 t, true) else none) else some (⟨#[]⟩, false)
def encBox (a0 a1 a2 a3 a4 : Int) (a5 : ByteArray) : Array Value := #[.int .i64 a0, .int .i64 a1, .int .i64 a2, .int .i64 a3, .int .i64 a4, .string a5]
def EncRel (w : World) (b : Nat) (box : Array Value) (ns : List ByteArray) (i : Nat) (wr : World) : Prop :=
  Lib.BuilderAt 164 5 b b (.pointer (some ⟨b, 0, none⟩)) (Lib.byteCells (encP ns i)) wr ∧ wr.heap[w.heap.size]? = some (.cells box 24 (0, 0)) ∧ Below w.heap.size w wr ∧ w.heap.size < b
theorem enc_len (ns : List ByteArray) (i : Nat) : (Lib.byteCells (encP ns i)).length = 1 + ((ns.take i).map ByteArray.size).sum := by
  rw [Lib.byteCells_length]
  unfold encP
  rw [List.length_cons, List.length_flatten, List.map_map]
  have e : (List.length ∘ fun s : ByteArray => s.data.toList) = ByteArray.size := by funext s; exact data_length s
  rw [e]
  omega
/-- What is below a later bound is below an earlier one. -/
theorem below_step_lo {B C : Nat} {w a b : World} (h : Below B w a) (k : Below C a b) (hBC : B ≤ C) : Below B w b := h.trans ⟨k.1, k.2, k.3, k.size, fun i hi => k.block i (Nat.lt_of_lt_of_le hi hBC)⟩
theorem enc_step (w : World) (b : Nat) (box : Array Value) (ns : List ByteArray) (i : Nat) (x : ByteArray) (wr w3 w4 : World) (h : EncRel w b box ns i wr) (hx : ns[i]? = some x) (h3 : Below wr.heap.size wr w3)
    (hbu : Lib.BuilderAt 164 5 b b (.pointer (some ⟨b, 0, none⟩)) (Lib.byteCells (encP ns i) ++ Lib.strCells x) w4) (h4 : Below b w3 w4) : EncRel w b box ns (i + 1) w4 := by
  obtain ⟨e1, e2, e3, e4⟩ := h
  have hlt := e1.lt
  refine ⟨by rw [encP_next ns i x hx]; exact hbu, ?_, below_step_lo (below_step e3 h3) h4 (Nat.le_of_lt e4), e4⟩
  rw [h4.block _ e4, h3.block _ (by omega)]
  exact e2
set_option maxHeartbeats 4000000 in
set_option maxRecDepth 100000 in
theorem txn_Encode.calls (a0_0 : Int) (a0_1 : Int) (a0_2 : Int) (a0_3 : Int) (a0_4 : Int) (a0_5 : ByteArray) (r1 : ByteArray) (r2 : Bool) (w : World) (h : txn_Encode.f a0_0 a0_1 a0_2 a0_3 a0_4 a0_5 = some (r1, r2)) :
    Calls Try.prog 134 #[.agg #[.int .i64 a0_0, .int .i64 a0_1, .int .i64 a0_2, .int .i64 a0_3, .int .i64 a0_4, .string a0_5]] w fun e w' => e = .returned (.tuple #[.string r1, .bool r2]) ∧ Below w.heap.size w w' := by
  unfold txn_Encode.f at h
  obtain ⟨c, hc, h⟩ := Option.bind_eq_some_iff.1 h
  have HK := Aside0.mk hc
  clear hc
  cases c with
  | false =>
    rw [if_neg (by decide)] at h
    have HH := Aside0.mk (Option.some.inj h)
    clear h
    go_enter Try.func134, Try.ntmps134
    go_wp2_with (first | (go_at_call 102; (with_reducible refine (txn_Check.calls _ _ _ _ _ _ false _ HK.out).mono ?_); rintro e w1 ⟨rfl, hb⟩; have HB := Aside0.mk (below_step (below_alloc (Below.refl w.heap.size w) _) hb); clear hb))
    go_ret2
    have HH := HH.out
    simp only [Prod.mk.injEq] at HH
    obtain ⟨rfl, rfl⟩ := HH
    exact ⟨rfl, HB.out⟩
  | true =>
    rw [if_pos rfl] at h
    obtain ⟨n0, e0, h⟩ := Option.bind_eq_some_iff.1 h
    obtain ⟨n1, e1, h⟩ := Option.bind_eq_some_iff.1 h
    obtain ⟨n2, e2, h⟩ := Option.bind_eq_some_iff.1 h
    obtain ⟨n3, e3, h⟩ := Option.bind_eq_some_iff.1 h
    obtain ⟨n4, e4, h⟩ := Option.bind_eq_some_iff.1 h
    obtain ⟨t, e5, h⟩ := Option.bind_eq_some_iff.1 h
    by_cases hs : n0.size + n1.size + n2.size + n3.size + n4.size + t.size ≤ 140737488355000
    · rw [if_pos hs] at h
      have HH := Aside0.mk (Option.some.inj h)
      have HS := Aside0.mk hs
      have E0 := Aside0.mk e0
      have E1 := Aside0.mk e1
      have E2 := Aside0.mk e2
      have E3 := Aside0.mk e3
      have E4 := Aside0.mk e4
      have E5 := Aside0.mk e5
      clear h hs e0 e1 e2 e3 e4 e5
      have HW := Aside0.mk (fun W : World => strings_Builder_WriteString.calls W.heap.size W.heap.size [] (⟨#[1]⟩ : ByteArray) _ (Lib.fresh_isBuilder 164 5 W) (by decide) (by simp))
      go_enter Try.func134, Try.ntmps134
      go_wp2_with (first | (go_at_call 102; (with_reducible refine (txn_Check.calls _ _ _ _ _ _ true _ HK.out).mono ?_); rintro e w1 ⟨rfl, hb⟩; have BX := Aside0.mk ((hb.block w.heap.size (by simp)).trans (heap_alloc_new w (.cells (encBox a0_0 a0_1 a0_2 a0_3 a0_4 a0_5) 24))); have HL := Aside0.mk (show w.heap.size < w1.heap.size by have := hb.size; simp at this; omega); have HB := Aside0.mk (below_step (below_alloc (Below.refl w.heap.size w) _) hb); clear hb))
      refine (HW.out _).mono ?_
      rintro e w2 ⟨rfl, hbu, hb⟩
      have BX2 := Aside0.mk ((hb.block w.heap.size HL.out).trans ((heap_alloc_old w1 _ HL.out).trans BX.out))
      have hx0 : w2.cell? ⟨w.heap.size, 0, none⟩ = some (.int .i64 a0_0) := (blk_cell BX2.out 0).trans rfl
      have hx1 : w2.cell? ⟨w.heap.size, 1, none⟩ = some (.int .i64 a0_1) := (blk_cell BX2.out 1).trans rfl
      have hx2 : w2.cell? ⟨w.heap.size, 2, none⟩ = some (.int .i64 a0_2) := (blk_cell BX2.out 2).trans rfl
      have hx3 : w2.cell? ⟨w.heap.size, 3, none⟩ = some (.int .i64 a0_3) := (blk_cell BX2.out 3).trans rfl
      have hx4 : w2.cell? ⟨w.heap.size, 4, none⟩ = some (.int .i64 a0_4) := (blk_cell BX2.out 4).trans rfl
      have HBU := Aside0.mk hbu
      have HB2 := Aside0.mk (below_step_lo (below_alloc HB.out _) hb (Nat.le_of_lt HL.out))
      clear hbu hb
      go_wp2_with (fail)
      go_loopw [22] (fun v22 wr => ∃ i : Nat, i ≤ 5 ∧ v22 = .int .i64 (i : Int) ∧ Aside0 (EncRel w w1.heap.size (encBox a0_0 a0_1 a0_2 a0_3 a0_4 a0_5) [n0, n1, n2, n3, n4, t] i wr)) (fun v22 _ => 5 - (intOf v22).toNat)
      case atStart =>
        exact ⟨0, by omega, rfl, ⟨⟨HBU.out, BX2.out, HB2.out, HL.out⟩⟩⟩
      case round =>
        obtain ⟨i, hi, rfl, HX⟩ := hrel
        have HG := Aside0.mk (show w1.heap.size ≤ wr.heap.size from Nat.le_of_lt HX.out.1.lt)
        rcases (show i = 0 ∨ i = 1 ∨ i = 2 ∨ i = 3 ∨ i = 4 ∨ i = 5 by omega) with rfl | rfl | rfl | rfl | rfl | rfl
        · have ix : ∀ W : World, (Instr.index 169 (.agg #[.int .i64 a0_0, .int .i64 a0_1, .int .i64 a0_2, .int .i64 a0_3, .int .i64 a0_4]) (.int .i64 0)).run Try.prog W = .ok (.int .i64 a0_0) W := fun _ => by kernel_rfl
          have HN := Aside0.mk (codec_Number.calls a0_0 n0 wr E0.out)
          have HW2 := Aside0.mk (fun (W : World) (hb : Below wr.heap.size wr W) => strings_Builder_WriteString.calls w1.heap.size w1.heap.size _ n0 W (.inr (builder_below HX.out.1 hb)) (by rw [enc_len]; have := HS.out; simp; omega) (Nat.le_trans HG.out hb.size))
          go_wp2_with (first | (go_at_call 152; (with_reducible refine HN.out.mono ?_); rintro e w3 ⟨rfl, hb3⟩; have HB3 := Aside0.mk hb3; clear hb3) | (go_at_call 151; (with_reducible refine (HW2.out _ HB3.out).mono ?_); rintro e w4 ⟨rfl, hbu, hb4⟩; have HBU4 := Aside0.mk hbu; have HB4 := Aside0.mk hb4; clear hbu hb4))
          go_wp2_with (fail)
          go_roundw
          case rel => exact ⟨1, by omega, by go_num, ⟨enc_step w w1.heap.size _ _ 0 n0 wr w3 w4 HX.out rfl HB3.out HBU4.out HB4.out⟩⟩
          case measure => simp [intOf]
        · have ix : ∀ W : World, (Instr.index 169 (.agg #[.int .i64 a0_0, .int .i64 a0_1, .int .i64 a0_2, .int .i64 a0_3, .int .i64 a0_4]) (.int .i64 1)).run Try.prog W = .ok (.int .i64 a0_1) W := fun _ => by kernel_rfl
          have HN := Aside0.mk (codec_Number.calls a0_1 n1 wr E1.out)
          have HW2 := Aside0.mk (fun (W : World) (hb : Below wr.heap.size wr W) => strings_Builder_WriteString.calls w1.heap.size w1.heap.size _ n1 W (.inr (builder_below HX.out.1 hb)) (by rw [enc_len]; have := HS.out; simp; omega) (Nat.le_trans HG.out hb.size))
          go_wp2_with (first | (go_at_call 152; (with_reducible refine HN.out.mono ?_); rintro e w3 ⟨rfl, hb3⟩; have HB3 := Aside0.mk hb3; clear hb3) | (go_at_call 151; (with_reducible refine (HW2.out _ HB3.out).mono ?_); rintro e w4 ⟨rfl, hbu, hb4⟩; have HBU4 := Aside0.mk hbu; have HB4 := Aside0.mk hb4; clear hbu hb4))
          go_wp2_with (fail)
          go_roundw
          case rel => exact ⟨2, by omega, by go_num, ⟨enc_step w w1.heap.size _ _ 1 n1 wr w3 w4 HX.out rfl HB3.out HBU4.out HB4.out⟩⟩
          case measure => simp [intOf]
        · have ix : ∀ W : World, (Instr.index 169 (.agg #[.int .i64 a0_0, .int .i64 a0_1, .int .i64 a0_2, .int .i64 a0_3, .int .i64 a0_4]) (.int .i64 2)).run Try.prog W = .ok (.int .i64 a0_2) W := fun _ => by kernel_rfl
          have HN := Aside0.mk (codec_Number.calls a0_2 n2 wr E2.out)
          have HW2 := Aside0.mk (fun (W : World) (hb : Below wr.heap.size wr W) => strings_Builder_WriteString.calls w1.heap.size w1.heap.size _ n2 W (.inr (builder_below HX.out.1 hb)) (by rw [enc_len]; have := HS.out; simp; omega) (Nat.le_trans HG.out hb.size))
          go_wp2_with (first | (go_at_call 152; (with_reducible refine HN.out.mono ?_); rintro e w3 ⟨rfl, hb3⟩; have HB3 := Aside0.mk hb3; clear hb3) | (go_at_call 151; (with_reducible refine (HW2.out _ HB3.out).mono ?_); rintro e w4 ⟨rfl, hbu, hb4⟩; have HBU4 := Aside0.mk hbu; have HB4 := Aside0.mk hb4; clear hbu hb4))
          go_wp2_with (fail)
          go_roundw
          case rel => exact ⟨3, by omega, by go_num, ⟨enc_step w w1.heap.size _ _ 2 n2 wr w3 w4 HX.out rfl HB3.out HBU4.out HB4.out⟩⟩
          case measure => simp [intOf]
        · have ix : ∀ W : World, (Instr.index 169 (.agg #[.int .i64 a0_0, .int .i64 a0_1, .int .i64 a0_2, .int .i64 a0_3, .int .i64 a0_4]) (.int .i64 3)).run Try.prog W = .ok (.int .i64 a0_3) W := fun _ => by kernel_rfl
          have HN := Aside0.mk (codec_Number.calls a0_3 n3 wr E3.out)
          have HW2 := Aside0.mk (fun (W : World) (hb : Below wr.heap.size wr W) => strings_Builder_WriteString.calls w1.heap.size w1.heap.size _ n3 W (.inr (builder_below HX.out.1 hb)) (by rw [enc_len]; have := HS.out; simp; omega) (Nat.le_trans HG.out hb.size))
          go_wp2_with (first | (go_at_call 152; (with_reducible refine HN.out.mono ?_); rintro e w3 ⟨rfl, hb3⟩; have HB3 := Aside0.mk hb3; clear hb3) | (go_at_call 151; (with_reducible refine (HW2.out _ HB3.out).mono ?_); rintro e w4 ⟨rfl, hbu, hb4⟩; have HBU4 := Aside0.mk hbu; have HB4 := Aside0.mk hb4; clear hbu hb4))
          go_wp2_with (fail)
          go_roundw
          case rel => exact ⟨4, by omega, by go_num, ⟨enc_step w w1.heap.size _ _ 3 n3 wr w3 w4 HX.out rfl HB3.out HBU4.out HB4.out⟩⟩
          case measure => simp [intOf]
        · have ix : ∀ W : World, (Instr.index 169 (.agg #[.int .i64 a0_0, .int .i64 a0_1, .int .i64 a0_2, .int .i64 a0_3, .int .i64 a0_4]) (.int .i64 4)).run Try.prog W = .ok (.int .i64 a0_4) W := fun _ => by kernel_rfl
          have HN := Aside0.mk (codec_Number.calls a0_4 n4 wr E4.out)
          have HW2 := Aside0.mk (fun (W : World) (hb : Below wr.heap.size wr W) => strings_Builder_WriteString.calls w1.heap.size w1.heap.size _ n4 W (.inr (builder_below HX.out.1 hb)) (by rw [enc_len]; have := HS.out; simp; omega) (Nat.le_trans HG.out hb.size))
          go_wp2_with (first | (go_at_call 152; (with_reducible refine HN.out.mono ?_); rintro e w3 ⟨rfl, hb3⟩; have HB3 := Aside0.mk hb3; clear hb3) | (go_at_call 151; (with_reducible refine (HW2.out _ HB3.out).mono ?_); rintro e w4 ⟨rfl, hbu, hb4⟩; have HBU4 := Aside0.mk hbu; have HB4 := Aside0.mk hb4; clear hbu hb4))
          go_wp2_with (fail)
          go_roundw
          case rel => exact ⟨5, by omega, by go_num, ⟨enc_step w w1.heap.size _ _ 4 n4 wr w3 w4 HX.out rfl HB3.out HBU4.out HB4.out⟩⟩
          case measure => simp [intOf]
        · have HT := Aside0.mk (codec_Text.calls a0_5 t wr E5.out)
          have hx5 : wr.cell? ⟨w.heap.size, 5, none⟩ = some (.string a0_5) := (blk_cell HX.out.2.1 5).trans rfl
          have HW2 := Aside0.mk (fun (W : World) (hb : Below wr.heap.size wr W) => strings_Builder_WriteString.calls w1.heap.size w1.heap.size _ t W (.inr (builder_below HX.out.1 hb)) (by rw [enc_len]; have := HS.out; simp; omega) (Nat.le_trans HG.out hb.size))
          go_wp2_with (first | (go_at_call 153; (with_reducible refine HT.out.mono ?_); rintro e w3 ⟨rfl, hb3⟩; have HB3 := Aside0.mk hb3; clear hb3) | (go_at_call 151; (with_reducible refine (HW2.out _ HB3.out).mono ?_); rintro e w4 ⟨rfl, hbu, hb4⟩; have HE := Aside0.mk (show EncRel w w1.heap.size (encBox a0_0 a0_1 a0_2 a0_3 a0_4 a0_5) [n0, n1, n2, n3, n4, t] 6 w4 from enc_step w w1.heap.size _ _ 5 t wr w3 w4 HX.out rfl HB3.out hbu hb4); clear hbu hb4) | (go_at_call 154; (refine (strings_Builder_String.calls w1.heap.size w1.heap.size (encP [n0, n1, n2, n3, n4, t] 6) _ (.inr HE.out.1) (Nat.le_of_lt HE.out.1.lt)).mono ?_); rintro e w5 ⟨rfl, hb5⟩; have HB5 := Aside0.mk (below_step_lo HE.out.2.2.1 hb5 (Nat.le_of_lt HE.out.2.2.2)); clear hb5))
          go_ret2
          have HH := HH.out
          simp only [Prod.mk.injEq] at HH
          obtain ⟨rfl, rfl⟩ := HH
          exact ⟨rfl, HB5.out⟩
    · rw [if_neg hs] at h; cases h


/-! ### sat_Slots: function 135 -/
def sat_Slots.f (a0 : Int) : Option (Int) := if a0 < 0 then (some 0) else (if a0 > 400 then (some 0) else (some (mx 1 (wrap64 (Int.tdiv (wrap64 ((wrap64 (a0 + 32)) - 1)) 32)))))
set_option maxHeartbeats 8000000 in
set_option maxRecDepth 100000 in
theorem sat_Slots.calls (a0 : Int) (r : Int) (w : World) (h : sat_Slots.f a0 = some r) :
    Calls Try.prog 135 #[.int .i64 a0] w fun e w' => e = .returned (.int .i64 r) ∧ Below w.heap.size w w' := by
  have HB := Aside0.mk (Below.refl w.heap.size w)
  have H : (if a0 < 0 then (some 0) else (if a0 > 400 then (some 0) else (some (mx 1 (wrap64 (Int.tdiv (wrap64 ((wrap64 (a0 + 32)) - 1)) 32)))))) = some r := h
  clear h
  by_cases c2 : a0 < 0
  · rw [if_pos c2] at H
    have c2b0 : decide (a0 < 0) = true := decide_eq_true c2
    clear c2
    obtain rfl := Option.some.inj H
    go_enter Try.func135, Try.ntmps135
    go_wp2
    go_ret
    exact ⟨by first | rfl | (simp [errW_none, errW_some] <;> rfl) | (simp [*, errW_none, errW_some] <;> rfl), by repeat (first | (with_reducible first | exact HB.out | apply below_alloc | apply pw_below_drewN | apply below_drew1) | exact HB.out)⟩
  · rw [if_neg c2] at H
    have c2b0 : decide (a0 < 0) = false := decide_eq_false c2
    clear c2
    by_cases c3 : a0 > 400
    · rw [if_pos c3] at H
      have c3b0 : decide (400 < a0) = true := decide_eq_true c3
      clear c3
      obtain rfl := Option.some.inj H
      go_enter Try.func135, Try.ntmps135
      go_wp2
      go_ret
      exact ⟨by first | rfl | (simp [errW_none, errW_some] <;> rfl) | (simp [*, errW_none, errW_some] <;> rfl), by repeat (first | (with_reducible first | exact HB.out | apply below_alloc | apply pw_below_drewN | apply below_drew1) | exact HB.out)⟩
    · rw [if_neg c3] at H
      have c3b0 : decide (400 < a0) = false := decide_eq_false c3
      clear c3
      obtain ⟨ji4, hji4⟩ : ∃ j_ : Int, (mx 1 (wrap64 (Int.tdiv (wrap64 ((wrap64 (a0 + 32)) - 1)) 32))) = j_ := ⟨_, rfl⟩
      replace H : (some ji4) = some r := by first | (rw [hji4] at H; exact H) | (simp only [hji4] at H ⊢; exact H)
      (try (have hji4l : 1 ≤ ji4 := by (rw [← hji4]; unfold mx; (repeat' split) <;> omega)))
      (try (have hji4m : 0 ≤ ji4 := by omega))
      have hji4_ : (if 1 < (wrap64 (Int.tdiv (wrap64 ((wrap64 (a0 + 32)) - 1)) 32)) then (wrap64 (Int.tdiv (wrap64 ((wrap64 (a0 + 32)) - 1)) 32)) else 1) = ji4 := hji4
      obtain rfl := Option.some.inj H
      go_enter Try.func135, Try.ntmps135
      go_wp2
      go_ret
      exact ⟨by first | rfl | (simp [errW_none, errW_some] <;> rfl) | (simp only [← hji4]; first | rfl | (simp [errW_none, errW_some] <;> rfl)) | (simp [*, errW_none, errW_some] <;> rfl), by repeat (first | (with_reducible first | exact HB.out | apply below_alloc | apply pw_below_drewN | apply below_drew1) | exact HB.out)⟩

/-! ### txn_Slots: function 103 -/
def txn_Slots.f (a0_0 : Int) (a0_1 : Int) (a0_2 : Int) (a0_3 : Int) (a0_4 : Int) (a0_5 : ByteArray) : Option (Int) := (txn_Encode.f a0_0 a0_1 a0_2 a0_3 a0_4 a0_5).bind fun bt149 => (if bt149.2 = true then ((sat_Slots.f (bt149.1.size : Int)).bind fun t151 => (some t151)) else (some 0))
set_option maxHeartbeats 8000000 in
set_option maxRecDepth 100000 in
theorem txn_Slots.calls (a0_0 : Int) (a0_1 : Int) (a0_2 : Int) (a0_3 : Int) (a0_4 : Int) (a0_5 : ByteArray) (r : Int) (w : World) (h : txn_Slots.f a0_0 a0_1 a0_2 a0_3 a0_4 a0_5 = some r) :
 Calls Try.prog 103 #[.agg #[.int .i64 a0_0, .int .i64 a0_1, .int .i64 a0_2, .int .i64 a0_3, .int .i64 a0_4, .string a0_5]] w fun e w' => e = .returned (.int .i64 r) ∧ Below w.heap.size w w' := by
 have hu24 := Try.underlying24
 have HB := A_ (Below.refl w.heap.size w)
 have H : ((txn_Encode.f a0_0 a0_1 a0_2 a0_3 a0_4 a0_5).bind fun bt149 => (if bt149.2 = true then ((sat_Slots.f (bt149.1.size : Int)).bind fun t151 => (some t151)) else (some 0))) = some r := h
 clear h
 replace H := Option.bind_eq_some_iff.mp H
 obtain ⟨⟨t149, t150⟩, A20, H⟩ := H
 try dsimp only at H
 have A2 := A_ A20
 clear A20
 by_cases c3 : t150 = true
 rotate_left
 · replace c3 := Bool.eq_false_iff.mpr c3
   subst c3
   have H1 : (some 0) = some r := by rw [if_neg (show ¬ (false = true) by decide)] at H; exact H
   clear H
   have H := H1
   clear H1
   obtain rfl := Option.some.inj H
   go_enter Try.func103, Try.ntmps103
   go_wp2_with (first | ((with_reducible refine gate_dst (N := 1) rfl ?_); refine box_event ?hg (N := 1) ?hd (cs := #[.int .i64 a0_0, .int .i64 a0_1, .int .i64 a0_2, .int .i64 a0_3, .int .i64 a0_4, .string a0_5]) (t := 24) ?hr ?_; (case hd => rfl); (case hg => rfl); (case hr => first | (go_simp; done) | (go_simp; rfl)); intro gb148 hg w9 hbox hb; have n0_ := A_ (below_step bw_ hb); have n1_ := A_ (hbox); have n2_ := A_ (gz_ (w := w) hg); have n3_ := A_ (gz_ (w := w) hg); replace HB := n0_; have BK148 := n1_; have GW148 := n2_; have GE148 := n3_; clear n0_ n1_ n2_ n3_; clear hb hbox hg; have hcz10_0 : w9.cell? ⟨gb148, 0, none⟩ = some (.int .i64 a0_0) := e_ BK148 0; have hcz10_1 : w9.cell? ⟨gb148, 1, none⟩ = some (.int .i64 a0_1) := e_ BK148 1; have hcz10_2 : w9.cell? ⟨gb148, 2, none⟩ = some (.int .i64 a0_2) := e_ BK148 2; have hcz10_3 : w9.cell? ⟨gb148, 3, none⟩ = some (.int .i64 a0_3) := e_ BK148 3; have hcz10_4 : w9.cell? ⟨gb148, 4, none⟩ = some (.int .i64 a0_4) := e_ BK148 4; have hcz10_5 : w9.cell? ⟨gb148, 5, none⟩ = some (.string a0_5) := e_ BK148 5; obtain ⟨hfz10_0, hfz10_1, hfz10_2, hfz10_3, hfz10_4, hfz10_5⟩ := z6_ BK148) | ((with_reducible refine gate_callee (f := 134) rfl ?_); refine goesL_ (some 7) rfl rfl Try.func134 (by kernel_rfl) rfl #[.agg #[.int .i64 a0_0, .int .i64 a0_1, .int .i64 a0_2, .int .i64 a0_3, .int .i64 a0_4, .string a0_5]] rfl (by (try simp only [m0_, m1_, m2_]); first | done | rfl) ?_; (with_reducible refine (txn_Encode.calls a0_0 a0_1 a0_2 a0_3 a0_4 a0_5 t149 false _ A2.out).mono ?_); rintro e w11 ⟨rfl, hb⟩; refine ⟨_, rfl, ?_⟩; replace BK148 := A_ (kb_ BK148 hb); replace HB := A_ (below_step bw_ hb); (try clear hb); (try clear hb2); (try clear hk); (try clear hi)))
   go_ret
   exact ⟨by first | rfl | (simp [errW_none, errW_some] <;> rfl) | (simp [*, errW_none, errW_some] <;> rfl), by repeat (first | (with_reducible first | exact HB.out | apply wa_ | apply wn_ | apply wd_ | refine ws_ ?_ GE148.out) | exact HB.out)⟩

 subst c3
 have H1 : ((sat_Slots.f (t149.size : Int)).bind fun t151 => (some t151)) = some r := by rw [if_pos rfl] at H; exact H
 clear H
 have H := H1
 clear H1
 replace H := Option.bind_eq_some_iff.mp H
 obtain ⟨t151, A40, H⟩ := H
 replace H : (some t151) = some r := H
 have A4 := A_ A40
 clear A40
 obtain rfl := Option.some.inj H
 go_enter Try.func103, Try.ntmps103
 go_wp2_with (first | ((with_reducible refine gate_dst (N := 1) rfl ?_); refine box_event ?hg (N := 1) ?hd (cs := #[.int .i64 a0_0, .int .i64 a0_1, .int .i64 a0_2, .int .i64 a0_3, .int .i64 a0_4, .string a0_5]) (t := 24) ?hr ?_; (case hd => rfl); (case hg => rfl); (case hr => first | (go_simp; done) | (go_simp; rfl)); intro gb148 hg w5 hbox hb; have n0_ := A_ (below_step bw_ hb); have n1_ := A_ (hbox); have n2_ := A_ (gz_ (w := w) hg); have n3_ := A_ (gz_ (w := w) hg); replace HB := n0_; have BK148 := n1_; have GW148 := n2_; have GE148 := n3_; clear n0_ n1_ n2_ n3_; clear hb hbox hg; have hcz6_0 : w5.cell? ⟨gb148, 0, none⟩ = some (.int .i64 a0_0) := e_ BK148 0; have hcz6_1 : w5.cell? ⟨gb148, 1, none⟩ = some (.int .i64 a0_1) := e_ BK148 1; have hcz6_2 : w5.cell? ⟨gb148, 2, none⟩ = some (.int .i64 a0_2) := e_ BK148 2; have hcz6_3 : w5.cell? ⟨gb148, 3, none⟩ = some (.int .i64 a0_3) := e_ BK148 3; have hcz6_4 : w5.cell? ⟨gb148, 4, none⟩ = some (.int .i64 a0_4) := e_ BK148 4; have hcz6_5 : w5.cell? ⟨gb148, 5, none⟩ = some (.string a0_5) := e_ BK148 5; obtain ⟨hfz6_0, hfz6_1, hfz6_2, hfz6_3, hfz6_4, hfz6_5⟩ := z6_ BK148) | ((with_reducible refine gate_callee (f := 134) rfl ?_); refine goesL_ (some 7) rfl rfl Try.func134 (by kernel_rfl) rfl #[.agg #[.int .i64 a0_0, .int .i64 a0_1, .int .i64 a0_2, .int .i64 a0_3, .int .i64 a0_4, .string a0_5]] rfl (by (try simp only [m0_, m1_, m2_]); first | done | rfl) ?_; (with_reducible refine (txn_Encode.calls a0_0 a0_1 a0_2 a0_3 a0_4 a0_5 t149 true _ A2.out).mono ?_); rintro e w7 ⟨rfl, hb⟩; refine ⟨_, rfl, ?_⟩; replace BK148 := A_ (kb_ BK148 hb); replace HB := A_ (below_step bw_ hb); (try clear hb); (try clear hb2); (try clear hk); (try clear hi)) | ((with_reducible refine gate_callee (f := 135) rfl ?_); refine goesL_ (some 14) rfl rfl Try.func135 (by kernel_rfl) rfl #[.int .i64 (t149.size : Int)] rfl (by (try simp only [m0_, m1_, m2_]); first | done | rfl) ?_; (with_reducible refine (sat_Slots.calls (t149.size : Int) t151 _ A4.out).mono ?_); rintro e w8 ⟨rfl, hb⟩; refine ⟨_, rfl, ?_⟩; replace BK148 := A_ (kb_ BK148 hb); replace HB := A_ (below_step bw_ hb); (try clear hb); (try clear hb2); (try clear hk); (try clear hi)))
 go_ret
 exact ⟨by first | rfl | (simp [errW_none, errW_some] <;> rfl) | (simp [*, errW_none, errW_some] <;> rfl), by repeat (first | (with_reducible first | exact HB.out | apply wa_ | apply wn_ | apply wd_ | refine ws_ ?_ GE148.out) | exact HB.out)⟩
/-! ### queue_Slots: function 56 -/
def queue_Slots.l0 : Nat → Int → List (S24) → Int → Int → Option (Int)
 | 0, _, _, _, _ => none
 | k + 1, x3, x7, x8, x9 => if x9 < x8 then (if 0 ≤ x9 then (if x9 < (x7.length : Int) then ((txn_Slots.f ((rd_T24 x7 x9).f0) ((rd_T24 x7 x9).f1) ((rd_T24 x7 x9).f2) ((rd_T24 x7 x9).f3) ((rd_T24 x7 x9).f4) ((rd_T24 x7 x9).f5)).bind fun t155 => (queue_Slots.l0 k (wrap64 (x3 + t155)) x7 x8 (wrap64 (x9 + 1)))) else (none)) else (none)) else (some x3)
def queue_Slots.f (k : Nat) (a0_0 : Int) (a0_1 : Int) (l0_2 : List (S24)) : Option (Int) := queue_Slots.l0 k 0 l0_2 (l0_2.length : Int) 0
theorem queue_Slots.mono_l : ∀ k, (∀ y0 y1 y2 y3, LeO (queue_Slots.l0 k y0 y1 y2 y3) (queue_Slots.l0 (k + 1) y0 y1 y2 y3))
 | 0 => fun _ _ _ _ r h => by simp [queue_Slots.l0] at h
 | k + 1 => by
  have ih0 := queue_Slots.mono_l k
  · intro y0 y1 y2 y3
    unfold queue_Slots.l0
    repeat' first
    | (with_reducible exact ih0 _ _ _ _)
    | (with_reducible exact LeO.refl _)
    | (with_reducible exact LeO.none _)
    | (with_reducible refine LeO.ite ?_ ?_)
    | (with_reducible refine LeO.bind ?_ (fun _ => ?_))
    | exact ih0 _ _ _ _
    | exact LeO.none _
    | refine LeO.ite ?_ ?_
    | refine LeO.bind ?_ (fun _ => ?_)
theorem queue_Slots.mono : ∀ a0 a1 a2 k, LeO (queue_Slots.f k a0 a1 a2) (queue_Slots.f (k + 1) a0 a1 a2) := by
 intro a0 a1 a2 k
 have ih0 := queue_Slots.mono_l k
 unfold queue_Slots.f
 repeat' first
  | (with_reducible exact ih0 _ _ _ _)
  | (with_reducible exact LeO.refl _)
  | (with_reducible exact LeO.none _)
  | (with_reducible refine LeO.ite ?_ ?_)
  | (with_reducible refine LeO.bind ?_ (fun _ => ?_))
  | exact ih0 _ _ _ _
  | exact LeO.none _
  | refine LeO.ite ?_ ?_
  | refine LeO.bind ?_ (fun _ => ?_)
set_option maxHeartbeats 8000000 in
set_option maxRecDepth 100000 in
theorem queue_Slots.calls (k : Nat) (a0_0 : Int) (a0_1 : Int) (A0_2 : Option Addr) (c0_2 : Nat) (l0_2 : List (S24)) (r : Int) (w : World) (hr0_2 : Kd.C k24 w A0_2 l0_2.length l0_2) (hc0_2 : l0_2.length ≤ c0_2) (h : queue_Slots.f k a0_0 a0_1 l0_2 = some r) :
 Calls Try.prog 56 #[.agg #[.int .i64 a0_0, .int .i64 a0_1, .slice A0_2 l0_2.length c0_2]] w fun e w' => e = .returned (.int .i64 r) ∧ Below w.heap.size w w' := by
 have hu46 := Try.underlying46
 have hu24 := Try.underlying24
 have HR0_2 := A_ hr0_2
 have HC0_2 := A_ hc0_2
 clear hr0_2 hc0_2; have HB := A_ (Below.refl w.heap.size w)
 have H : (queue_Slots.l0 k 0 l0_2 (l0_2.length : Int) 0) = some r := h
 clear h
 have H' := A_ H
 clear H
 go_enter Try.func56, Try.ntmps56
 go_wp2_with (first | ((with_reducible refine gate_dst (N := 1) rfl ?_); refine box_event ?hg (N := 1) ?hd (cs := #[.int .i64 a0_0, .int .i64 a0_1, .slice A0_2 l0_2.length c0_2]) (t := 46) ?hr ?_; (case hd => rfl); (case hg => rfl); (case hr => first | (go_simp; done) | (go_simp; rfl)); intro gb152 hg w2 hbox hb; have n0_ := A_ (below_step bw_ hb); have n1_ := A_ (hbox); have n2_ := A_ (gz_ (w := w) hg); have n3_ := A_ (gz_ (w := w) hg); replace HB := n0_; have BK152 := n1_; have GW152 := n2_; have GE152 := n3_; clear n0_ n1_ n2_ n3_; clear hb hbox hg; have hcz3_0 : w2.cell? ⟨gb152, 0, none⟩ = some (.int .i64 a0_0) := e_ BK152 0; have hcz3_1 : w2.cell? ⟨gb152, 1, none⟩ = some (.int .i64 a0_1) := e_ BK152 1; have hcz3_2 : w2.cell? ⟨gb152, 2, none⟩ = some (.slice A0_2 l0_2.length c0_2) := e_ BK152 2; obtain ⟨hfz3_0, hfz3_1, hfz3_2⟩ := z3_ BK152))
 go_loopg [3, 9] k (fun kq v3 v9 w' => ∃ (x3_1 : Int) (x9_1 : Int), v3 = .int .i64 x3_1 ∧ v9 = .int .i64 x9_1 ∧ Aside0 (queue_Slots.l0 kq x3_1 l0_2 (l0_2.length : Int) x9_1 = some r) ∧ Aside0 (kq ≤ k) ∧ Aside0 (w'.heap[gb152]? = some (.cells #[.int .i64 a0_0, .int .i64 a0_1, (.slice A0_2 l0_2.length c0_2)] 46 (0, 0))) ∧ Aside0 (Below w.heap.size w w'))
 case atStart => exact ⟨(0), (0), (by first | rfl | (simp; done) | (simp [*]; done)), (by first | rfl | (simp; done) | (simp [*]; done)), H', ⟨Nat.le_refl _⟩, ⟨bk_⟩, ⟨by repeat (first | (with_reducible first | exact HB.out | apply wa_ | apply wn_ | apply wd_ | refine ws_ ?_ GE152.out) | exact HB.out)⟩⟩
 case round =>
  clear H'; (try clear p2); (try clear hcz3_0 hcz3_1 hcz3_2); (try clear hfz3_0 hfz3_1 hfz3_2)
  obtain ⟨x3_1, x9_1, rfl, rfl, HA, HK1, BK152, HB⟩ := hrel
  cases gk with
  | zero => exact absurd HA.out (by simp [queue_Slots.l0])
  | succ k1 =>
   have H := HA.out
   clear HA
   simp only [queue_Slots.l0] at H
   by_cases c4 : x9_1 < (l0_2.length : Int)
   rotate_left
   · rw [if_neg c4] at H
     have c4b0 : decide (x9_1 < (l0_2.length : Int)) = false := decide_eq_false c4
     clear c4
     obtain rfl := Option.some.inj H
     go_wp2
     go_ret
     exact ⟨by first | rfl | (simp [errW_none, errW_some] <;> rfl) | (simp [*, errW_none, errW_some] <;> rfl), by repeat (first | (with_reducible first | exact HB.out | apply wa_ | apply wn_ | apply wd_ | refine ws_ ?_ GE152.out) | exact HB.out)⟩

   rw [if_pos c4] at H
   have c4b0 : decide (x9_1 < (l0_2.length : Int)) = true := decide_eq_true c4
   clear c4
   by_cases c5 : 0 ≤ x9_1
   rotate_left
   · rw [if_neg c5] at H
     exact absurd H (by simp)
   rw [if_pos c5] at H
   have c5b0 : decide (0 ≤ x9_1) = true := decide_eq_true c5
   clear c5
   by_cases c6 : x9_1 < (l0_2.length : Int)
   rotate_left
   · rw [if_neg c6] at H
     exact absurd H (by simp)
   rw [if_pos c6] at H
   have c6b0 : decide (x9_1 < (l0_2.length : Int)) = true := decide_eq_true c6
   clear c6
   replace H := Option.bind_eq_some_iff.mp H
   obtain ⟨t155, A70, H⟩ := H
   try dsimp only at H
   have A7 := A_ A70
   clear A70
   have H' := A_ H
   clear H
   have p153 : 0 ≤ (x9_1 : Int) := of_decide_eq_true (by first | (with_reducible assumption) | assumption)
   have q153 : x9_1 < (l0_2.length : Int) := of_decide_eq_true (by first | (with_reducible assumption) | assumption)
   obtain ⟨ad153, e153, hx153_0, hx153_1, hx153_2, hx153_3, hx153_4, hx153_5⟩ := at_T24 HR0_2.out x9_1 p153 q153
   cases e153
   replace hx153_0 := on_ HB.out hx153_0
   replace hx153_1 := on_ HB.out hx153_1
   replace hx153_2 := on_ HB.out hx153_2
   replace hx153_3 := on_ HB.out hx153_3
   replace hx153_4 := on_ HB.out hx153_4
   replace hx153_5 := on_ HB.out hx153_5
   replace p153 := eq_true p153
   replace q153 := eq_true q153
   go_wp2_with (first | ((with_reducible refine gate_dst (N := 5) rfl ?_); refine box_event ?hg (N := 5) ?hd (cs := #[.int .i64 0, .int .i64 0, .int .i64 0, .int .i64 0, .int .i64 0, .string (⟨#[]⟩ : ByteArray)]) (t := 24) ?hr ?_; (case hd => rfl); (case hg => rfl); (case hr => first | (go_simp; done) | (go_simp; rfl)); intro gb154 hg w8 hbox hb; have n0_ := A_ (kb_ BK152 hb); have n1_ := A_ (below_step bw_ hb); have n2_ := A_ (hbox); have n3_ := A_ (gz_ (w := w) hg); have n4_ := A_ (gz_ (w := w) hg); have n5_ := A_ (nl_ BK152 hg); have n6_ := A_ (ng_ BK152 hg); replace BK152 := n0_; replace HB := n1_; have BK154 := n2_; have GW154 := n3_; have GE154 := n4_; have NB152_154 := n5_; have NB154_152 := n6_; clear n0_ n1_ n2_ n3_ n4_ n5_ n6_; clear hb hbox hg; have hnb9 := NB154_152.out; have hnc9 := NB152_154.out; have hcz10_0 : w8.cell? ⟨gb154, 0, none⟩ = some (.int .i64 0) := e_ BK154 0; have hcz10_1 : w8.cell? ⟨gb154, 1, none⟩ = some (.int .i64 0) := e_ BK154 1; have hcz10_2 : w8.cell? ⟨gb154, 2, none⟩ = some (.int .i64 0) := e_ BK154 2; have hcz10_3 : w8.cell? ⟨gb154, 3, none⟩ = some (.int .i64 0) := e_ BK154 3; have hcz10_4 : w8.cell? ⟨gb154, 4, none⟩ = some (.int .i64 0) := e_ BK154 4; have hcz10_5 : w8.cell? ⟨gb154, 5, none⟩ = some (.string (⟨#[]⟩ : ByteArray)) := e_ BK154 5; obtain ⟨hfz10_0, hfz10_1, hfz10_2, hfz10_3, hfz10_4, hfz10_5⟩ := z6_ BK154) | ((with_reducible refine gate_callee (f := 103) rfl ?_); refine goesL_ (some 15) rfl rfl Try.func103 (by kernel_rfl) rfl #[.agg #[.int .i64 ((rd_T24 l0_2 x9_1).f0), .int .i64 ((rd_T24 l0_2 x9_1).f1), .int .i64 ((rd_T24 l0_2 x9_1).f2), .int .i64 ((rd_T24 l0_2 x9_1).f3), .int .i64 ((rd_T24 l0_2 x9_1).f4), .string ((rd_T24 l0_2 x9_1).f5)]] rfl (by (try simp only [m0_, m1_, m2_]); first | done | rfl) ?_; (with_reducible refine (txn_Slots.calls ((rd_T24 l0_2 x9_1).f0) ((rd_T24 l0_2 x9_1).f1) ((rd_T24 l0_2 x9_1).f2) ((rd_T24 l0_2 x9_1).f3) ((rd_T24 l0_2 x9_1).f4) ((rd_T24 l0_2 x9_1).f5) t155 _ A7.out).mono ?_); rintro e w11 ⟨rfl, hb⟩; refine ⟨_, rfl, ?_⟩; replace BK152 := A_ (kb_ BK152 hb); replace BK154 := A_ (blk_below (g := gb154) (o := .cells #[.int .i64 ((rd_T24 l0_2 x9_1).f0), .int .i64 ((rd_T24 l0_2 x9_1).f1), .int .i64 ((rd_T24 l0_2 x9_1).f2), .int .i64 ((rd_T24 l0_2 x9_1).f3), .int .i64 ((rd_T24 l0_2 x9_1).f4), .string ((rd_T24 l0_2 x9_1).f5)] 24 (0, 0)) (by exact pk_ (b6_ BK154.out)) hb); replace HB := A_ (below_step bw_ hb); (try clear hb); (try clear hb2); (try clear hk); (try clear hi)))
   go_roundg k1
   case measure => have := HK1.out; omega
   case rel => exact ⟨(wrap64 (x3_1 + t155)), (wrap64 (x9_1 + 1)), (by first | rfl | (simp; done) | (simp [*]; done)), (by first | rfl | (simp; done) | (simp [*]; done)), H', ⟨by have := HK1.out; omega⟩, ⟨bk_⟩, ⟨by repeat (first | (with_reducible first | exact HB.out | apply wa_ | apply wn_ | apply wd_ | refine ws_ ?_ GE152.out | refine ws_ ?_ GE154.out) | exact HB.out)⟩⟩
end Go.Proofs.Ytehncbhmdgdkjaa.Q
