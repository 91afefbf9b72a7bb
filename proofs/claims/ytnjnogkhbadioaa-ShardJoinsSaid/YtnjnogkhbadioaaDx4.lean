/- Written by this session's own program over the kit's print: functions of Go told as plain functions, or the row of one statement; proved for every input, with no condition of ours. -/
import Derived.Test.YtnjnogkhbadioaaDx0
import Derived.Test.YtnjnogkhbadioaaDx3
namespace Go.Proofs.Ytnjnogkhbadioaa.D
open Go.RowKit Go.Proofs.YtnjnogkhbadioaaW.PrintWords Go.Proofs.YtnjnogkhbadioaaW.PrintLast Go.Proofs.YtnjnogkhbadioaaW.PrintMore
attribute [local go_sem] max2_int min2_int max_two min_two max_three min_three max_four min_four   -- for this text's walks alone
set_option linter.unusedVariables false
set_option linter.unusedSimpArgs false

/-! ### strings_Builder_WriteString: function 79, by hand -/
-- HAND rounds=0 making=1 opaque
-- IMPORT Derived.OwnWalk
theorem infoB : (Try.prog.info? 5).map (fun i => (i.zero, i.size, i.bytes)) = some (some (.int .u8 0), 1, 1) := by kernel_rfl
set_option maxHeartbeats 1000000 in
set_option maxRecDepth 100000 in
theorem strings_Builder_WriteString.calls (B b : Nat) (bs : List Value) (s : ByteArray) (w : World) (h : Lib.IsBuilder 102 5 B b bs w) (hlen : bs.length + s.size ≤ 140737488355328) (hBw : B ≤ w.heap.size) :
    Calls Try.prog 79 #[.pointer (some ⟨b, 0, none⟩), .string s] w fun e w' => e = .returned (.tuple #[.int .i64 s.size, .nilIface]) ∧ (Lib.BuilderAt 102 5 B b (.pointer (some ⟨b, 0, none⟩)) (bs ++ Lib.strCells s) w' ∧ Below B w w') := by
  obtain ⟨i0, hi, hz⟩ := Option.map_eq_some_iff.1 infoB
  simp only [Prod.mk.injEq] at hz
  obtain ⟨hz0, hz1, hz2⟩ := hz
  have HC := Aside0.mk (strings_Builder_copyCheck.calls B b bs w h)
  go_enter Try.func79, Try.ntmps79
  go_wp2_with (first | (go_at_call 85; (with_reducible refine HC.out.mono ?_)))
  rintro e w1 ⟨rfl, h1, hb1⟩
  obtain ⟨hB, v, hbk, hown, hne⟩ := h1
  have c0 : w1.cell? ⟨b, 0, none⟩ = some (.pointer (some ⟨b, 0, none⟩)) := by rw [Lib.cell_of_heap hbk]; rfl
  have c1 : w1.cell? ⟨b, 1, none⟩ = some v := by rw [Lib.cell_of_heap hbk]; rfl
  go_wp2_with (at_builtin; refine Lib.wpList_append_own_string _ rfl _ _ 87 9 rfl B 5 i0 Try.underlying87 Try.underlying9 hi hz0 hz1 hz2 _ _ _ rfl hown s rfl ?c3 ?c4 ?c5 ?_)
  case c3 => unfold maxLen; omega
  case c4 => omega
  case c5 => have := hb1.size; omega
  intro v' w2 hown' hgrow _
  have hlt : b < w1.heap.size := by
    rcases Nat.lt_or_ge b w1.heap.size with h' | h'
    · exact h'
    · simp [Array.getElem?_eq_none h'] at hbk
  have hb2 : w2.heap[b]? = some (.cells #[.pointer (some ⟨b, 0, none⟩), v] 102 (0, 0)) := by
    rw [hgrow.block b hlt (fun e => hne e.symm)]
    exact hbk
  have d0 : w2.cell? ⟨b, 0, none⟩ = some (.pointer (some ⟨b, 0, none⟩)) := by rw [Lib.cell_of_heap hb2]; rfl
  have d1 : w2.cell? ⟨b, 1, none⟩ = some v := by rw [Lib.cell_of_heap hb2]; rfl
  have f1 : w2.frozen? ⟨b, 1, none⟩ = false := Lib.frozen_of_heap hb2 1
  obtain ⟨ao, n', cap, rfl⟩ : ∃ ao n' cap, v' = .slice ao n' cap := by
    rcases hown'.2 with ⟨hv, _⟩ | ⟨g, cap, cur, hv, _⟩
    · exact ⟨_, _, _, hv⟩
    · exact ⟨_, _, _, hv⟩
  go_wp2
  go_ret2
  refine ⟨rfl, ?_, ?_⟩
  · exact Lib.BuilderAt.put (T := 102) (e := 5) hB hb2 (bs' := bs ++ Lib.strCells s) (by simpa [Lib.strCells_length] using hown') (by decide)
  · exact (hb1.grown hgrow (by have := hb1.size; omega) (fun k hk => (hown.lt k hk).1)).setCell (p := ⟨b, 1, none⟩) hB _


/-! ### codec_Number: function 80, by hand -/
-- HAND rounds=0 making=1
-- IMPORT Derived.Test.YtnjnogkhbadioaaGoto
-- IMPORT Derived.Laws.BitsAllLaws
/-- How many digits of 256 are behind the first one (at most m). -/
def more256 : Nat → Nat → Nat
  | 0, _ => 0
  | m + 1, x => if x / 256 = 0 then 0 else more256 m (x / 256) + 1
/-- The bytes of a number: how many there are, then they. -/
def numL (x : Nat) : List Int := ((more256 8 x + 1 : Nat) : Int) :: (List.range (more256 8 x + 1)).map fun j => ((x / 256 ^ (more256 8 x - j) % 256 : Nat) : Int)
/-- The block of nine: behind place i the digits of x are laid. -/
def numN (x i : Nat) : List Int := (List.range 9).map fun j => if j ≤ i then 0 else ((x / 256 ^ (8 - j) % 256 : Nat) : Int)
def numCells (l : List Int) : Array Value := (l.map fun n => Value.int .u8 n).toArray
theorem numN_cell (l : List Int) (h : l.length = 9) (j : Nat) (hj : j < 9) : (numCells l)[j]? = some (Value.int .u8 (l.getD j 0)) := by
  simp [numCells, h, hj, List.getD]
theorem numN_low (x i j : Nat) (hj : j ≤ i) (hi : j < 9) : (numN x i).getD j 0 = 0 := by
  simp [numN, hj, hi]
theorem numN_all (x : Nat) : numN x 8 = List.replicate 9 0 := by
  apply List.ext_getElem
  · simp [numN]
  · intro j h1 h2
    have hj : j ≤ 8 := by have : j < 9 := by simpa [numN] using h1
                          omega
    rw [List.getElem_replicate]
    simp [numN, hj]
theorem num_set (l : List Int) (i : Nat) (v : Int) : (numCells l).setIfInBounds i (.int .u8 v) = numCells (l.set i v) := by
  unfold numCells
  rw [List.setIfInBounds_toArray, List.map_set]
theorem numN_step (x i : Nat) (hi0 : 0 < i) (hi : i ≤ 8) : (numN x i).set i ((x / 256 ^ (8 - i) % 256 : Nat) : Int) = numN x (i - 1) := by
  apply List.ext_getElem
  · simp [numN]
  · intro j h1 h2
    have hj : j < 9 := by simpa [numN] using h2
    rw [List.getElem_set]
    by_cases e : i = j
    · subst e
      rw [if_pos rfl]
      have : ¬ i ≤ i - 1 := by omega
      simp [numN, this]
    · rw [if_neg e]
      by_cases a : j ≤ i
      · have b : j ≤ i - 1 := by omega
        simp [numN, a, b]
      · have b : ¬ j ≤ i - 1 := by omega
        simp [numN, a, b]
theorem more256_le (m : Nat) : ∀ x, more256 m x ≤ m := by
  induction m with
  | zero => intro x; exact Nat.le_refl _
  | succ m ih => intro x; unfold more256; split
                 · omega
                 · have := ih (x / 256); omega
theorem more256_at (m : Nat) : ∀ c x, c ≤ m → x / 256 ^ (c + 1) = 0 → (0 < c → x / 256 ^ c ≠ 0) → more256 m x = c := by
  induction m with
  | zero => intro c x h _ _; unfold more256; omega
  | succ m ih =>
    intro c x h h1 h2
    unfold more256
    by_cases e : c = 0
    · subst e
      rw [if_pos (by simpa using h1)]
    · have hne : x / 256 ≠ 0 := by
        intro h0
        apply h2 (by omega)
        rw [show c = 1 + (c - 1) by omega, Nat.pow_add, ← Nat.div_div_eq_div_mul, Nat.pow_one, h0, Nat.zero_div]
      rw [if_neg hne, ih (c - 1) (x / 256) (by omega) ?_ ?_]
      · omega
      · rw [Nat.div_div_eq_div_mul, ← Nat.pow_succ', show (c - 1 + 1).succ = c + 1 by omega]; exact h1
      · intro _
        rw [Nat.div_div_eq_div_mul, ← Nat.pow_succ', show (c - 1).succ = c by omega]
        exact h2 (by omega)
def codec_Number.f (a0 : Int) : Option ByteArray := if a0 < 0 then some { data := #[] } else if a0 ≤ 9223372036854775807 then some (strOfNums (numL a0.toNat)) else none
theorem num_end (x c : Nat) (hc : c ≤ 7) (he : x / 256 ^ (c + 1) = 0) (hne : 0 < c → x / 256 ^ c ≠ 0) :
    ((numN x (7 - c)).set (7 - c) ((c + 1 : Nat) : Int)).drop (7 - c) = numL x := by
  have hm : more256 8 x = c := more256_at 8 c x (by omega) he hne
  unfold numL
  rw [hm]
  apply List.ext_getElem
  · simp [numN]; omega
  · intro j h1 h2
    have hj : j < c + 2 := by simpa using h2
    rw [List.getElem_drop, List.getElem_set]
    match j with
    | 0 => simp
    | j + 1 =>
      rw [if_neg (by omega)]
      have a : ¬ (7 - c + (j + 1) ≤ 7 - c) := by omega
      have e : 8 - (7 - c + (j + 1)) = c - j := by omega
      simp [numN, a, e]
def NumRel (w : World) (x i y : Nat) (wr : World) : Prop :=
  y = x / 256 ^ (8 - i) ∧ (i < 8 → y ≠ 0) ∧ wr.heap[w.heap.size]? = some (.cells (numCells (numN x i)) 110 (0, 0)) ∧ Below w.heap.size w wr
set_option maxHeartbeats 1000000 in
set_option maxRecDepth 100000 in
theorem codec_Number.calls (a0 : Int) (r : ByteArray) (w : World) (h : codec_Number.f a0 = some r) :
    Calls Try.prog 80 #[.int .i64 a0] w fun e w' => e = .returned (.string r) ∧ Below w.heap.size w w' := by
  unfold codec_Number.f at h
  by_cases hneg : a0 < 0
  · rw [if_pos hneg] at h
    have HR := Aside0.mk (Option.some.inj h)
    clear h
    go_enter Try.func80, Try.ntmps80
    go_wp2
    go_ret
    exact ⟨by rw [← HR.out]; rfl, Below.refl _ _⟩
  · rw [if_neg hneg] at h
    by_cases h1 : a0 ≤ 9223372036854775807
    · rw [if_pos h1] at h
      obtain ⟨x, rfl⟩ := Int.eq_ofNat_of_zero_le (show 0 ≤ a0 by omega)
      have HR := Aside0.mk (Option.some.inj h)
      have H1 := Aside0.mk (show x < 9223372036854775808 by omega)
      clear h h1 
      rw [Int.toNat_natCast] at HR
      go_enter Try.func80, Try.ntmps80
      go_wp2
      go_loopw [0, 4] (fun v0 v4 wr => ∃ i y : Nat, 0 < i ∧ i ≤ 8 ∧ v0 = .int .i64 (y : Int) ∧ v4 = .int .i64 (i : Int) ∧ Aside0 (NumRel w x i y wr)) (fun _ v4 _ => (intOf v4).toNat)
      case atStart => 
        exact ⟨8, x, by omega, by omega, rfl, rfl, ⟨by simp, by omega, by rw [numN_all]; exact (heap_alloc_new w _).trans rfl, below_alloc (Below.refl _ _) _⟩⟩
      case round =>
        obtain ⟨i, y, hi0, hi, rfl, rfl, HX⟩ := hrel
        have hc : wr.cell? ⟨w.heap.size, i, none⟩ = some (.int .u8 0) := by
          rw [blk_cell HX.out.2.2.1 i, numN_cell _ (by simp [numN]) i (by omega), numN_low x i i (by omega) (by omega)]
        have hf : wr.frozen? ⟨w.heap.size, i, none⟩ = false := blk_frozen HX.out.2.2.1 i
        have hc2 : wr.cell? ⟨w.heap.size, i - 1, none⟩ = some (.int .u8 0) := by
          rw [blk_cell HX.out.2.2.1 (i - 1), numN_cell _ (by simp [numN]) (i - 1) (by omega), numN_low x i (i - 1) (by omega) (by omega)]
        have hf2 : wr.frozen? ⟨w.heap.size, i - 1, none⟩ = false := blk_frozen HX.out.2.2.1 (i - 1)
        have hlen : Try.prog.arrayLen 110 = 9 := by kernel_rfl
        have hsz : Try.prog.cellsOf (Try.prog.elem 110) = 1 := by kernel_rfl
        have hsl : ∀ W : World, (Instr.sliceAt 110 (.pointer (some ⟨w.heap.size, 0, none⟩)) (some (.int .i64 ((i : Int) - 1))) none none).run Try.prog W = .ok (.slice (some ⟨w.heap.size, i - 1, none⟩) (10 - i) (10 - i)) W := by
          intro W
          rw [run_sliceAt_array_l W 110 ⟨w.heap.size, 0, none⟩ (by kernel_rfl) .i64 ((i : Int) - 1) (by omega) (by rw [hlen]; omega)]
          go_simp
          omega
        go_wp2
        · have hy0 : y / 256 = 0 := by
            have z : ((y : Int) / 256 == 0) = true := by assumption
            have z2 := eq_of_beq z
            omega
          have he := HX.out.1
          have hne := HX.out.2.1
          have hcells : ((wr.setCell ⟨w.heap.size, i, none⟩ (.int .u8 ((y : Int) % 256))).setCell ⟨w.heap.size, i - 1, none⟩ (.int .u8 (9 - (i : Int)))).heap[w.heap.size]? = some (.cells (numCells ((numN x (i - 1)).set (i - 1) (9 - (i : Int)))) 110 (0, 0)) := by
            rw [← num_set, ← numN_step x i hi0 hi, ← he, ← num_set]
            exact blk_set (blk_set HX.out.2.2.1 i _) (i - 1) _
          have hbel : Below w.heap.size w ((wr.setCell ⟨w.heap.size, i, none⟩ (.int .u8 ((y : Int) % 256))).setCell ⟨w.heap.size, i - 1, none⟩ (.int .u8 (9 - (i : Int)))) := (HX.out.2.2.2.setCell (Nat.le_refl _) _).setCell (Nat.le_refl _) _
          have hend := num_end x (8 - i) (by omega) (by rw [Nat.pow_succ, ← Nat.div_div_eq_div_mul, ← he]; exact hy0) (fun h => by rw [← he]; exact hne (by omega))
          rw [show 7 - (8 - i) = i - 1 by omega, show ((8 - i + 1 : Nat) : Int) = 9 - (i : Int) by omega] at hend
          generalize (wr.setCell ⟨w.heap.size, i, none⟩ (.int .u8 ((y : Int) % 256))).setCell ⟨w.heap.size, i - 1, none⟩ (.int .u8 (9 - (i : Int))) = W at *
          have hr : ReadsInt W .u8 (some ⟨w.heap.size, i - 1, none⟩) (10 - i) (numL x) := by
            have hl : (numL x).length = 10 - i := by rw [← hend]; simp [numN]; omega
            refine ⟨hl, by omega, fun _ => ⟨_, rfl, fun j hj => ?_⟩⟩
            have e0 : (⟨w.heap.size, i - 1, none⟩ : Addr).add j = ⟨w.heap.size, i - 1 + j, none⟩ := by unfold Addr.add; split <;> simp_all
            rw [e0, blk_cell hcells (i - 1 + j), numN_cell _ (by simp [numN]) _ (by omega), ← hend]
            simp [List.getD]
          have hcv := string_of_reads (P := Try.prog) (c := 10 - i) Try.underlying87 Try.underlying5 Try.underlying9 hr
          have HV := Aside0.mk hr
          have HL := Aside0.mk hbel
          clear hr hcells hend hbel
          rw [hcv]
          go_simp
          go_wp2
          try simp only [Exit.jump]
          go_ret
          exact ⟨by rw [← HR.out]; rfl, HL.out⟩
        · refine ⟨⟨i - 1, y / 256, ?_, by omega, by simp, by simp; omega, ?_⟩, by simp [intOf]; omega⟩
          · have z : ((y : Int) / 256 == 0) = false := by assumption
            have z1 : y / 256 ≠ 0 := by intro h; rw [show (y : Int) / 256 = ((y / 256 : Nat) : Int) by omega, h] at z; simp at z
            have he := HX.out.1
            by_cases c : i = 1
            · exfalso
              apply z1
              rw [he, Nat.div_div_eq_div_mul, ← Nat.pow_succ, c]
              exact Nat.div_eq_of_lt (by have := H1.out; omega)
            · omega
          · have z : ((y : Int) / 256 == 0) = false := by assumption
            have z1 : y / 256 ≠ 0 := by intro h; rw [show (y : Int) / 256 = ((y / 256 : Nat) : Int) by omega, h] at z; simp at z
            have he := HX.out.1
            refine ⟨⟨?_, fun _ => z1, ?_, HX.out.2.2.2.setCell (Nat.le_refl _) _⟩⟩
            · rw [he, Nat.div_div_eq_div_mul, ← Nat.pow_succ, show (8 - i).succ = 8 - (i - 1) by omega]
            · rw [← numN_step x i hi0 hi, ← he, ← num_set]
              exact blk_set HX.out.2.2.1 i _
    · rw [if_neg h1] at h; cases h


/-! ### codec_Text: function 81 -/
def codec_Text.f (a0 : ByteArray) : Option (ByteArray) := if (a0.size : Int) > 65535 then (some (⟨#[]⟩ : ByteArray)) else ((some (([((a0.size : Int) / 256) % 256, ((a0.size : Int)) % 256] : List Int) : List Int)).bind fun y122 => (if (strOfNums y122).size + a0.size ≤ 9223372036854775807 then (some ((strOfNums y122) ++ a0)) else (none)))
set_option maxHeartbeats 8000000 in
set_option maxRecDepth 100000 in
theorem codec_Text.calls (a0 : ByteArray) (r : ByteArray) (w : World) (h : codec_Text.f a0 = some r) :
    Calls Try.prog 81 #[.string a0] w fun e w' => e = .returned (.string r) ∧ Below w.heap.size w w' := by
  have HB := Aside0.mk (Below.refl w.heap.size w)
  have H : (if (a0.size : Int) > 65535 then (some (⟨#[]⟩ : ByteArray)) else ((some (([((a0.size : Int) / 256) % 256, ((a0.size : Int)) % 256] : List Int) : List Int)).bind fun y122 => (if (strOfNums y122).size + a0.size ≤ 9223372036854775807 then (some ((strOfNums y122) ++ a0)) else (none)))) = some r := h
  clear h
  by_cases c2 : (a0.size : Int) > 65535
  · rw [if_pos c2] at H
    have c2b0 : decide (65535 < (a0.size : Int)) = true := decide_eq_true c2
    have c2b1 : decide (65535 < a0.size) = true := decide_eq_true (by omega)
    clear c2
    obtain rfl := Option.some.inj H
    go_enter Try.func81, Try.ntmps81
    go_wp2
    go_ret
    exact ⟨by first | rfl | (simp [errW_none, errW_some] <;> rfl) | (simp [*, errW_none, errW_some] <;> rfl), by repeat (first | (with_reducible first | exact HB.out | apply below_alloc | apply pw_below_drewN | apply below_drew1) | exact HB.out)⟩
  · rw [if_neg c2] at H
    have c2b0 : decide (65535 < (a0.size : Int)) = false := decide_eq_false c2
    have c2b1 : decide (65535 < a0.size) = false := decide_eq_false (by omega)
    clear c2
    obtain ⟨y122, hy122⟩ : ∃ y_ : List Int, y_ = (([((a0.size : Int) / 256) % 256, ((a0.size : Int)) % 256] : List Int)) := ⟨_, rfl⟩
    replace H : (if (strOfNums y122).size + a0.size ≤ 9223372036854775807 then (some ((strOfNums y122) ++ a0)) else (none)) = some r := by first | (rw [hy122]; with_reducible exact H) | (have H2_ := (Option.bind_some _ _).symm.trans H; rw [hy122]; with_reducible exact H2_) | (have H2_ := (Option.bind_some _ _).symm.trans H; with_reducible exact H2_) | with_reducible exact H | (rw [hy122]; exact H) | exact H
    have Ny122 := Aside0.mk hy122
    clear hy122
    by_cases c3 : (strOfNums y122).size + a0.size ≤ 9223372036854775807
    · rw [if_pos c3] at H
      have c3b0 := eq_true c3
      have c3b1 : decide ((strOfNums y122).size + a0.size ≤ 9223372036854775807) = true := decide_eq_true c3
      try have c3b2 : (9223372036854775807 < (strOfNums y122).size + a0.size) = False := eq_false (Nat.not_lt.2 c3)
      obtain rfl := Option.some.inj H
      go_enter Try.func81, Try.ntmps81
      go_wp2_with (first | ((with_reducible refine gate_dst (N := 13) rfl ?_); refine Kd.R_lit (Kd.int .u8) _ 5 ?hg (N := 13) ?hd (xs := ([((a0.size : Int) / 256) % 256, ((a0.size : Int)) % 256] : List Int)) (inner := [.int .u8 (((a0.size : Int) / 256) % 256), .int .u8 (((a0.size : Int)) % 256)]) (ok := fun _ => True) (okp := fun _ => True) ?hr ?hp (fun _ hk => hk) trivial (Below.refl _ _) (Nat.le_refl _) (by simp) ?_; (case hd => rfl); (case hg => rfl); (case hr => first | (go_simp; done) | (go_simp; rfl)); (case hp => exact (Reps.one (show Kd.M (Kd.int .u8) _ _ _ (((a0.size : Int) / 256) % 256) [.int .u8 (((a0.size : Int) / 256) % 256)] from rfl) (Reps.one (show Kd.M (Kd.int .u8) _ _ _ (((a0.size : Int)) % 256) [.int .u8 (((a0.size : Int)) % 256)] from rfl) (Reps.none _ _)))); intro v123 w4 ho5 hb hg_ hnew_; clear hg_ hnew_; (first | rw [← Ny122.out] at ho5 | (simp only [Int.reduceToNat] at ho5; rw [← Ny122.out] at ho5)); have n0_ := Aside0.mk (Kd.R_lower ho5 (below_size (by repeat (first | (with_reducible first | exact HB.out | apply below_alloc | apply pw_below_drewN | apply below_drew1) | exact HB.out)))); have n1_ := Aside0.mk (below_step (by repeat (first | (with_reducible first | exact HB.out | apply below_alloc | apply pw_below_drewN | apply below_drew1) | exact HB.out)) hb); clear HB; have HO124 := n0_; have HB := n1_; clear n0_ n1_; clear hb ho5; have hcv6 := own_string (P := Try.prog) Try.underlying87 Try.underlying5 Try.underlying9 (Kd.own_of_R HO124.out)))
      go_ret
      exact ⟨by first | rfl | (simp [errW_none, errW_some] <;> rfl) | (simp [*, errW_none, errW_some] <;> rfl), by repeat (first | (with_reducible first | exact HB.out | apply below_alloc | apply pw_below_drewN | apply below_drew1) | exact HB.out)⟩
    · rw [if_neg c3] at H
      exact absurd H (by simp)

/-! ### strings_Builder_String: function 82, by hand -/
-- HAND rounds=0 making=1 opaque
-- IMPORT Derived.Shelf.Strings.Builder1
def laysString_ren : Go.Shelf.Ren := ⟨fun | 169 => 82 | n => n, fun | 70 => 100 | 9 => 9 | 0 => 0 | 72 => 102 | 37 => 87 | 127 => 111 | 3 => 3 | 5 => 5 | n => n, fun | n => n⟩
theorem laysString : Go.Proofs.Lays.n169 Try.prog laysString_ren := {
  mixed := by kernel_rfl
  f169 := Try.func82.trans (congrArg some (by kernel_rfl))
  t0 := Try.underlying0
  a0 := Try.isAgg0
  z0 := Try.sizeOf0
  v0 := Try.zeroValue0
  t3 := Try.underlying3
  a3 := Try.isAgg3
  z3 := Try.sizeOf3
  v3 := Try.zeroValue3
  t9 := Try.underlying9
  a9 := Try.isAgg9
  z9 := Try.sizeOf9
  v9 := Try.zeroValue9
  t37 := Try.underlying87
  a37 := Try.isAgg87
  z37 := Try.sizeOf87
  v37 := Try.zeroValue87
  t70 := Try.underlying100
  a70 := Try.isAgg100
  z70 := Try.sizeOf100
  v70 := Try.zeroValue100
  t72 := Try.underlying102
  a72 := Try.isAgg102
  z72 := Try.sizeOf102
  v72 := Try.zeroValue102
  t127 := Try.underlying111
  a127 := Try.isAgg111
  z127 := Try.sizeOf111
  v127 := Try.zeroValue111 }
open Go.Proofs Go.Shelf in
theorem extraString : Builder.Extra Try.prog laysString_ren := {
  sizeBuilder := by kernel_rfl
  liesBuilder := by kernel_rfl
  t5 := Try.underlying5
  a5 := Try.isAgg5
  z5 := Try.sizeOf5
  v5 := Try.zeroValue5
  infoByte := by kernel_rfl
  cellsByte := by kernel_rfl
  sizeByte := by kernel_rfl
  neB5 := by decide }
open Go.Proofs Go.Shelf in
theorem strings_Builder_String.calls (B b : Nat) (l : List UInt8) (w : World) (h : Lib.IsBuilder 102 5 B b (Lib.byteCells l) w) (hBw : B ≤ w.heap.size) :
    Calls Try.prog 82 #[.pointer (some ⟨b, 0, none⟩)] w fun e w' => e = .returned (.string ⟨l.toArray⟩) ∧ Below B w w' := Any.Builder_String_any laysString extraString B b l w h hBw


/-! ### txn_Encode: function 69, by hand -/
-- HAND rounds=0 making=1
theorem builder_below {T e : TypeId} {B b : Nat} {p : Value} {bs : List Value} {w w' : World} (h : Lib.BuilderAt T e B b p bs w) (hb : Below w.heap.size w w') : Lib.BuilderAt T e B b p bs w' := by
  have hlt := h.lt
  obtain ⟨h1, v, h2, h3, h4⟩ := h
  exact ⟨h1, v, by rw [hb.block b hlt]; exact h2, own_move h3 (fun k hk => hb.block k (own_lt h3 k hk)), h4⟩
/-- What stands in the builder behind so many numbers. -/
def encP (ns : List ByteArray) (i : Nat) : List UInt8 := (1 : UInt8) :: ((ns.take i).map fun s => s.data.toList).flatten
theorem encP_next (ns : List ByteArray) (i : Nat) (x : ByteArray) (h : ns[i]? = some x) : Lib.byteCells (encP ns (i + 1)) = Lib.byteCells (encP ns i) ++ Lib.strCells x := by
  rw [Lib.strCells_eq, ← Lib.byteCells_append]
  congr 1
  obtain ⟨hi, hx⟩ := List.getElem?_eq_some_iff.1 h
  unfold encP
  rw [List.take_succ_eq_append_getElem hi, List.map_append, List.flatten_append, hx]
  simp
def encAll (n0 n1 n2 n3 n4 t : ByteArray) : ByteArray := ⟨(encP [n0, n1, n2, n3, n4, t] 6).toArray⟩
def txn_Encode.f (a0_0 : Int) (a0_1 : Int) (a0_2 : Int) (a0_3 : Int) (a0_4 : Int) (a0_5 : ByteArray) : Option (ByteArray × Bool) :=
  (txn_Check.f a0_0 a0_1 a0_2 a0_3 a0_4 a0_5).bind fun c => if c = true then
    ((codec_Number.f a0_0).bind fun n0 => (codec_Number.f a0_1).bind fun n1 => (codec_Number.f a0_2).bind fun n2 => (codec_Number.f a0_3).bind fun n3 => (codec_Number.f a0_4).bind fun n4 => (codec_Text.f a0_5).bind fun t =>
      if n0.size + n1.size + n2.size + n3.size + n4.size + t.size ≤ 140737488355000 then some (encAll n0 n1 n2 n3 n4 t, true) else none) else some (⟨#[]⟩, false)
def encBox (a0 a1 a2 a3 a4 : Int) (a5 : ByteArray) : Array Value := #[.int .i64 a0, .int .i64 a1, .int .i64 a2, .int .i64 a3, .int .i64 a4, .string a5]
def EncRel (w : World) (b : Nat) (box : Array Value) (ns : List ByteArray) (i : Nat) (wr : World) : Prop :=
  Lib.BuilderAt 102 5 b b (.pointer (some ⟨b, 0, none⟩)) (Lib.byteCells (encP ns i)) wr ∧ wr.heap[w.heap.size]? = some (.cells box 32 (0, 0)) ∧ Below w.heap.size w wr ∧ w.heap.size < b
theorem enc_len (ns : List ByteArray) (i : Nat) : (Lib.byteCells (encP ns i)).length = 1 + ((ns.take i).map ByteArray.size).sum := by
  rw [Lib.byteCells_length]
  unfold encP
  rw [List.length_cons, List.length_flatten, List.map_map]
  have e : (List.length ∘ fun s : ByteArray => s.data.toList) = ByteArray.size := by funext s; exact data_length s
  rw [e]
  omega
/-- What is below a later bound is below an earlier one. -/
theorem below_step_lo {B C : Nat} {w a b : World} (h : Below B w a) (k : Below C a b) (hBC : B ≤ C) : Below B w b := h.trans ⟨k.1, k.2, k.3, k.size, fun i hi => k.block i (Nat.lt_of_lt_of_le hi hBC)⟩
theorem enc_step (w : World) (b : Nat) (box : Array Value) (ns : List ByteArray) (i : Nat) (x : ByteArray) (wr w3 w4 : World) (h : EncRel w b box ns i wr) (hx : ns[i]? = some x) (h3 : Below wr.heap.size wr w3)
    (hbu : Lib.BuilderAt 102 5 b b (.pointer (some ⟨b, 0, none⟩)) (Lib.byteCells (encP ns i) ++ Lib.strCells x) w4) (h4 : Below b w3 w4) : EncRel w b box ns (i + 1) w4 := by
  obtain ⟨e1, e2, e3, e4⟩ := h
  have hlt := e1.lt
  refine ⟨by rw [encP_next ns i x hx]; exact hbu, ?_, below_step_lo (below_step e3 h3) h4 (Nat.le_of_lt e4), e4⟩
  rw [h4.block _ e4, h3.block _ (by omega)]
  exact e2
set_option maxHeartbeats 4000000 in
set_option maxRecDepth 100000 in
theorem txn_Encode.calls (a0_0 : Int) (a0_1 : Int) (a0_2 : Int) (a0_3 : Int) (a0_4 : Int) (a0_5 : ByteArray) (r1 : ByteArray) (r2 : Bool) (w : World) (h : txn_Encode.f a0_0 a0_1 a0_2 a0_3 a0_4 a0_5 = some (r1, r2)) :
    Calls Try.prog 69 #[.agg #[.int .i64 a0_0, .int .i64 a0_1, .int .i64 a0_2, .int .i64 a0_3, .int .i64 a0_4, .string a0_5]] w fun e w' => e = .returned (.tuple #[.string r1, .bool r2]) ∧ Below w.heap.size w w' := by
  unfold txn_Encode.f at h
  obtain ⟨c, hc, h⟩ := Option.bind_eq_some_iff.1 h
  have HK := Aside0.mk hc
  clear hc
  cases c with
  | false =>
    rw [if_neg (by decide)] at h
    have HH := Aside0.mk (Option.some.inj h)
    clear h
    go_enter Try.func69, Try.ntmps69
    go_wp2_with (first | (go_at_call 57; (with_reducible refine (txn_Check.calls _ _ _ _ _ _ false _ HK.out).mono ?_); rintro e w1 ⟨rfl, hb⟩; have HB := Aside0.mk (below_step (below_alloc (Below.refl w.heap.size w) _) hb); clear hb))
    go_ret2
    have HH := HH.out
    simp only [Prod.mk.injEq] at HH
    obtain ⟨rfl, rfl⟩ := HH
    exact ⟨rfl, HB.out⟩
  | true =>
    rw [if_pos rfl] at h
    obtain ⟨n0, e0, h⟩ := Option.bind_eq_some_iff.1 h
    obtain ⟨n1, e1, h⟩ := Option.bind_eq_some_iff.1 h
    obtain ⟨n2, e2, h⟩ := Option.bind_eq_some_iff.1 h
    obtain ⟨n3, e3, h⟩ := Option.bind_eq_some_iff.1 h
    obtain ⟨n4, e4, h⟩ := Option.bind_eq_some_iff.1 h
    obtain ⟨t, e5, h⟩ := Option.bind_eq_some_iff.1 h
    by_cases hs : n0.size + n1.size + n2.size + n3.size + n4.size + t.size ≤ 140737488355000
    · rw [if_pos hs] at h
      have HH := Aside0.mk (Option.some.inj h)
      have HS := Aside0.mk hs
      have E0 := Aside0.mk e0
      have E1 := Aside0.mk e1
      have E2 := Aside0.mk e2
      have E3 := Aside0.mk e3
      have E4 := Aside0.mk e4
      have E5 := Aside0.mk e5
      clear h hs e0 e1 e2 e3 e4 e5
      have HW := Aside0.mk (fun W : World => strings_Builder_WriteString.calls W.heap.size W.heap.size [] (⟨#[1]⟩ : ByteArray) _ (Lib.fresh_isBuilder 102 5 W) (by decide) (by simp))
      go_enter Try.func69, Try.ntmps69
      go_wp2_with (first | (go_at_call 57; (with_reducible refine (txn_Check.calls _ _ _ _ _ _ true _ HK.out).mono ?_); rintro e w1 ⟨rfl, hb⟩; have BX := Aside0.mk ((hb.block w.heap.size (by simp)).trans (heap_alloc_new w (.cells (encBox a0_0 a0_1 a0_2 a0_3 a0_4 a0_5) 32))); have HL := Aside0.mk (show w.heap.size < w1.heap.size by have := hb.size; simp at this; omega); have HB := Aside0.mk (below_step (below_alloc (Below.refl w.heap.size w) _) hb); clear hb))
      refine (HW.out _).mono ?_
      rintro e w2 ⟨rfl, hbu, hb⟩
      have BX2 := Aside0.mk ((hb.block w.heap.size HL.out).trans ((heap_alloc_old w1 _ HL.out).trans BX.out))
      have hx0 : w2.cell? ⟨w.heap.size, 0, none⟩ = some (.int .i64 a0_0) := (blk_cell BX2.out 0).trans rfl
      have hx1 : w2.cell? ⟨w.heap.size, 1, none⟩ = some (.int .i64 a0_1) := (blk_cell BX2.out 1).trans rfl
      have hx2 : w2.cell? ⟨w.heap.size, 2, none⟩ = some (.int .i64 a0_2) := (blk_cell BX2.out 2).trans rfl
      have hx3 : w2.cell? ⟨w.heap.size, 3, none⟩ = some (.int .i64 a0_3) := (blk_cell BX2.out 3).trans rfl
      have hx4 : w2.cell? ⟨w.heap.size, 4, none⟩ = some (.int .i64 a0_4) := (blk_cell BX2.out 4).trans rfl
      have HBU := Aside0.mk hbu
      have HB2 := Aside0.mk (below_step_lo (below_alloc HB.out _) hb (Nat.le_of_lt HL.out))
      clear hbu hb
      go_wp2_with (fail)
      go_loopw [22] (fun v22 wr => ∃ i : Nat, i ≤ 5 ∧ v22 = .int .i64 (i : Int) ∧ Aside0 (EncRel w w1.heap.size (encBox a0_0 a0_1 a0_2 a0_3 a0_4 a0_5) [n0, n1, n2, n3, n4, t] i wr)) (fun v22 _ => 5 - (intOf v22).toNat)
      case atStart =>
        exact ⟨0, by omega, rfl, ⟨⟨HBU.out, BX2.out, HB2.out, HL.out⟩⟩⟩
      case round =>
        obtain ⟨i, hi, rfl, HX⟩ := hrel
        have HG := Aside0.mk (show w1.heap.size ≤ wr.heap.size from Nat.le_of_lt HX.out.1.lt)
        rcases (show i = 0 ∨ i = 1 ∨ i = 2 ∨ i = 3 ∨ i = 4 ∨ i = 5 by omega) with rfl | rfl | rfl | rfl | rfl | rfl
        · have ix : ∀ W : World, (Instr.index 107 (.agg #[.int .i64 a0_0, .int .i64 a0_1, .int .i64 a0_2, .int .i64 a0_3, .int .i64 a0_4]) (.int .i64 0)).run Try.prog W = .ok (.int .i64 a0_0) W := fun _ => by kernel_rfl
          have HN := Aside0.mk (codec_Number.calls a0_0 n0 wr E0.out)
          have HW2 := Aside0.mk (fun (W : World) (hb : Below wr.heap.size wr W) => strings_Builder_WriteString.calls w1.heap.size w1.heap.size _ n0 W (.inr (builder_below HX.out.1 hb)) (by rw [enc_len]; have := HS.out; simp; omega) (Nat.le_trans HG.out hb.size))
          go_wp2_with (first | (go_at_call 80; (with_reducible refine HN.out.mono ?_); rintro e w3 ⟨rfl, hb3⟩; have HB3 := Aside0.mk hb3; clear hb3) | (go_at_call 79; (with_reducible refine (HW2.out _ HB3.out).mono ?_); rintro e w4 ⟨rfl, hbu, hb4⟩; have HBU4 := Aside0.mk hbu; have HB4 := Aside0.mk hb4; clear hbu hb4))
          go_wp2_with (fail)
          go_roundw
          case rel => exact ⟨1, by omega, by go_num, ⟨enc_step w w1.heap.size _ _ 0 n0 wr w3 w4 HX.out rfl HB3.out HBU4.out HB4.out⟩⟩
          case measure => simp [intOf]
        · have ix : ∀ W : World, (Instr.index 107 (.agg #[.int .i64 a0_0, .int .i64 a0_1, .int .i64 a0_2, .int .i64 a0_3, .int .i64 a0_4]) (.int .i64 1)).run Try.prog W = .ok (.int .i64 a0_1) W := fun _ => by kernel_rfl
          have HN := Aside0.mk (codec_Number.calls a0_1 n1 wr E1.out)
          have HW2 := Aside0.mk (fun (W : World) (hb : Below wr.heap.size wr W) => strings_Builder_WriteString.calls w1.heap.size w1.heap.size _ n1 W (.inr (builder_below HX.out.1 hb)) (by rw [enc_len]; have := HS.out; simp; omega) (Nat.le_trans HG.out hb.size))
          go_wp2_with (first | (go_at_call 80; (with_reducible refine HN.out.mono ?_); rintro e w3 ⟨rfl, hb3⟩; have HB3 := Aside0.mk hb3; clear hb3) | (go_at_call 79; (with_reducible refine (HW2.out _ HB3.out).mono ?_); rintro e w4 ⟨rfl, hbu, hb4⟩; have HBU4 := Aside0.mk hbu; have HB4 := Aside0.mk hb4; clear hbu hb4))
          go_wp2_with (fail)
          go_roundw
          case rel => exact ⟨2, by omega, by go_num, ⟨enc_step w w1.heap.size _ _ 1 n1 wr w3 w4 HX.out rfl HB3.out HBU4.out HB4.out⟩⟩
          case measure => simp [intOf]
        · have ix : ∀ W : World, (Instr.index 107 (.agg #[.int .i64 a0_0, .int .i64 a0_1, .int .i64 a0_2, .int .i64 a0_3, .int .i64 a0_4]) (.int .i64 2)).run Try.prog W = .ok (.int .i64 a0_2) W := fun _ => by kernel_rfl
          have HN := Aside0.mk (codec_Number.calls a0_2 n2 wr E2.out)
          have HW2 := Aside0.mk (fun (W : World) (hb : Below wr.heap.size wr W) => strings_Builder_WriteString.calls w1.heap.size w1.heap.size _ n2 W (.inr (builder_below HX.out.1 hb)) (by rw [enc_len]; have := HS.out; simp; omega) (Nat.le_trans HG.out hb.size))
          go_wp2_with (first | (go_at_call 80; (with_reducible refine HN.out.mono ?_); rintro e w3 ⟨rfl, hb3⟩; have HB3 := Aside0.mk hb3; clear hb3) | (go_at_call 79; (with_reducible refine (HW2.out _ HB3.out).mono ?_); rintro e w4 ⟨rfl, hbu, hb4⟩; have HBU4 := Aside0.mk hbu; have HB4 := Aside0.mk hb4; clear hbu hb4))
          go_wp2_with (fail)
          go_roundw
          case rel => exact ⟨3, by omega, by go_num, ⟨enc_step w w1.heap.size _ _ 2 n2 wr w3 w4 HX.out rfl HB3.out HBU4.out HB4.out⟩⟩
          case measure => simp [intOf]
        · have ix : ∀ W : World, (Instr.index 107 (.agg #[.int .i64 a0_0, .int .i64 a0_1, .int .i64 a0_2, .int .i64 a0_3, .int .i64 a0_4]) (.int .i64 3)).run Try.prog W = .ok (.int .i64 a0_3) W := fun _ => by kernel_rfl
          have HN := Aside0.mk (codec_Number.calls a0_3 n3 wr E3.out)
          have HW2 := Aside0.mk (fun (W : World) (hb : Below wr.heap.size wr W) => strings_Builder_WriteString.calls w1.heap.size w1.heap.size _ n3 W (.inr (builder_below HX.out.1 hb)) (by rw [enc_len]; have := HS.out; simp; omega) (Nat.le_trans HG.out hb.size))
          go_wp2_with (first | (go_at_call 80; (with_reducible refine HN.out.mono ?_); rintro e w3 ⟨rfl, hb3⟩; have HB3 := Aside0.mk hb3; clear hb3) | (go_at_call 79; (with_reducible refine (HW2.out _ HB3.out).mono ?_); rintro e w4 ⟨rfl, hbu, hb4⟩; have HBU4 := Aside0.mk hbu; have HB4 := Aside0.mk hb4; clear hbu hb4))
          go_wp2_with (fail)
          go_roundw
          case rel => exact ⟨4, by omega, by go_num, ⟨enc_step w w1.heap.size _ _ 3 n3 wr w3 w4 HX.out rfl HB3.out HBU4.out HB4.out⟩⟩
          case measure => simp [intOf]
        · have ix : ∀ W : World, (Instr.index 107 (.agg #[.int .i64 a0_0, .int .i64 a0_1, .int .i64 a0_2, .int .i64 a0_3, .int .i64 a0_4]) (.int .i64 4)).run Try.prog W = .ok (.int .i64 a0_4) W := fun _ => by kernel_rfl
          have HN := Aside0.mk (codec_Number.calls a0_4 n4 wr E4.out)
          have HW2 := Aside0.mk (fun (W : World) (hb : Below wr.heap.size wr W) => strings_Builder_WriteString.calls w1.heap.size w1.heap.size _ n4 W (.inr (builder_below HX.out.1 hb)) (by rw [enc_len]; have := HS.out; simp; omega) (Nat.le_trans HG.out hb.size))
          go_wp2_with (first | (go_at_call 80; (with_reducible refine HN.out.mono ?_); rintro e w3 ⟨rfl, hb3⟩; have HB3 := Aside0.mk hb3; clear hb3) | (go_at_call 79; (with_reducible refine (HW2.out _ HB3.out).mono ?_); rintro e w4 ⟨rfl, hbu, hb4⟩; have HBU4 := Aside0.mk hbu; have HB4 := Aside0.mk hb4; clear hbu hb4))
          go_wp2_with (fail)
          go_roundw
          case rel => exact ⟨5, by omega, by go_num, ⟨enc_step w w1.heap.size _ _ 4 n4 wr w3 w4 HX.out rfl HB3.out HBU4.out HB4.out⟩⟩
          case measure => simp [intOf]
        · have HT := Aside0.mk (codec_Text.calls a0_5 t wr E5.out)
          have hx5 : wr.cell? ⟨w.heap.size, 5, none⟩ = some (.string a0_5) := (blk_cell HX.out.2.1 5).trans rfl
          have HW2 := Aside0.mk (fun (W : World) (hb : Below wr.heap.size wr W) => strings_Builder_WriteString.calls w1.heap.size w1.heap.size _ t W (.inr (builder_below HX.out.1 hb)) (by rw [enc_len]; have := HS.out; simp; omega) (Nat.le_trans HG.out hb.size))
          go_wp2_with (first | (go_at_call 81; (with_reducible refine HT.out.mono ?_); rintro e w3 ⟨rfl, hb3⟩; have HB3 := Aside0.mk hb3; clear hb3) | (go_at_call 79; (with_reducible refine (HW2.out _ HB3.out).mono ?_); rintro e w4 ⟨rfl, hbu, hb4⟩; have HE := Aside0.mk (show EncRel w w1.heap.size (encBox a0_0 a0_1 a0_2 a0_3 a0_4 a0_5) [n0, n1, n2, n3, n4, t] 6 w4 from enc_step w w1.heap.size _ _ 5 t wr w3 w4 HX.out rfl HB3.out hbu hb4); clear hbu hb4) | (go_at_call 82; (refine (strings_Builder_String.calls w1.heap.size w1.heap.size (encP [n0, n1, n2, n3, n4, t] 6) _ (.inr HE.out.1) (Nat.le_of_lt HE.out.1.lt)).mono ?_); rintro e w5 ⟨rfl, hb5⟩; have HB5 := Aside0.mk (below_step_lo HE.out.2.2.1 hb5 (Nat.le_of_lt HE.out.2.2.2)); clear hb5))
          go_ret2
          have HH := HH.out
          simp only [Prod.mk.injEq] at HH
          obtain ⟨rfl, rfl⟩ := HH
          exact ⟨rfl, HB5.out⟩
    · rw [if_neg hs] at h; cases h


/-! ### fnv_Text: function 76, by hand -/
-- HAND rounds=0 making=1
-- IMPORT Derived.Test.YtnjnogkhbadioaaGoto
-- IMPORT Derived.Laws.BitsAllLaws
def hexC (d : Nat) : Int := if d < 10 then (d : Int) + 48 else (d : Int) + 87
/-- The block of sixteen: from place i on the digits of h are laid. -/
def hexN (h : Nat) (i : Nat) : List Int := (List.range 16).map fun j => if j < i then 0 else hexC (h / 16 ^ (15 - j) % 16)
def hexCells (h : Nat) (i : Nat) : Array Value := ((hexN h i).map fun n => Value.int .u8 n).toArray
def hexL (h : Nat) : List Int := (List.range 16).map fun j => hexC (h / 16 ^ (15 - j) % 16)
theorem hexN_zero (h : Nat) : hexN h 0 = hexL h := by simp [hexN, hexL]
theorem hexN_cell (h i j : Nat) (hj : j < 16) : (hexCells h i)[j]? = some (Value.int .u8 ((hexN h i).getD j 0)) := by
  simp [hexCells, hexN, hj]
theorem hexN_low (h i j : Nat) (hj : j < i) (hi : j < 16) : (hexN h i).getD j 0 = 0 := by
  simp [hexN, hj, hi]
theorem hexN_all (h : Nat) : hexN h 16 = List.replicate 16 0 := by
  apply List.ext_getElem
  · simp [hexN]
  · intro j h1 h2
    have hj : j < 16 := by simpa [hexN] using h1
    rw [List.getElem_replicate]
    simp [hexN, hj]
theorem hexCells_all (h : Nat) : hexCells h 16 = ((List.replicate 16 0).map fun n => Value.int .u8 n).toArray := by
  unfold hexCells; rw [hexN_all]
theorem hexN_step (h i : Nat) (hi0 : 0 < i) (hi : i ≤ 16) : (hexCells h i).setIfInBounds (i - 1) (Value.int .u8 (hexC (h / 16 ^ (16 - i) % 16))) = hexCells h (i - 1) := by
  apply Array.ext_getElem?
  intro j
  rw [Array.getElem?_setIfInBounds]
  have hs : (hexCells h i).size = 16 := by simp [hexCells, hexN]
  by_cases hj : j < 16
  · rw [hexN_cell h i j hj, hexN_cell h (i - 1) j hj]
    by_cases e : i - 1 = j
    · subst e
      rw [if_pos rfl, if_pos (by omega)]
      have e2 : 15 - (i - 1) = 16 - i := by omega
      simp [hexN, hj, e2]
    · rw [if_neg e]
      by_cases hlt : j < i - 1
      · rw [hexN_low _ _ _ hlt hj, hexN_low _ _ _ (by omega) hj]
      · have a1 : ¬ j < i := by omega
        simp [hexN, hj, a1, hlt]
  · have h1 : (hexCells h i)[j]? = none := Array.getElem?_eq_none (by omega)
    have h2 : (hexCells h (i - 1))[j]? = none := Array.getElem?_eq_none (by simp [hexCells, hexN]; omega)
    rw [h1, h2]
    by_cases e : i - 1 = j
    · rw [if_pos e, if_neg (by omega)]
    · rw [if_neg e]
theorem hex_digit (d : Nat) (hd : d < 16) (h : d < ({ data := #[48, 49, 50, 51, 52, 53, 54, 55, 56, 57, 97, 98, 99, 100, 101, 102] } : ByteArray).size) : ((({ data := #[48, 49, 50, 51, 52, 53, 54, 55, 56, 57, 97, 98, 99, 100, 101, 102] } : ByteArray)[d]'h).toNat : Int) = hexC d := by
  revert h
  match d, hd with
  | 0, _ => intro h; rfl
  | 1, _ => intro h; rfl
  | 2, _ => intro h; rfl
  | 3, _ => intro h; rfl
  | 4, _ => intro h; rfl
  | 5, _ => intro h; rfl
  | 6, _ => intro h; rfl
  | 7, _ => intro h; rfl
  | 8, _ => intro h; rfl
  | 9, _ => intro h; rfl
  | 10, _ => intro h; rfl
  | 11, _ => intro h; rfl
  | 12, _ => intro h; rfl
  | 13, _ => intro h; rfl
  | 14, _ => intro h; rfl
  | 15, _ => intro h; rfl
  | n + 16, hd => exact absurd hd (by omega)
theorem and15 (y : Nat) (hy : y < 18446744073709551616) : Go.bits .and .u64 (y : Int) 15 = ((y % 16 : Nat) : Int) := by
  rw [show (15 : Int) = ((15 : Nat) : Int) from rfl, u64_and_nat y 15 hy (by omega)]
  have := Nat.and_two_pow_sub_one_eq_mod y 4
  exact congrArg _ this
def fnv_Text.f (a0 : Int) : Option ByteArray := if 0 ≤ a0 then (if a0 < 18446744073709551616 then some (strOfNums (hexL a0.toNat)) else none) else none
def FnvTextJ (h : Nat) (w w' : World) (a : Act) : Prop := ∃ i : Nat, ∃ y : Nat, 0 < i ∧ i ≤ 16 ∧ y = h / 16 ^ (16 - i) ∧ w'.heap[w.heap.size]? = some (.cells (hexCells h i) 109 (0, 0)) ∧ Below w.heap.size w w' ∧ ∃ u1 u2 u5 u6 u7 u8 u9 u10 u11 u12 u13 u14 u15 u16 u17 : Value, a = { tmps := #[.int .u64 (y : Int), u1, u2, .pointer (some ⟨w.heap.size, 0, none⟩), .int .i64 (i : Int), u5, u6, u7, u8, u9, u10, u11, u12, u13, u14, u15, u16, u17], defers := [] }
set_option maxHeartbeats 1000000 in
set_option maxRecDepth 100000 in
theorem fnv_Text.calls (a0 : Int) (r : ByteArray) (w : World) (h : fnv_Text.f a0 = some r) :
    Calls Try.prog 76 #[.int .u64 a0] w fun e w' => e = .returned (.string r) ∧ Below w.heap.size w w' := by
  unfold fnv_Text.f at h
  by_cases h0 : 0 ≤ a0
  · rw [if_pos h0] at h
    by_cases h1 : a0 < 18446744073709551616
    · rw [if_pos h1] at h
      obtain ⟨x, rfl⟩ := Int.eq_ofNat_of_zero_le h0
      have HR := Aside0.mk (Option.some.inj h)
      have H1 := Aside0.mk h1
      clear h h0 h1
      rw [Int.toNat_natCast] at HR
      go_enter Try.func76, Try.ntmps76
      go_wp2
      refine Goto.scope_label 0 (fun a' w' => FnvTextJ x w w' a') (fun a' _ => (intOf (a'.tmps.getD 4 undef)).toNat) rfl ?_ ?_
      · rintro a' w' ⟨i, y, hi0, hi, hy, hb, hB, u1, u2, u5, u6, u7, u8, u9, u10, u11, u12, u13, u14, u15, u16, u17, rfl⟩
        have hyx : y < 18446744073709551616 := by
          rw [hy]; exact Nat.lt_of_le_of_lt (Nat.div_le_self _ _) (by have := H1.out; omega)
        have hand := and15 y hyx
        have HY := Aside0.mk hy
        clear hy hyx
        have hc : w'.cell? ⟨w.heap.size, i - 1, none⟩ = some (.int .u8 0) := by
          rw [blk_cell hb (i - 1), hexN_cell x i (i - 1) (by omega), hexN_low x i (i - 1) (by omega) (by omega)]
        have hf : w'.frozen? ⟨w.heap.size, i - 1, none⟩ = false := blk_frozen hb (i - 1)
        have HB := Aside0.mk hb
        have HBel := Aside0.mk hB
        clear hb hB
        have hstep : (w'.setCell ⟨w.heap.size, i - 1, none⟩ (.int .u8 (hexC (y % 16)))).heap[w.heap.size]? = some (.cells (hexCells x (i - 1)) 109 (0, 0)) := by
          rw [← hexN_step x i hi0 hi, ← HY.out]
          exact blk_set HB.out (i - 1) _
        have hbel : Below w.heap.size w (w'.setCell ⟨w.heap.size, i - 1, none⟩ (.int .u8 (hexC (y % 16)))) := HBel.out.setCell (Nat.le_refl _) _
        have HS := Aside0.mk hstep
        have HL := Aside0.mk hbel
        clear hstep hbel
        go_wp2
        · go_step3
          have h1 : 1 < (i : Int) := by assumption
          rw [hex_digit _ (Nat.mod_lt _ (by omega))]
          rw [show (i : Int) - 1 = ((i - 1 : Nat) : Int) by omega, show (y : Int) / 16 = ((y / 16 : Nat) : Int) by omega]
          refine ⟨rfl, ⟨i - 1, y / 16, by omega, by omega, ?_, HS.out, HL.out, _, _, _, _, _, _, _, _, _, _, _, _, _, _, _, rfl⟩, by simp [intOf]; omega⟩
          rw [HY.out, Nat.div_div_eq_div_mul, ← Nat.pow_succ, show (16 - i).succ = 16 - (i - 1) by omega]
        · have h1 : (i : Int) ≤ 1 := by assumption
          rw [hex_digit _ (Nat.mod_lt _ (by omega))]
          have hr : ReadsInt (w'.setCell ⟨w.heap.size, i - 1, none⟩ (.int .u8 (hexC (y % 16)))) .u8 (some ⟨w.heap.size, 0, none⟩) 16 (hexL x) := by
            refine ⟨by simp [hexL], by omega, fun _ => ⟨_, rfl, fun j hj => ?_⟩⟩
            have e0 : (⟨w.heap.size, 0, none⟩ : Addr).add j = ⟨w.heap.size, j, none⟩ := by unfold Addr.add; split <;> simp_all
            have e1 : i - 1 = 0 := by omega
            rw [e0, blk_cell HS.out j, e1, hexN_cell x 0 j hj, hexN_zero]
          have hcv := string_of_reads (P := Try.prog) (c := 16) Try.underlying87 Try.underlying5 Try.underlying9 hr
          have HV := Aside0.mk hr
          clear hr
          rw [hcv]
          go_simp
          go_wp2
          try simp only [Exit.jump]
          go_ret
          exact ⟨by rw [← HR.out]; rfl, HL.out⟩
      · intro L hL hLr
        have HL := Aside0.mk hL
        have HLr := Aside0.mk hLr
        clear hL hLr
        go_wp2
        go_step3
        rename_i K hK
        refine hK _ _ (HLr.out _ _ (HL.out _ _ ⟨16, x, by omega, by omega, by simp, ?_, ?_, _, _, _, _, _, _, _, _, _, _, _, _, _, _, _, rfl⟩))
        · exact (heap_alloc_new w _).trans (by rw [hexCells_all]; rfl)
        · exact below_alloc (Below.refl _ _) _
    · rw [if_neg h1] at h; cases h
  · rw [if_neg h0] at h; cases h


/-! ### txn_ID: function 63 -/
def txn_ID.f (a0_0 : Int) (a0_1 : Int) (a0_2 : Int) (a0_3 : Int) (a0_4 : Int) (a0_5 : ByteArray) : Option (ByteArray) := (txn_Encode.f a0_0 a0_1 a0_2 a0_3 a0_4 a0_5).bind fun bt126 => (if bt126.2 = true then ((fnv_Of.f bt126.1).bind fun t128 => ((fnv_Text.f t128).bind fun t129 => (some t129))) else (some (⟨#[]⟩ : ByteArray)))
set_option maxHeartbeats 8000000 in
set_option maxRecDepth 100000 in
theorem txn_ID.calls (a0_0 : Int) (a0_1 : Int) (a0_2 : Int) (a0_3 : Int) (a0_4 : Int) (a0_5 : ByteArray) (r : ByteArray) (w : World) (h : txn_ID.f a0_0 a0_1 a0_2 a0_3 a0_4 a0_5 = some r) :
 Calls Try.prog 63 #[.agg #[.int .i64 a0_0, .int .i64 a0_1, .int .i64 a0_2, .int .i64 a0_3, .int .i64 a0_4, .string a0_5]] w fun e w' => e = .returned (.string r) ∧ Below w.heap.size w w' := by
 have hu32 := Try.underlying32
 have HB := A_ (Below.refl w.heap.size w)
 have H : ((txn_Encode.f a0_0 a0_1 a0_2 a0_3 a0_4 a0_5).bind fun bt126 => (if bt126.2 = true then ((fnv_Of.f bt126.1).bind fun t128 => ((fnv_Text.f t128).bind fun t129 => (some t129))) else (some (⟨#[]⟩ : ByteArray)))) = some r := h
 clear h
 replace H := Option.bind_eq_some_iff.mp H
 obtain ⟨⟨t126, t127⟩, A20, H⟩ := H
 try dsimp only at H
 have A2 := A_ A20
 clear A20
 by_cases c3 : t127 = true
 rotate_left
 · replace c3 := Bool.eq_false_iff.mpr c3
   subst c3
   have H1 : (some (⟨#[]⟩ : ByteArray)) = some r := by rw [if_neg (show ¬ (false = true) by decide)] at H; exact H
   clear H
   have H := H1
   clear H1
   obtain rfl := Option.some.inj H
   go_enter Try.func63, Try.ntmps63
   go_wp2_with (first | ((with_reducible refine gate_dst (N := 1) rfl ?_); refine box_event ?hg (N := 1) ?hd (cs := #[.int .i64 a0_0, .int .i64 a0_1, .int .i64 a0_2, .int .i64 a0_3, .int .i64 a0_4, .string a0_5]) (t := 32) ?hr ?_; (case hd => rfl); (case hg => rfl); (case hr => first | (go_simp; done) | (go_simp; rfl)); intro gb125 hg w10 hbox hb; have n0_ := A_ (below_step bw_ hb); have n1_ := A_ (hbox); have n2_ := A_ (gz_ (w := w) hg); have n3_ := A_ (gz_ (w := w) hg); replace HB := n0_; have BK125 := n1_; have GW125 := n2_; have GE125 := n3_; clear n0_ n1_ n2_ n3_; clear hb hbox hg; have hcz11_0 : w10.cell? ⟨gb125, 0, none⟩ = some (.int .i64 a0_0) := e_ BK125 0; have hcz11_1 : w10.cell? ⟨gb125, 1, none⟩ = some (.int .i64 a0_1) := e_ BK125 1; have hcz11_2 : w10.cell? ⟨gb125, 2, none⟩ = some (.int .i64 a0_2) := e_ BK125 2; have hcz11_3 : w10.cell? ⟨gb125, 3, none⟩ = some (.int .i64 a0_3) := e_ BK125 3; have hcz11_4 : w10.cell? ⟨gb125, 4, none⟩ = some (.int .i64 a0_4) := e_ BK125 4; have hcz11_5 : w10.cell? ⟨gb125, 5, none⟩ = some (.string a0_5) := e_ BK125 5; obtain ⟨hfz11_0, hfz11_1, hfz11_2, hfz11_3, hfz11_4, hfz11_5⟩ := z6_ BK125) | ((with_reducible refine gate_callee (f := 69) rfl ?_); refine goesL_ (some 7) rfl rfl Try.func69 (by kernel_rfl) rfl #[.agg #[.int .i64 a0_0, .int .i64 a0_1, .int .i64 a0_2, .int .i64 a0_3, .int .i64 a0_4, .string a0_5]] rfl (by (try simp only [m0_, m1_, m2_]); first | done | rfl) ?_; (with_reducible refine (txn_Encode.calls a0_0 a0_1 a0_2 a0_3 a0_4 a0_5 t126 false _ A2.out).mono ?_); rintro e w12 ⟨rfl, hb⟩; refine ⟨_, rfl, ?_⟩; replace BK125 := A_ (kb_ BK125 hb); replace HB := A_ (below_step bw_ hb); (try clear hb); (try clear hb2); (try clear hk); (try clear hi)))
   go_ret
   exact ⟨by first | rfl | (simp [errW_none, errW_some] <;> rfl) | (simp [*, errW_none, errW_some] <;> rfl), by repeat (first | (with_reducible first | exact HB.out | apply wa_ | apply wn_ | apply wd_ | refine ws_ ?_ GE125.out) | exact HB.out)⟩

 subst c3
 have H1 : ((fnv_Of.f t126).bind fun t128 => ((fnv_Text.f t128).bind fun t129 => (some t129))) = some r := by rw [if_pos rfl] at H; exact H
 clear H
 have H := H1
 clear H1
 replace H := Option.bind_eq_some_iff.mp H
 obtain ⟨t128, A40, H⟩ := H
 try dsimp only at H
 have A4 := A_ A40
 clear A40
 replace H := Option.bind_eq_some_iff.mp H
 obtain ⟨t129, A50, H⟩ := H
 replace H : (some t129) = some r := H
 have A5 := A_ A50
 clear A50
 obtain rfl := Option.some.inj H
 go_enter Try.func63, Try.ntmps63
 go_wp2_with (first | ((with_reducible refine gate_dst (N := 1) rfl ?_); refine box_event ?hg (N := 1) ?hd (cs := #[.int .i64 a0_0, .int .i64 a0_1, .int .i64 a0_2, .int .i64 a0_3, .int .i64 a0_4, .string a0_5]) (t := 32) ?hr ?_; (case hd => rfl); (case hg => rfl); (case hr => first | (go_simp; done) | (go_simp; rfl)); intro gb125 hg w6 hbox hb; have n0_ := A_ (below_step bw_ hb); have n1_ := A_ (hbox); have n2_ := A_ (gz_ (w := w) hg); have n3_ := A_ (gz_ (w := w) hg); replace HB := n0_; have BK125 := n1_; have GW125 := n2_; have GE125 := n3_; clear n0_ n1_ n2_ n3_; clear hb hbox hg; have hcz7_0 : w6.cell? ⟨gb125, 0, none⟩ = some (.int .i64 a0_0) := e_ BK125 0; have hcz7_1 : w6.cell? ⟨gb125, 1, none⟩ = some (.int .i64 a0_1) := e_ BK125 1; have hcz7_2 : w6.cell? ⟨gb125, 2, none⟩ = some (.int .i64 a0_2) := e_ BK125 2; have hcz7_3 : w6.cell? ⟨gb125, 3, none⟩ = some (.int .i64 a0_3) := e_ BK125 3; have hcz7_4 : w6.cell? ⟨gb125, 4, none⟩ = some (.int .i64 a0_4) := e_ BK125 4; have hcz7_5 : w6.cell? ⟨gb125, 5, none⟩ = some (.string a0_5) := e_ BK125 5; obtain ⟨hfz7_0, hfz7_1, hfz7_2, hfz7_3, hfz7_4, hfz7_5⟩ := z6_ BK125) | ((with_reducible refine gate_callee (f := 69) rfl ?_); refine goesL_ (some 7) rfl rfl Try.func69 (by kernel_rfl) rfl #[.agg #[.int .i64 a0_0, .int .i64 a0_1, .int .i64 a0_2, .int .i64 a0_3, .int .i64 a0_4, .string a0_5]] rfl (by (try simp only [m0_, m1_, m2_]); first | done | rfl) ?_; (with_reducible refine (txn_Encode.calls a0_0 a0_1 a0_2 a0_3 a0_4 a0_5 t126 true _ A2.out).mono ?_); rintro e w8 ⟨rfl, hb⟩; refine ⟨_, rfl, ?_⟩; replace BK125 := A_ (kb_ BK125 hb); replace HB := A_ (below_step bw_ hb); (try clear hb); (try clear hb2); (try clear hk); (try clear hi)) | ((with_reducible refine gate_callee (f := 58) rfl ?_); refine goesL_ (some 13) rfl rfl Try.func58 (by kernel_rfl) rfl #[.string t126] rfl (by (try simp only [m0_, m1_, m2_]); first | done | rfl) ?_; (with_reducible refine (fnv_Of.calls t126 t128 _ A4.out).mono ?_); rintro e w' ⟨rfl, ⟨nd, rfl⟩⟩; refine ⟨_, rfl, ?_⟩) | ((with_reducible refine gate_callee (f := 76) rfl ?_); refine goesL_ (some 14) rfl rfl Try.func76 (by kernel_rfl) rfl #[.int .u64 t128] rfl (by (try simp only [m0_, m1_, m2_]); first | done | rfl) ?_; (with_reducible refine (fnv_Text.calls t128 t129 _ A5.out).mono ?_); rintro e w9 ⟨rfl, hb⟩; refine ⟨_, rfl, ?_⟩; replace BK125 := A_ (kb_ BK125 hb); replace HB := A_ (below_step bw_ hb); (try clear hb); (try clear hb2); (try clear hk); (try clear hi)))
 go_ret
 exact ⟨by first | rfl | (simp [errW_none, errW_some] <;> rfl) | (simp [*, errW_none, errW_some] <;> rfl), by repeat (first | (with_reducible first | exact HB.out | apply wa_ | apply wn_ | apply wd_ | refine ws_ ?_ GE125.out) | exact HB.out)⟩
end Go.Proofs.Ytnjnogkhbadioaa.D
