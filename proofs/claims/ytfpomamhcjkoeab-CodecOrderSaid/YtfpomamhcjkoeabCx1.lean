/- Written by this session's own program over the kit's print: functions of Go told as plain functions, or the row of one statement; proved for every input, with no condition of ours. -/
import Derived.Test.YtfpomamhcjkoeabCx0
namespace Go.Proofs.Ytfpomamhcjkoeab.C
open Go.RowKit Go.Proofs.YtfpomamhcjkoeabW.PrintWords Go.Proofs.YtfpomamhcjkoeabW.PrintLast Go.Proofs.YtfpomamhcjkoeabW.PrintMore
attribute [local go_sem] max2_int min2_int max_two min_two max_three min_three max_four min_four   -- for this text's walks alone
set_option linter.unusedVariables false
set_option linter.unusedSimpArgs false

/-! ### codec_Number: function 24, by hand -/
-- HAND rounds=0 making=1
-- IMPORT Derived.Test.YtfpomamhcjkoeabGoto
-- IMPORT Derived.Laws.BitsAllLaws
/-- How many digits of 256 are behind the first one (at most m). -/
def more256 : Nat → Nat → Nat
  | 0, _ => 0
  | m + 1, x => if x / 256 = 0 then 0 else more256 m (x / 256) + 1
/-- The bytes of a number: how many there are, then they. -/
def numL (x : Nat) : List Int := ((more256 8 x + 1 : Nat) : Int) :: (List.range (more256 8 x + 1)).map fun j => ((x / 256 ^ (more256 8 x - j) % 256 : Nat) : Int)
/-- The block of nine: behind place i the digits of x are laid. -/
def numN (x i : Nat) : List Int := (List.range 9).map fun j => if j ≤ i then 0 else ((x / 256 ^ (8 - j) % 256 : Nat) : Int)
def numCells (l : List Int) : Array Value := (l.map fun n => Value.int .u8 n).toArray
theorem numN_cell (l : List Int) (h : l.length = 9) (j : Nat) (hj : j < 9) : (numCells l)[j]? = some (Value.int .u8 (l.getD j 0)) := by
  simp [numCells, h, hj, List.getD]
theorem numN_low (x i j : Nat) (hj : j ≤ i) (hi : j < 9) : (numN x i).getD j 0 = 0 := by
  simp [numN, hj, hi]
theorem numN_all (x : Nat) : numN x 8 = List.replicate 9 0 := by
  apply List.ext_getElem
  · simp [numN]
  · intro j h1 h2
    have hj : j ≤ 8 := by have : j < 9 := by simpa [numN] using h1
                          omega
    rw [List.getElem_replicate]
    simp [numN, hj]
theorem num_set (l : List Int) (i : Nat) (v : Int) : (numCells l).setIfInBounds i (.int .u8 v) = numCells (l.set i v) := by
  unfold numCells
  rw [List.setIfInBounds_toArray, List.map_set]
theorem numN_step (x i : Nat) (hi0 : 0 < i) (hi : i ≤ 8) : (numN x i).set i ((x / 256 ^ (8 - i) % 256 : Nat) : Int) = numN x (i - 1) := by
  apply List.ext_getElem
  · simp [numN]
  · intro j h1 h2
    have hj : j < 9 := by simpa [numN] using h2
    rw [List.getElem_set]
    by_cases e : i = j
    · subst e
      rw [if_pos rfl]
      have : ¬ i ≤ i - 1 := by omega
      simp [numN, this]
    · rw [if_neg e]
      by_cases a : j ≤ i
      · have b : j ≤ i - 1 := by omega
        simp [numN, a, b]
      · have b : ¬ j ≤ i - 1 := by omega
        simp [numN, a, b]
theorem more256_le (m : Nat) : ∀ x, more256 m x ≤ m := by
  induction m with
  | zero => intro x; exact Nat.le_refl _
  | succ m ih => intro x; unfold more256; split
                 · omega
                 · have := ih (x / 256); omega
theorem more256_at (m : Nat) : ∀ c x, c ≤ m → x / 256 ^ (c + 1) = 0 → (0 < c → x / 256 ^ c ≠ 0) → more256 m x = c := by
  induction m with
  | zero => intro c x h _ _; unfold more256; omega
  | succ m ih =>
    intro c x h h1 h2
    unfold more256
    by_cases e : c = 0
    · subst e
      rw [if_pos (by simpa using h1)]
    · have hne : x / 256 ≠ 0 := by
        intro h0
        apply h2 (by omega)
        rw [show c = 1 + (c - 1) by omega, Nat.pow_add, ← Nat.div_div_eq_div_mul, Nat.pow_one, h0, Nat.zero_div]
      rw [if_neg hne, ih (c - 1) (x / 256) (by omega) ?_ ?_]
      · omega
      · rw [Nat.div_div_eq_div_mul, ← Nat.pow_succ', show (c - 1 + 1).succ = c + 1 by omega]; exact h1
      · intro _
        rw [Nat.div_div_eq_div_mul, ← Nat.pow_succ', show (c - 1).succ = c by omega]
        exact h2 (by omega)
def codec_Number.f (a0 : Int) : Option ByteArray := if a0 < 0 then some { data := #[] } else if a0 ≤ 9223372036854775807 then some (strOfNums (numL a0.toNat)) else none
theorem num_end (x c : Nat) (hc : c ≤ 7) (he : x / 256 ^ (c + 1) = 0) (hne : 0 < c → x / 256 ^ c ≠ 0) :
    ((numN x (7 - c)).set (7 - c) ((c + 1 : Nat) : Int)).drop (7 - c) = numL x := by
  have hm : more256 8 x = c := more256_at 8 c x (by omega) he hne
  unfold numL
  rw [hm]
  apply List.ext_getElem
  · simp [numN]; omega
  · intro j h1 h2
    have hj : j < c + 2 := by simpa using h2
    rw [List.getElem_drop, List.getElem_set]
    match j with
    | 0 => simp
    | j + 1 =>
      rw [if_neg (by omega)]
      have a : ¬ (7 - c + (j + 1) ≤ 7 - c) := by omega
      have e : 8 - (7 - c + (j + 1)) = c - j := by omega
      simp [numN, a, e]
def NumRel (w : World) (x i y : Nat) (wr : World) : Prop :=
  y = x / 256 ^ (8 - i) ∧ (i < 8 → y ≠ 0) ∧ wr.heap[w.heap.size]? = some (.cells (numCells (numN x i)) 60 (0, 0)) ∧ Below w.heap.size w wr
theorem num_far (x i : Nat) (hx : x < 9223372036854775808) (h0 : i = 0) : x / 256 ^ (8 - i) = 0 := by
  subst h0
  exact Nat.div_eq_of_lt (by omega)
set_option maxHeartbeats 1000000 in
theorem codec_Number.calls (a0 : Int) (r : ByteArray) (w : World) (h : codec_Number.f a0 = some r) :
    Calls Try.prog 24 #[.int .i64 a0] w fun e w' => e = .returned (.string r) ∧ Below w.heap.size w w' := by
  unfold codec_Number.f at h
  by_cases hneg : a0 < 0
  · rw [if_pos hneg] at h
    have HR := Aside0.mk (Option.some.inj h)
    clear h
    go_enter Try.func24, Try.ntmps24
    go_wp2
    go_ret
    exact ⟨by rw [← HR.out]; rfl, Below.refl _ _⟩
  · rw [if_neg hneg] at h
    by_cases h1 : a0 ≤ 9223372036854775807
    · rw [if_pos h1] at h
      obtain ⟨x, rfl⟩ := Int.eq_ofNat_of_zero_le (show 0 ≤ a0 by omega)
      have HR := Aside0.mk (Option.some.inj h)
      have H1 := Aside0.mk (show x < 9223372036854775808 by omega)
      clear h h1 
      rw [Int.toNat_natCast] at HR
      go_enter Try.func24, Try.ntmps24
      go_wp2
      go_loopw [0, 4] (fun v0 v4 wr => ∃ i y : Nat, 0 < i ∧ i ≤ 8 ∧ v0 = .int .i64 (y : Int) ∧ v4 = .int .i64 (i : Int) ∧ Aside0 (NumRel w x i y wr)) (fun _ v4 _ => (intOf v4).toNat)
      case atStart => 
        exact ⟨8, x, by omega, by omega, rfl, rfl, ⟨by simp, by omega, by rw [numN_all]; exact (heap_alloc_new w _).trans rfl, below_alloc (Below.refl _ _) _⟩⟩
      case round =>
        obtain ⟨i, y, hi0, hi, rfl, rfl, HX⟩ := hrel
        have hc : wr.cell? ⟨w.heap.size, i, none⟩ = some (.int .u8 0) := by
          rw [blk_cell HX.out.2.2.1 i, numN_cell _ (by simp [numN]) i (by omega), numN_low x i i (by omega) (by omega)]
        have hf : wr.frozen? ⟨w.heap.size, i, none⟩ = false := blk_frozen HX.out.2.2.1 i
        have hc2 : wr.cell? ⟨w.heap.size, i - 1, none⟩ = some (.int .u8 0) := by
          rw [blk_cell HX.out.2.2.1 (i - 1), numN_cell _ (by simp [numN]) (i - 1) (by omega), numN_low x i (i - 1) (by omega) (by omega)]
        have hf2 : wr.frozen? ⟨w.heap.size, i - 1, none⟩ = false := blk_frozen HX.out.2.2.1 (i - 1)
        have hlen : Try.prog.arrayLen 60 = 9 := by kernel_rfl
        have hsz : Try.prog.cellsOf (Try.prog.elem 60) = 1 := by kernel_rfl
        have hsl : ∀ W : World, (Instr.sliceAt 60 (.pointer (some ⟨w.heap.size, 0, none⟩)) (some (.int .i64 ((i : Int) - 1))) none none).run Try.prog W = .ok (.slice (some ⟨w.heap.size, i - 1, none⟩) (10 - i) (10 - i)) W := by
          intro W
          rw [run_sliceAt_array_l W 60 ⟨w.heap.size, 0, none⟩ (by kernel_rfl) .i64 ((i : Int) - 1) (by omega) (by rw [hlen]; omega)]
          go_simp
          omega
        go_wp2
        · have hy0 : y / 256 = 0 := by
            have z : ((y : Int) / 256 == 0) = true := by assumption
            have z2 := eq_of_beq z
            omega
          have he := HX.out.1
          have hne := HX.out.2.1
          have hcells : ((wr.setCell ⟨w.heap.size, i, none⟩ (.int .u8 ((y : Int) % 256))).setCell ⟨w.heap.size, i - 1, none⟩ (.int .u8 (9 - (i : Int)))).heap[w.heap.size]? = some (.cells (numCells ((numN x (i - 1)).set (i - 1) (9 - (i : Int)))) 60 (0, 0)) := by
            rw [← num_set, ← numN_step x i hi0 hi, ← he, ← num_set]
            exact blk_set (blk_set HX.out.2.2.1 i _) (i - 1) _
          have hbel : Below w.heap.size w ((wr.setCell ⟨w.heap.size, i, none⟩ (.int .u8 ((y : Int) % 256))).setCell ⟨w.heap.size, i - 1, none⟩ (.int .u8 (9 - (i : Int)))) := (HX.out.2.2.2.setCell (Nat.le_refl _) _).setCell (Nat.le_refl _) _
          have hend := num_end x (8 - i) (by omega) (by rw [Nat.pow_succ, ← Nat.div_div_eq_div_mul, ← he]; exact hy0) (fun h => by rw [← he]; exact hne (by omega))
          rw [show 7 - (8 - i) = i - 1 by omega, show ((8 - i + 1 : Nat) : Int) = 9 - (i : Int) by omega] at hend
          generalize (wr.setCell ⟨w.heap.size, i, none⟩ (.int .u8 ((y : Int) % 256))).setCell ⟨w.heap.size, i - 1, none⟩ (.int .u8 (9 - (i : Int))) = W at *
          have hr : ReadsInt W .u8 (some ⟨w.heap.size, i - 1, none⟩) (10 - i) (numL x) := by
            have hl : (numL x).length = 10 - i := by rw [← hend]; simp [numN]; omega
            refine ⟨hl, by omega, fun _ => ⟨_, rfl, fun j hj => ?_⟩⟩
            have e0 : (⟨w.heap.size, i - 1, none⟩ : Addr).add j = ⟨w.heap.size, i - 1 + j, none⟩ := by unfold Addr.add; split <;> simp_all
            rw [e0, blk_cell hcells (i - 1 + j), numN_cell _ (by simp [numN]) _ (by omega), ← hend]
            simp [List.getD]
          have hcv := string_of_reads (P := Try.prog) (c := 10 - i) Try.underlying62 Try.underlying5 Try.underlying9 hr
          have HV := Aside0.mk hr
          have HL := Aside0.mk hbel
          clear hr hcells hend hbel
          rw [hcv]
          go_simp
          go_wp2
          try simp only [Exit.jump]
          go_ret
          exact ⟨by rw [← HR.out]; rfl, HL.out⟩
        · refine ⟨⟨i - 1, y / 256, ?_, by omega, by simp, by simp; omega, ?_⟩, by simp [intOf]; omega⟩
          · have z : ((y : Int) / 256 == 0) = false := by assumption
            have z1 : y / 256 ≠ 0 := by intro h; rw [show (y : Int) / 256 = ((y / 256 : Nat) : Int) by omega, h] at z; simp at z
            have he := HX.out.1
            by_cases c : i = 1
            · exfalso
              apply z1
              rw [he, Nat.div_div_eq_div_mul, ← Nat.pow_succ, c]
              exact Nat.div_eq_of_lt (by have := H1.out; omega)
            · omega
          · have z : ((y : Int) / 256 == 0) = false := by assumption
            have z1 : y / 256 ≠ 0 := by intro h; rw [show (y : Int) / 256 = ((y / 256 : Nat) : Int) by omega, h] at z; simp at z
            have he := HX.out.1
            refine ⟨⟨?_, fun _ => z1, ?_, HX.out.2.2.2.setCell (Nat.le_refl _) _⟩⟩
            · rw [he, Nat.div_div_eq_div_mul, ← Nat.pow_succ, show (8 - i).succ = 8 - (i - 1) by omega]
            · rw [← numN_step x i hi0 hi, ← he, ← num_set]
              exact blk_set HX.out.2.2.1 i _
    · rw [if_neg h1] at h; cases h


/-! ### hopperref03_bytes: function 36 -/
def hopperref03_bytes.f : Nat → Int → Option (ByteArray)
  | 0, _ => none
  | k + 1, a0 => (some (([(Int.tmod a0 256) % 256] : List Int) : List Int)).bind fun y101 => (if a0 ≥ 256 then ((hopperref03_bytes.f k (wrap64 (Int.tdiv a0 256))).bind fun t104 => (if t104.size + (strOfNums y101).size ≤ 9223372036854775807 then (some (t104 ++ (strOfNums y101))) else (none))) else (some (strOfNums y101)))
theorem hopperref03_bytes.mono_l : ∀ k, (∀ y0, LeO (hopperref03_bytes.f k y0) (hopperref03_bytes.f (k + 1) y0))
  | 0 => fun _ r h => by simp [hopperref03_bytes.f] at h
  | k + 1 => by
    have ih0 := hopperref03_bytes.mono_l k
    · intro y0
      unfold hopperref03_bytes.f
      repeat' first
      | (with_reducible exact ih0 _)
      | (with_reducible exact LeO.refl _)
      | (with_reducible exact LeO.none _)
      | (with_reducible refine LeO.ite ?_ ?_)
      | (with_reducible refine LeO.bind ?_ (fun _ => ?_))
      | exact ih0 _
      | exact LeO.none _
      | refine LeO.ite ?_ ?_
      | refine LeO.bind ?_ (fun _ => ?_)
theorem hopperref03_bytes.mono : ∀ a0 k, LeO (hopperref03_bytes.f k a0) (hopperref03_bytes.f (k + 1) a0) := by
  intro a0 k
  have ih0 := hopperref03_bytes.mono_l k
  exact ih0 a0
set_option maxHeartbeats 8000000 in
set_option maxRecDepth 100000 in
theorem hopperref03_bytes.calls (k : Nat) : ∀ (a0 : Int) (r : ByteArray) (w : World) (h : hopperref03_bytes.f k a0 = some r),
    Calls Try.prog 36 #[.int .i64 a0] w fun e w' => e = .returned (.string r) ∧ Below w.heap.size w w' := by
  induction k using Nat.strongRecOn with
  | _ k ih =>
  intro a0 r w h
  cases k with
  | zero => exact absurd h (by simp [hopperref03_bytes.f])
  | succ k =>
  simp only [hopperref03_bytes.f] at h
  have HB := Aside0.mk (Below.refl w.heap.size w)
  have H : ((some (([(Int.tmod a0 256) % 256] : List Int) : List Int)).bind fun y101 => (if a0 ≥ 256 then ((hopperref03_bytes.f k (wrap64 (Int.tdiv a0 256))).bind fun t104 => (if t104.size + (strOfNums y101).size ≤ 9223372036854775807 then (some (t104 ++ (strOfNums y101))) else (none))) else (some (strOfNums y101)))) = some r := h
  clear h
  obtain ⟨y101, hy101⟩ : ∃ y_ : List Int, y_ = (([(Int.tmod a0 256) % 256] : List Int)) := ⟨_, rfl⟩
  replace H : (if a0 ≥ 256 then ((hopperref03_bytes.f k (wrap64 (Int.tdiv a0 256))).bind fun t104 => (if t104.size + (strOfNums y101).size ≤ 9223372036854775807 then (some (t104 ++ (strOfNums y101))) else (none))) else (some (strOfNums y101))) = some r := by first | (rw [hy101]; with_reducible exact H) | (have H2_ := (Option.bind_some _ _).symm.trans H; rw [hy101]; with_reducible exact H2_) | (have H2_ := (Option.bind_some _ _).symm.trans H; with_reducible exact H2_) | with_reducible exact H | (rw [hy101]; exact H) | exact H
  have Ny101 := Aside0.mk hy101
  clear hy101
  by_cases c2 : a0 ≥ 256
  · rw [if_pos c2] at H
    have c2b0 : decide (256 ≤ a0) = true := decide_eq_true c2
    clear c2
    replace H := Option.bind_eq_some_iff.mp H
    obtain ⟨t104, A30, H⟩ := H
    replace H : (if t104.size + (strOfNums y101).size ≤ 9223372036854775807 then (some (t104 ++ (strOfNums y101))) else (none)) = some r := H
    have A3 := Aside0.mk A30
    clear A30
    by_cases c4 : t104.size + (strOfNums y101).size ≤ 9223372036854775807
    · rw [if_pos c4] at H
      have c4b0 := eq_true c4
      have c4b1 : decide (t104.size + (strOfNums y101).size ≤ 9223372036854775807) = true := decide_eq_true c4
      try have c4b2 : (9223372036854775807 < t104.size + (strOfNums y101).size) = False := eq_false (Nat.not_lt.2 c4)
      obtain rfl := Option.some.inj H
      go_enter Try.func36, Try.ntmps36
      go_wp2_with (first | ((with_reducible refine gate_dst (N := 7) rfl ?_); refine Kd.R_lit (Kd.int .u8) _ 5 ?hg (N := 7) ?hd (xs := ([(Int.tmod a0 256) % 256] : List Int)) (inner := [.int .u8 ((Int.tmod a0 256) % 256)]) (ok := fun _ => True) (okp := fun _ => True) ?hr ?hp (fun _ hk => hk) trivial (Below.refl _ _) (Nat.le_refl _) (by simp) ?_; (case hd => rfl); (case hg => rfl); (case hr => first | (go_simp; done) | (go_simp; rfl)); (case hp => exact (Reps.one (show Kd.M (Kd.int .u8) _ _ _ ((Int.tmod a0 256) % 256) [.int .u8 ((Int.tmod a0 256) % 256)] from rfl) (Reps.none _ _))); intro v102 w5 ho6 hb hg_ hnew_; clear hg_ hnew_; (first | rw [← Ny101.out] at ho6 | (simp only [Int.reduceToNat] at ho6; rw [← Ny101.out] at ho6)); have n0_ := Aside0.mk (Kd.R_lower ho6 (below_size (by repeat (first | (with_reducible first | exact HB.out | apply below_alloc | apply pw_below_drewN | apply below_drew1) | exact HB.out)))); have n1_ := Aside0.mk (below_step (by repeat (first | (with_reducible first | exact HB.out | apply below_alloc | apply pw_below_drewN | apply below_drew1) | exact HB.out)) hb); clear HB; have HO103 := n0_; have HB := n1_; clear n0_ n1_; clear hb ho6; have hcv7 := own_string (P := Try.prog) Try.underlying62 Try.underlying5 Try.underlying9 (Kd.own_of_R HO103.out)) | ((with_reducible refine gate_callee (f := 36) rfl ?_); refine goesL_ (some 13) rfl rfl Try.func36 (by kernel_rfl) rfl #[.int .i64 (wrap64 (Int.tdiv a0 256))] rfl (by (try simp only [List.map_toArray, List.map_cons, List.map_nil]); first | done | rfl | (simp only [List.length_drop, List.length_take]; rfl)) ?_; (with_reducible refine (ih k (by omega) (wrap64 (Int.tdiv a0 256)) t104 _ A3.out).mono ?_); rintro e w8 ⟨rfl, hb⟩; refine ⟨_, rfl, ?_⟩; have n0_ := Aside0.mk (Kd.R_below (by (with_reducible repeat (first | apply Kd.R_alloc | apply Kd.R_drewN | apply Kd.R_drew)); exact HO103.out) hb); have n1_ := Aside0.mk (below_step (by repeat (first | (with_reducible first | exact HB.out | apply below_alloc | apply pw_below_drewN | apply below_drew1) | exact HB.out)) hb); clear HO103; clear HB; have HO103 := n0_; have HB := n1_; clear n0_ n1_; (try clear hb); (try clear hb2); (try clear hk); (try clear hi)))
      go_ret
      exact ⟨by first | rfl | (simp [errW_none, errW_some] <;> rfl) | (simp [*, errW_none, errW_some] <;> rfl), by repeat (first | (with_reducible first | exact HB.out | apply below_alloc | apply pw_below_drewN | apply below_drew1) | exact HB.out)⟩
    · rw [if_neg c4] at H
      exact absurd H (by simp)
  · rw [if_neg c2] at H
    have c2b0 : decide (256 ≤ a0) = false := decide_eq_false c2
    clear c2
    obtain rfl := Option.some.inj H
    go_enter Try.func36, Try.ntmps36
    go_wp2_with (first | ((with_reducible refine gate_dst (N := 7) rfl ?_); refine Kd.R_lit (Kd.int .u8) _ 5 ?hg (N := 7) ?hd (xs := ([(Int.tmod a0 256) % 256] : List Int)) (inner := [.int .u8 ((Int.tmod a0 256) % 256)]) (ok := fun _ => True) (okp := fun _ => True) ?hr ?hp (fun _ hk => hk) trivial (Below.refl _ _) (Nat.le_refl _) (by simp) ?_; (case hd => rfl); (case hg => rfl); (case hr => first | (go_simp; done) | (go_simp; rfl)); (case hp => exact (Reps.one (show Kd.M (Kd.int .u8) _ _ _ ((Int.tmod a0 256) % 256) [.int .u8 ((Int.tmod a0 256) % 256)] from rfl) (Reps.none _ _))); intro v102 w9 ho10 hb hg_ hnew_; clear hg_ hnew_; (first | rw [← Ny101.out] at ho10 | (simp only [Int.reduceToNat] at ho10; rw [← Ny101.out] at ho10)); have n0_ := Aside0.mk (Kd.R_lower ho10 (below_size (by repeat (first | (with_reducible first | exact HB.out | apply below_alloc | apply pw_below_drewN | apply below_drew1) | exact HB.out)))); have n1_ := Aside0.mk (below_step (by repeat (first | (with_reducible first | exact HB.out | apply below_alloc | apply pw_below_drewN | apply below_drew1) | exact HB.out)) hb); clear HB; have HO103 := n0_; have HB := n1_; clear n0_ n1_; clear hb ho10; have hcv11 := own_string (P := Try.prog) Try.underlying62 Try.underlying5 Try.underlying9 (Kd.own_of_R HO103.out)))
    go_ret
    exact ⟨by first | rfl | (simp [errW_none, errW_some] <;> rfl) | (simp [*, errW_none, errW_some] <;> rfl), by repeat (first | (with_reducible first | exact HB.out | apply below_alloc | apply pw_below_drewN | apply below_drew1) | exact HB.out)⟩

/-! ### hopperref03_Number: function 25 -/
def hopperref03_Number.f (k : Nat) (a0 : Int) : Option (ByteArray) := if a0 < 0 then (some (⟨#[]⟩ : ByteArray)) else ((hopperref03_bytes.f k a0).bind fun t105 => ((some (([((t105.size : Int)) % 256] : List Int) : List Int)).bind fun y106 => (if (strOfNums y106).size + t105.size ≤ 9223372036854775807 then (some ((strOfNums y106) ++ t105)) else (none))))
theorem hopperref03_Number.mono : ∀ a0 k, LeO (hopperref03_Number.f k a0) (hopperref03_Number.f (k + 1) a0) := by
  intro a0 k
  unfold hopperref03_Number.f
  repeat' first
      | (with_reducible exact hopperref03_bytes.mono _ _)
      | (with_reducible exact LeO.refl _)
      | (with_reducible exact LeO.none _)
      | (with_reducible refine LeO.ite ?_ ?_)
      | (with_reducible refine LeO.bind ?_ (fun _ => ?_))
      | exact hopperref03_bytes.mono _ _
      | exact LeO.none _
      | refine LeO.ite ?_ ?_
      | refine LeO.bind ?_ (fun _ => ?_)
set_option maxHeartbeats 8000000 in
set_option maxRecDepth 100000 in
theorem hopperref03_Number.calls (k : Nat) (a0 : Int) (r : ByteArray) (w : World) (h : hopperref03_Number.f k a0 = some r) :
    Calls Try.prog 25 #[.int .i64 a0] w fun e w' => e = .returned (.string r) ∧ Below w.heap.size w w' := by
  have HB := Aside0.mk (Below.refl w.heap.size w)
  have H : (if a0 < 0 then (some (⟨#[]⟩ : ByteArray)) else ((hopperref03_bytes.f k a0).bind fun t105 => ((some (([((t105.size : Int)) % 256] : List Int) : List Int)).bind fun y106 => (if (strOfNums y106).size + t105.size ≤ 9223372036854775807 then (some ((strOfNums y106) ++ t105)) else (none))))) = some r := h
  clear h
  by_cases c2 : a0 < 0
  · rw [if_pos c2] at H
    have c2b0 : decide (a0 < 0) = true := decide_eq_true c2
    clear c2
    obtain rfl := Option.some.inj H
    go_enter Try.func25, Try.ntmps25
    go_wp2
    go_ret
    exact ⟨by first | rfl | (simp [errW_none, errW_some] <;> rfl) | (simp [*, errW_none, errW_some] <;> rfl), by repeat (first | (with_reducible first | exact HB.out | apply below_alloc | apply pw_below_drewN | apply below_drew1) | exact HB.out)⟩
  · rw [if_neg c2] at H
    have c2b0 : decide (a0 < 0) = false := decide_eq_false c2
    clear c2
    replace H := Option.bind_eq_some_iff.mp H
    obtain ⟨t105, A30, H⟩ := H
    replace H : ((some (([((t105.size : Int)) % 256] : List Int) : List Int)).bind fun y106 => (if (strOfNums y106).size + t105.size ≤ 9223372036854775807 then (some ((strOfNums y106) ++ t105)) else (none))) = some r := H
    have A3 := Aside0.mk A30
    clear A30
    obtain ⟨y106, hy106⟩ : ∃ y_ : List Int, y_ = (([((t105.size : Int)) % 256] : List Int)) := ⟨_, rfl⟩
    replace H : (if (strOfNums y106).size + t105.size ≤ 9223372036854775807 then (some ((strOfNums y106) ++ t105)) else (none)) = some r := by first | (rw [hy106]; with_reducible exact H) | (have H2_ := (Option.bind_some _ _).symm.trans H; rw [hy106]; with_reducible exact H2_) | (have H2_ := (Option.bind_some _ _).symm.trans H; with_reducible exact H2_) | with_reducible exact H | (rw [hy106]; exact H) | exact H
    have Ny106 := Aside0.mk hy106
    clear hy106
    by_cases c4 : (strOfNums y106).size + t105.size ≤ 9223372036854775807
    · rw [if_pos c4] at H
      have c4b0 := eq_true c4
      have c4b1 : decide ((strOfNums y106).size + t105.size ≤ 9223372036854775807) = true := decide_eq_true c4
      try have c4b2 : (9223372036854775807 < (strOfNums y106).size + t105.size) = False := eq_false (Nat.not_lt.2 c4)
      obtain rfl := Option.some.inj H
      go_enter Try.func25, Try.ntmps25
      go_wp2_with (first | ((with_reducible refine gate_callee (f := 36) rfl ?_); refine goesL_ (some 7) rfl rfl Try.func36 (by kernel_rfl) rfl #[.int .i64 a0] rfl (by (try simp only [List.map_toArray, List.map_cons, List.map_nil]); first | done | rfl | (simp only [List.length_drop, List.length_take]; rfl)) ?_; (with_reducible refine (hopperref03_bytes.calls k a0 t105 _ A3.out).mono ?_); rintro e w5 ⟨rfl, hb⟩; refine ⟨_, rfl, ?_⟩; have n0_ := Aside0.mk (below_step (by repeat (first | (with_reducible first | exact HB.out | apply below_alloc | apply pw_below_drewN | apply below_drew1) | exact HB.out)) hb); clear HB; have HB := n0_; clear n0_; (try clear hb); (try clear hb2); (try clear hk); (try clear hi)) | ((with_reducible refine gate_dst (N := 11) rfl ?_); refine Kd.R_lit (Kd.int .u8) _ 5 ?hg (N := 11) ?hd (xs := ([((t105.size : Int)) % 256] : List Int)) (inner := [.int .u8 (((t105.size : Int)) % 256)]) (ok := fun _ => True) (okp := fun _ => True) ?hr ?hp (fun _ hk => hk) trivial (Below.refl _ _) (Nat.le_refl _) (by simp) ?_; (case hd => rfl); (case hg => rfl); (case hr => first | (go_simp; done) | (go_simp; rfl)); (case hp => exact (Reps.one (show Kd.M (Kd.int .u8) _ _ _ (((t105.size : Int)) % 256) [.int .u8 (((t105.size : Int)) % 256)] from rfl) (Reps.none _ _))); intro v107 w6 ho7 hb hg_ hnew_; clear hg_ hnew_; (first | rw [← Ny106.out] at ho7 | (simp only [Int.reduceToNat] at ho7; rw [← Ny106.out] at ho7)); have n0_ := Aside0.mk (Kd.R_lower ho7 (below_size (by repeat (first | (with_reducible first | exact HB.out | apply below_alloc | apply pw_below_drewN | apply below_drew1) | exact HB.out)))); have n1_ := Aside0.mk (below_step (by repeat (first | (with_reducible first | exact HB.out | apply below_alloc | apply pw_below_drewN | apply below_drew1) | exact HB.out)) hb); clear HB; have HO108 := n0_; have HB := n1_; clear n0_ n1_; clear hb ho7; have hcv8 := own_string (P := Try.prog) Try.underlying62 Try.underlying5 Try.underlying9 (Kd.own_of_R HO108.out)))
      go_ret
      exact ⟨by first | rfl | (simp [errW_none, errW_some] <;> rfl) | (simp [*, errW_none, errW_some] <;> rfl), by repeat (first | (with_reducible first | exact HB.out | apply below_alloc | apply pw_below_drewN | apply below_drew1) | exact HB.out)⟩
    · rw [if_neg c4] at H
      exact absurd H (by simp)

/-! ### codec_Text: function 26 -/
def codec_Text.f (a0 : ByteArray) : Option (ByteArray) := if (a0.size : Int) > 65535 then (some (⟨#[]⟩ : ByteArray)) else ((some (([((a0.size : Int) / 256) % 256, ((a0.size : Int)) % 256] : List Int) : List Int)).bind fun y109 => (if (strOfNums y109).size + a0.size ≤ 9223372036854775807 then (some ((strOfNums y109) ++ a0)) else (none)))
set_option maxHeartbeats 8000000 in
set_option maxRecDepth 100000 in
theorem codec_Text.calls (a0 : ByteArray) (r : ByteArray) (w : World) (h : codec_Text.f a0 = some r) :
    Calls Try.prog 26 #[.string a0] w fun e w' => e = .returned (.string r) ∧ Below w.heap.size w w' := by
  have HB := Aside0.mk (Below.refl w.heap.size w)
  have H : (if (a0.size : Int) > 65535 then (some (⟨#[]⟩ : ByteArray)) else ((some (([((a0.size : Int) / 256) % 256, ((a0.size : Int)) % 256] : List Int) : List Int)).bind fun y109 => (if (strOfNums y109).size + a0.size ≤ 9223372036854775807 then (some ((strOfNums y109) ++ a0)) else (none)))) = some r := h
  clear h
  by_cases c2 : (a0.size : Int) > 65535
  · rw [if_pos c2] at H
    have c2b0 : decide (65535 < (a0.size : Int)) = true := decide_eq_true c2
    have c2b1 : decide (65535 < a0.size) = true := decide_eq_true (by omega)
    clear c2
    obtain rfl := Option.some.inj H
    go_enter Try.func26, Try.ntmps26
    go_wp2
    go_ret
    exact ⟨by first | rfl | (simp [errW_none, errW_some] <;> rfl) | (simp [*, errW_none, errW_some] <;> rfl), by repeat (first | (with_reducible first | exact HB.out | apply below_alloc | apply pw_below_drewN | apply below_drew1) | exact HB.out)⟩
  · rw [if_neg c2] at H
    have c2b0 : decide (65535 < (a0.size : Int)) = false := decide_eq_false c2
    have c2b1 : decide (65535 < a0.size) = false := decide_eq_false (by omega)
    clear c2
    obtain ⟨y109, hy109⟩ : ∃ y_ : List Int, y_ = (([((a0.size : Int) / 256) % 256, ((a0.size : Int)) % 256] : List Int)) := ⟨_, rfl⟩
    replace H : (if (strOfNums y109).size + a0.size ≤ 9223372036854775807 then (some ((strOfNums y109) ++ a0)) else (none)) = some r := by first | (rw [hy109]; with_reducible exact H) | (have H2_ := (Option.bind_some _ _).symm.trans H; rw [hy109]; with_reducible exact H2_) | (have H2_ := (Option.bind_some _ _).symm.trans H; with_reducible exact H2_) | with_reducible exact H | (rw [hy109]; exact H) | exact H
    have Ny109 := Aside0.mk hy109
    clear hy109
    by_cases c3 : (strOfNums y109).size + a0.size ≤ 9223372036854775807
    · rw [if_pos c3] at H
      have c3b0 := eq_true c3
      have c3b1 : decide ((strOfNums y109).size + a0.size ≤ 9223372036854775807) = true := decide_eq_true c3
      try have c3b2 : (9223372036854775807 < (strOfNums y109).size + a0.size) = False := eq_false (Nat.not_lt.2 c3)
      obtain rfl := Option.some.inj H
      go_enter Try.func26, Try.ntmps26
      go_wp2_with (first | ((with_reducible refine gate_dst (N := 13) rfl ?_); refine Kd.R_lit (Kd.int .u8) _ 5 ?hg (N := 13) ?hd (xs := ([((a0.size : Int) / 256) % 256, ((a0.size : Int)) % 256] : List Int)) (inner := [.int .u8 (((a0.size : Int) / 256) % 256), .int .u8 (((a0.size : Int)) % 256)]) (ok := fun _ => True) (okp := fun _ => True) ?hr ?hp (fun _ hk => hk) trivial (Below.refl _ _) (Nat.le_refl _) (by simp) ?_; (case hd => rfl); (case hg => rfl); (case hr => first | (go_simp; done) | (go_simp; rfl)); (case hp => exact (Reps.one (show Kd.M (Kd.int .u8) _ _ _ (((a0.size : Int) / 256) % 256) [.int .u8 (((a0.size : Int) / 256) % 256)] from rfl) (Reps.one (show Kd.M (Kd.int .u8) _ _ _ (((a0.size : Int)) % 256) [.int .u8 (((a0.size : Int)) % 256)] from rfl) (Reps.none _ _)))); intro v110 w4 ho5 hb hg_ hnew_; clear hg_ hnew_; (first | rw [← Ny109.out] at ho5 | (simp only [Int.reduceToNat] at ho5; rw [← Ny109.out] at ho5)); have n0_ := Aside0.mk (Kd.R_lower ho5 (below_size (by repeat (first | (with_reducible first | exact HB.out | apply below_alloc | apply pw_below_drewN | apply below_drew1) | exact HB.out)))); have n1_ := Aside0.mk (below_step (by repeat (first | (with_reducible first | exact HB.out | apply below_alloc | apply pw_below_drewN | apply below_drew1) | exact HB.out)) hb); clear HB; have HO111 := n0_; have HB := n1_; clear n0_ n1_; clear hb ho5; have hcv6 := own_string (P := Try.prog) Try.underlying62 Try.underlying5 Try.underlying9 (Kd.own_of_R HO111.out)))
      go_ret
      exact ⟨by first | rfl | (simp [errW_none, errW_some] <;> rfl) | (simp [*, errW_none, errW_some] <;> rfl), by repeat (first | (with_reducible first | exact HB.out | apply below_alloc | apply pw_below_drewN | apply below_drew1) | exact HB.out)⟩
    · rw [if_neg c3] at H
      exact absurd H (by simp)

/-! ### hopperref03_Text: function 27 -/
def hopperref03_Text.f (a0 : ByteArray) : Option (ByteArray) := if (a0.size : Int) > 65535 then (some (⟨#[]⟩ : ByteArray)) else ((some (([((a0.size : Int) / 256) % 256, (a0.size : Int) % 256] : List Int) : List Int)).bind fun y112 => (if (strOfNums y112).size + a0.size ≤ 9223372036854775807 then (some ((strOfNums y112) ++ a0)) else (none)))
set_option maxHeartbeats 8000000 in
set_option maxRecDepth 100000 in
theorem hopperref03_Text.calls (a0 : ByteArray) (r : ByteArray) (w : World) (h : hopperref03_Text.f a0 = some r) :
    Calls Try.prog 27 #[.string a0] w fun e w' => e = .returned (.string r) ∧ Below w.heap.size w w' := by
  have HB := Aside0.mk (Below.refl w.heap.size w)
  have H : (if (a0.size : Int) > 65535 then (some (⟨#[]⟩ : ByteArray)) else ((some (([((a0.size : Int) / 256) % 256, (a0.size : Int) % 256] : List Int) : List Int)).bind fun y112 => (if (strOfNums y112).size + a0.size ≤ 9223372036854775807 then (some ((strOfNums y112) ++ a0)) else (none)))) = some r := h
  clear h
  by_cases c2 : (a0.size : Int) > 65535
  · rw [if_pos c2] at H
    have c2b0 : decide (65535 < (a0.size : Int)) = true := decide_eq_true c2
    have c2b1 : decide (65535 < a0.size) = true := decide_eq_true (by omega)
    clear c2
    obtain rfl := Option.some.inj H
    go_enter Try.func27, Try.ntmps27
    go_wp2
    go_ret
    exact ⟨by first | rfl | (simp [errW_none, errW_some] <;> rfl) | (simp [*, errW_none, errW_some] <;> rfl), by repeat (first | (with_reducible first | exact HB.out | apply below_alloc | apply pw_below_drewN | apply below_drew1) | exact HB.out)⟩
  · rw [if_neg c2] at H
    have c2b0 : decide (65535 < (a0.size : Int)) = false := decide_eq_false c2
    have c2b1 : decide (65535 < a0.size) = false := decide_eq_false (by omega)
    clear c2
    obtain ⟨y112, hy112⟩ : ∃ y_ : List Int, y_ = (([((a0.size : Int) / 256) % 256, (a0.size : Int) % 256] : List Int)) := ⟨_, rfl⟩
    replace H : (if (strOfNums y112).size + a0.size ≤ 9223372036854775807 then (some ((strOfNums y112) ++ a0)) else (none)) = some r := by first | (rw [hy112]; with_reducible exact H) | (have H2_ := (Option.bind_some _ _).symm.trans H; rw [hy112]; with_reducible exact H2_) | (have H2_ := (Option.bind_some _ _).symm.trans H; with_reducible exact H2_) | with_reducible exact H | (rw [hy112]; exact H) | exact H
    have Ny112 := Aside0.mk hy112
    clear hy112
    by_cases c3 : (strOfNums y112).size + a0.size ≤ 9223372036854775807
    · rw [if_pos c3] at H
      have c3b0 := eq_true c3
      have c3b1 : decide ((strOfNums y112).size + a0.size ≤ 9223372036854775807) = true := decide_eq_true c3
      try have c3b2 : (9223372036854775807 < (strOfNums y112).size + a0.size) = False := eq_false (Nat.not_lt.2 c3)
      obtain rfl := Option.some.inj H
      go_enter Try.func27, Try.ntmps27
      go_wp2_with (first | ((with_reducible refine gate_dst (N := 14) rfl ?_); refine Kd.R_lit (Kd.int .u8) _ 5 ?hg (N := 14) ?hd (xs := ([((a0.size : Int) / 256) % 256, (a0.size : Int) % 256] : List Int)) (inner := [.int .u8 (((a0.size : Int) / 256) % 256), .int .u8 ((a0.size : Int) % 256)]) (ok := fun _ => True) (okp := fun _ => True) ?hr ?hp (fun _ hk => hk) trivial (Below.refl _ _) (Nat.le_refl _) (by simp) ?_; (case hd => rfl); (case hg => rfl); (case hr => first | (go_simp; done) | (go_simp; rfl)); (case hp => exact (Reps.one (show Kd.M (Kd.int .u8) _ _ _ (((a0.size : Int) / 256) % 256) [.int .u8 (((a0.size : Int) / 256) % 256)] from rfl) (Reps.one (show Kd.M (Kd.int .u8) _ _ _ ((a0.size : Int) % 256) [.int .u8 ((a0.size : Int) % 256)] from rfl) (Reps.none _ _)))); intro v113 w4 ho5 hb hg_ hnew_; clear hg_ hnew_; (first | rw [← Ny112.out] at ho5 | (simp only [Int.reduceToNat] at ho5; rw [← Ny112.out] at ho5)); have n0_ := Aside0.mk (Kd.R_lower ho5 (below_size (by repeat (first | (with_reducible first | exact HB.out | apply below_alloc | apply pw_below_drewN | apply below_drew1) | exact HB.out)))); have n1_ := Aside0.mk (below_step (by repeat (first | (with_reducible first | exact HB.out | apply below_alloc | apply pw_below_drewN | apply below_drew1) | exact HB.out)) hb); clear HB; have HO114 := n0_; have HB := n1_; clear n0_ n1_; clear hb ho5; have hcv6 := own_string (P := Try.prog) Try.underlying62 Try.underlying5 Try.underlying9 (Kd.own_of_R HO114.out)))
      go_ret
      exact ⟨by first | rfl | (simp [errW_none, errW_some] <;> rfl) | (simp [*, errW_none, errW_some] <;> rfl), by repeat (first | (with_reducible first | exact HB.out | apply below_alloc | apply pw_below_drewN | apply below_drew1) | exact HB.out)⟩
    · rw [if_neg c3] at H
      exact absurd H (by simp)

/-! ### codec_cut: function 37, by hand -/
-- HAND rounds=0 making=1 opaque
set_option maxHeartbeats 1000000 in
theorem codec_cut.short (s : ByteArray) (n : Int) (w : World) (h : (s.size : Int) < n) :
    Calls Try.prog 37 #[.string s, .int .i64 n] w fun e w' => e = .returned (.tuple #[.slice none 0 0, .string ⟨#[]⟩, .bool false]) ∧ Below w.heap.size w w' := by
  go_enter Try.func37, Try.ntmps37
  go_wp2
  go_ret3
  exact ⟨rfl, Below.refl _ _⟩
theorem bytesOf_take (s : ByteArray) (n : Nat) : (bytesOf s).take n = bytesOf (s.extract 0 n) := by
  unfold bytesOf
  rw [← List.map_take]
  congr 1
  rw [ByteArray.data_extract, Array.toList_extract]
  simp [List.extract_eq_take_drop]
set_option maxHeartbeats 1000000 in
theorem codec_cut.long (s : ByteArray) (n : Nat) (w : World) (h : n ≤ s.size) (hn : s.size ≤ 9223372036854775807) :
    Calls Try.prog 37 #[.string s, .int .i64 n] w fun e w' => (e = .returned (.tuple #[.slice (some ⟨w.heap.size, 0, none⟩) n n, .string (s.extract n s.size), .bool true]) ∧ ReadsInt w' .u8 (some ⟨w.heap.size, 0, none⟩) n (bytesOf (s.extract 0 n))) ∧ Below w.heap.size w w' := by
  have kb := fun W => print_bytes (P := Try.prog) 9 62 5 Try.underlying9 Try.underlying62 Try.underlying5 s W
  have hge := fun W : World => grownCap_ge W s.size 0 5
  have hsl : ∀ W W1 : World, (Instr.slice 62 (.slice (some ⟨w.heap.size, 0, none⟩) s.size (grownCap W1 s.size 0 5)) none (some (.int .i64 (n : Int))) (some (.int .i64 (n : Int)))).run Try.prog W = .ok (.slice (some ⟨w.heap.size, 0, none⟩) n n) W := by
    intro W W1
    rw [run_slice_hm W 62 (some ⟨w.heap.size, 0, none⟩) s.size (grownCap W1 s.size 0 5) (by kernel_rfl) .i64 .i64 (n : Int) (n : Int) (by omega) (by omega) (by have := hge W1; omega)]
    go_simp
  have hB := bytes_below (Below.refl w.heap.size w) (Nat.le_refl _) 5 s
  have hR := (bytes_reads w 5 s hn).take_ n h
  rw [bytesOf_take] at hR
  have HB := Aside0.mk hB
  have HR := Aside0.mk hR
  clear hB hR
  go_enter Try.func37, Try.ntmps37
  go_wp2
  go_region
  go_wp2
  go_ret3
  exact ⟨⟨rfl, HR.out.below (below_drew1 (Below.refl _ _))⟩, below_drew1 HB.out⟩


/-! ### codec_value: function 38 -/
def codec_value.l0 : Nat → Int → List Int → Int → Int → Option (Int)
  | 0, _, _, _, _ => none
  | k + 1, x3, x6, x7, x8 => if x8 < x7 then (if 0 ≤ x8 then (if x8 < (x6.length : Int) then (codec_value.l0 k (Go.bits .or .i64 (wrap64 (x3 * 256)) (wrap64 (rd x6 x8))) x6 x7 (wrap64 (x8 + 1))) else (none)) else (none)) else (some x3)
def codec_value.f (k : Nat) (l0 : List Int) : Option (Int) := codec_value.l0 k 0 l0 (l0.length : Int) 0
theorem codec_value.mono_l : ∀ k, (∀ y0 y1 y2 y3, LeO (codec_value.l0 k y0 y1 y2 y3) (codec_value.l0 (k + 1) y0 y1 y2 y3))
  | 0 => fun _ _ _ _ r h => by simp [codec_value.l0] at h
  | k + 1 => by
    have ih0 := codec_value.mono_l k
    · intro y0 y1 y2 y3
      unfold codec_value.l0
      repeat' first
      | (with_reducible exact ih0 _ _ _ _)
      | (with_reducible exact LeO.refl _)
      | (with_reducible exact LeO.none _)
      | (with_reducible refine LeO.ite ?_ ?_)
      | (with_reducible refine LeO.bind ?_ (fun _ => ?_))
      | exact ih0 _ _ _ _
      | exact LeO.none _
      | refine LeO.ite ?_ ?_
      | refine LeO.bind ?_ (fun _ => ?_)
theorem codec_value.mono : ∀ a0 k, LeO (codec_value.f k a0) (codec_value.f (k + 1) a0) := by
  intro a0 k
  have ih0 := codec_value.mono_l k
  unfold codec_value.f
  repeat' first
      | (with_reducible exact ih0 _ _ _ _)
      | (with_reducible exact LeO.refl _)
      | (with_reducible exact LeO.none _)
      | (with_reducible refine LeO.ite ?_ ?_)
      | (with_reducible refine LeO.bind ?_ (fun _ => ?_))
      | exact ih0 _ _ _ _
      | exact LeO.none _
      | refine LeO.ite ?_ ?_
      | refine LeO.bind ?_ (fun _ => ?_)
set_option maxHeartbeats 8000000 in
set_option maxRecDepth 100000 in
theorem codec_value.calls (k : Nat) (A0 : Option Addr) (c0 : Nat) (l0 : List Int) (r : Int) (w : World) (hr0 : Kd.C (Kd.int .u8) w A0 l0.length l0) (hc0 : l0.length ≤ c0) (h : codec_value.f k l0 = some r) :
    Calls Try.prog 38 #[.slice A0 l0.length c0] w fun e w' => e = .returned (.int .i64 r) ∧ Drawn0 w w' := by
  have HR0 := Aside0.mk hr0
  have HC0 := Aside0.mk hc0
  clear hr0 hc0
  have H : (codec_value.l0 k 0 l0 (l0.length : Int) 0) = some r := h
  clear h
  have H' := Aside0.mk H
  clear H
  go_enter Try.func38, Try.ntmps38
  go_wp2
  go_loopg [3, 8] k (fun kq v3 v8 w' => ∃ (x3_1 : Int) (x8_1 : Int), v3 = .int .i64 x3_1 ∧ v8 = .int .i64 x8_1 ∧ Aside0 (codec_value.l0 kq x3_1 l0 (l0.length : Int) x8_1 = some r) ∧ Aside0 (kq ≤ k) ∧ Drawn0 w w')
  case atStart => exact ⟨(0), (0), (by first | rfl | (simp; done) | (simp [*]; done)), (by first | rfl | (simp; done) | (simp [*]; done)), H', ⟨Nat.le_refl _⟩, by repeat (first | exact Drawn0.refl _ | apply Drawn0.step)⟩
  case round =>
    clear H'
    obtain ⟨x3_1, x8_1, rfl, rfl, HA, HK1, ⟨m1, rfl⟩⟩ := hrel
    cases gk with
    | zero => exact absurd HA.out (by simp [codec_value.l0])
    | succ k1 =>
      have H := HA.out
      clear HA
      simp only [codec_value.l0] at H
      by_cases c2 : x8_1 < (l0.length : Int)
      · rw [if_pos c2] at H
        have c2b0 : decide (x8_1 < (l0.length : Int)) = true := decide_eq_true c2
        clear c2
        by_cases c3 : 0 ≤ x8_1
        · rw [if_pos c3] at H
          have c3b0 : decide (0 ≤ x8_1) = true := decide_eq_true c3
          clear c3
          by_cases c4 : x8_1 < (l0.length : Int)
          · rw [if_pos c4] at H
            have c4b0 : decide (x8_1 < (l0.length : Int)) = true := decide_eq_true c4
            clear c4
            have H' := Aside0.mk H
            clear H
            have p115 : 0 ≤ (x8_1 : Int) := of_decide_eq_true (by first | (with_reducible assumption) | assumption)
            have q115 : x8_1 < (l0.length : Int) := of_decide_eq_true (by first | (with_reducible assumption) | assumption)
            obtain ⟨ad115, e115, hx115_0⟩ := Kd.at_int HR0.out x8_1 p115 q115
            cases e115
            replace p115 := eq_true p115
            replace q115 := eq_true q115
            go_wp2
            go_roundg k1
            case measure => have := HK1.out; omega
            case rel => exact ⟨(Go.bits .or .i64 (wrap64 (x3_1 * 256)) (wrap64 (rd l0 x8_1))), (wrap64 (x8_1 + 1)), (by first | rfl | (simp; done) | (simp [*]; done)), (by first | rfl | (simp; done) | (simp [*]; done)), H', ⟨by have := HK1.out; omega⟩, by repeat (first | exact Drawn0.refl _ | apply Drawn0.step)⟩
          · rw [if_neg c4] at H
            exact absurd H (by simp)
        · rw [if_neg c3] at H
          exact absurd H (by simp)
      · rw [if_neg c2] at H
        have c2b0 : decide (x8_1 < (l0.length : Int)) = false := decide_eq_false c2
        clear c2
        obtain rfl := Option.some.inj H
        go_wp2
        go_ret
        exact ⟨by first | rfl | (simp; done) | (simp [*]; done), by repeat (first | exact Drawn0.refl _ | apply Drawn0.step)⟩

end Go.Proofs.Ytfpomamhcjkoeab.C
