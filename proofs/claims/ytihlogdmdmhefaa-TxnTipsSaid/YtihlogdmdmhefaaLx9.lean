/- Written by this session's own program over the kit's print: functions of Go told as plain functions, or the row of one statement; proved for every input, with no condition of ours. -/
import Derived.Test.YtihlogdmdmhefaaLx0
import Derived.Test.YtihlogdmdmhefaaLx4
namespace Go.Proofs.Ytihlogdmdmhefaa.L
open Go.RowKit Go.Proofs.YtihlogdmdmhefaaW.PrintWords Go.Proofs.YtihlogdmdmhefaaW.PrintLast Go.Proofs.YtihlogdmdmhefaaW.PrintMore
attribute [local go_sem] max2_int min2_int max_two min_two max_three min_three max_four min_four   -- for this text's walks alone
set_option linter.unusedVariables false
set_option linter.unusedSimpArgs false

/-! ### sat_Slots: function 115 -/
def sat_Slots.f (a0 : Int) : Option (Int) := if a0 < 0 then (some 0) else (if a0 > 400 then (some 0) else (some (mx 1 (wrap64 (Int.tdiv (wrap64 ((wrap64 (a0 + 32)) - 1)) 32)))))
set_option maxHeartbeats 8000000 in
set_option maxRecDepth 100000 in
theorem sat_Slots.calls (a0 : Int) (r : Int) (w : World) (h : sat_Slots.f a0 = some r) :
    Calls Try.prog 115 #[.int .i64 a0] w fun e w' => e = .returned (.int .i64 r) ∧ Below w.heap.size w w' := by
  have HB := Aside0.mk (Below.refl w.heap.size w)
  have H : (if a0 < 0 then (some 0) else (if a0 > 400 then (some 0) else (some (mx 1 (wrap64 (Int.tdiv (wrap64 ((wrap64 (a0 + 32)) - 1)) 32)))))) = some r := h
  clear h
  by_cases c2 : a0 < 0
  · rw [if_pos c2] at H
    have c2b0 : decide (a0 < 0) = true := decide_eq_true c2
    clear c2
    obtain rfl := Option.some.inj H
    go_enter Try.func115, Try.ntmps115
    go_wp2
    go_ret
    exact ⟨by first | rfl | (simp [errW_none, errW_some] <;> rfl) | (simp [*, errW_none, errW_some] <;> rfl), by repeat (first | (with_reducible first | exact HB.out | apply below_alloc | apply pw_below_drewN | apply below_drew1) | exact HB.out)⟩
  · rw [if_neg c2] at H
    have c2b0 : decide (a0 < 0) = false := decide_eq_false c2
    clear c2
    by_cases c3 : a0 > 400
    · rw [if_pos c3] at H
      have c3b0 : decide (400 < a0) = true := decide_eq_true c3
      clear c3
      obtain rfl := Option.some.inj H
      go_enter Try.func115, Try.ntmps115
      go_wp2
      go_ret
      exact ⟨by first | rfl | (simp [errW_none, errW_some] <;> rfl) | (simp [*, errW_none, errW_some] <;> rfl), by repeat (first | (with_reducible first | exact HB.out | apply below_alloc | apply pw_below_drewN | apply below_drew1) | exact HB.out)⟩
    · rw [if_neg c3] at H
      have c3b0 : decide (400 < a0) = false := decide_eq_false c3
      clear c3
      obtain ⟨ji4, hji4⟩ : ∃ j_ : Int, (mx 1 (wrap64 (Int.tdiv (wrap64 ((wrap64 (a0 + 32)) - 1)) 32))) = j_ := ⟨_, rfl⟩
      replace H : (some ji4) = some r := by first | (rw [hji4] at H; exact H) | (simp only [hji4] at H ⊢; exact H)
      (try (have hji4l : 1 ≤ ji4 := by (rw [← hji4]; unfold mx; (repeat' split) <;> omega)))
      (try (have hji4m : 0 ≤ ji4 := by omega))
      have hji4_ : (if 1 < (wrap64 (Int.tdiv (wrap64 ((wrap64 (a0 + 32)) - 1)) 32)) then (wrap64 (Int.tdiv (wrap64 ((wrap64 (a0 + 32)) - 1)) 32)) else 1) = ji4 := hji4
      obtain rfl := Option.some.inj H
      go_enter Try.func115, Try.ntmps115
      go_wp2
      go_ret
      exact ⟨by first | rfl | (simp [errW_none, errW_some] <;> rfl) | (simp only [← hji4]; first | rfl | (simp [errW_none, errW_some] <;> rfl)) | (simp [*, errW_none, errW_some] <;> rfl), by repeat (first | (with_reducible first | exact HB.out | apply below_alloc | apply pw_below_drewN | apply below_drew1) | exact HB.out)⟩

/-! ### txn_Slots: function 40 -/
def txn_Slots.f (a0_0 : Int) (a0_1 : Int) (a0_2 : Int) (a0_3 : Int) (a0_4 : Int) (a0_5 : ByteArray) : Option (Int) := (txn_Encode.f a0_0 a0_1 a0_2 a0_3 a0_4 a0_5).bind fun bt116 => (if bt116.2 = true then ((sat_Slots.f (bt116.1.size : Int)).bind fun t118 => (some t118)) else (some 0))
set_option maxHeartbeats 8000000 in
set_option maxRecDepth 100000 in
theorem txn_Slots.calls (a0_0 : Int) (a0_1 : Int) (a0_2 : Int) (a0_3 : Int) (a0_4 : Int) (a0_5 : ByteArray) (r : Int) (w : World) (h : txn_Slots.f a0_0 a0_1 a0_2 a0_3 a0_4 a0_5 = some r) :
    Calls Try.prog 40 #[.agg #[.int .i64 a0_0, .int .i64 a0_1, .int .i64 a0_2, .int .i64 a0_3, .int .i64 a0_4, .string a0_5]] w fun e w' => e = .returned (.int .i64 r) ∧ Below w.heap.size w w' := by
  have hu23 := Try.underlying23
  have HB := Aside0.mk (Below.refl w.heap.size w)
  have H : ((txn_Encode.f a0_0 a0_1 a0_2 a0_3 a0_4 a0_5).bind fun bt116 => (if bt116.2 = true then ((sat_Slots.f (bt116.1.size : Int)).bind fun t118 => (some t118)) else (some 0))) = some r := h
  clear h
  replace H := Option.bind_eq_some_iff.mp H
  obtain ⟨⟨t116, t117⟩, A20, H⟩ := H
  replace H : (if t117 = true then ((sat_Slots.f (t116.size : Int)).bind fun t118 => (some t118)) else (some 0)) = some r := H
  have A2 := Aside0.mk A20
  clear A20
  by_cases c3 : t117 = true
  · subst c3
    have H1 : ((sat_Slots.f (t116.size : Int)).bind fun t118 => (some t118)) = some r := by rw [if_pos rfl] at H; exact H
    clear H
    have H := H1
    clear H1
    replace H := Option.bind_eq_some_iff.mp H
    obtain ⟨t118, A40, H⟩ := H
    replace H : (some t118) = some r := H
    have A4 := Aside0.mk A40
    clear A40
    obtain rfl := Option.some.inj H
    go_enter Try.func40, Try.ntmps40
    go_wp2_with (first | ((with_reducible refine gate_dst (N := 1) rfl ?_); refine box_event ?hg (N := 1) ?hd (cs := #[.int .i64 a0_0, .int .i64 a0_1, .int .i64 a0_2, .int .i64 a0_3, .int .i64 a0_4, .string a0_5]) (t := 23) ?hr ?_; (case hd => rfl); (case hg => rfl); (case hr => first | (go_simp; done) | (go_simp; rfl)); intro gb115 hg w5 hbox hb; have n0_ := Aside0.mk (below_step (by repeat (first | (with_reducible first | exact HB.out | apply below_alloc | apply pw_below_drewN | apply below_drew1) | exact HB.out)) hb); have n1_ := Aside0.mk (hbox); have n2_ := Aside0.mk ((by rw [hg]; exact (below_size (by repeat (first | (with_reducible first | exact HB.out | apply below_alloc | apply pw_below_drewN | apply below_drew1) | exact HB.out))) : w.heap.size ≤ gb115)); have n3_ := Aside0.mk ((by rw [hg]; exact (below_size (by repeat (first | (with_reducible first | exact HB.out | apply below_alloc | apply pw_below_drewN | apply below_drew1) | exact HB.out))) : w.heap.size ≤ gb115)); clear HB; have HB := n0_; have BK115 := n1_; have GW115 := n2_; have GE115 := n3_; clear n0_ n1_ n2_ n3_; clear hb hbox hg; have hcz6_0 : w5.cell? ⟨gb115, 0, none⟩ = some (.int .i64 a0_0) := (blk_cell BK115.out 0).trans rfl; have hcz6_1 : w5.cell? ⟨gb115, 1, none⟩ = some (.int .i64 a0_1) := (blk_cell BK115.out 1).trans rfl; have hcz6_2 : w5.cell? ⟨gb115, 2, none⟩ = some (.int .i64 a0_2) := (blk_cell BK115.out 2).trans rfl; have hcz6_3 : w5.cell? ⟨gb115, 3, none⟩ = some (.int .i64 a0_3) := (blk_cell BK115.out 3).trans rfl; have hcz6_4 : w5.cell? ⟨gb115, 4, none⟩ = some (.int .i64 a0_4) := (blk_cell BK115.out 4).trans rfl; have hcz6_5 : w5.cell? ⟨gb115, 5, none⟩ = some (.string a0_5) := (blk_cell BK115.out 5).trans rfl; have hfz6_0 := blk_frozen BK115.out 0; have hfz6_1 := blk_frozen BK115.out 1; have hfz6_2 := blk_frozen BK115.out 2; have hfz6_3 := blk_frozen BK115.out 3; have hfz6_4 := blk_frozen BK115.out 4; have hfz6_5 := blk_frozen BK115.out 5) | ((with_reducible refine gate_callee (f := 34) rfl ?_); refine goesL_ (some 7) rfl rfl Try.func34 (by kernel_rfl) rfl #[.agg #[.int .i64 a0_0, .int .i64 a0_1, .int .i64 a0_2, .int .i64 a0_3, .int .i64 a0_4, .string a0_5]] rfl (by (try simp only [List.map_toArray, List.map_cons, List.map_nil]); first | done | rfl | (simp only [List.length_drop, List.length_take]; rfl)) ?_; (with_reducible refine (txn_Encode.calls a0_0 a0_1 a0_2 a0_3 a0_4 a0_5 t116 true _ A2.out).mono ?_); rintro e w7 ⟨rfl, hb⟩; refine ⟨_, rfl, ?_⟩; have n0_ := Aside0.mk (blk_below (g := gb115) (o := .cells #[.int .i64 a0_0, .int .i64 a0_1, .int .i64 a0_2, .int .i64 a0_3, .int .i64 a0_4, .string a0_5] 23 (0, 0)) (by (with_reducible repeat (first | refine blk_drewN ?_ _ | refine blk_drew ?_ | refine blk_alloc ?_ _)); exact BK115.out) hb); have n1_ := Aside0.mk (below_step (by repeat (first | (with_reducible first | exact HB.out | apply below_alloc | apply pw_below_drewN | apply below_drew1 | refine below_set ?_ GE115.out) | exact HB.out)) hb); clear BK115; clear HB; have BK115 := n0_; have HB := n1_; clear n0_ n1_; (try clear hb); (try clear hb2); (try clear hk); (try clear hi)) | ((with_reducible refine gate_callee (f := 115) rfl ?_); refine goesL_ (some 14) rfl rfl Try.func115 (by kernel_rfl) rfl #[.int .i64 (t116.size : Int)] rfl (by (try simp only [List.map_toArray, List.map_cons, List.map_nil]); first | done | rfl | (simp only [List.length_drop, List.length_take]; rfl)) ?_; (with_reducible refine (sat_Slots.calls (t116.size : Int) t118 _ A4.out).mono ?_); rintro e w8 ⟨rfl, hb⟩; refine ⟨_, rfl, ?_⟩; have n0_ := Aside0.mk (blk_below (g := gb115) (o := .cells #[.int .i64 a0_0, .int .i64 a0_1, .int .i64 a0_2, .int .i64 a0_3, .int .i64 a0_4, .string a0_5] 23 (0, 0)) (by (with_reducible repeat (first | refine blk_drewN ?_ _ | refine blk_drew ?_ | refine blk_alloc ?_ _)); exact BK115.out) hb); have n1_ := Aside0.mk (below_step (by repeat (first | (with_reducible first | exact HB.out | apply below_alloc | apply pw_below_drewN | apply below_drew1 | refine below_set ?_ GE115.out) | exact HB.out)) hb); clear BK115; clear HB; have BK115 := n0_; have HB := n1_; clear n0_ n1_; (try clear hb); (try clear hb2); (try clear hk); (try clear hi)))
    go_ret
    exact ⟨by first | rfl | (simp [errW_none, errW_some] <;> rfl) | (simp [*, errW_none, errW_some] <;> rfl), by repeat (first | (with_reducible first | exact HB.out | apply below_alloc | apply pw_below_drewN | apply below_drew1 | refine below_set ?_ GE115.out) | exact HB.out)⟩
  · replace c3 := Bool.eq_false_iff.mpr c3
    subst c3
    have H1 : (some 0) = some r := by rw [if_neg (show ¬ (false = true) by decide)] at H; exact H
    clear H
    have H := H1
    clear H1
    obtain rfl := Option.some.inj H
    go_enter Try.func40, Try.ntmps40
    go_wp2_with (first | ((with_reducible refine gate_dst (N := 1) rfl ?_); refine box_event ?hg (N := 1) ?hd (cs := #[.int .i64 a0_0, .int .i64 a0_1, .int .i64 a0_2, .int .i64 a0_3, .int .i64 a0_4, .string a0_5]) (t := 23) ?hr ?_; (case hd => rfl); (case hg => rfl); (case hr => first | (go_simp; done) | (go_simp; rfl)); intro gb115 hg w9 hbox hb; have n0_ := Aside0.mk (below_step (by repeat (first | (with_reducible first | exact HB.out | apply below_alloc | apply pw_below_drewN | apply below_drew1) | exact HB.out)) hb); have n1_ := Aside0.mk (hbox); have n2_ := Aside0.mk ((by rw [hg]; exact (below_size (by repeat (first | (with_reducible first | exact HB.out | apply below_alloc | apply pw_below_drewN | apply below_drew1) | exact HB.out))) : w.heap.size ≤ gb115)); have n3_ := Aside0.mk ((by rw [hg]; exact (below_size (by repeat (first | (with_reducible first | exact HB.out | apply below_alloc | apply pw_below_drewN | apply below_drew1) | exact HB.out))) : w.heap.size ≤ gb115)); clear HB; have HB := n0_; have BK115 := n1_; have GW115 := n2_; have GE115 := n3_; clear n0_ n1_ n2_ n3_; clear hb hbox hg; have hcz10_0 : w9.cell? ⟨gb115, 0, none⟩ = some (.int .i64 a0_0) := (blk_cell BK115.out 0).trans rfl; have hcz10_1 : w9.cell? ⟨gb115, 1, none⟩ = some (.int .i64 a0_1) := (blk_cell BK115.out 1).trans rfl; have hcz10_2 : w9.cell? ⟨gb115, 2, none⟩ = some (.int .i64 a0_2) := (blk_cell BK115.out 2).trans rfl; have hcz10_3 : w9.cell? ⟨gb115, 3, none⟩ = some (.int .i64 a0_3) := (blk_cell BK115.out 3).trans rfl; have hcz10_4 : w9.cell? ⟨gb115, 4, none⟩ = some (.int .i64 a0_4) := (blk_cell BK115.out 4).trans rfl; have hcz10_5 : w9.cell? ⟨gb115, 5, none⟩ = some (.string a0_5) := (blk_cell BK115.out 5).trans rfl; have hfz10_0 := blk_frozen BK115.out 0; have hfz10_1 := blk_frozen BK115.out 1; have hfz10_2 := blk_frozen BK115.out 2; have hfz10_3 := blk_frozen BK115.out 3; have hfz10_4 := blk_frozen BK115.out 4; have hfz10_5 := blk_frozen BK115.out 5) | ((with_reducible refine gate_callee (f := 34) rfl ?_); refine goesL_ (some 7) rfl rfl Try.func34 (by kernel_rfl) rfl #[.agg #[.int .i64 a0_0, .int .i64 a0_1, .int .i64 a0_2, .int .i64 a0_3, .int .i64 a0_4, .string a0_5]] rfl (by (try simp only [List.map_toArray, List.map_cons, List.map_nil]); first | done | rfl | (simp only [List.length_drop, List.length_take]; rfl)) ?_; (with_reducible refine (txn_Encode.calls a0_0 a0_1 a0_2 a0_3 a0_4 a0_5 t116 false _ A2.out).mono ?_); rintro e w11 ⟨rfl, hb⟩; refine ⟨_, rfl, ?_⟩; have n0_ := Aside0.mk (blk_below (g := gb115) (o := .cells #[.int .i64 a0_0, .int .i64 a0_1, .int .i64 a0_2, .int .i64 a0_3, .int .i64 a0_4, .string a0_5] 23 (0, 0)) (by (with_reducible repeat (first | refine blk_drewN ?_ _ | refine blk_drew ?_ | refine blk_alloc ?_ _)); exact BK115.out) hb); have n1_ := Aside0.mk (below_step (by repeat (first | (with_reducible first | exact HB.out | apply below_alloc | apply pw_below_drewN | apply below_drew1 | refine below_set ?_ GE115.out) | exact HB.out)) hb); clear BK115; clear HB; have BK115 := n0_; have HB := n1_; clear n0_ n1_; (try clear hb); (try clear hb2); (try clear hk); (try clear hi)))
    go_ret
    exact ⟨by first | rfl | (simp [errW_none, errW_some] <;> rfl) | (simp [*, errW_none, errW_some] <;> rfl), by repeat (first | (with_reducible first | exact HB.out | apply below_alloc | apply pw_below_drewN | apply below_drew1 | refine below_set ?_ GE115.out) | exact HB.out)⟩

/-! ### fnv_Text: function 117, by hand -/
-- HAND rounds=0 making=1
-- IMPORT Derived.Test.YtihlogdmdmhefaaGoto
-- IMPORT Derived.Laws.BitsAllLaws
def hexC (d : Nat) : Int := if d < 10 then (d : Int) + 48 else (d : Int) + 87
/-- The block of sixteen: from place i on the digits of h are laid. -/
def hexN (h : Nat) (i : Nat) : List Int := (List.range 16).map fun j => if j < i then 0 else hexC (h / 16 ^ (15 - j) % 16)
def hexCells (h : Nat) (i : Nat) : Array Value := ((hexN h i).map fun n => Value.int .u8 n).toArray
def hexL (h : Nat) : List Int := (List.range 16).map fun j => hexC (h / 16 ^ (15 - j) % 16)
theorem hexN_zero (h : Nat) : hexN h 0 = hexL h := by simp [hexN, hexL]
theorem hexN_cell (h i j : Nat) (hj : j < 16) : (hexCells h i)[j]? = some (Value.int .u8 ((hexN h i).getD j 0)) := by
  simp [hexCells, hexN, hj]
theorem hexN_low (h i j : Nat) (hj : j < i) (hi : j < 16) : (hexN h i).getD j 0 = 0 := by
  simp [hexN, hj, hi]
theorem hexN_all (h : Nat) : hexN h 16 = List.replicate 16 0 := by
  apply List.ext_getElem
  · simp [hexN]
  · intro j h1 h2
    have hj : j < 16 := by simpa [hexN] using h1
    rw [List.getElem_replicate]
    simp [hexN, hj]
theorem hexCells_all (h : Nat) : hexCells h 16 = ((List.replicate 16 0).map fun n => Value.int .u8 n).toArray := by
  unfold hexCells; rw [hexN_all]
theorem hexN_step (h i : Nat) (hi0 : 0 < i) (hi : i ≤ 16) : (hexCells h i).setIfInBounds (i - 1) (Value.int .u8 (hexC (h / 16 ^ (16 - i) % 16))) = hexCells h (i - 1) := by
  apply Array.ext_getElem?
  intro j
  rw [Array.getElem?_setIfInBounds]
  have hs : (hexCells h i).size = 16 := by simp [hexCells, hexN]
  by_cases hj : j < 16
  · rw [hexN_cell h i j hj, hexN_cell h (i - 1) j hj]
    by_cases e : i - 1 = j
    · subst e
      rw [if_pos rfl, if_pos (by omega)]
      have e2 : 15 - (i - 1) = 16 - i := by omega
      simp [hexN, hj, e2]
    · rw [if_neg e]
      by_cases hlt : j < i - 1
      · rw [hexN_low _ _ _ hlt hj, hexN_low _ _ _ (by omega) hj]
      · have a1 : ¬ j < i := by omega
        simp [hexN, hj, a1, hlt]
  · have h1 : (hexCells h i)[j]? = none := Array.getElem?_eq_none (by omega)
    have h2 : (hexCells h (i - 1))[j]? = none := Array.getElem?_eq_none (by simp [hexCells, hexN]; omega)
    rw [h1, h2]
    by_cases e : i - 1 = j
    · rw [if_pos e, if_neg (by omega)]
    · rw [if_neg e]
theorem hex_digit (d : Nat) (hd : d < 16) (h : d < ({ data := #[48, 49, 50, 51, 52, 53, 54, 55, 56, 57, 97, 98, 99, 100, 101, 102] } : ByteArray).size) : ((({ data := #[48, 49, 50, 51, 52, 53, 54, 55, 56, 57, 97, 98, 99, 100, 101, 102] } : ByteArray)[d]'h).toNat : Int) = hexC d := by
  revert h
  match d, hd with
  | 0, _ => intro h; rfl
  | 1, _ => intro h; rfl
  | 2, _ => intro h; rfl
  | 3, _ => intro h; rfl
  | 4, _ => intro h; rfl
  | 5, _ => intro h; rfl
  | 6, _ => intro h; rfl
  | 7, _ => intro h; rfl
  | 8, _ => intro h; rfl
  | 9, _ => intro h; rfl
  | 10, _ => intro h; rfl
  | 11, _ => intro h; rfl
  | 12, _ => intro h; rfl
  | 13, _ => intro h; rfl
  | 14, _ => intro h; rfl
  | 15, _ => intro h; rfl
  | n + 16, hd => exact absurd hd (by omega)
theorem and15 (y : Nat) (hy : y < 18446744073709551616) : Go.bits .and .u64 (y : Int) 15 = ((y % 16 : Nat) : Int) := by
  rw [show (15 : Int) = ((15 : Nat) : Int) from rfl, u64_and_nat y 15 hy (by omega)]
  have := Nat.and_two_pow_sub_one_eq_mod y 4
  exact congrArg _ this
def fnv_Text.f (a0 : Int) : Option ByteArray := if 0 ≤ a0 then (if a0 < 18446744073709551616 then some (strOfNums (hexL a0.toNat)) else none) else none
def FnvTextJ (h : Nat) (w w' : World) (a : Act) : Prop := ∃ i : Nat, ∃ y : Nat, 0 < i ∧ i ≤ 16 ∧ y = h / 16 ^ (16 - i) ∧ w'.heap[w.heap.size]? = some (.cells (hexCells h i) 172 (0, 0)) ∧ Below w.heap.size w w' ∧ ∃ u1 u2 u5 u6 u7 u8 u9 u10 u11 u12 u13 u14 u15 u16 u17 : Value, a = { tmps := #[.int .u64 (y : Int), u1, u2, .pointer (some ⟨w.heap.size, 0, none⟩), .int .i64 (i : Int), u5, u6, u7, u8, u9, u10, u11, u12, u13, u14, u15, u16, u17], defers := [] }
set_option maxHeartbeats 1000000 in
set_option maxRecDepth 100000 in
theorem fnv_Text.calls (a0 : Int) (r : ByteArray) (w : World) (h : fnv_Text.f a0 = some r) :
    Calls Try.prog 117 #[.int .u64 a0] w fun e w' => e = .returned (.string r) ∧ Below w.heap.size w w' := by
  unfold fnv_Text.f at h
  by_cases h0 : 0 ≤ a0
  · rw [if_pos h0] at h
    by_cases h1 : a0 < 18446744073709551616
    · rw [if_pos h1] at h
      obtain ⟨x, rfl⟩ := Int.eq_ofNat_of_zero_le h0
      have HR := Aside0.mk (Option.some.inj h)
      have H1 := Aside0.mk h1
      clear h h0 h1
      rw [Int.toNat_natCast] at HR
      go_enter Try.func117, Try.ntmps117
      go_wp2
      refine Goto.scope_label 0 (fun a' w' => FnvTextJ x w w' a') (fun a' _ => (intOf (a'.tmps.getD 4 undef)).toNat) rfl ?_ ?_
      · rintro a' w' ⟨i, y, hi0, hi, hy, hb, hB, u1, u2, u5, u6, u7, u8, u9, u10, u11, u12, u13, u14, u15, u16, u17, rfl⟩
        have hyx : y < 18446744073709551616 := by
          rw [hy]; exact Nat.lt_of_le_of_lt (Nat.div_le_self _ _) (by have := H1.out; omega)
        have hand := and15 y hyx
        have HY := Aside0.mk hy
        clear hy hyx
        have hc : w'.cell? ⟨w.heap.size, i - 1, none⟩ = some (.int .u8 0) := by
          rw [blk_cell hb (i - 1), hexN_cell x i (i - 1) (by omega), hexN_low x i (i - 1) (by omega) (by omega)]
        have hf : w'.frozen? ⟨w.heap.size, i - 1, none⟩ = false := blk_frozen hb (i - 1)
        have HB := Aside0.mk hb
        have HBel := Aside0.mk hB
        clear hb hB
        have hstep : (w'.setCell ⟨w.heap.size, i - 1, none⟩ (.int .u8 (hexC (y % 16)))).heap[w.heap.size]? = some (.cells (hexCells x (i - 1)) 172 (0, 0)) := by
          rw [← hexN_step x i hi0 hi, ← HY.out]
          exact blk_set HB.out (i - 1) _
        have hbel : Below w.heap.size w (w'.setCell ⟨w.heap.size, i - 1, none⟩ (.int .u8 (hexC (y % 16)))) := HBel.out.setCell (Nat.le_refl _) _
        have HS := Aside0.mk hstep
        have HL := Aside0.mk hbel
        clear hstep hbel
        go_wp2
        · go_step3
          have h1 : 1 < (i : Int) := by assumption
          rw [hex_digit _ (Nat.mod_lt _ (by omega))]
          rw [show (i : Int) - 1 = ((i - 1 : Nat) : Int) by omega, show (y : Int) / 16 = ((y / 16 : Nat) : Int) by omega]
          refine ⟨rfl, ⟨i - 1, y / 16, by omega, by omega, ?_, HS.out, HL.out, _, _, _, _, _, _, _, _, _, _, _, _, _, _, _, rfl⟩, by simp [intOf]; omega⟩
          rw [HY.out, Nat.div_div_eq_div_mul, ← Nat.pow_succ, show (16 - i).succ = 16 - (i - 1) by omega]
        · have h1 : (i : Int) ≤ 1 := by assumption
          rw [hex_digit _ (Nat.mod_lt _ (by omega))]
          have hr : ReadsInt (w'.setCell ⟨w.heap.size, i - 1, none⟩ (.int .u8 (hexC (y % 16)))) .u8 (some ⟨w.heap.size, 0, none⟩) 16 (hexL x) := by
            refine ⟨by simp [hexL], by omega, fun _ => ⟨_, rfl, fun j hj => ?_⟩⟩
            have e0 : (⟨w.heap.size, 0, none⟩ : Addr).add j = ⟨w.heap.size, j, none⟩ := by unfold Addr.add; split <;> simp_all
            have e1 : i - 1 = 0 := by omega
            rw [e0, blk_cell HS.out j, e1, hexN_cell x 0 j hj, hexN_zero]
          have hcv := string_of_reads (P := Try.prog) (c := 16) Try.underlying95 Try.underlying5 Try.underlying9 hr
          have HV := Aside0.mk hr
          clear hr
          rw [hcv]
          go_simp
          go_wp2
          try simp only [Exit.jump]
          go_ret
          exact ⟨by rw [← HR.out]; rfl, HL.out⟩
      · intro L hL hLr
        have HL := Aside0.mk hL
        have HLr := Aside0.mk hLr
        clear hL hLr
        go_wp2
        go_step3
        rename_i K hK
        refine hK _ _ (HLr.out _ _ (HL.out _ _ ⟨16, x, by omega, by omega, by simp, ?_, ?_, _, _, _, _, _, _, _, _, _, _, _, _, _, _, _, rfl⟩))
        · exact (heap_alloc_new w _).trans (by rw [hexCells_all]; rfl)
        · exact below_alloc (Below.refl _ _) _
    · rw [if_neg h1] at h; cases h
  · rw [if_neg h0] at h; cases h


end Go.Proofs.Ytihlogdmdmhefaa.L
