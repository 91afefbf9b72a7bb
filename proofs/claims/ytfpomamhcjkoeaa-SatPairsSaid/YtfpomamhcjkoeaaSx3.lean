/- Written by this session's own program over the kit's print: functions of Go told as plain functions, or the row of one statement; proved for every input, with no condition of ours. -/
import Derived.Test.YtfpomamhcjkoeaaSx0
import Derived.Test.YtfpomamhcjkoeaaSx1
import Derived.Test.YtfpomamhcjkoeaaSx2
namespace Go.Proofs.Ytfpomamhcjkoeaa.S
open Go.RowKit Go.Proofs.YtfpomamhcjkoeaaW.PrintWords Go.Proofs.YtfpomamhcjkoeaaW.PrintLast Go.Proofs.YtfpomamhcjkoeaaW.PrintMore
attribute [local go_sem] max2_int min2_int max_two min_two max_three min_three max_four min_four   -- for this text's walks alone
set_option linter.unusedVariables false
set_option linter.unusedSimpArgs false

attribute [local go_sem high] eqA29
/-! ### sat_Totals: function 24, by hand -/
-- HAND rounds=0 making=1
def pairOk (x : S29) : Prop := 0 ≤ x.f0 ∧ x.f0 ≤ 1099511627776 ∧ 0 ≤ x.f1 ∧ x.f1 ≤ 1099511627776
instance (x : S29) : Decidable (pairOk x) := by unfold pairOk; infer_instance
def sum0 (l : List S29) : Int := (l.map (·.f0)).sum
def sum1 (l : List S29) : Int := (l.map (·.f1)).sum
def totF (l : List S29) : Int × Int × Bool := if 1000 < l.length then (0, 0, false) else if ∀ x ∈ l, pairOk x then (sum0 l, sum1 l, true) else (0, 0, false)
theorem take_snoc2 (l : List S29) (k : Nat) (h : k < l.length) : l.take (k + 1) = l.take k ++ [rd_T29 l k] := by
  rw [List.take_succ_eq_append_getElem h]
  congr 2
  unfold rd_T29
  simp [List.getD, List.getElem?_eq_getElem h]
theorem sum0_snoc (l : List S29) (x : S29) : sum0 (l ++ [x]) = sum0 l + x.f0 := by simp [sum0]
theorem sum1_snoc (l : List S29) (x : S29) : sum1 (l ++ [x]) = sum1 l + x.f1 := by simp [sum1]
theorem sums_range (l : List S29) (h : ∀ x ∈ l, pairOk x) : 0 ≤ sum0 l ∧ sum0 l ≤ 1099511627776 * l.length ∧ 0 ≤ sum1 l ∧ sum1 l ≤ 1099511627776 * l.length := by
  induction l with
  | nil => simp [sum0, sum1]
  | cons x l ih =>
    obtain ⟨a, b, c, d⟩ := ih (fun y hy => h y (List.mem_cons_of_mem _ hy))
    obtain ⟨e, f, g, i⟩ := h x (List.mem_cons_self ..)
    simp only [sum0, sum1, List.map_cons, List.sum_cons, List.length_cons] at *
    omega
theorem totF_bad (l : List S29) (x : S29) (hx : x ∈ l) (hn : ¬ pairOk x) : totF l = (0, 0, false) := by
  unfold totF
  split
  · rfl
  · rw [if_neg (fun h => hn (h x hx))]
theorem totF_good (l : List S29) (hl : l.length ≤ 1000) (h : ∀ x ∈ l, pairOk x) : totF l = (sum0 l, sum1 l, true) := by
  unfold totF
  rw [if_neg (by omega), if_pos h]
theorem rd_mem (l : List S29) (k : Nat) (h : k < l.length) : rd_T29 l (k : Int) ∈ l := by
  unfold rd_T29
  simp [List.getD, List.getElem?_eq_getElem h]
theorem csum (P : Program) (t : TypeId) (a b c d : Int) (ha : 0 ≤ a) (hb : 0 ≤ b) (hc : 0 ≤ c) (hd : 0 ≤ d) (h1 : a + c < 9007199254740992) (h2 : b + d < 9007199254740992) (w : World) :
    (binOp .add t (.complex .f64 (floatOfInt .f64 a) (floatOfInt .f64 b)) (.complex .f64 (floatOfInt .f64 c) (floatOfInt .f64 d))).run P w = .ok (.complex .f64 (floatOfInt .f64 (a + c)) (floatOfInt .f64 (b + d))) w :=
  run_complex_sum w .add (.inl rfl) t .f64 _ _ _ _ _ _ (by unfold cSumBits; rw [Flt.add_int a c ha hc h1, Flt.add_int b d hb hd h2]; rfl)
def sat_Totals.f (l0 : List S29) : Option (Int × Int × Bool) := some (totF l0)
set_option maxHeartbeats 2000000 in
set_option maxRecDepth 100000 in
theorem sat_Totals.calls (A0 : Option Addr) (c0 : Nat) (l0 : List S29) (r1 r2 : Int) (r3 : Bool) (w : World) (hr0 : Kd.C k29 w A0 l0.length l0) (hc0 : l0.length ≤ c0) (h : sat_Totals.f l0 = some (r1, r2, r3)) :
    Calls Try.prog 24 #[.slice A0 l0.length c0] w fun e w' => e = .returned (.tuple #[.agg #[.int .i64 r1, .int .i64 r2], .bool r3]) ∧ Below w.heap.size w w' := by
  have hu := Try.underlying29
  have HR := Aside0.mk hr0
  have HT := Aside0.mk (Option.some.inj h)
  have HW := Aside0.mk (below_alloc (Below.refl w.heap.size w) (.cells #[.int .i64 0, .int .i64 0] 29 (0, 0)))
  clear hr0 h
  by_cases hbig : 1000 < l0.length
  · have e : totF l0 = (0, 0, false) := by unfold totF; rw [if_pos hbig]
    have HE := Aside0.mk (HT.out.symm.trans e)
    clear e
    go_enter Try.func24, Try.ntmps24
    go_wp2
    refine bodyPost_ret (results_ct rfl _ _ w.heap.size 29 #[.int .i64 0, .int .i64 0] (0, 0) _ rfl (heap_alloc_new w _) Try.underlying29 rfl (by kernel_rfl)) rfl ?_
    obtain ⟨rfl, rfl, rfl⟩ : r1 = 0 ∧ r2 = 0 ∧ r3 = false := by have := HE.out; simpa using this
    exact ⟨rfl, HW.out⟩
  · have hlen : l0.length ≤ 1000 := by omega
    clear hbig
    go_enter Try.func24, Try.ntmps24
    go_wp2
    go_loopw [4, 15] (fun v4 v15 wr => ∃ k : Nat, k ≤ l0.length ∧ v15 = .int .i64 (k : Int) ∧ v4 = .complex .f64 (floatOfInt .f64 (sum0 (l0.take k))) (floatOfInt .f64 (sum1 (l0.take k))) ∧ Aside0 (∀ x ∈ l0.take k, pairOk x) ∧ Aside0 (Below w.heap.size w wr) ∧ Aside0 (wr.heap[w.heap.size]? = some (.cells #[.int .i64 0, .int .i64 0] 29 (0, 0)))) (fun _ v15 _ => l0.length - (intOf v15).toNat)
    case atStart => exact ⟨0, Nat.zero_le _, rfl, by simp [sum0, sum1]; rfl, ⟨by simp⟩, HW, ⟨heap_alloc_new w _⟩⟩
    case round =>
      obtain ⟨k, hk, rfl, rfl, HP, HB, BK⟩ := hrel
      obtain ⟨s1, s2, s3, s4⟩ := sums_range _ HP.out
      have htl : (l0.take k).length ≤ 1000 := Nat.le_trans (List.length_take_le _ _) (by omega)
      have hg0 : wr.cell? ⟨w.heap.size, 0, none⟩ = some (.int .i64 0) := (blk_cell BK.out 0).trans rfl
      have hg1 : wr.cell? ⟨w.heap.size, 1, none⟩ = some (.int .i64 0) := (blk_cell BK.out 1).trans rfl
      have hz0 : wr.frozen? ⟨w.heap.size, 0, none⟩ = false := blk_frozen BK.out 0
      have hz1 : wr.frozen? ⟨w.heap.size, 1, none⟩ = false := blk_frozen BK.out 1
      have hzl : w.heap.size < wr.heap.size := blk_lt BK.out
      by_cases hlt : k < l0.length
      · have HC := Aside0.mk (Kd.C_below HR.out HB.out)
        obtain ⟨ad, hA, hx0, hx1⟩ := at_T29 HC.out (k : Int) (by omega) (by omega)
        rw [Int.toNat_natCast] at hx0 hx1
        have hmem := rd_mem l0 k hlt
        have hsn := take_snoc2 l0 k hlt
        generalize rd_T29 l0 (k : Int) = x at hx0 hx1 hmem hsn
        have HM := Aside0.mk hmem
        have HSN := Aside0.mk hsn
        clear hmem hsn
        cases hA
        obtain ⟨wo, rfl⟩ : ∃ wo : World, wo = wr := ⟨_, rfl⟩
        go_wp2
        go_loop [20] (fun v20 => ∃ j : Nat, j ≤ 2 ∧ v20 = .int .i64 (j : Int) ∧ Aside0 (1 ≤ j → 0 ≤ x.f0 ∧ x.f0 ≤ 1099511627776) ∧ Aside0 (2 ≤ j → 0 ≤ x.f1 ∧ x.f1 ≤ 1099511627776)) (fun v20 => 2 - (intOf v20).toNat)
        case atStart => exact ⟨0, by omega, rfl, ⟨fun h => by omega⟩, ⟨fun h => by omega⟩⟩
        case round =>
          obtain ⟨j, hj, rfl, H0, H1⟩ := hrel
          have i0 : ∀ W : World, (Instr.index 29 (.agg #[.int .i64 x.f0, .int .i64 x.f1]) (.int .i64 0)).run Try.prog W = .ok (.int .i64 x.f0) W := fun _ => by kernel_rfl
          have i1 : ∀ W : World, (Instr.index 29 (.agg #[.int .i64 x.f0, .int .i64 x.f1]) (.int .i64 1)).run Try.prog W = .ok (.int .i64 x.f1) W := fun _ => by kernel_rfl
          have bad : ¬ pairOk x → r1 = 0 ∧ r2 = 0 ∧ r3 = false := fun hn => by
            have e := totF_bad l0 x HM.out hn
            rw [HT.out] at e
            simpa using e
          have BAD := Aside0.mk bad
          clear bad
          have hbb := Aside0.mk (below_alloc (below_set (j := 1) (v := .int .i64 0) (below_set (j := 0) (v := .int .i64 0) HB.out (Nat.le_refl _)) (Nat.le_refl _)) (.cells #[.int .i64 x.f0, .int .i64 x.f1] 29))
          have hbk : Aside0 ((((wo.setCell ⟨w.heap.size, 0, none⟩ (.int .i64 0)).setCell ⟨w.heap.size, 1, none⟩ (.int .i64 0)).alloc (.cells #[.int .i64 x.f0, .int .i64 x.f1] 29)).heap[w.heap.size]? = some (.cells #[.int .i64 0, .int .i64 0] 29 (0, 0))) := ⟨by
            refine blk_alloc ?_ _
            refine blk_put (cs := #[.int .i64 0, .int .i64 0]) ?_ 1 _ rfl
            refine blk_put (cs := #[.int .i64 0, .int .i64 0]) ?_ 0 _ rfl
            exact BK.out⟩
          rcases (show j = 0 ∨ j = 1 ∨ j = 2 by omega) with rfl | rfl | rfl
          · by_cases hb : 0 ≤ x.f0 ∧ x.f0 ≤ 1099511627776
            · obtain ⟨b1, b2⟩ := hb
              have b3 : ¬ x.f0 < 0 := by omega
              have b4 : ¬ 1099511627776 < x.f0 := by omega
              go_wp2
              go_round
              case rel => exact ⟨1, by omega, rfl, ⟨fun _ => ⟨b1, b2⟩⟩, ⟨fun h => by omega⟩⟩
              case measure => simp [intOf]
            · have HN := Aside0.mk (BAD.out (fun h => hb ⟨h.1, h.2.1⟩))
              by_cases b1 : x.f0 < 0
              · go_wp2
                refine bodyPost_ret (results_ct rfl _ _ w.heap.size 29 #[.int .i64 0, .int .i64 0] (0, 0) _ rfl hbk.out Try.underlying29 rfl (by kernel_rfl)) rfl ?_
                obtain ⟨rfl, rfl, rfl⟩ := HN.out
                exact ⟨rfl, hbb.out⟩
              · have b2 : 1099511627776 < x.f0 := by omega
                go_wp2
                refine bodyPost_ret (results_ct rfl _ _ w.heap.size 29 #[.int .i64 0, .int .i64 0] (0, 0) _ rfl hbk.out Try.underlying29 rfl (by kernel_rfl)) rfl ?_
                obtain ⟨rfl, rfl, rfl⟩ := HN.out
                exact ⟨rfl, hbb.out⟩
          · by_cases hb : 0 ≤ x.f1 ∧ x.f1 ≤ 1099511627776
            · obtain ⟨b1, b2⟩ := hb
              have b3 : ¬ x.f1 < 0 := by omega
              have b4 : ¬ 1099511627776 < x.f1 := by omega
              go_wp2
              go_round
              case rel => exact ⟨2, by omega, rfl, ⟨fun _ => H0.out (by omega)⟩, ⟨fun _ => ⟨b1, b2⟩⟩⟩
              case measure => simp [intOf]
            · have HN := Aside0.mk (BAD.out (fun h => hb ⟨h.2.2.1, h.2.2.2⟩))
              by_cases b1 : x.f1 < 0
              · go_wp2
                refine bodyPost_ret (results_ct rfl _ _ w.heap.size 29 #[.int .i64 0, .int .i64 0] (0, 0) _ rfl hbk.out Try.underlying29 rfl (by kernel_rfl)) rfl ?_
                obtain ⟨rfl, rfl, rfl⟩ := HN.out
                exact ⟨rfl, hbb.out⟩
              · have b2 : 1099511627776 < x.f1 := by omega
                go_wp2
                refine bodyPost_ret (results_ct rfl _ _ w.heap.size 29 #[.int .i64 0, .int .i64 0] (0, 0) _ rfl hbk.out Try.underlying29 rfl (by kernel_rfl)) rfl ?_
                obtain ⟨rfl, rfl, rfl⟩ := HN.out
                exact ⟨rfl, hbb.out⟩
          · obtain ⟨p1, p2⟩ := H0.out (by omega)
            obtain ⟨p3, p4⟩ := H1.out (by omega)
            have hsum := fun W => csum Try.prog 46 (sum0 (l0.take k)) (sum1 (l0.take k)) x.f0 x.f1 s1 s3 p1 p3 (by omega) (by omega) W
            rw [← sum0_snoc, ← sum1_snoc, ← HSN.out] at hsum
            go_wp2
            go_roundw
            case rel => exact ⟨k + 1, by omega, by go_num, rfl, ⟨by rw [HSN.out]; intro y hy; rcases List.mem_append.1 hy with hy | hy; exact HP.out y hy; rw [List.mem_singleton.1 hy]; exact ⟨p1, p2, p3, p4⟩⟩, ⟨below_alloc (below_alloc HB.out _) _⟩, ⟨blk_alloc (blk_alloc BK.out _) _⟩⟩
            case measure => simp [intOf]; omega
      · have hke : k = l0.length := by omega
        have hf0 := fun W => run_convert_float_int (P := Try.prog) W 48 3 .f64 .i64 (floatOfInt .f64 (sum0 (l0.take k))) (sum0 (l0.take k)) (by rw [Try.underlying48]; rfl) Try.underlying3 (Flt.int_int _ s1 (by omega))
        have hf1 := fun W => run_convert_float_int (P := Try.prog) W 48 3 .f64 .i64 (floatOfInt .f64 (sum1 (l0.take k))) (sum1 (l0.take k)) (by rw [Try.underlying48]; rfl) Try.underlying3 (Flt.int_int _ s3 (by omega))
        have HK := Aside0.mk hke
        clear hke
        go_wp2
        refine bodyPost_ret (results_ct rfl _ _ w.heap.size 29 #[.int .i64 (sum0 (l0.take k)), .int .i64 (sum1 (l0.take k))] (0, 0) _ rfl (by refine blk_put (cs := #[.int .i64 (sum0 (l0.take k)), .int .i64 0]) ?_ 1 _ rfl; refine blk_put (cs := #[.int .i64 0, .int .i64 0]) ?_ 0 _ rfl; exact BK.out) Try.underlying29 rfl (by kernel_rfl)) rfl ?_
        have et : l0.take k = l0 := by rw [HK.out, List.take_length]
        have e := totF_good l0 hlen (fun y hy => HP.out y (by rw [et]; exact hy))
        rw [et]
        rw [HT.out] at e
        obtain ⟨rfl, rfl, rfl⟩ : r1 = sum0 l0 ∧ r2 = sum1 l0 ∧ r3 = true := by simpa using e
        exact ⟨rfl, below_set (below_set HB.out (Nat.le_refl _)) (Nat.le_refl _)⟩


/-! ### hopperlaw01_live: function 23 -/
def hopperlaw01_live.f (k : Nat)  : Option (Bool) := (sat_Add.f 3 4 7).bind fun bt101 => ((sat_Add.f 3 5 7).bind fun bt103 => ((sat_Add.f 4611686018427387904 4611686018427387904 4611686018427387905).bind fun bt105 => ((sat_Mul.f k 3 5 15).bind fun bt107 => ((sat_Mul.f k 1099511627776 1099511627776 4611686018427387904).bind fun bt109 => ((sat_Raise.f k 101 10).bind fun bt111 => ((sat_Raise.f k 0 100).bind fun bt113 => ((sat_Raise.f k 1099511627776 0).bind fun bt115 => ((sat_Totals.f (([(⟨1, 2⟩ : S29), (⟨3, 4⟩ : S29)] : List (S29)))).bind fun bt120 => (if bt101.1 = 7 then (if bt101.2 = true then (if bt103.2 = true then (none) else (if bt105.2 = true then (none) else (if bt107.1 = 15 then (if bt107.2 = true then (if bt109.2 = true then (none) else (if bt111.1 = 112 then (if bt111.2 = true then (if bt113.1 = 1 then (if bt113.2 = true then (if bt115.2 = true then (none) else (if (bt120.1 == 4 && (bt120.2.1 == 6)) = true then (if bt120.2.2 = true then ((sat_Slots.f 0).bind fun t124 => (if t124 = 1 then ((sat_Slots.f 33).bind fun t125 => (if t125 = 2 then ((sat_Slots.f (-1)).bind fun t126 => (some (t126 == 0))) else (none))) else (none))) else (none)) else (none))) else (none)) else (none)) else (none)) else (none))) else (none)) else (none)))) else (none)) else (none))))))))))
theorem hopperlaw01_live.mono : ∀ k, LeO (hopperlaw01_live.f k ) (hopperlaw01_live.f (k + 1) ) := by
  intro  k
  unfold hopperlaw01_live.f
  repeat' first
      | (with_reducible exact sat_Mul.mono _ _ _ _)
      | (with_reducible exact sat_Raise.mono _ _ _)
      | (with_reducible exact LeO.refl _)
      | (with_reducible exact LeO.none _)
      | (with_reducible refine LeO.ite ?_ ?_)
      | (with_reducible refine LeO.bind ?_ (fun _ => ?_))
      | exact sat_Mul.mono _ _ _ _
      | exact sat_Raise.mono _ _ _
      | exact LeO.none _
      | refine LeO.ite ?_ ?_
      | refine LeO.bind ?_ (fun _ => ?_)
set_option maxHeartbeats 8000000 in
set_option maxRecDepth 100000 in
theorem hopperlaw01_live.calls (k : Nat)  (r : Bool) (w : World) (h : hopperlaw01_live.f k  = some r) :
    Calls Try.prog 23 #[] w fun e w' => e = .returned (.bool r) ∧ Below w.heap.size w w' := by
  have hu29 := Try.underlying29
  have HB := Aside0.mk (Below.refl w.heap.size w)
  have H : ((sat_Add.f 3 4 7).bind fun bt101 => ((sat_Add.f 3 5 7).bind fun bt103 => ((sat_Add.f 4611686018427387904 4611686018427387904 4611686018427387905).bind fun bt105 => ((sat_Mul.f k 3 5 15).bind fun bt107 => ((sat_Mul.f k 1099511627776 1099511627776 4611686018427387904).bind fun bt109 => ((sat_Raise.f k 101 10).bind fun bt111 => ((sat_Raise.f k 0 100).bind fun bt113 => ((sat_Raise.f k 1099511627776 0).bind fun bt115 => ((sat_Totals.f (([(⟨1, 2⟩ : S29), (⟨3, 4⟩ : S29)] : List (S29)))).bind fun bt120 => (if bt101.1 = 7 then (if bt101.2 = true then (if bt103.2 = true then (none) else (if bt105.2 = true then (none) else (if bt107.1 = 15 then (if bt107.2 = true then (if bt109.2 = true then (none) else (if bt111.1 = 112 then (if bt111.2 = true then (if bt113.1 = 1 then (if bt113.2 = true then (if bt115.2 = true then (none) else (if (bt120.1 == 4 && (bt120.2.1 == 6)) = true then (if bt120.2.2 = true then ((sat_Slots.f 0).bind fun t124 => (if t124 = 1 then ((sat_Slots.f 33).bind fun t125 => (if t125 = 2 then ((sat_Slots.f (-1)).bind fun t126 => (some (t126 == 0))) else (none))) else (none))) else (none)) else (none))) else (none)) else (none)) else (none)) else (none))) else (none)) else (none)))) else (none)) else (none))))))))))) = some r := h
  clear h
  replace H := Option.bind_eq_some_iff.mp H
  obtain ⟨⟨t101, t102⟩, A10, H⟩ := H
  replace H : ((sat_Add.f 3 5 7).bind fun bt103 => ((sat_Add.f 4611686018427387904 4611686018427387904 4611686018427387905).bind fun bt105 => ((sat_Mul.f k 3 5 15).bind fun bt107 => ((sat_Mul.f k 1099511627776 1099511627776 4611686018427387904).bind fun bt109 => ((sat_Raise.f k 101 10).bind fun bt111 => ((sat_Raise.f k 0 100).bind fun bt113 => ((sat_Raise.f k 1099511627776 0).bind fun bt115 => ((sat_Totals.f (([(⟨1, 2⟩ : S29), (⟨3, 4⟩ : S29)] : List (S29)))).bind fun bt120 => (if t101 = 7 then (if t102 = true then (if bt103.2 = true then (none) else (if bt105.2 = true then (none) else (if bt107.1 = 15 then (if bt107.2 = true then (if bt109.2 = true then (none) else (if bt111.1 = 112 then (if bt111.2 = true then (if bt113.1 = 1 then (if bt113.2 = true then (if bt115.2 = true then (none) else (if (bt120.1 == 4 && (bt120.2.1 == 6)) = true then (if bt120.2.2 = true then ((sat_Slots.f 0).bind fun t124 => (if t124 = 1 then ((sat_Slots.f 33).bind fun t125 => (if t125 = 2 then ((sat_Slots.f (-1)).bind fun t126 => (some (t126 == 0))) else (none))) else (none))) else (none)) else (none))) else (none)) else (none)) else (none)) else (none))) else (none)) else (none)))) else (none)) else (none)))))))))) = some r := H
  have A1 := Aside0.mk A10
  clear A10
  replace H := Option.bind_eq_some_iff.mp H
  obtain ⟨⟨t103, t104⟩, A20, H⟩ := H
  replace H : ((sat_Add.f 4611686018427387904 4611686018427387904 4611686018427387905).bind fun bt105 => ((sat_Mul.f k 3 5 15).bind fun bt107 => ((sat_Mul.f k 1099511627776 1099511627776 4611686018427387904).bind fun bt109 => ((sat_Raise.f k 101 10).bind fun bt111 => ((sat_Raise.f k 0 100).bind fun bt113 => ((sat_Raise.f k 1099511627776 0).bind fun bt115 => ((sat_Totals.f (([(⟨1, 2⟩ : S29), (⟨3, 4⟩ : S29)] : List (S29)))).bind fun bt120 => (if t101 = 7 then (if t102 = true then (if t104 = true then (none) else (if bt105.2 = true then (none) else (if bt107.1 = 15 then (if bt107.2 = true then (if bt109.2 = true then (none) else (if bt111.1 = 112 then (if bt111.2 = true then (if bt113.1 = 1 then (if bt113.2 = true then (if bt115.2 = true then (none) else (if (bt120.1 == 4 && (bt120.2.1 == 6)) = true then (if bt120.2.2 = true then ((sat_Slots.f 0).bind fun t124 => (if t124 = 1 then ((sat_Slots.f 33).bind fun t125 => (if t125 = 2 then ((sat_Slots.f (-1)).bind fun t126 => (some (t126 == 0))) else (none))) else (none))) else (none)) else (none))) else (none)) else (none)) else (none)) else (none))) else (none)) else (none)))) else (none)) else (none))))))))) = some r := H
  have A2 := Aside0.mk A20
  clear A20
  replace H := Option.bind_eq_some_iff.mp H
  obtain ⟨⟨t105, t106⟩, A30, H⟩ := H
  replace H : ((sat_Mul.f k 3 5 15).bind fun bt107 => ((sat_Mul.f k 1099511627776 1099511627776 4611686018427387904).bind fun bt109 => ((sat_Raise.f k 101 10).bind fun bt111 => ((sat_Raise.f k 0 100).bind fun bt113 => ((sat_Raise.f k 1099511627776 0).bind fun bt115 => ((sat_Totals.f (([(⟨1, 2⟩ : S29), (⟨3, 4⟩ : S29)] : List (S29)))).bind fun bt120 => (if t101 = 7 then (if t102 = true then (if t104 = true then (none) else (if t106 = true then (none) else (if bt107.1 = 15 then (if bt107.2 = true then (if bt109.2 = true then (none) else (if bt111.1 = 112 then (if bt111.2 = true then (if bt113.1 = 1 then (if bt113.2 = true then (if bt115.2 = true then (none) else (if (bt120.1 == 4 && (bt120.2.1 == 6)) = true then (if bt120.2.2 = true then ((sat_Slots.f 0).bind fun t124 => (if t124 = 1 then ((sat_Slots.f 33).bind fun t125 => (if t125 = 2 then ((sat_Slots.f (-1)).bind fun t126 => (some (t126 == 0))) else (none))) else (none))) else (none)) else (none))) else (none)) else (none)) else (none)) else (none))) else (none)) else (none)))) else (none)) else (none)))))))) = some r := H
  have A3 := Aside0.mk A30
  clear A30
  replace H := Option.bind_eq_some_iff.mp H
  obtain ⟨⟨t107, t108⟩, A40, H⟩ := H
  replace H : ((sat_Mul.f k 1099511627776 1099511627776 4611686018427387904).bind fun bt109 => ((sat_Raise.f k 101 10).bind fun bt111 => ((sat_Raise.f k 0 100).bind fun bt113 => ((sat_Raise.f k 1099511627776 0).bind fun bt115 => ((sat_Totals.f (([(⟨1, 2⟩ : S29), (⟨3, 4⟩ : S29)] : List (S29)))).bind fun bt120 => (if t101 = 7 then (if t102 = true then (if t104 = true then (none) else (if t106 = true then (none) else (if t107 = 15 then (if t108 = true then (if bt109.2 = true then (none) else (if bt111.1 = 112 then (if bt111.2 = true then (if bt113.1 = 1 then (if bt113.2 = true then (if bt115.2 = true then (none) else (if (bt120.1 == 4 && (bt120.2.1 == 6)) = true then (if bt120.2.2 = true then ((sat_Slots.f 0).bind fun t124 => (if t124 = 1 then ((sat_Slots.f 33).bind fun t125 => (if t125 = 2 then ((sat_Slots.f (-1)).bind fun t126 => (some (t126 == 0))) else (none))) else (none))) else (none)) else (none))) else (none)) else (none)) else (none)) else (none))) else (none)) else (none)))) else (none)) else (none))))))) = some r := H
  have A4 := Aside0.mk A40
  clear A40
  replace H := Option.bind_eq_some_iff.mp H
  obtain ⟨⟨t109, t110⟩, A50, H⟩ := H
  replace H : ((sat_Raise.f k 101 10).bind fun bt111 => ((sat_Raise.f k 0 100).bind fun bt113 => ((sat_Raise.f k 1099511627776 0).bind fun bt115 => ((sat_Totals.f (([(⟨1, 2⟩ : S29), (⟨3, 4⟩ : S29)] : List (S29)))).bind fun bt120 => (if t101 = 7 then (if t102 = true then (if t104 = true then (none) else (if t106 = true then (none) else (if t107 = 15 then (if t108 = true then (if t110 = true then (none) else (if bt111.1 = 112 then (if bt111.2 = true then (if bt113.1 = 1 then (if bt113.2 = true then (if bt115.2 = true then (none) else (if (bt120.1 == 4 && (bt120.2.1 == 6)) = true then (if bt120.2.2 = true then ((sat_Slots.f 0).bind fun t124 => (if t124 = 1 then ((sat_Slots.f 33).bind fun t125 => (if t125 = 2 then ((sat_Slots.f (-1)).bind fun t126 => (some (t126 == 0))) else (none))) else (none))) else (none)) else (none))) else (none)) else (none)) else (none)) else (none))) else (none)) else (none)))) else (none)) else (none)))))) = some r := H
  have A5 := Aside0.mk A50
  clear A50
  replace H := Option.bind_eq_some_iff.mp H
  obtain ⟨⟨t111, t112⟩, A60, H⟩ := H
  replace H : ((sat_Raise.f k 0 100).bind fun bt113 => ((sat_Raise.f k 1099511627776 0).bind fun bt115 => ((sat_Totals.f (([(⟨1, 2⟩ : S29), (⟨3, 4⟩ : S29)] : List (S29)))).bind fun bt120 => (if t101 = 7 then (if t102 = true then (if t104 = true then (none) else (if t106 = true then (none) else (if t107 = 15 then (if t108 = true then (if t110 = true then (none) else (if t111 = 112 then (if t112 = true then (if bt113.1 = 1 then (if bt113.2 = true then (if bt115.2 = true then (none) else (if (bt120.1 == 4 && (bt120.2.1 == 6)) = true then (if bt120.2.2 = true then ((sat_Slots.f 0).bind fun t124 => (if t124 = 1 then ((sat_Slots.f 33).bind fun t125 => (if t125 = 2 then ((sat_Slots.f (-1)).bind fun t126 => (some (t126 == 0))) else (none))) else (none))) else (none)) else (none))) else (none)) else (none)) else (none)) else (none))) else (none)) else (none)))) else (none)) else (none))))) = some r := H
  have A6 := Aside0.mk A60
  clear A60
  replace H := Option.bind_eq_some_iff.mp H
  obtain ⟨⟨t113, t114⟩, A70, H⟩ := H
  replace H : ((sat_Raise.f k 1099511627776 0).bind fun bt115 => ((sat_Totals.f (([(⟨1, 2⟩ : S29), (⟨3, 4⟩ : S29)] : List (S29)))).bind fun bt120 => (if t101 = 7 then (if t102 = true then (if t104 = true then (none) else (if t106 = true then (none) else (if t107 = 15 then (if t108 = true then (if t110 = true then (none) else (if t111 = 112 then (if t112 = true then (if t113 = 1 then (if t114 = true then (if bt115.2 = true then (none) else (if (bt120.1 == 4 && (bt120.2.1 == 6)) = true then (if bt120.2.2 = true then ((sat_Slots.f 0).bind fun t124 => (if t124 = 1 then ((sat_Slots.f 33).bind fun t125 => (if t125 = 2 then ((sat_Slots.f (-1)).bind fun t126 => (some (t126 == 0))) else (none))) else (none))) else (none)) else (none))) else (none)) else (none)) else (none)) else (none))) else (none)) else (none)))) else (none)) else (none)))) = some r := H
  have A7 := Aside0.mk A70
  clear A70
  replace H := Option.bind_eq_some_iff.mp H
  obtain ⟨⟨t115, t116⟩, A80, H⟩ := H
  replace H : ((sat_Totals.f (([(⟨1, 2⟩ : S29), (⟨3, 4⟩ : S29)] : List (S29)))).bind fun bt120 => (if t101 = 7 then (if t102 = true then (if t104 = true then (none) else (if t106 = true then (none) else (if t107 = 15 then (if t108 = true then (if t110 = true then (none) else (if t111 = 112 then (if t112 = true then (if t113 = 1 then (if t114 = true then (if t116 = true then (none) else (if (bt120.1 == 4 && (bt120.2.1 == 6)) = true then (if bt120.2.2 = true then ((sat_Slots.f 0).bind fun t124 => (if t124 = 1 then ((sat_Slots.f 33).bind fun t125 => (if t125 = 2 then ((sat_Slots.f (-1)).bind fun t126 => (some (t126 == 0))) else (none))) else (none))) else (none)) else (none))) else (none)) else (none)) else (none)) else (none))) else (none)) else (none)))) else (none)) else (none))) = some r := H
  have A8 := Aside0.mk A80
  clear A80
  obtain ⟨y117, hy117⟩ : ∃ y_ : List (S29), y_ = (([(⟨1, 2⟩ : S29), (⟨3, 4⟩ : S29)] : List (S29))) := ⟨_, rfl⟩
  replace H : ((sat_Totals.f y117).bind fun bt120 => (if t101 = 7 then (if t102 = true then (if t104 = true then (none) else (if t106 = true then (none) else (if t107 = 15 then (if t108 = true then (if t110 = true then (none) else (if t111 = 112 then (if t112 = true then (if t113 = 1 then (if t114 = true then (if t116 = true then (none) else (if (bt120.1 == 4 && (bt120.2.1 == 6)) = true then (if bt120.2.2 = true then ((sat_Slots.f 0).bind fun t124 => (if t124 = 1 then ((sat_Slots.f 33).bind fun t125 => (if t125 = 2 then ((sat_Slots.f (-1)).bind fun t126 => (some (t126 == 0))) else (none))) else (none))) else (none)) else (none))) else (none)) else (none)) else (none)) else (none))) else (none)) else (none)))) else (none)) else (none))) = some r := by first | (rw [hy117]; with_reducible exact H) | (have H2_ := (Option.bind_some _ _).symm.trans H; rw [hy117]; with_reducible exact H2_) | (have H2_ := (Option.bind_some _ _).symm.trans H; with_reducible exact H2_) | with_reducible exact H | (rw [hy117]; exact H) | exact H
  have Ny117 := Aside0.mk hy117
  clear hy117
  replace H := Option.bind_eq_some_iff.mp H
  obtain ⟨⟨t120, t121, t122⟩, A90, H⟩ := H
  replace H : (if t101 = 7 then (if t102 = true then (if t104 = true then (none) else (if t106 = true then (none) else (if t107 = 15 then (if t108 = true then (if t110 = true then (none) else (if t111 = 112 then (if t112 = true then (if t113 = 1 then (if t114 = true then (if t116 = true then (none) else (if (t120 == 4 && (t121 == 6)) = true then (if t122 = true then ((sat_Slots.f 0).bind fun t124 => (if t124 = 1 then ((sat_Slots.f 33).bind fun t125 => (if t125 = 2 then ((sat_Slots.f (-1)).bind fun t126 => (some (t126 == 0))) else (none))) else (none))) else (none)) else (none))) else (none)) else (none)) else (none)) else (none))) else (none)) else (none)))) else (none)) else (none)) = some r := H
  have A9 := Aside0.mk A90
  clear A90
  by_cases c10 : t101 = 7
  · rw [if_pos c10] at H
    have c10b0 : (t101 == 7) = true := beq_iff_eq.mpr c10
    have c10b1 : (t101 != 7) = false := bne_eq_false_iff_eq.mpr c10
    clear c10
    by_cases c11 : t102 = true
    · subst c11
      have H1 : (if t104 = true then (none) else (if t106 = true then (none) else (if t107 = 15 then (if t108 = true then (if t110 = true then (none) else (if t111 = 112 then (if t112 = true then (if t113 = 1 then (if t114 = true then (if t116 = true then (none) else (if (t120 == 4 && (t121 == 6)) = true then (if t122 = true then ((sat_Slots.f 0).bind fun t124 => (if t124 = 1 then ((sat_Slots.f 33).bind fun t125 => (if t125 = 2 then ((sat_Slots.f (-1)).bind fun t126 => (some (t126 == 0))) else (none))) else (none))) else (none)) else (none))) else (none)) else (none)) else (none)) else (none))) else (none)) else (none)))) = some r := by rw [if_pos rfl] at H; exact H
      clear H
      have H := H1
      clear H1
      by_cases c12 : t104 = true
      · subst c12
        have H1 : (none) = some r := by rw [if_pos rfl] at H; exact H
        clear H
        have H := H1
        clear H1
        exact absurd H (by simp)
      · replace c12 := Bool.eq_false_iff.mpr c12
        subst c12
        have H1 : (if t106 = true then (none) else (if t107 = 15 then (if t108 = true then (if t110 = true then (none) else (if t111 = 112 then (if t112 = true then (if t113 = 1 then (if t114 = true then (if t116 = true then (none) else (if (t120 == 4 && (t121 == 6)) = true then (if t122 = true then ((sat_Slots.f 0).bind fun t124 => (if t124 = 1 then ((sat_Slots.f 33).bind fun t125 => (if t125 = 2 then ((sat_Slots.f (-1)).bind fun t126 => (some (t126 == 0))) else (none))) else (none))) else (none)) else (none))) else (none)) else (none)) else (none)) else (none))) else (none)) else (none))) = some r := by rw [if_neg (show ¬ (false = true) by decide)] at H; exact H
        clear H
        have H := H1
        clear H1
        by_cases c13 : t106 = true
        · subst c13
          have H1 : (none) = some r := by rw [if_pos rfl] at H; exact H
          clear H
          have H := H1
          clear H1
          exact absurd H (by simp)
        · replace c13 := Bool.eq_false_iff.mpr c13
          subst c13
          have H1 : (if t107 = 15 then (if t108 = true then (if t110 = true then (none) else (if t111 = 112 then (if t112 = true then (if t113 = 1 then (if t114 = true then (if t116 = true then (none) else (if (t120 == 4 && (t121 == 6)) = true then (if t122 = true then ((sat_Slots.f 0).bind fun t124 => (if t124 = 1 then ((sat_Slots.f 33).bind fun t125 => (if t125 = 2 then ((sat_Slots.f (-1)).bind fun t126 => (some (t126 == 0))) else (none))) else (none))) else (none)) else (none))) else (none)) else (none)) else (none)) else (none))) else (none)) else (none)) = some r := by rw [if_neg (show ¬ (false = true) by decide)] at H; exact H
          clear H
          have H := H1
          clear H1
          by_cases c14 : t107 = 15
          · rw [if_pos c14] at H
            have c14b0 : (t107 == 15) = true := beq_iff_eq.mpr c14
            have c14b1 : (t107 != 15) = false := bne_eq_false_iff_eq.mpr c14
            clear c14
            by_cases c15 : t108 = true
            · subst c15
              have H1 : (if t110 = true then (none) else (if t111 = 112 then (if t112 = true then (if t113 = 1 then (if t114 = true then (if t116 = true then (none) else (if (t120 == 4 && (t121 == 6)) = true then (if t122 = true then ((sat_Slots.f 0).bind fun t124 => (if t124 = 1 then ((sat_Slots.f 33).bind fun t125 => (if t125 = 2 then ((sat_Slots.f (-1)).bind fun t126 => (some (t126 == 0))) else (none))) else (none))) else (none)) else (none))) else (none)) else (none)) else (none)) else (none))) = some r := by rw [if_pos rfl] at H; exact H
              clear H
              have H := H1
              clear H1
              by_cases c16 : t110 = true
              · subst c16
                have H1 : (none) = some r := by rw [if_pos rfl] at H; exact H
                clear H
                have H := H1
                clear H1
                exact absurd H (by simp)
              · replace c16 := Bool.eq_false_iff.mpr c16
                subst c16
                have H1 : (if t111 = 112 then (if t112 = true then (if t113 = 1 then (if t114 = true then (if t116 = true then (none) else (if (t120 == 4 && (t121 == 6)) = true then (if t122 = true then ((sat_Slots.f 0).bind fun t124 => (if t124 = 1 then ((sat_Slots.f 33).bind fun t125 => (if t125 = 2 then ((sat_Slots.f (-1)).bind fun t126 => (some (t126 == 0))) else (none))) else (none))) else (none)) else (none))) else (none)) else (none)) else (none)) else (none)) = some r := by rw [if_neg (show ¬ (false = true) by decide)] at H; exact H
                clear H
                have H := H1
                clear H1
                by_cases c17 : t111 = 112
                · rw [if_pos c17] at H
                  have c17b0 : (t111 == 112) = true := beq_iff_eq.mpr c17
                  have c17b1 : (t111 != 112) = false := bne_eq_false_iff_eq.mpr c17
                  clear c17
                  by_cases c18 : t112 = true
                  · subst c18
                    have H1 : (if t113 = 1 then (if t114 = true then (if t116 = true then (none) else (if (t120 == 4 && (t121 == 6)) = true then (if t122 = true then ((sat_Slots.f 0).bind fun t124 => (if t124 = 1 then ((sat_Slots.f 33).bind fun t125 => (if t125 = 2 then ((sat_Slots.f (-1)).bind fun t126 => (some (t126 == 0))) else (none))) else (none))) else (none)) else (none))) else (none)) else (none)) = some r := by rw [if_pos rfl] at H; exact H
                    clear H
                    have H := H1
                    clear H1
                    by_cases c19 : t113 = 1
                    · rw [if_pos c19] at H
                      have c19b0 : (t113 == 1) = true := beq_iff_eq.mpr c19
                      have c19b1 : (t113 != 1) = false := bne_eq_false_iff_eq.mpr c19
                      clear c19
                      by_cases c20 : t114 = true
                      · subst c20
                        have H1 : (if t116 = true then (none) else (if (t120 == 4 && (t121 == 6)) = true then (if t122 = true then ((sat_Slots.f 0).bind fun t124 => (if t124 = 1 then ((sat_Slots.f 33).bind fun t125 => (if t125 = 2 then ((sat_Slots.f (-1)).bind fun t126 => (some (t126 == 0))) else (none))) else (none))) else (none)) else (none))) = some r := by rw [if_pos rfl] at H; exact H
                        clear H
                        have H := H1
                        clear H1
                        by_cases c21 : t116 = true
                        · subst c21
                          have H1 : (none) = some r := by rw [if_pos rfl] at H; exact H
                          clear H
                          have H := H1
                          clear H1
                          exact absurd H (by simp)
                        · replace c21 := Bool.eq_false_iff.mpr c21
                          subst c21
                          have H1 : (if (t120 == 4 && (t121 == 6)) = true then (if t122 = true then ((sat_Slots.f 0).bind fun t124 => (if t124 = 1 then ((sat_Slots.f 33).bind fun t125 => (if t125 = 2 then ((sat_Slots.f (-1)).bind fun t126 => (some (t126 == 0))) else (none))) else (none))) else (none)) else (none)) = some r := by rw [if_neg (show ¬ (false = true) by decide)] at H; exact H
                          clear H
                          have H := H1
                          clear H1
                          by_cases c22 : (t120 == 4 && (t121 == 6)) = true
                          · rw [if_pos c22] at H
                            have c22b0 : (t120 == 4 && (t121 == 6)) = true := c22
                            (try (have c22b1 : decide (t120 = 4 && (t121 == 6)) = true := by simpa using c22))
                            (try (have c22b2 : (t120 == 4 && (t121 == 6)) = true := by simpa using c22))
                            clear c22
                            by_cases c23 : t122 = true
                            · subst c23
                              have H1 : ((sat_Slots.f 0).bind fun t124 => (if t124 = 1 then ((sat_Slots.f 33).bind fun t125 => (if t125 = 2 then ((sat_Slots.f (-1)).bind fun t126 => (some (t126 == 0))) else (none))) else (none))) = some r := by rw [if_pos rfl] at H; exact H
                              clear H
                              have H := H1
                              clear H1
                              replace H := Option.bind_eq_some_iff.mp H
                              obtain ⟨t124, A240, H⟩ := H
                              replace H : (if t124 = 1 then ((sat_Slots.f 33).bind fun t125 => (if t125 = 2 then ((sat_Slots.f (-1)).bind fun t126 => (some (t126 == 0))) else (none))) else (none)) = some r := H
                              have A24 := Aside0.mk A240
                              clear A240
                              by_cases c25 : t124 = 1
                              · rw [if_pos c25] at H
                                have c25b0 : (t124 == 1) = true := beq_iff_eq.mpr c25
                                have c25b1 : (t124 != 1) = false := bne_eq_false_iff_eq.mpr c25
                                clear c25
                                replace H := Option.bind_eq_some_iff.mp H
                                obtain ⟨t125, A260, H⟩ := H
                                replace H : (if t125 = 2 then ((sat_Slots.f (-1)).bind fun t126 => (some (t126 == 0))) else (none)) = some r := H
                                have A26 := Aside0.mk A260
                                clear A260
                                by_cases c27 : t125 = 2
                                · rw [if_pos c27] at H
                                  have c27b0 : (t125 == 2) = true := beq_iff_eq.mpr c27
                                  have c27b1 : (t125 != 2) = false := bne_eq_false_iff_eq.mpr c27
                                  clear c27
                                  replace H := Option.bind_eq_some_iff.mp H
                                  obtain ⟨t126, A280, H⟩ := H
                                  replace H : (some (t126 == 0)) = some r := H
                                  have A28 := Aside0.mk A280
                                  clear A280
                                  obtain rfl := Option.some.inj H
                                  go_enter Try.func23, Try.ntmps23
                                  go_wp2_with (first | ((with_reducible refine gate_callee (f := 15) rfl ?_); refine goesL_ (some 20) rfl rfl Try.func15 (by kernel_rfl) rfl #[.int .i64 3, .int .i64 4, .int .i64 7] rfl (by (try simp only [List.map_toArray, List.map_cons, List.map_nil]); first | done | rfl | (simp only [List.length_drop, List.length_take]; rfl)) ?_; (with_reducible refine (sat_Add.calls 3 4 7 t101 true _ A1.out).mono ?_); rintro e w' ⟨rfl, ⟨nd, rfl⟩⟩; refine ⟨_, rfl, ?_⟩) | ((with_reducible refine gate_callee (f := 15) rfl ?_); refine goesL_ (some 24) rfl rfl Try.func15 (by kernel_rfl) rfl #[.int .i64 3, .int .i64 5, .int .i64 7] rfl (by (try simp only [List.map_toArray, List.map_cons, List.map_nil]); first | done | rfl | (simp only [List.length_drop, List.length_take]; rfl)) ?_; (with_reducible refine (sat_Add.calls 3 5 7 t103 false _ A2.out).mono ?_); rintro e w' ⟨rfl, ⟨nd, rfl⟩⟩; refine ⟨_, rfl, ?_⟩) | ((with_reducible refine gate_callee (f := 15) rfl ?_); refine goesL_ (some 28) rfl rfl Try.func15 (by kernel_rfl) rfl #[.int .i64 4611686018427387904, .int .i64 4611686018427387904, .int .i64 4611686018427387905] rfl (by (try simp only [List.map_toArray, List.map_cons, List.map_nil]); first | done | rfl | (simp only [List.length_drop, List.length_take]; rfl)) ?_; (with_reducible refine (sat_Add.calls 4611686018427387904 4611686018427387904 4611686018427387905 t105 false _ A3.out).mono ?_); rintro e w' ⟨rfl, ⟨nd, rfl⟩⟩; refine ⟨_, rfl, ?_⟩) | ((with_reducible refine gate_callee (f := 17) rfl ?_); refine goesL_ (some 32) rfl rfl Try.func17 (by kernel_rfl) rfl #[.int .i64 3, .int .i64 5, .int .i64 15] rfl (by (try simp only [List.map_toArray, List.map_cons, List.map_nil]); first | done | rfl | (simp only [List.length_drop, List.length_take]; rfl)) ?_; (with_reducible refine (sat_Mul.calls k 3 5 15 t107 true _ A4.out).mono ?_); rintro e w' ⟨rfl, ⟨nd, rfl⟩⟩; refine ⟨_, rfl, ?_⟩) | ((with_reducible refine gate_callee (f := 17) rfl ?_); refine goesL_ (some 36) rfl rfl Try.func17 (by kernel_rfl) rfl #[.int .i64 1099511627776, .int .i64 1099511627776, .int .i64 4611686018427387904] rfl (by (try simp only [List.map_toArray, List.map_cons, List.map_nil]); first | done | rfl | (simp only [List.length_drop, List.length_take]; rfl)) ?_; (with_reducible refine (sat_Mul.calls k 1099511627776 1099511627776 4611686018427387904 t109 false _ A5.out).mono ?_); rintro e w' ⟨rfl, ⟨nd, rfl⟩⟩; refine ⟨_, rfl, ?_⟩) | ((with_reducible refine gate_callee (f := 19) rfl ?_); refine goesL_ (some 40) rfl rfl Try.func19 (by kernel_rfl) rfl #[.int .i64 101, .int .i64 10] rfl (by (try simp only [List.map_toArray, List.map_cons, List.map_nil]); first | done | rfl | (simp only [List.length_drop, List.length_take]; rfl)) ?_; (with_reducible refine (sat_Raise.calls k 101 10 t111 true _ A6.out).mono ?_); rintro e w' ⟨rfl, ⟨nd, rfl⟩⟩; refine ⟨_, rfl, ?_⟩) | ((with_reducible refine gate_callee (f := 19) rfl ?_); refine goesL_ (some 44) rfl rfl Try.func19 (by kernel_rfl) rfl #[.int .i64 0, .int .i64 100] rfl (by (try simp only [List.map_toArray, List.map_cons, List.map_nil]); first | done | rfl | (simp only [List.length_drop, List.length_take]; rfl)) ?_; (with_reducible refine (sat_Raise.calls k 0 100 t113 true _ A7.out).mono ?_); rintro e w' ⟨rfl, ⟨nd, rfl⟩⟩; refine ⟨_, rfl, ?_⟩) | ((with_reducible refine gate_callee (f := 19) rfl ?_); refine goesL_ (some 48) rfl rfl Try.func19 (by kernel_rfl) rfl #[.int .i64 1099511627776, .int .i64 0] rfl (by (try simp only [List.map_toArray, List.map_cons, List.map_nil]); first | done | rfl | (simp only [List.length_drop, List.length_take]; rfl)) ?_; (with_reducible refine (sat_Raise.calls k 1099511627776 0 t115 false _ A8.out).mono ?_); rintro e w' ⟨rfl, ⟨nd, rfl⟩⟩; refine ⟨_, rfl, ?_⟩) | ((with_reducible refine gate_dst (N := 54) rfl ?_); refine Kd.R_lit k29 _ 29 ?hg (N := 54) ?hd (xs := ([(⟨1, 2⟩ : S29), (⟨3, 4⟩ : S29)] : List (S29))) (inner := [.int .i64 1, .int .i64 2, .int .i64 3, .int .i64 4]) (ok := fun _ => True) (okp := fun _ => True) ?hr ?hp (fun _ hk => hk) trivial (Below.refl _ _) (Nat.le_refl _) (by simp) ?_; (case hd => rfl); (case hg => rfl); (case hr => first | (go_simp; done) | (go_simp; rfl)); (case hp => exact (Reps.c2 (show Kd.M k29 _ _ _ (⟨1, 2⟩ : S29) [.int .i64 1, .int .i64 2] from (k29_mkM _ _ _ (⟨1, 2⟩ : S29) )) (Reps.c2 (show Kd.M k29 _ _ _ (⟨3, 4⟩ : S29) [.int .i64 3, .int .i64 4] from (k29_mkM _ _ _ (⟨3, 4⟩ : S29) )) (Reps.none _ _)))); intro v118 w29 ho30 hb hg_ hnew_; clear hg_ hnew_; (first | rw [← Ny117.out] at ho30 | (simp only [Int.reduceToNat] at ho30; rw [← Ny117.out] at ho30)); have n0_ := Aside0.mk (Kd.R_lower ho30 (below_size (by repeat (first | (with_reducible first | exact HB.out | apply below_alloc | apply pw_below_drewN | apply below_drew1) | exact HB.out)))); have n1_ := Aside0.mk (below_step (by repeat (first | (with_reducible first | exact HB.out | apply below_alloc | apply pw_below_drewN | apply below_drew1) | exact HB.out)) hb); clear HB; have HO119 := n0_; have HB := n1_; clear n0_ n1_; clear hb ho30; obtain ⟨Ao31, co31, eo31⟩ := Kd.R_slice HO119.out; subst eo31) | ((with_reducible refine gate_callee (f := 24) rfl ?_); refine goesL_ (some 55) rfl rfl Try.func24 (by kernel_rfl) rfl #[.slice Ao31 y117.length co31] rfl (by (try simp only [List.map_toArray, List.map_cons, List.map_nil]); first | done | rfl | (simp only [List.length_drop, List.length_take]; rfl)) ?_; (with_reducible refine (sat_Totals.calls _ _ y117 t120 t121 true _ ?side1 ?side2 A9.out).mono ?_); (case side1 => repeat (first | exact (Kd.R_reads' HO119.out).2.2 | (with_reducible refine Kd.C_alloc ?_ _) | (with_reducible refine Kd.C_drewN ?_ _) | (with_reducible refine Kd.C_drew ?_))); (case side2 => exact (Kd.R_reads' HO119.out).2.1); rintro e w32 ⟨rfl, hb⟩; refine ⟨_, rfl, ?_⟩; have n0_ := Aside0.mk (Kd.R_below (by (with_reducible repeat (first | apply Kd.R_alloc | apply Kd.R_drewN | apply Kd.R_drew)); exact HO119.out) hb); have n1_ := Aside0.mk (below_step (by repeat (first | (with_reducible first | exact HB.out | apply below_alloc | apply pw_below_drewN | apply below_drew1) | exact HB.out)) hb); clear HO119; clear HB; have HO119 := n0_; have HB := n1_; clear n0_ n1_; (try clear hb); (try clear hb2); (try clear hk); (try clear hi)) | ((with_reducible refine gate_dst (N := 17) rfl ?_); refine box_event ?hg (N := 17) ?hd (cs := #[.int .i64 0, .int .i64 0]) (t := 29) ?hr ?_; (case hd => rfl); (case hg => rfl); (case hr => first | (go_simp; done) | (go_simp; rfl)); intro gb123 hg w33 hbox hb; have n0_ := Aside0.mk (Kd.R_below (Kd.R_elderB (by (with_reducible repeat (first | apply Kd.R_alloc | apply Kd.R_drewN | apply Kd.R_drew)); exact HO119.out) gb123 (Nat.le_of_eq hg.symm)) hb); have n1_ := Aside0.mk (below_step (by repeat (first | (with_reducible first | exact HB.out | apply below_alloc | apply pw_below_drewN | apply below_drew1) | exact HB.out)) hb); have n2_ := Aside0.mk (hbox); have n3_ := Aside0.mk ((by rw [hg]; exact (below_size (by repeat (first | (with_reducible first | exact HB.out | apply below_alloc | apply pw_below_drewN | apply below_drew1) | exact HB.out))) : w.heap.size ≤ gb123)); have n4_ := Aside0.mk ((by rw [hg]; exact (below_size (by repeat (first | (with_reducible first | exact HB.out | apply below_alloc | apply pw_below_drewN | apply below_drew1) | exact HB.out))) : w.heap.size ≤ gb123)); clear HO119; clear HB; have HO119 := n0_; have HB := n1_; have BK123 := n2_; have GW123 := n3_; have GE123 := n4_; clear n0_ n1_ n2_ n3_ n4_; clear hb hbox hg; have hcz34_0 : w33.cell? ⟨gb123, 0, none⟩ = some (.int .i64 0) := (blk_cell BK123.out 0).trans rfl; have hcz34_1 : w33.cell? ⟨gb123, 1, none⟩ = some (.int .i64 0) := (blk_cell BK123.out 1).trans rfl; have hfz34_0 := blk_frozen BK123.out 0; have hfz34_1 := blk_frozen BK123.out 1) | (go_at_call 21; (with_reducible refine (sat_Slots.calls 0 t124 _ A24.out).mono ?_); rintro e w35 ⟨rfl, hb⟩; have n0_ := Aside0.mk (Kd.R_below (by (with_reducible repeat (first | apply Kd.R_alloc | apply Kd.R_drewN | apply Kd.R_drew)); exact (Kd.R_mono (Kd.R_far (p := ⟨gb123, 1, none⟩) (Kd.R_far (p := ⟨gb123, 0, none⟩) (Kd.R_mono HO119.out (fun k_ hk => (⟨hk, hk.2⟩ : _ ∧ k_ ≠ gb123))) (fun _ hk => hk.2) (.int .i64 t120)) (fun _ hk => hk.2) (.int .i64 t121)) (fun _ h_ => h_.1))) hb); have n1_ := Aside0.mk (blk_below (g := gb123) (o := .cells #[.int .i64 t120, .int .i64 t121] 29 (0, 0)) (by (with_reducible repeat (first | refine blk_drewN ?_ _ | refine blk_drew ?_ | refine blk_alloc ?_ _)); refine blk_put (cs := #[.int .i64 t120, .int .i64 0]) ?_ 1 _ rfl; (with_reducible repeat (first | refine blk_drewN ?_ _ | refine blk_drew ?_ | refine blk_alloc ?_ _)); refine blk_put (cs := #[.int .i64 0, .int .i64 0]) ?_ 0 _ rfl; (with_reducible repeat (first | refine blk_drewN ?_ _ | refine blk_drew ?_ | refine blk_alloc ?_ _)); exact BK123.out) hb); have n2_ := Aside0.mk (below_step (by repeat (first | (with_reducible first | exact HB.out | apply below_alloc | apply pw_below_drewN | apply below_drew1 | refine below_set ?_ GE123.out) | exact HB.out)) hb); clear HO119; clear BK123; clear HB; have HO119 := n0_; have BK123 := n1_; have HB := n2_; clear n0_ n1_ n2_; (try clear hb); (try clear hb2); (try clear hk); (try clear hi)) | (go_at_call 21; (with_reducible refine (sat_Slots.calls 33 t125 _ A26.out).mono ?_); rintro e w36 ⟨rfl, hb⟩; have n0_ := Aside0.mk (Kd.R_below (by (with_reducible repeat (first | apply Kd.R_alloc | apply Kd.R_drewN | apply Kd.R_drew)); exact HO119.out) hb); have n1_ := Aside0.mk (blk_below (g := gb123) (o := .cells #[.int .i64 t120, .int .i64 t121] 29 (0, 0)) (by (with_reducible repeat (first | refine blk_drewN ?_ _ | refine blk_drew ?_ | refine blk_alloc ?_ _)); exact BK123.out) hb); have n2_ := Aside0.mk (below_step (by repeat (first | (with_reducible first | exact HB.out | apply below_alloc | apply pw_below_drewN | apply below_drew1 | refine below_set ?_ GE123.out) | exact HB.out)) hb); clear HO119; clear BK123; clear HB; have HO119 := n0_; have BK123 := n1_; have HB := n2_; clear n0_ n1_ n2_; (try clear hb); (try clear hb2); (try clear hk); (try clear hi)) | (go_at_call 21; (with_reducible refine (sat_Slots.calls (-1) t126 _ A28.out).mono ?_); rintro e w37 ⟨rfl, hb⟩; have n0_ := Aside0.mk (Kd.R_below (by (with_reducible repeat (first | apply Kd.R_alloc | apply Kd.R_drewN | apply Kd.R_drew)); exact HO119.out) hb); have n1_ := Aside0.mk (blk_below (g := gb123) (o := .cells #[.int .i64 t120, .int .i64 t121] 29 (0, 0)) (by (with_reducible repeat (first | refine blk_drewN ?_ _ | refine blk_drew ?_ | refine blk_alloc ?_ _)); exact BK123.out) hb); have n2_ := Aside0.mk (below_step (by repeat (first | (with_reducible first | exact HB.out | apply below_alloc | apply pw_below_drewN | apply below_drew1 | refine below_set ?_ GE123.out) | exact HB.out)) hb); clear HO119; clear BK123; clear HB; have HO119 := n0_; have BK123 := n1_; have HB := n2_; clear n0_ n1_ n2_; (try clear hb); (try clear hb2); (try clear hk); (try clear hi)))
                                  go_ret
                                  exact ⟨by first | rfl | (simp [errW_none, errW_some] <;> rfl) | (simp [*, errW_none, errW_some] <;> rfl), by repeat (first | (with_reducible first | exact HB.out | apply below_alloc | apply pw_below_drewN | apply below_drew1 | refine below_set ?_ GE123.out) | exact HB.out)⟩
                                · rw [if_neg c27] at H
                                  exact absurd H (by simp)
                              · rw [if_neg c25] at H
                                exact absurd H (by simp)
                            · replace c23 := Bool.eq_false_iff.mpr c23
                              subst c23
                              have H1 : (none) = some r := by rw [if_neg (show ¬ (false = true) by decide)] at H; exact H
                              clear H
                              have H := H1
                              clear H1
                              exact absurd H (by simp)
                          · rw [if_neg c22] at H
                            exact absurd H (by simp)
                      · replace c20 := Bool.eq_false_iff.mpr c20
                        subst c20
                        have H1 : (none) = some r := by rw [if_neg (show ¬ (false = true) by decide)] at H; exact H
                        clear H
                        have H := H1
                        clear H1
                        exact absurd H (by simp)
                    · rw [if_neg c19] at H
                      exact absurd H (by simp)
                  · replace c18 := Bool.eq_false_iff.mpr c18
                    subst c18
                    have H1 : (none) = some r := by rw [if_neg (show ¬ (false = true) by decide)] at H; exact H
                    clear H
                    have H := H1
                    clear H1
                    exact absurd H (by simp)
                · rw [if_neg c17] at H
                  exact absurd H (by simp)
            · replace c15 := Bool.eq_false_iff.mpr c15
              subst c15
              have H1 : (none) = some r := by rw [if_neg (show ¬ (false = true) by decide)] at H; exact H
              clear H
              have H := H1
              clear H1
              exact absurd H (by simp)
          · rw [if_neg c14] at H
            exact absurd H (by simp)
    · replace c11 := Bool.eq_false_iff.mpr c11
      subst c11
      have H1 : (none) = some r := by rw [if_neg (show ¬ (false = true) by decide)] at H; exact H
      clear H
      have H := H1
      clear H1
      exact absurd H (by simp)
  · rw [if_neg c10] at H
    exact absurd H (by simp)

/-! ### hopperlaw01_SatTells: function 3 -/
def hopperlaw01_SatTells.f (k : Nat) (a0 : Int) (a1 : Int) (a2 : Int) : Option (Bool) := (sat_Add.f a0 a1 a2).bind fun bt127 => ((hopperref01_Add.f a0 a1 a2).bind fun bt129 => ((sat_Mul.f k a0 a1 a2).bind fun bt131 => ((hopperref01_Mul.f a0 a1 a2).bind fun bt133 => ((sat_Raise.f k a0 a1).bind fun bt135 => ((hopperref01_Raise.f k a0 a1).bind fun bt137 => (if bt127.1 = bt129.1 then (if (bt127.2 == bt129.2) = true then (if bt131.1 = bt133.1 then (if (bt131.2 == bt133.2) = true then (if bt135.1 = bt137.1 then (if (bt135.2 == bt137.2) = true then ((sat_Slots.f a0).bind fun t139 => ((hopperref01_Slots.f a0).bind fun t140 => (if t139 = t140 then ((hopperlaw01_live.f k).bind fun t141 => (some t141)) else (none)))) else (none)) else (none)) else (none)) else (none)) else (none)) else (none)))))))
theorem hopperlaw01_SatTells.mono : ∀ a0 a1 a2 k, LeO (hopperlaw01_SatTells.f k a0 a1 a2) (hopperlaw01_SatTells.f (k + 1) a0 a1 a2) := by
  intro a0 a1 a2 k
  unfold hopperlaw01_SatTells.f
  repeat' first
      | (with_reducible exact hopperlaw01_live.mono _)
      | (with_reducible exact hopperref01_Raise.mono _ _ _)
      | (with_reducible exact sat_Mul.mono _ _ _ _)
      | (with_reducible exact sat_Raise.mono _ _ _)
      | (with_reducible exact LeO.refl _)
      | (with_reducible exact LeO.none _)
      | (with_reducible refine LeO.ite ?_ ?_)
      | (with_reducible refine LeO.bind ?_ (fun _ => ?_))
      | exact hopperlaw01_live.mono _
      | exact hopperref01_Raise.mono _ _ _
      | exact sat_Mul.mono _ _ _ _
      | exact sat_Raise.mono _ _ _
      | exact LeO.none _
      | refine LeO.ite ?_ ?_
      | refine LeO.bind ?_ (fun _ => ?_)
set_option maxHeartbeats 8000000 in
set_option maxRecDepth 100000 in
theorem hopperlaw01_SatTells.calls (k : Nat) (a0 : Int) (a1 : Int) (a2 : Int) (r : Bool) (w : World) (h : hopperlaw01_SatTells.f k a0 a1 a2 = some r) :
    Calls Try.prog 3 #[.int .i64 a0, .int .i64 a1, .int .i64 a2] w fun e w' => e = .returned (.bool r) ∧ Below w.heap.size w w' := by
  have HB := Aside0.mk (Below.refl w.heap.size w)
  have H : ((sat_Add.f a0 a1 a2).bind fun bt127 => ((hopperref01_Add.f a0 a1 a2).bind fun bt129 => ((sat_Mul.f k a0 a1 a2).bind fun bt131 => ((hopperref01_Mul.f a0 a1 a2).bind fun bt133 => ((sat_Raise.f k a0 a1).bind fun bt135 => ((hopperref01_Raise.f k a0 a1).bind fun bt137 => (if bt127.1 = bt129.1 then (if (bt127.2 == bt129.2) = true then (if bt131.1 = bt133.1 then (if (bt131.2 == bt133.2) = true then (if bt135.1 = bt137.1 then (if (bt135.2 == bt137.2) = true then ((sat_Slots.f a0).bind fun t139 => ((hopperref01_Slots.f a0).bind fun t140 => (if t139 = t140 then ((hopperlaw01_live.f k).bind fun t141 => (some t141)) else (none)))) else (none)) else (none)) else (none)) else (none)) else (none)) else (none)))))))) = some r := h
  clear h
  replace H := Option.bind_eq_some_iff.mp H
  obtain ⟨⟨t127, t128⟩, A40, H⟩ := H
  replace H : ((hopperref01_Add.f a0 a1 a2).bind fun bt129 => ((sat_Mul.f k a0 a1 a2).bind fun bt131 => ((hopperref01_Mul.f a0 a1 a2).bind fun bt133 => ((sat_Raise.f k a0 a1).bind fun bt135 => ((hopperref01_Raise.f k a0 a1).bind fun bt137 => (if t127 = bt129.1 then (if (t128 == bt129.2) = true then (if bt131.1 = bt133.1 then (if (bt131.2 == bt133.2) = true then (if bt135.1 = bt137.1 then (if (bt135.2 == bt137.2) = true then ((sat_Slots.f a0).bind fun t139 => ((hopperref01_Slots.f a0).bind fun t140 => (if t139 = t140 then ((hopperlaw01_live.f k).bind fun t141 => (some t141)) else (none)))) else (none)) else (none)) else (none)) else (none)) else (none)) else (none))))))) = some r := H
  have A4 := Aside0.mk A40
  clear A40
  replace H := Option.bind_eq_some_iff.mp H
  obtain ⟨⟨t129, t130⟩, A50, H⟩ := H
  replace H : ((sat_Mul.f k a0 a1 a2).bind fun bt131 => ((hopperref01_Mul.f a0 a1 a2).bind fun bt133 => ((sat_Raise.f k a0 a1).bind fun bt135 => ((hopperref01_Raise.f k a0 a1).bind fun bt137 => (if t127 = t129 then (if (t128 == t130) = true then (if bt131.1 = bt133.1 then (if (bt131.2 == bt133.2) = true then (if bt135.1 = bt137.1 then (if (bt135.2 == bt137.2) = true then ((sat_Slots.f a0).bind fun t139 => ((hopperref01_Slots.f a0).bind fun t140 => (if t139 = t140 then ((hopperlaw01_live.f k).bind fun t141 => (some t141)) else (none)))) else (none)) else (none)) else (none)) else (none)) else (none)) else (none)))))) = some r := H
  have A5 := Aside0.mk A50
  clear A50
  replace H := Option.bind_eq_some_iff.mp H
  obtain ⟨⟨t131, t132⟩, A60, H⟩ := H
  replace H : ((hopperref01_Mul.f a0 a1 a2).bind fun bt133 => ((sat_Raise.f k a0 a1).bind fun bt135 => ((hopperref01_Raise.f k a0 a1).bind fun bt137 => (if t127 = t129 then (if (t128 == t130) = true then (if t131 = bt133.1 then (if (t132 == bt133.2) = true then (if bt135.1 = bt137.1 then (if (bt135.2 == bt137.2) = true then ((sat_Slots.f a0).bind fun t139 => ((hopperref01_Slots.f a0).bind fun t140 => (if t139 = t140 then ((hopperlaw01_live.f k).bind fun t141 => (some t141)) else (none)))) else (none)) else (none)) else (none)) else (none)) else (none)) else (none))))) = some r := H
  have A6 := Aside0.mk A60
  clear A60
  replace H := Option.bind_eq_some_iff.mp H
  obtain ⟨⟨t133, t134⟩, A70, H⟩ := H
  replace H : ((sat_Raise.f k a0 a1).bind fun bt135 => ((hopperref01_Raise.f k a0 a1).bind fun bt137 => (if t127 = t129 then (if (t128 == t130) = true then (if t131 = t133 then (if (t132 == t134) = true then (if bt135.1 = bt137.1 then (if (bt135.2 == bt137.2) = true then ((sat_Slots.f a0).bind fun t139 => ((hopperref01_Slots.f a0).bind fun t140 => (if t139 = t140 then ((hopperlaw01_live.f k).bind fun t141 => (some t141)) else (none)))) else (none)) else (none)) else (none)) else (none)) else (none)) else (none)))) = some r := H
  have A7 := Aside0.mk A70
  clear A70
  replace H := Option.bind_eq_some_iff.mp H
  obtain ⟨⟨t135, t136⟩, A80, H⟩ := H
  replace H : ((hopperref01_Raise.f k a0 a1).bind fun bt137 => (if t127 = t129 then (if (t128 == t130) = true then (if t131 = t133 then (if (t132 == t134) = true then (if t135 = bt137.1 then (if (t136 == bt137.2) = true then ((sat_Slots.f a0).bind fun t139 => ((hopperref01_Slots.f a0).bind fun t140 => (if t139 = t140 then ((hopperlaw01_live.f k).bind fun t141 => (some t141)) else (none)))) else (none)) else (none)) else (none)) else (none)) else (none)) else (none))) = some r := H
  have A8 := Aside0.mk A80
  clear A80
  replace H := Option.bind_eq_some_iff.mp H
  obtain ⟨⟨t137, t138⟩, A90, H⟩ := H
  replace H : (if t127 = t129 then (if (t128 == t130) = true then (if t131 = t133 then (if (t132 == t134) = true then (if t135 = t137 then (if (t136 == t138) = true then ((sat_Slots.f a0).bind fun t139 => ((hopperref01_Slots.f a0).bind fun t140 => (if t139 = t140 then ((hopperlaw01_live.f k).bind fun t141 => (some t141)) else (none)))) else (none)) else (none)) else (none)) else (none)) else (none)) else (none)) = some r := H
  have A9 := Aside0.mk A90
  clear A90
  by_cases c10 : t127 = t129
  · rw [if_pos c10] at H
    have c10b0 : (t127 == t129) = true := beq_iff_eq.mpr c10
    have c10b1 : (t127 != t129) = false := bne_eq_false_iff_eq.mpr c10
    clear c10
    by_cases c11 : (t128 == t130) = true
    · rw [if_pos c11] at H
      have c11b0 : (t128 == t130) = true := c11
      (try (have c11b1 : decide (t128 = t130) = true := by simpa using c11))
      (try (have c11b2 : (t128 == t130) = true := by simpa using c11))
      clear c11
      by_cases c12 : t131 = t133
      · rw [if_pos c12] at H
        have c12b0 : (t131 == t133) = true := beq_iff_eq.mpr c12
        have c12b1 : (t131 != t133) = false := bne_eq_false_iff_eq.mpr c12
        clear c12
        by_cases c13 : (t132 == t134) = true
        · rw [if_pos c13] at H
          have c13b0 : (t132 == t134) = true := c13
          (try (have c13b1 : decide (t132 = t134) = true := by simpa using c13))
          (try (have c13b2 : (t132 == t134) = true := by simpa using c13))
          clear c13
          by_cases c14 : t135 = t137
          · rw [if_pos c14] at H
            have c14b0 : (t135 == t137) = true := beq_iff_eq.mpr c14
            have c14b1 : (t135 != t137) = false := bne_eq_false_iff_eq.mpr c14
            clear c14
            by_cases c15 : (t136 == t138) = true
            · rw [if_pos c15] at H
              have c15b0 : (t136 == t138) = true := c15
              (try (have c15b1 : decide (t136 = t138) = true := by simpa using c15))
              (try (have c15b2 : (t136 == t138) = true := by simpa using c15))
              clear c15
              replace H := Option.bind_eq_some_iff.mp H
              obtain ⟨t139, A160, H⟩ := H
              replace H : ((hopperref01_Slots.f a0).bind fun t140 => (if t139 = t140 then ((hopperlaw01_live.f k).bind fun t141 => (some t141)) else (none))) = some r := H
              have A16 := Aside0.mk A160
              clear A160
              replace H := Option.bind_eq_some_iff.mp H
              obtain ⟨t140, A170, H⟩ := H
              replace H : (if t139 = t140 then ((hopperlaw01_live.f k).bind fun t141 => (some t141)) else (none)) = some r := H
              have A17 := Aside0.mk A170
              clear A170
              by_cases c18 : t139 = t140
              · rw [if_pos c18] at H
                have c18b0 : (t139 == t140) = true := beq_iff_eq.mpr c18
                have c18b1 : (t139 != t140) = false := bne_eq_false_iff_eq.mpr c18
                clear c18
                replace H := Option.bind_eq_some_iff.mp H
                obtain ⟨t141, A190, H⟩ := H
                replace H : (some t141) = some r := H
                have A19 := Aside0.mk A190
                clear A190
                obtain rfl := Option.some.inj H
                go_enter Try.func3, Try.ntmps3
                go_wp2_with (first | ((with_reducible refine gate_callee (f := 15) rfl ?_); refine goesL_ (some 23) rfl rfl Try.func15 (by kernel_rfl) rfl #[.int .i64 a0, .int .i64 a1, .int .i64 a2] rfl (by (try simp only [List.map_toArray, List.map_cons, List.map_nil]); first | done | rfl | (simp only [List.length_drop, List.length_take]; rfl)) ?_; (with_reducible refine (sat_Add.calls a0 a1 a2 t127 t128 _ A4.out).mono ?_); rintro e w' ⟨rfl, ⟨nd, rfl⟩⟩; refine ⟨_, rfl, ?_⟩) | ((with_reducible refine gate_callee (f := 16) rfl ?_); refine goesL_ (some 30) rfl rfl Try.func16 (by kernel_rfl) rfl #[.int .i64 a0, .int .i64 a1, .int .i64 a2] rfl (by (try simp only [List.map_toArray, List.map_cons, List.map_nil]); first | done | rfl | (simp only [List.length_drop, List.length_take]; rfl)) ?_; (with_reducible refine (hopperref01_Add.calls a0 a1 a2 t129 t130 _ A5.out).mono ?_); rintro e w' ⟨rfl, ⟨nd, rfl⟩⟩; refine ⟨_, rfl, ?_⟩) | ((with_reducible refine gate_callee (f := 17) rfl ?_); refine goesL_ (some 37) rfl rfl Try.func17 (by kernel_rfl) rfl #[.int .i64 a0, .int .i64 a1, .int .i64 a2] rfl (by (try simp only [List.map_toArray, List.map_cons, List.map_nil]); first | done | rfl | (simp only [List.length_drop, List.length_take]; rfl)) ?_; (with_reducible refine (sat_Mul.calls k a0 a1 a2 t131 t132 _ A6.out).mono ?_); rintro e w' ⟨rfl, ⟨nd, rfl⟩⟩; refine ⟨_, rfl, ?_⟩) | ((with_reducible refine gate_callee (f := 18) rfl ?_); refine goesL_ (some 44) rfl rfl Try.func18 (by kernel_rfl) rfl #[.int .i64 a0, .int .i64 a1, .int .i64 a2] rfl (by (try simp only [List.map_toArray, List.map_cons, List.map_nil]); first | done | rfl | (simp only [List.length_drop, List.length_take]; rfl)) ?_; (with_reducible refine (hopperref01_Mul.calls a0 a1 a2 t133 t134 _ A7.out).mono ?_); rintro e w' ⟨rfl, ⟨nd, rfl⟩⟩; refine ⟨_, rfl, ?_⟩) | ((with_reducible refine gate_callee (f := 19) rfl ?_); refine goesL_ (some 50) rfl rfl Try.func19 (by kernel_rfl) rfl #[.int .i64 a0, .int .i64 a1] rfl (by (try simp only [List.map_toArray, List.map_cons, List.map_nil]); first | done | rfl | (simp only [List.length_drop, List.length_take]; rfl)) ?_; (with_reducible refine (sat_Raise.calls k a0 a1 t135 t136 _ A8.out).mono ?_); rintro e w' ⟨rfl, ⟨nd, rfl⟩⟩; refine ⟨_, rfl, ?_⟩) | ((with_reducible refine gate_callee (f := 20) rfl ?_); refine goesL_ (some 56) rfl rfl Try.func20 (by kernel_rfl) rfl #[.int .i64 a0, .int .i64 a1] rfl (by (try simp only [List.map_toArray, List.map_cons, List.map_nil]); first | done | rfl | (simp only [List.length_drop, List.length_take]; rfl)) ?_; (with_reducible refine (hopperref01_Raise.calls k a0 a1 t137 t138 _ A9.out).mono ?_); rintro e w20 ⟨rfl, hb⟩; refine ⟨_, rfl, ?_⟩; have n0_ := Aside0.mk (below_step (by repeat (first | (with_reducible first | exact HB.out | apply below_alloc | apply pw_below_drewN | apply below_drew1) | exact HB.out)) hb); clear HB; have HB := n0_; clear n0_; (try clear hb); (try clear hb2); (try clear hk); (try clear hi)) | (go_at_call 21; (with_reducible refine (sat_Slots.calls a0 t139 _ A16.out).mono ?_); rintro e w21 ⟨rfl, hb⟩; have n0_ := Aside0.mk (below_step (by repeat (first | (with_reducible first | exact HB.out | apply below_alloc | apply pw_below_drewN | apply below_drew1) | exact HB.out)) hb); clear HB; have HB := n0_; clear n0_; (try clear hb); (try clear hb2); (try clear hk); (try clear hi)) | (go_at_call 22; (with_reducible refine (hopperref01_Slots.calls a0 t140 _ A17.out).mono ?_); rintro e w22 ⟨rfl, hb⟩; have n0_ := Aside0.mk (below_step (by repeat (first | (with_reducible first | exact HB.out | apply below_alloc | apply pw_below_drewN | apply below_drew1) | exact HB.out)) hb); clear HB; have HB := n0_; clear n0_; (try clear hb); (try clear hb2); (try clear hk); (try clear hi)) | (go_at_call 23; (with_reducible refine (hopperlaw01_live.calls k  t141 _ A19.out).mono ?_); rintro e w23 ⟨rfl, hb⟩; have n0_ := Aside0.mk (below_step (by repeat (first | (with_reducible first | exact HB.out | apply below_alloc | apply pw_below_drewN | apply below_drew1) | exact HB.out)) hb); clear HB; have HB := n0_; clear n0_; (try clear hb); (try clear hb2); (try clear hk); (try clear hi)))
                go_ret
                exact ⟨by first | rfl | (simp [errW_none, errW_some] <;> rfl) | (simp [*, errW_none, errW_some] <;> rfl), by repeat (first | (with_reducible first | exact HB.out | apply below_alloc | apply pw_below_drewN | apply below_drew1) | exact HB.out)⟩
              · rw [if_neg c18] at H
                exact absurd H (by simp)
            · rw [if_neg c15] at H
              exact absurd H (by simp)
          · rw [if_neg c14] at H
            exact absurd H (by simp)
        · rw [if_neg c13] at H
          exact absurd H (by simp)
      · rw [if_neg c12] at H
        exact absurd H (by simp)
    · rw [if_neg c11] at H
      exact absurd H (by simp)
  · rw [if_neg c10] at H
    exact absurd H (by simp)

open Go.Proofs.Ytfpomamhcjkoeaa.Row (okI okB okS okL) in
/-- THE ONE PURE STATEMENT of hopperlaw01_SatTells. -/
def hopperlaw01_SatTells.Pure : Prop := ∀ (a0 : Int) (a1 : Int) (a2 : Int), (okI .i64) a0 → (okI .i64) a1 → (okI .i64) a2 → ∃ k, hopperlaw01_SatTells.f k a0 a1 a2 = some true

/-! ### hopperref01_Totals: function 25, by hand -/
-- HAND rounds=0 making=1
-- IMPORT Derived.RegionTactic
-- IMPORT Derived.StillTailTactics
def hopperref01_Totals.f (l0 : List S29) : Option (Int × Int × Bool) := some (totF l0)
theorem totF_many (l : List S29) (h : 1000 < l.length) : totF l = (0, 0, false) := by unfold totF; rw [if_pos h]
/-- The loop's relation, behind a name. -/
def RefTotRel (w : World) (l0 : List S29) (k : Nat) (wr : World) : Prop :=
  (∀ x ∈ l0.take k, pairOk x) ∧ Below w.heap.size w wr ∧ wr.heap[w.heap.size]? = some (.cells #[.int .i64 0, .int .i64 0] 29 (0, 0)) ∧ wr.heap[w.heap.size + 1]? = some (.cells #[.int .i64 (sum0 (l0.take k)), .int .i64 (sum1 (l0.take k))] 29 (0, 0))
set_option maxHeartbeats 4000000 in
set_option maxRecDepth 100000 in
theorem hopperref01_Totals.calls (A0 : Option Addr) (c0 : Nat) (l0 : List S29) (r1 r2 : Int) (r3 : Bool) (w : World) (hr0 : Kd.C k29 w A0 l0.length l0) (hc0 : l0.length ≤ c0) (h : hopperref01_Totals.f l0 = some (r1, r2, r3)) :
    Calls Try.prog 25 #[.slice A0 l0.length c0] w fun e w' => e = .returned (.tuple #[.agg #[.int .i64 r1, .int .i64 r2], .bool r3]) ∧ Below w.heap.size w w' := by
  have hu := Try.underlying29
  have HR := Aside0.mk hr0
  have HT := Aside0.mk (Option.some.inj h)
  have hmax : l0.length ≤ 9223372036854775807 := hr0.2.1
  clear hr0 h
  go_enter Try.func25, Try.ntmps25
  go_wp2
  go_loopw [5] (fun v5 wr => ∃ k : Nat, k ≤ l0.length ∧ v5 = .int .i64 (k : Int) ∧ Aside0 (0 < k → l0.length ≤ 1000) ∧ Aside0 (RefTotRel w l0 k wr)) (fun v5 _ => l0.length - (intOf v5).toNat)
  case atStart =>
    exact ⟨0, Nat.zero_le _, rfl, ⟨fun h => by omega⟩, ⟨⟨by simp, below_alloc (below_alloc (Below.refl _ _) _) _, blk_alloc (heap_alloc_new w _) _, (by have z := heap_alloc_new (w.alloc (.cells #[.int .i64 0, .int .i64 0] 29)) (.cells #[.int .i64 0, .int .i64 0] 29 (0, 0)); simpa [sum0, sum1] using z)⟩⟩⟩
  case round =>
    obtain ⟨k, hk, rfl, HL, HX⟩ := hrel
    have BK0 := Aside0.mk HX.out.2.2.1
    have BK1 := Aside0.mk HX.out.2.2.2
    have HB := Aside0.mk HX.out.2.1
    have hg0 : wr.cell? ⟨w.heap.size, 0, none⟩ = some (.int .i64 0) := (blk_cell BK0.out 0).trans rfl
    have hg1 : wr.cell? ⟨w.heap.size, 1, none⟩ = some (.int .i64 0) := (blk_cell BK0.out 1).trans rfl
    have hz0 : wr.frozen? ⟨w.heap.size, 0, none⟩ = false := blk_frozen BK0.out 0
    have hz1 : wr.frozen? ⟨w.heap.size, 1, none⟩ = false := blk_frozen BK0.out 1
    have ho0 : wr.cell? ⟨w.heap.size + 1, 0, none⟩ = some (.int .i64 (sum0 (l0.take k))) := (blk_cell BK1.out 0).trans rfl
    have ho1 : wr.cell? ⟨w.heap.size + 1, 1, none⟩ = some (.int .i64 (sum1 (l0.take k))) := (blk_cell BK1.out 1).trans rfl
    have hq0 : wr.frozen? ⟨w.heap.size + 1, 0, none⟩ = false := blk_frozen BK1.out 0
    have hq1 : wr.frozen? ⟨w.heap.size + 1, 1, none⟩ = false := blk_frozen BK1.out 1
    by_cases hlt : k < l0.length
    · have HC := Aside0.mk (Kd.C_below HR.out HB.out)
      obtain ⟨ad, hA, hx0, hx1⟩ := at_T29 HC.out (k : Int) (by omega) (by omega)
      rw [Int.toNat_natCast] at hx0 hx1
      have hmem := rd_mem l0 k hlt
      have hsn := take_snoc2 l0 k hlt
      generalize rd_T29 l0 (k : Int) = x at hx0 hx1 hmem hsn
      have HM := Aside0.mk hmem
      have HSN := Aside0.mk hsn
      clear hmem hsn
      cases hA
      obtain ⟨wo, rfl⟩ : ∃ wo : World, wo = wr := ⟨_, rfl⟩
      go_wp2
      go_loop [6] (fun v6 => ∃ j : Nat, j ≤ 2 ∧ v6 = .int .i64 (j : Int) ∧ Aside0 (1 ≤ j → 0 ≤ x.f0 ∧ x.f0 ≤ 1099511627776 ∧ l0.length ≤ 1000) ∧ Aside0 (2 ≤ j → 0 ≤ x.f1 ∧ x.f1 ≤ 1099511627776)) (fun v6 => 2 - (intOf v6).toNat)
      case atStart => exact ⟨0, by omega, rfl, ⟨fun h => by omega⟩, ⟨fun h => by omega⟩⟩
      case round =>
        obtain ⟨j, hj, rfl, H0, H1⟩ := hrel
        have BAD : Aside0 ((¬ pairOk x ∨ 1000 < l0.length) → r1 = 0 ∧ r2 = 0 ∧ r3 = false) := ⟨fun hn => by
          have e : totF l0 = (0, 0, false) := by
            rcases hn with hn | hn
            · exact totF_bad l0 x HM.out hn
            · exact totF_many l0 hn
          rw [HT.out] at e
          simpa using e⟩
        have hbb := Aside0.mk (below_set (j := 1) (v := .int .i64 0) (below_set (j := 0) (v := .int .i64 0) HB.out (Nat.le_refl _)) (Nat.le_refl _))
        have hbk : Aside0 (((wo.setCell ⟨w.heap.size, 0, none⟩ (.int .i64 0)).setCell ⟨w.heap.size, 1, none⟩ (.int .i64 0)).heap[w.heap.size]? = some (.cells #[.int .i64 0, .int .i64 0] 29 (0, 0))) := ⟨by
          refine blk_put (cs := #[.int .i64 0, .int .i64 0]) ?_ 1 _ rfl
          refine blk_put (cs := #[.int .i64 0, .int .i64 0]) ?_ 0 _ rfl
          exact BK0.out⟩
        rcases (show j = 0 ∨ j = 1 ∨ j = 2 by omega) with rfl | rfl | rfl
        · by_cases b1 : x.f0 < 0
          · have HN := BAD.out (.inl fun h => by have := h.1; omega)
            go_wp2
            refine bodyPost_ret (results_ct rfl _ _ w.heap.size 29 #[.int .i64 0, .int .i64 0] (0, 0) _ rfl hbk.out Try.underlying29 rfl (by kernel_rfl)) rfl ?_
            obtain ⟨rfl, rfl, rfl⟩ := HN
            exact ⟨rfl, hbb.out⟩
          · by_cases b2 : 1099511627776 < x.f0
            · have HN := BAD.out (.inl fun h => by have := h.2.1; omega)
              go_wp2
              refine bodyPost_ret (results_ct rfl _ _ w.heap.size 29 #[.int .i64 0, .int .i64 0] (0, 0) _ rfl hbk.out Try.underlying29 rfl (by kernel_rfl)) rfl ?_
              obtain ⟨rfl, rfl, rfl⟩ := HN
              exact ⟨rfl, hbb.out⟩
            · by_cases b3 : 1000 < l0.length
              · have HN := Aside0.mk (BAD.out (.inr b3))
                have b4 : decide (1000 < l0.length) = true := decide_eq_true b3
                go_wp2
                refine bodyPost_ret (results_ct rfl _ _ w.heap.size 29 #[.int .i64 0, .int .i64 0] (0, 0) _ rfl hbk.out Try.underlying29 rfl (by kernel_rfl)) rfl ?_
                obtain ⟨rfl, rfl, rfl⟩ := HN.out
                exact ⟨rfl, hbb.out⟩
              · have b4 : decide (1000 < l0.length) = false := decide_eq_false b3
                go_wp2
                go_round
                case rel => exact ⟨1, by omega, rfl, ⟨fun _ => ⟨by omega, by omega, by omega⟩⟩, ⟨fun h => by omega⟩⟩
                case measure => simp [intOf]
        · obtain ⟨p1, p2, p3⟩ := H0.out (by omega)
          have b4 : decide (1000 < l0.length) = false := decide_eq_false (by omega)
          by_cases b1 : x.f1 < 0
          · have HN := BAD.out (.inl fun h => by have := h.2.2.1; omega)
            go_wp2
            refine bodyPost_ret (results_ct rfl _ _ w.heap.size 29 #[.int .i64 0, .int .i64 0] (0, 0) _ rfl hbk.out Try.underlying29 rfl (by kernel_rfl)) rfl ?_
            obtain ⟨rfl, rfl, rfl⟩ := HN
            exact ⟨rfl, hbb.out⟩
          · by_cases b2 : 1099511627776 < x.f1
            · have HN := BAD.out (.inl fun h => by have := h.2.2.2; omega)
              go_wp2
              refine bodyPost_ret (results_ct rfl _ _ w.heap.size 29 #[.int .i64 0, .int .i64 0] (0, 0) _ rfl hbk.out Try.underlying29 rfl (by kernel_rfl)) rfl ?_
              obtain ⟨rfl, rfl, rfl⟩ := HN
              exact ⟨rfl, hbb.out⟩
            · go_wp2
              go_round
              case rel => exact ⟨2, by omega, rfl, ⟨fun _ => ⟨p1, p2, p3⟩⟩, ⟨fun _ => ⟨by omega, by omega⟩⟩⟩
              case measure => simp [intOf]
        · obtain ⟨p1, p2, p3⟩ := H0.out (by omega)
          obtain ⟨p4, p5⟩ := H1.out (by omega)
          obtain ⟨s1, s2, s3, s4⟩ := sums_range _ HX.out.1
          have htl : (l0.take k).length ≤ 1000 := Nat.le_trans (List.length_take_le _ _) (by omega)
          go_wp2
          go_region
          go_wp2
          go_roundw
          case rel =>
            refine ⟨k + 1, by omega, by go_num, ⟨fun _ => p3⟩, ⟨⟨?_, ?_, ?_, ?_⟩⟩⟩
            · rw [HSN.out]; intro y hy; rcases List.mem_append.1 hy with hy | hy
              · exact HX.out.1 y hy
              · rw [List.mem_singleton.1 hy]; exact ⟨p1, p2, p4, p5⟩
            · exact below_drew1 (below_set (below_set HB.out (Nat.le_succ _)) (Nat.le_succ _))
            · refine blk_drew ?_
              exact blk_far (blk_far BK0.out (by simp) _) (by simp) _
            · refine blk_drew ?_
              rw [HSN.out, sum0_snoc, sum1_snoc]
              refine blk_put (cs := #[.int .i64 (sum0 (l0.take k) + x.f0), .int .i64 (sum1 (l0.take k))]) ?_ 1 _ rfl
              exact blk_put (cs := #[.int .i64 (sum0 (l0.take k)), .int .i64 (sum1 (l0.take k))]) BK1.out 0 _ rfl
          case measure => simp [intOf]; omega
    · have hke : k = l0.length := by omega
      have HK := Aside0.mk hke
      clear hke
      go_wp2
      refine bodyPost_ret (results_ct rfl _ _ w.heap.size 29 #[.int .i64 (sum0 (l0.take k)), .int .i64 (sum1 (l0.take k))] (0, 0) _ rfl (by refine blk_put (cs := #[.int .i64 (sum0 (l0.take k)), .int .i64 0]) ?_ 1 _ rfl; refine blk_put (cs := #[.int .i64 0, .int .i64 0]) ?_ 0 _ rfl; exact BK0.out) Try.underlying29 rfl (by kernel_rfl)) rfl ?_
      have et : l0.take k = l0 := by rw [HK.out, List.take_length]
      have hlen : l0.length ≤ 1000 := by
        rcases Nat.eq_zero_or_pos k with z | z
        · have := HK.out; omega
        · exact HL.out z
      have e := totF_good l0 hlen (fun y hy => HX.out.1 y (by rw [et]; exact hy))
      rw [et]
      rw [HT.out] at e
      obtain ⟨rfl, rfl, rfl⟩ : r1 = sum0 l0 ∧ r2 = sum1 l0 ∧ r3 = true := by simpa using e
      exact ⟨rfl, below_set (below_set HB.out (Nat.le_refl _)) (Nat.le_refl _)⟩


end Go.Proofs.Ytfpomamhcjkoeaa.S
