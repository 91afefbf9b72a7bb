/- Written by this session's own program over the kit's print: functions of Go told as plain functions, or the row of one statement; proved for every input, with no condition of ours. -/
import Derived.Test.YtahopljippfadaaDx0
import Derived.Test.YtahopljippfadaaDx1
import Derived.Test.YtahopljippfadaaDx2
namespace Go.Proofs.Ytahopljippfadaa.D
open Go.RowKit Go.Proofs.YtahopljippfadaaW.PrintWords Go.Proofs.YtahopljippfadaaW.PrintLast Go.Proofs.YtahopljippfadaaW.PrintMore
attribute [local go_sem] max2_int min2_int max_two min_two max_three min_three max_four min_four   -- for this text's walks alone
set_option linter.unusedVariables false
set_option linter.unusedSimpArgs false

attribute [local go_sem high] eqA38
/-! ### hopperref01_Totals: function 26, by hand -/
-- HAND rounds=0 making=1
-- IMPORT Derived.RegionTactic
-- IMPORT Derived.StillTailTactics
def hopperref01_Totals.f (l0 : List S45) : Option (Int × Int × Bool) := some (totF l0)
theorem totF_many (l : List S45) (h : 1000 < l.length) : totF l = (0, 0, false) := by unfold totF; rw [if_pos h]
/-- The loop's relation, behind a name. -/
def RefTotRel (w : World) (l0 : List S45) (k : Nat) (wr : World) : Prop :=
  (∀ x ∈ l0.take k, pairOk x) ∧ Below w.heap.size w wr ∧ wr.heap[w.heap.size]? = some (.cells #[.int .i64 0, .int .i64 0] 45 (0, 0)) ∧ wr.heap[w.heap.size + 1]? = some (.cells #[.int .i64 (sum0 (l0.take k)), .int .i64 (sum1 (l0.take k))] 45 (0, 0))
set_option maxHeartbeats 4000000 in
set_option maxRecDepth 100000 in
theorem hopperref01_Totals.calls (A0 : Option Addr) (c0 : Nat) (l0 : List S45) (r1 r2 : Int) (r3 : Bool) (w : World) (hr0 : Kd.C k45 w A0 l0.length l0) (hc0 : l0.length ≤ c0) (h : hopperref01_Totals.f l0 = some (r1, r2, r3)) :
    Calls Try.prog 26 #[.slice A0 l0.length c0] w fun e w' => e = .returned (.tuple #[.agg #[.int .i64 r1, .int .i64 r2], .bool r3]) ∧ Below w.heap.size w w' := by
  have hu := Try.underlying45
  have HR := Aside0.mk hr0
  have HT := Aside0.mk (Option.some.inj h)
  have hmax : l0.length ≤ 9223372036854775807 := hr0.2.1
  clear hr0 h
  go_enter Try.func26, Try.ntmps26
  go_wp2
  go_loopw [5] (fun v5 wr => ∃ k : Nat, k ≤ l0.length ∧ v5 = .int .i64 (k : Int) ∧ Aside0 (0 < k → l0.length ≤ 1000) ∧ Aside0 (RefTotRel w l0 k wr)) (fun v5 _ => l0.length - (intOf v5).toNat)
  case atStart =>
    exact ⟨0, Nat.zero_le _, rfl, ⟨fun h => by omega⟩, ⟨⟨by simp, below_alloc (below_alloc (Below.refl _ _) _) _, blk_alloc (heap_alloc_new w _) _, (by have z := heap_alloc_new (w.alloc (.cells #[.int .i64 0, .int .i64 0] 45)) (.cells #[.int .i64 0, .int .i64 0] 45 (0, 0)); simpa [sum0, sum1] using z)⟩⟩⟩
  case round =>
    obtain ⟨k, hk, rfl, HL, HX⟩ := hrel
    have BK0 := Aside0.mk HX.out.2.2.1
    have BK1 := Aside0.mk HX.out.2.2.2
    have HB := Aside0.mk HX.out.2.1
    have hg0 : wr.cell? ⟨w.heap.size, 0, none⟩ = some (.int .i64 0) := (blk_cell BK0.out 0).trans rfl
    have hg1 : wr.cell? ⟨w.heap.size, 1, none⟩ = some (.int .i64 0) := (blk_cell BK0.out 1).trans rfl
    have hz0 : wr.frozen? ⟨w.heap.size, 0, none⟩ = false := blk_frozen BK0.out 0
    have hz1 : wr.frozen? ⟨w.heap.size, 1, none⟩ = false := blk_frozen BK0.out 1
    have ho0 : wr.cell? ⟨w.heap.size + 1, 0, none⟩ = some (.int .i64 (sum0 (l0.take k))) := (blk_cell BK1.out 0).trans rfl
    have ho1 : wr.cell? ⟨w.heap.size + 1, 1, none⟩ = some (.int .i64 (sum1 (l0.take k))) := (blk_cell BK1.out 1).trans rfl
    have hq0 : wr.frozen? ⟨w.heap.size + 1, 0, none⟩ = false := blk_frozen BK1.out 0
    have hq1 : wr.frozen? ⟨w.heap.size + 1, 1, none⟩ = false := blk_frozen BK1.out 1
    by_cases hlt : k < l0.length
    · have HC := Aside0.mk (Kd.C_below HR.out HB.out)
      obtain ⟨ad, hA, hx0, hx1⟩ := at_T45 HC.out (k : Int) (by omega) (by omega)
      rw [Int.toNat_natCast] at hx0 hx1
      have hmem := rd_mem l0 k hlt
      have hsn := take_snoc2 l0 k hlt
      generalize rd_T45 l0 (k : Int) = x at hx0 hx1 hmem hsn
      have HM := Aside0.mk hmem
      have HSN := Aside0.mk hsn
      clear hmem hsn
      cases hA
      obtain ⟨wo, rfl⟩ : ∃ wo : World, wo = wr := ⟨_, rfl⟩
      go_wp2
      go_loop [6] (fun v6 => ∃ j : Nat, j ≤ 2 ∧ v6 = .int .i64 (j : Int) ∧ Aside0 (1 ≤ j → 0 ≤ x.f0 ∧ x.f0 ≤ 1099511627776 ∧ l0.length ≤ 1000) ∧ Aside0 (2 ≤ j → 0 ≤ x.f1 ∧ x.f1 ≤ 1099511627776)) (fun v6 => 2 - (intOf v6).toNat)
      case atStart => exact ⟨0, by omega, rfl, ⟨fun h => by omega⟩, ⟨fun h => by omega⟩⟩
      case round =>
        obtain ⟨j, hj, rfl, H0, H1⟩ := hrel
        have BAD : Aside0 ((¬ pairOk x ∨ 1000 < l0.length) → r1 = 0 ∧ r2 = 0 ∧ r3 = false) := ⟨fun hn => by
          have e : totF l0 = (0, 0, false) := by
            rcases hn with hn | hn
            · exact totF_bad l0 x HM.out hn
            · exact totF_many l0 hn
          rw [HT.out] at e
          simpa using e⟩
        have hbb := Aside0.mk (below_set (j := 1) (v := .int .i64 0) (below_set (j := 0) (v := .int .i64 0) HB.out (Nat.le_refl _)) (Nat.le_refl _))
        have hbk : Aside0 (((wo.setCell ⟨w.heap.size, 0, none⟩ (.int .i64 0)).setCell ⟨w.heap.size, 1, none⟩ (.int .i64 0)).heap[w.heap.size]? = some (.cells #[.int .i64 0, .int .i64 0] 45 (0, 0))) := ⟨by
          refine blk_put (cs := #[.int .i64 0, .int .i64 0]) ?_ 1 _ rfl
          refine blk_put (cs := #[.int .i64 0, .int .i64 0]) ?_ 0 _ rfl
          exact BK0.out⟩
        rcases (show j = 0 ∨ j = 1 ∨ j = 2 by omega) with rfl | rfl | rfl
        · by_cases b1 : x.f0 < 0
          · have HN := BAD.out (.inl fun h => by have := h.1; omega)
            go_wp2
            refine bodyPost_ret (results_ct rfl _ _ w.heap.size 45 #[.int .i64 0, .int .i64 0] (0, 0) _ rfl hbk.out Try.underlying45 rfl (by kernel_rfl)) rfl ?_
            obtain ⟨rfl, rfl, rfl⟩ := HN
            exact ⟨rfl, hbb.out⟩
          · by_cases b2 : 1099511627776 < x.f0
            · have HN := BAD.out (.inl fun h => by have := h.2.1; omega)
              go_wp2
              refine bodyPost_ret (results_ct rfl _ _ w.heap.size 45 #[.int .i64 0, .int .i64 0] (0, 0) _ rfl hbk.out Try.underlying45 rfl (by kernel_rfl)) rfl ?_
              obtain ⟨rfl, rfl, rfl⟩ := HN
              exact ⟨rfl, hbb.out⟩
            · by_cases b3 : 1000 < l0.length
              · have HN := Aside0.mk (BAD.out (.inr b3))
                have b4 : decide (1000 < l0.length) = true := decide_eq_true b3
                go_wp2
                refine bodyPost_ret (results_ct rfl _ _ w.heap.size 45 #[.int .i64 0, .int .i64 0] (0, 0) _ rfl hbk.out Try.underlying45 rfl (by kernel_rfl)) rfl ?_
                obtain ⟨rfl, rfl, rfl⟩ := HN.out
                exact ⟨rfl, hbb.out⟩
              · have b4 : decide (1000 < l0.length) = false := decide_eq_false b3
                go_wp2
                go_round
                case rel => exact ⟨1, by omega, rfl, ⟨fun _ => ⟨by omega, by omega, by omega⟩⟩, ⟨fun h => by omega⟩⟩
                case measure => simp [intOf]
        · obtain ⟨p1, p2, p3⟩ := H0.out (by omega)
          have b4 : decide (1000 < l0.length) = false := decide_eq_false (by omega)
          by_cases b1 : x.f1 < 0
          · have HN := BAD.out (.inl fun h => by have := h.2.2.1; omega)
            go_wp2
            refine bodyPost_ret (results_ct rfl _ _ w.heap.size 45 #[.int .i64 0, .int .i64 0] (0, 0) _ rfl hbk.out Try.underlying45 rfl (by kernel_rfl)) rfl ?_
            obtain ⟨rfl, rfl, rfl⟩ := HN
            exact ⟨rfl, hbb.out⟩
          · by_cases b2 : 1099511627776 < x.f1
            · have HN := BAD.out (.inl fun h => by have := h.2.2.2; omega)
              go_wp2
              refine bodyPost_ret (results_ct rfl _ _ w.heap.size 45 #[.int .i64 0, .int .i64 0] (0, 0) _ rfl hbk.out Try.underlying45 rfl (by kernel_rfl)) rfl ?_
              obtain ⟨rfl, rfl, rfl⟩ := HN
              exact ⟨rfl, hbb.out⟩
            · go_wp2
              go_round
              case rel => exact ⟨2, by omega, rfl, ⟨fun _ => ⟨p1, p2, p3⟩⟩, ⟨fun _ => ⟨by omega, by omega⟩⟩⟩
              case measure => simp [intOf]
        · obtain ⟨p1, p2, p3⟩ := H0.out (by omega)
          obtain ⟨p4, p5⟩ := H1.out (by omega)
          obtain ⟨s1, s2, s3, s4⟩ := sums_range _ HX.out.1
          have htl : (l0.take k).length ≤ 1000 := Nat.le_trans (List.length_take_le _ _) (by omega)
          go_wp2
          go_region
          go_wp2
          go_roundw
          case rel =>
            refine ⟨k + 1, by omega, by go_num, ⟨fun _ => p3⟩, ⟨⟨?_, ?_, ?_, ?_⟩⟩⟩
            · rw [HSN.out]; intro y hy; rcases List.mem_append.1 hy with hy | hy
              · exact HX.out.1 y hy
              · rw [List.mem_singleton.1 hy]; exact ⟨p1, p2, p4, p5⟩
            · exact below_drew1 (below_set (below_set HB.out (Nat.le_succ _)) (Nat.le_succ _))
            · refine blk_drew ?_
              exact blk_far (blk_far BK0.out (by simp) _) (by simp) _
            · refine blk_drew ?_
              rw [HSN.out, sum0_snoc, sum1_snoc]
              refine blk_put (cs := #[.int .i64 (sum0 (l0.take k) + x.f0), .int .i64 (sum1 (l0.take k))]) ?_ 1 _ rfl
              exact blk_put (cs := #[.int .i64 (sum0 (l0.take k)), .int .i64 (sum1 (l0.take k))]) BK1.out 0 _ rfl
          case measure => simp [intOf]; omega
    · have hke : k = l0.length := by omega
      have HK := Aside0.mk hke
      clear hke
      go_wp2
      refine bodyPost_ret (results_ct rfl _ _ w.heap.size 45 #[.int .i64 (sum0 (l0.take k)), .int .i64 (sum1 (l0.take k))] (0, 0) _ rfl (by refine blk_put (cs := #[.int .i64 (sum0 (l0.take k)), .int .i64 0]) ?_ 1 _ rfl; refine blk_put (cs := #[.int .i64 0, .int .i64 0]) ?_ 0 _ rfl; exact BK0.out) Try.underlying45 rfl (by kernel_rfl)) rfl ?_
      have et : l0.take k = l0 := by rw [HK.out, List.take_length]
      have hlen : l0.length ≤ 1000 := by
        rcases Nat.eq_zero_or_pos k with z | z
        · have := HK.out; omega
        · exact HL.out z
      have e := totF_good l0 hlen (fun y hy => HX.out.1 y (by rw [et]; exact hy))
      rw [et]
      rw [HT.out] at e
      obtain ⟨rfl, rfl, rfl⟩ : r1 = sum0 l0 ∧ r2 = sum1 l0 ∧ r3 = true := by simpa using e
      exact ⟨rfl, below_set (below_set HB.out (Nat.le_refl _)) (Nat.le_refl _)⟩


/-! ### hopperref12_Totals: function 12 -/
def hopperref12_Totals.l0 : Nat → List (S38) → List (S45) → Int → Option (Int × Int)
 | 0, _, _, _ => none
 | k + 1, x0, x4, x5 => if x5 < (x0.length : Int) then (if 0 ≤ x5 then (if x4.length < 8796093022208 then (hopperref12_Totals.l0 k x0 (x4 ++ [(⟨(rd_T38 x0 x5).f2, (rd_T38 x0 x5).f4⟩ : S45)]) (wrap64 (x5 + 1))) else (none)) else (none)) else ((hopperref01_Totals.f x4).bind fun bt254 => (some (bt254.1, bt254.2.1)))
def hopperref12_Totals.f (k : Nat) (l0 : List (S38)) : Option (Int × Int) := hopperref12_Totals.l0 k l0 ([] : List (S45)) 0
theorem hopperref12_Totals.mono_l : ∀ k, (∀ y0 y1 y2, LeO (hopperref12_Totals.l0 k y0 y1 y2) (hopperref12_Totals.l0 (k + 1) y0 y1 y2))
 | 0 => fun _ _ _ r h => by simp [hopperref12_Totals.l0] at h
 | k + 1 => by
  have ih0 := hopperref12_Totals.mono_l k
  · intro y0 y1 y2
    unfold hopperref12_Totals.l0
    repeat' first
    | (with_reducible exact ih0 _ _ _)
    | (with_reducible exact LeO.refl _)
    | (with_reducible exact LeO.none _)
    | (with_reducible refine LeO.ite ?_ ?_)
    | (with_reducible refine LeO.bind ?_ (fun _ => ?_))
    | exact ih0 _ _ _
    | exact LeO.none _
    | refine LeO.ite ?_ ?_
    | refine LeO.bind ?_ (fun _ => ?_)
theorem hopperref12_Totals.mono : ∀ a0 k, LeO (hopperref12_Totals.f k a0) (hopperref12_Totals.f (k + 1) a0) := by
 intro a0 k
 have ih0 := hopperref12_Totals.mono_l k
 unfold hopperref12_Totals.f
 repeat' first
  | (with_reducible exact ih0 _ _ _)
  | (with_reducible exact LeO.refl _)
  | (with_reducible exact LeO.none _)
  | (with_reducible refine LeO.ite ?_ ?_)
  | (with_reducible refine LeO.bind ?_ (fun _ => ?_))
  | exact ih0 _ _ _
  | exact LeO.none _
  | refine LeO.ite ?_ ?_
  | refine LeO.bind ?_ (fun _ => ?_)
def hopperref12_Totals.T5 : Bool × List (List Nat × List Nat) := (true, [([], []), ([], []), ([], []), ([1, 2], [1, 2]), ([3], [3]), ([4], [4]), ([], []), ([], []), ([6, 7], [6, 7]), ([8], [8]), ([9], [9]), ([5, 10], [5, 10]), ([11], [11]), ([0, 12], [0, 12]), ([13, 13, 0, 1, 2, 3, 4, 5, 6, 7, 8, 9, 10, 11, 12, 13], [0, 13])])
def hopperref12_Totals.B5 : List Nat := [0, 0, 0, 6, 14, 30, 0, 0, 192, 448, 960, 2046, 4094, 8191, 16383]
theorem hopperref12_Totals.tab5 : rtab .any (opsOf Try.f12 5) = hopperref12_Totals.T5 := by kernel_rfl
theorem hopperref12_Totals.bits5 : waitsOk hopperref12_Totals.T5.2 hopperref12_Totals.B5 = true := by kernel_rfl
set_option maxHeartbeats 8000000 in
set_option maxRecDepth 100000 in
theorem hopperref12_Totals.calls (k : Nat) (A0 : Option Addr) (c0 : Nat) (l0 : List (S38)) (r1 : Int) (r2 : Int) (w : World) (hr0 : Kd.C k38 w A0 l0.length l0) (hc0 : l0.length ≤ c0) (h : hopperref12_Totals.f k l0 = some (r1, r2)) :
 Calls Try.prog 12 #[.slice A0 l0.length c0] w fun e w' => e = .returned (.tuple #[.int .i64 r1, .int .i64 r2]) ∧ Below w.heap.size w w' := by
 have hu45 := Try.underlying45
 have HR0 := A_ hr0
 have HC0 := A_ hc0
 clear hr0 hc0; have HB := A_ (Below.refl w.heap.size w)
 have H : (hopperref12_Totals.l0 k l0 ([] : List (S45)) 0) = some (r1, r2) := h
 clear h
 have H' := A_ H
 clear H
 go_enter Try.func12, Try.ntmps12
 go_wp2
 go_loopg [4, 5] k (fun kq v4 v5 w' => ∃ (x4_1 : List (S45)) (x5_1 : Int), v5 = .int .i64 x5_1 ∧ Aside0 (hopperref12_Totals.l0 kq l0 x4_1 x5_1 = some (r1, r2)) ∧ Aside0 (kq ≤ k) ∧ Aside0 (Kd.R k45 45 w' w.heap.size (fun _ => True) v4 x4_1) ∧ Aside0 (Below w.heap.size w w'))
 case atStart => exact ⟨(([] : List (S45))), (0), (by first | rfl | (simp; done) | (simp [*]; done)), H', ⟨Nat.le_refl _⟩, ⟨by first | exact Kd.R_nil _ _ _ _ _ | exact Kd.N_nil _ _ _ _ _ | exact Kd.V_nil _ _ _ _ _ | exact Kd.Q_nil _ _ _ _ _ | exact Kd.S_nil _ _ _ _ _⟩, ⟨by repeat (first | (with_reducible first | exact HB.out | apply wa_ | apply wn_ | apply wd_) | exact HB.out)⟩⟩
 case round =>
  clear H'; (try clear c1)
  obtain ⟨x4_1, x5_1, rfl, HA, HK1, HO_4, HB⟩ := hrel
  cases gk with
  | zero => exact absurd HA.out (by simp [hopperref12_Totals.l0])
  | succ k1 =>
   have H := HA.out
   clear HA
   simp only [hopperref12_Totals.l0] at H
   by_cases c2 : x5_1 < (l0.length : Int)
   · rw [if_pos c2] at H
     have c2b0 : decide (x5_1 < (l0.length : Int)) = true := decide_eq_true c2
     clear c2
     by_cases c3 : 0 ≤ x5_1
     rotate_left
     · rw [if_neg c3] at H
       exact absurd H (by simp)
     rw [if_pos c3] at H
     have c3b0 : decide (0 ≤ x5_1) = true := decide_eq_true c3
     clear c3
     by_cases c4 : x4_1.length < 8796093022208
     rotate_left
     · rw [if_neg c4] at H
       exact absurd H (by simp)
     rw [if_pos c4] at H
     have LMc4 := A_ c4
     clear c4
     obtain ⟨y251, hy251⟩ : ∃ y_ : List (S45), y_ = (x4_1 ++ [(⟨(rd_T38 l0 x5_1).f2, (rd_T38 l0 x5_1).f4⟩ : S45)]) := ⟨_, rfl⟩
     replace H : (hopperref12_Totals.l0 k1 l0 y251 (wrap64 (x5_1 + 1))) = some (r1, r2) := by first | (rw [hy251]; with_reducible exact H) | (have H2_ := (Option.bind_some _ _).symm.trans H; rw [hy251]; with_reducible exact H2_) | (have H2_ := (Option.bind_some _ _).symm.trans H; with_reducible exact H2_) | with_reducible exact H | (rw [hy251]; exact H) | exact H
     have Ny251 := A_ hy251
     clear hy251
     have H' := A_ H
     clear H
     try go_wp2
     have n0_ := A_ (rd_ HO_4.out); have n1_ := A_ (wd_ HB.out); replace HO_4 := n0_; replace HB := n1_; clear n0_ n1_
     have p249 : 0 ≤ (x5_1 : Int) := of_decide_eq_true (by first | (with_reducible assumption) | assumption)
     have q249 : x5_1 < (l0.length : Int) := of_decide_eq_true (by first | (with_reducible assumption) | assumption)
     obtain ⟨ad249, e249, hx249_0, hx249_1, hx249_2, hx249_3, hx249_4, hx249_5⟩ := at_T38 HR0.out x5_1 p249 q249
     have hw249_5 := hx249_5
     have hw249_4 := hx249_4
     have hw249_3 := hx249_3
     have hw249_2 := hx249_2
     have hw249_1 := hx249_1
     have hw249_0 := hx249_0
     cases e249
     replace hx249_0 := on_ HB.out hx249_0
     replace hx249_1 := on_ HB.out hx249_1
     replace hx249_2 := on_ HB.out hx249_2
     replace hx249_3 := on_ HB.out hx249_3
     replace hx249_4 := on_ HB.out hx249_4
     replace hx249_5 := on_ HB.out hx249_5
     replace p249 := eq_true p249
     replace q249 := eq_true q249
     have p250 : 0 ≤ (x5_1 : Int) := of_decide_eq_true (by first | (with_reducible assumption) | assumption)
     have q250 : x5_1 < (l0.length : Int) := of_decide_eq_true (by first | (with_reducible assumption) | assumption)
     obtain ⟨ad250, e250, hx250_0, hx250_1, hx250_2, hx250_3, hx250_4, hx250_5⟩ := at_T38 HR0.out x5_1 p250 q250
     have hw250_5 := hx250_5
     have hw250_4 := hx250_4
     have hw250_3 := hx250_3
     have hw250_2 := hx250_2
     have hw250_1 := hx250_1
     have hw250_0 := hx250_0
     obtain rfl : ad249 = ad250 := (by injection e250)
     replace hx250_0 := on_ HB.out hx250_0
     replace hx250_1 := on_ HB.out hx250_1
     replace hx250_2 := on_ HB.out hx250_2
     replace hx250_3 := on_ HB.out hx250_3
     replace hx250_4 := on_ HB.out hx250_4
     replace hx250_5 := on_ HB.out hx250_5
     replace p250 := eq_true p250
     replace q250 := eq_true q250
     refine start_ (n := 15) (S := fun w' => w'.cell? (ad249.add ((x5_1).toNat * 6)) = some (.int .i64 ((rd_T38 l0 x5_1).f0)) ∧ w'.cell? ⟨(ad249.add ((x5_1).toNat * 6)).block, (ad249.add ((x5_1).toNat * 6)).off + 1, none⟩ = some (.int .i64 ((rd_T38 l0 x5_1).f1)) ∧ w'.cell? ⟨(ad249.add ((x5_1).toNat * 6)).block, (ad249.add ((x5_1).toNat * 6)).off + 2, none⟩ = some (.int .i64 ((rd_T38 l0 x5_1).f2)) ∧ w'.cell? ⟨(ad249.add ((x5_1).toNat * 6)).block, (ad249.add ((x5_1).toNat * 6)).off + 3, none⟩ = some (.int .i64 ((rd_T38 l0 x5_1).f3)) ∧ w'.cell? ⟨(ad249.add ((x5_1).toNat * 6)).block, (ad249.add ((x5_1).toNat * 6)).off + 4, none⟩ = some (.int .i64 ((rd_T38 l0 x5_1).f4)) ∧ w'.cell? ⟨(ad249.add ((x5_1).toNat * 6)).block, (ad249.add ((x5_1).toNat * 6)).off + 5, none⟩ = some (.string ((rd_T38 l0 x5_1).f5)) ∧ w'.cell? (ad249.add ((x5_1).toNat * 6)) = some (.int .i64 ((rd_T38 l0 x5_1).f0)) ∧ w'.cell? ⟨(ad249.add ((x5_1).toNat * 6)).block, (ad249.add ((x5_1).toNat * 6)).off + 1, none⟩ = some (.int .i64 ((rd_T38 l0 x5_1).f1)) ∧ w'.cell? ⟨(ad249.add ((x5_1).toNat * 6)).block, (ad249.add ((x5_1).toNat * 6)).off + 2, none⟩ = some (.int .i64 ((rd_T38 l0 x5_1).f2)) ∧ w'.cell? ⟨(ad249.add ((x5_1).toNat * 6)).block, (ad249.add ((x5_1).toNat * 6)).off + 3, none⟩ = some (.int .i64 ((rd_T38 l0 x5_1).f3)) ∧ w'.cell? ⟨(ad249.add ((x5_1).toNat * 6)).block, (ad249.add ((x5_1).toNat * 6)).off + 4, none⟩ = some (.int .i64 ((rd_T38 l0 x5_1).f4)) ∧ w'.cell? ⟨(ad249.add ((x5_1).toNat * 6)).block, (ad249.add ((x5_1).toNat * 6)).off + 5, none⟩ = some (.string ((rd_T38 l0 x5_1).f5))) (ds := []) #[F,F,F,F,F,F,F,F,F,F,F,F,F,F,F] (by kernel_rfl) rfl rfl ⟨((HB.out.cell (World.block_lt_of_cell? w _ hw249_0)).trans hw249_0), ((HB.out.cell (World.block_lt_of_cell? w _ hw249_1)).trans hw249_1), ((HB.out.cell (World.block_lt_of_cell? w _ hw249_2)).trans hw249_2), ((HB.out.cell (World.block_lt_of_cell? w _ hw249_3)).trans hw249_3), ((HB.out.cell (World.block_lt_of_cell? w _ hw249_4)).trans hw249_4), ((HB.out.cell (World.block_lt_of_cell? w _ hw249_5)).trans hw249_5), ((HB.out.cell (World.block_lt_of_cell? w _ hw250_0)).trans hw250_0), ((HB.out.cell (World.block_lt_of_cell? w _ hw250_1)).trans hw250_1), ((HB.out.cell (World.block_lt_of_cell? w _ hw250_2)).trans hw250_2), ((HB.out.cell (World.block_lt_of_cell? w _ hw250_3)).trans hw250_3), ((HB.out.cell (World.block_lt_of_cell? w _ hw250_4)).trans hw250_4), ((HB.out.cell (World.block_lt_of_cell? w _ hw250_5)).trans hw250_5)⟩ (fun hHeld => ?_); refine with_tabW hopperref12_Totals.tab5 hopperref12_Totals.bits5 (fun HT_ HW_ => ?_)
     generalize wr.drew = w5 at HO_4 HB hx249_0 hx249_1 hx249_2 hx249_3 hx249_4 hx249_5 hx250_0 hx250_1 hx250_2 hx250_3 hx250_4 hx250_5 hHeld ⊢
     refine pq_ 0 14 HT_ ?_
     refine pq_ 1 15 HT_ ?_
     refine pq_ 2 16 HT_ ?_
     refine pq_ 3 17 HT_ ?_
     refine pq_ 4 18 HT_ ?_
     refine pq_ 6 20 HT_ ?_
     refine pq_ 7 21 HT_ ?_
     refine pq_ 8 22 HT_ ?_
     refine pq_ 9 23 HT_ ?_
     refine tk_ 5 19 HT_ HW_ hHeld ?_
     refine tk_ 10 24 HT_ HW_ hHeld ?_
     refine pq_ 11 25 HT_ ?_
     refine one_ (i := 12) (N := some 26) #[T,T,T,T,T,T,T,T,T,T,T,T,T,F,F] rfl rfl (one_of HT_.out (by kernel_rfl)) (by decide) (fun K hK => ?_)
     refine value_ (w1 := ?_) (v := ?_) (by rfl) rfl ?_ ?_
     rotate_left 2
     · go_simp
       constructor
       · rfl
       · rfl
     refine hK.out _ _ ⟨(World.cell?_alloc_lt _ _ _ (World.block_lt_of_cell? _ _ (((HB.out.cell (World.block_lt_of_cell? w _ hw249_0)).trans hw249_0)))).trans (((HB.out.cell (World.block_lt_of_cell? w _ hw249_0)).trans hw249_0)), (World.cell?_alloc_lt _ _ _ (World.block_lt_of_cell? _ _ (((HB.out.cell (World.block_lt_of_cell? w _ hw249_1)).trans hw249_1)))).trans (((HB.out.cell (World.block_lt_of_cell? w _ hw249_1)).trans hw249_1)), (World.cell?_alloc_lt _ _ _ (World.block_lt_of_cell? _ _ (((HB.out.cell (World.block_lt_of_cell? w _ hw249_2)).trans hw249_2)))).trans (((HB.out.cell (World.block_lt_of_cell? w _ hw249_2)).trans hw249_2)), (World.cell?_alloc_lt _ _ _ (World.block_lt_of_cell? _ _ (((HB.out.cell (World.block_lt_of_cell? w _ hw249_3)).trans hw249_3)))).trans (((HB.out.cell (World.block_lt_of_cell? w _ hw249_3)).trans hw249_3)), (World.cell?_alloc_lt _ _ _ (World.block_lt_of_cell? _ _ (((HB.out.cell (World.block_lt_of_cell? w _ hw249_4)).trans hw249_4)))).trans (((HB.out.cell (World.block_lt_of_cell? w _ hw249_4)).trans hw249_4)), (World.cell?_alloc_lt _ _ _ (World.block_lt_of_cell? _ _ (((HB.out.cell (World.block_lt_of_cell? w _ hw249_5)).trans hw249_5)))).trans (((HB.out.cell (World.block_lt_of_cell? w _ hw249_5)).trans hw249_5)), (World.cell?_alloc_lt _ _ _ (World.block_lt_of_cell? _ _ (((HB.out.cell (World.block_lt_of_cell? w _ hw250_0)).trans hw250_0)))).trans (((HB.out.cell (World.block_lt_of_cell? w _ hw250_0)).trans hw250_0)), (World.cell?_alloc_lt _ _ _ (World.block_lt_of_cell? _ _ (((HB.out.cell (World.block_lt_of_cell? w _ hw250_1)).trans hw250_1)))).trans (((HB.out.cell (World.block_lt_of_cell? w _ hw250_1)).trans hw250_1)), (World.cell?_alloc_lt _ _ _ (World.block_lt_of_cell? _ _ (((HB.out.cell (World.block_lt_of_cell? w _ hw250_2)).trans hw250_2)))).trans (((HB.out.cell (World.block_lt_of_cell? w _ hw250_2)).trans hw250_2)), (World.cell?_alloc_lt _ _ _ (World.block_lt_of_cell? _ _ (((HB.out.cell (World.block_lt_of_cell? w _ hw250_3)).trans hw250_3)))).trans (((HB.out.cell (World.block_lt_of_cell? w _ hw250_3)).trans hw250_3)), (World.cell?_alloc_lt _ _ _ (World.block_lt_of_cell? _ _ (((HB.out.cell (World.block_lt_of_cell? w _ hw250_4)).trans hw250_4)))).trans (((HB.out.cell (World.block_lt_of_cell? w _ hw250_4)).trans hw250_4)), (World.cell?_alloc_lt _ _ _ (World.block_lt_of_cell? _ _ (((HB.out.cell (World.block_lt_of_cell? w _ hw250_5)).trans hw250_5)))).trans (((HB.out.cell (World.block_lt_of_cell? w _ hw250_5)).trans hw250_5))⟩ (fun hHeld => ?_)
     clear hK K
     refine norm_ (a' := ?_) ?_ ?_
     rotate_left
     · show Act.put _ (some 26) _ = _
       simp only [Act.put, s0_, s1_, s2_, i64_w, i32_w]
       rfl
     refine one_ (i := 13) (N := some 27) #[T,T,T,T,T,T,T,T,T,T,T,T,T,T,F] rfl rfl (one_of HT_.out (by kernel_rfl)) (by decide) (fun K hK => ?_)
     refine Kd.R_append_step k45 (w0 := w) w.heap.size (by rfl) (.tmp 14) (.tmp 26) 44 45 (.agg #[(.int .i64 0), (.int .i64 0)]) 16 rfl Try.underlying44 info45 rfl (by decide) (by omega) u4 x4_1 (⟨(rd_T38 l0 x5_1).f2, (rd_T38 l0 x5_1).f4⟩ : S45) [.int .i64 ((rd_T38 l0 x5_1).f2), .int .i64 ((rd_T38 l0 x5_1).f4)] (fun _ => True) (fun _ => False) rfl rfl ?aP (fun _ hk => hk.elim) ?aF ?aO ?aB ?aS ?aL ?_
     (case aP => exact k45_mkM _ _ _ (⟨(rd_T38 l0 x5_1).f2, (rd_T38 l0 x5_1).f4⟩ : S45))
     (case aB => exact bw_)
     (case aF => exact (fun _ _ => trivial))
     (case aO => exact (pr_ HO_4.out))
     (case aS => exact (below_size bw_))
     (case aL => have := LMc4.out; omega)
     intro v252 w6 ho hb hg hat
     rw [← Ny251.out] at ho
     replace HB := A_ (hb); have HO253 := A_ (ho); clear HO_4; clear ho hb hg hat
     refine hK.out _ _ ⟨((HB.out.cell (World.block_lt_of_cell? w _ hw249_0)).trans hw249_0), ((HB.out.cell (World.block_lt_of_cell? w _ hw249_1)).trans hw249_1), ((HB.out.cell (World.block_lt_of_cell? w _ hw249_2)).trans hw249_2), ((HB.out.cell (World.block_lt_of_cell? w _ hw249_3)).trans hw249_3), ((HB.out.cell (World.block_lt_of_cell? w _ hw249_4)).trans hw249_4), ((HB.out.cell (World.block_lt_of_cell? w _ hw249_5)).trans hw249_5), ((HB.out.cell (World.block_lt_of_cell? w _ hw250_0)).trans hw250_0), ((HB.out.cell (World.block_lt_of_cell? w _ hw250_1)).trans hw250_1), ((HB.out.cell (World.block_lt_of_cell? w _ hw250_2)).trans hw250_2), ((HB.out.cell (World.block_lt_of_cell? w _ hw250_3)).trans hw250_3), ((HB.out.cell (World.block_lt_of_cell? w _ hw250_4)).trans hw250_4), ((HB.out.cell (World.block_lt_of_cell? w _ hw250_5)).trans hw250_5)⟩ (fun hHeld => ?_)
     clear hK K
     refine norm_ (a' := ?_) ?_ ?_
     rotate_left
     · show Act.put _ (some 27) _ = _
       simp only [Act.put, s0_, s1_, s2_, i64_w, i32_w]
       rfl
     refine pq_ 14 4 HT_ ?_
     refine done_ (done_of HT_.out (by kernel_rfl)) ?_
     try go_wp2
     go_roundg k1
     case measure => have := HK1.out; omega
     case rel => exact ⟨(y251), (wrap64 (x5_1 + 1)), (by first | rfl | (simp; done) | (simp [*]; done)), H', ⟨by have := HK1.out; omega⟩, ⟨by (with_reducible repeat (first | apply ra_ | apply rn_ | apply rd_)); exact HO253.out⟩, ⟨by repeat (first | (with_reducible first | exact HB.out | apply wa_ | apply wn_ | apply wd_) | exact HB.out)⟩⟩
   · rw [if_neg c2] at H
     have c2b0 : decide (x5_1 < (l0.length : Int)) = false := decide_eq_false c2
     clear c2
     replace H := Option.bind_eq_some_iff.mp H
     obtain ⟨⟨t254, t255, t256⟩, A70, H⟩ := H
     replace H : (some (t254, t255)) = some (r1, r2) := H
     have A7 := A_ A70
     clear A70
     simp only [Option.some.injEq, Prod.mk.injEq] at H
     obtain ⟨rfl, rfl⟩ := H
     obtain ⟨Ao8, co8, eo8⟩ := Kd.R_slice HO_4.out
     subst eo8
     try go_wp2_with (first | ((with_reducible refine gate_callee (f := 26) rfl ?_); refine goesL_ (some 30) rfl rfl Try.func26 (by kernel_rfl) rfl #[.slice Ao8 x4_1.length co8] rfl (by (try simp only [m0_, m1_, m2_]); first | done | rfl) ?_; (with_reducible refine (hopperref01_Totals.calls _ _ x4_1 t254 t255 t256 _ ?side1 ?side2 A7.out).mono ?_); (case side1 => repeat (first | exact (Kd.R_reads' HO_4.out).2.2 | (with_reducible refine ca_ ?_ _) | (with_reducible refine cn_ ?_ _) | (with_reducible refine cd_ ?_))); (case side2 => exact (Kd.R_reads' HO_4.out).2.1); rintro e w9 ⟨rfl, hb⟩; refine ⟨_, rfl, ?_⟩; replace HO_4 := A_ (Kd.R_below (pr_ HO_4.out) hb); replace HB := A_ (below_step bw_ hb); (try clear hb); (try clear hb2); (try clear hk); (try clear hi)) | ((with_reducible refine gate_dst (N := 6) rfl ?_); refine box_event ?hg (N := 6) ?hd (cs := #[.int .i64 0, .int .i64 0]) (t := 45) ?hr ?_; (case hd => rfl); (case hg => rfl); (case hr => first | (go_simp; done) | (go_simp; rfl)); intro gb257 hg w10 hbox hb; have n0_ := A_ (Kd.R_below (Kd.R_elderB (pr_ HO_4.out) gb257 (Nat.le_of_eq hg.symm)) hb); have n1_ := A_ (below_step bw_ hb); have n2_ := A_ (hbox); have n3_ := A_ (gz_ (w := w) hg); have n4_ := A_ (gz_ (w := w) hg); replace HO_4 := n0_; replace HB := n1_; have BK257 := n2_; have GW257 := n3_; have GE257 := n4_; clear n0_ n1_ n2_ n3_ n4_; clear hb hbox hg; have hcz11_0 : w10.cell? ⟨gb257, 0, none⟩ = some (.int .i64 0) := e_ BK257 0; have hcz11_1 : w10.cell? ⟨gb257, 1, none⟩ = some (.int .i64 0) := e_ BK257 1; have hfz11_0 := blk_frozen BK257.out 0; have hfz11_1 := blk_frozen BK257.out 1))
     have n0_ : Aside0 (Kd.R k45 45 ((w10.setCell ⟨gb257, 0, none⟩ (.int .i64 t254)).setCell ⟨gb257, 1, none⟩ (.int .i64 t255)) w.heap.size (fun k_ => k_ ≠ gb257) (.slice Ao8 x4_1.length co8) x4_1) := ⟨by (with_reducible repeat (first | apply ra_ | apply rn_ | apply rd_)); exact Kd.R_mono (Kd.R_far (p := ⟨gb257, 1, none⟩) (Kd.R_far (p := ⟨gb257, 0, none⟩) (Kd.R_mono HO_4.out (fun k_ hk => (⟨hk, hk.2⟩ : _ ∧ k_ ≠ gb257))) (fun _ hk => hk.2) (.int .i64 t254)) (fun _ hk => hk.2) (.int .i64 t255)) (fun _ hk => hk.1.2)⟩; have n1_ : Aside0 (((w10.setCell ⟨gb257, 0, none⟩ (.int .i64 t254)).setCell ⟨gb257, 1, none⟩ (.int .i64 t255)).heap[gb257]? = some (.cells #[.int .i64 t254, .int .i64 t255] 45 (0, 0))) := ⟨by (with_reducible repeat (first | refine bn_ ?_ _ | refine bd_ ?_ | refine ba_ ?_ _)); refine blk_put (cs := #[.int .i64 t254, .int .i64 0]) ?_ 1 _ rfl; (with_reducible repeat (first | refine bn_ ?_ _ | refine bd_ ?_ | refine ba_ ?_ _)); refine blk_put (cs := #[.int .i64 0, .int .i64 0]) ?_ 0 _ rfl; (with_reducible repeat (first | refine bn_ ?_ _ | refine bd_ ?_ | refine ba_ ?_ _)); exact BK257.out⟩; have n2_ : Aside0 (Below w.heap.size w ((w10.setCell ⟨gb257, 0, none⟩ (.int .i64 t254)).setCell ⟨gb257, 1, none⟩ (.int .i64 t255))) := ⟨by repeat (first | (with_reducible first | exact HB.out | apply wa_ | apply wn_ | apply wd_ | refine ws_ ?_ GE257.out) | exact HB.out)⟩
     (try clear HO_4)
     (try clear BK257)
     (try clear HB)
     generalize ((w10.setCell ⟨gb257, 0, none⟩ (.int .i64 t254)).setCell ⟨gb257, 1, none⟩ (.int .i64 t255)) = w12 at n0_ n1_ n2_ ⊢
     have HO_4 := n0_; have BK257 := n1_; have HB := n2_; clear n0_ n1_ n2_; have n0_ := A_ (rd_ HO_4.out); have n1_ := A_ (bd_ BK257.out); have n2_ := A_ (wd_ HB.out); replace HO_4 := n0_; replace BK257 := n1_; replace HB := n2_; clear n0_ n1_ n2_
     refine start_ (n := 6) (S := fun w' => w'.cell? ⟨gb257, 0, none⟩ = some (.int .i64 t254) ∧ w'.cell? ⟨gb257, 1, none⟩ = some (.int .i64 t255)) (ds := []) #[false, false, false, false, false, false] (by kernel_rfl) rfl rfl ⟨e_ BK257 0, e_ BK257 1⟩ (fun hHeld => ?_)
     generalize w12.drew = w13 at HO_4 BK257 HB hHeld ⊢
     refine pure_ (i := 0) (N := some 33) (v := ?_) (a' := ?_) #[true, false, false, false, false, false] rfl rfl (by kernel_rfl) (fun _ _ _ h => h) (Or.inl ⟨by rfl, ?_⟩) ?_ ?_
     rotate_left
     · intro w'
       go_simp
       with_reducible rfl
     rotate_left
     · simp only [Act.put, s0_, s1_, s2_, i64_w, i32_w]
       rfl
     refine pure_ (i := 2) (N := some 35) (v := ?_) (a' := ?_) #[true, false, true, false, false, false] rfl rfl (by kernel_rfl) (fun _ _ _ h => h) (Or.inl ⟨by rfl, ?_⟩) ?_ ?_
     rotate_left
     · intro w'
       go_simp
       with_reducible rfl
     rotate_left
     · simp only [Act.put, s0_, s1_, s2_, i64_w, i32_w]
       rfl
     refine take_ (i := 1) (N := some 34) (v := ?_) (a' := ?_) #[true, true, true, false, false, false] rfl rfl (by kernel_rfl) (fun _ _ _ h => h) (Or.inl ⟨by rfl, ?_⟩) hHeld ?_ ?_
     rotate_left
     · rintro w' ⟨s0, s1⟩
       go_simp
       with_reducible rfl
     rotate_left
     · simp only [Act.put, s0_, s1_, s2_, i64_w, i32_w]
       rfl
     refine pure_ (i := 4) (N := some 2) (v := ?_) (a' := ?_) #[true, true, true, false, true, false] rfl rfl (by kernel_rfl) (fun _ _ _ h => h) (Or.inl ⟨by rfl, ?_⟩) ?_ ?_
     rotate_left
     · intro w'
       go_simp
       with_reducible rfl
     rotate_left
     · simp only [Act.put, s0_, s1_, s2_, i64_w, i32_w]
       rfl
     refine take_ (i := 3) (N := some 36) (v := ?_) (a' := ?_) #[true, true, true, true, true, false] rfl rfl (by kernel_rfl) (fun _ _ _ h => h) (Or.inl ⟨by rfl, ?_⟩) hHeld ?_ ?_
     rotate_left
     · rintro w' ⟨s0, s1⟩
       go_simp
       with_reducible rfl
     rotate_left
     · simp only [Act.put, s0_, s1_, s2_, i64_w, i32_w]
       rfl
     refine pure_ (i := 5) (N := some 3) (v := ?_) (a' := ?_) #[true, true, true, true, true, true] rfl rfl (by kernel_rfl) (fun _ _ _ h => h) (Or.inl ⟨by rfl, ?_⟩) ?_ ?_
     rotate_left
     · intro w'
       go_simp
       with_reducible rfl
     rotate_left
     · simp only [Act.put, s0_, s1_, s2_, i64_w, i32_w]
       rfl
     refine done_ (by kernel_rfl) ?_
     try go_wp2
     go_ret2
     exact ⟨by first | rfl | (simp [errW_none, errW_some] <;> rfl) | (simp [*, errW_none, errW_some] <;> rfl), by repeat (first | (with_reducible first | exact HB.out | apply wa_ | apply wn_ | apply wd_ | refine ws_ ?_ GE257.out) | exact HB.out)⟩

/-! ### hopperref04_Txs: function 13 -/
def hopperref04_Txs.l0 : Nat → List (S38) → List (S38) → Int → Option (Bool)
 | 0, _, _, _ => none
 | k + 1, x0, x1, x5 => if x5 < (x0.length : Int) then (if 0 ≤ x5 then (if x5 < (x1.length : Int) then (if (!(((rd_T38 x0 x5).f0) == ((rd_T38 x1 x5).f0)) || (!(((rd_T38 x0 x5).f1) == ((rd_T38 x1 x5).f1)) || (!(((rd_T38 x0 x5).f2) == ((rd_T38 x1 x5).f2)) || (!(((rd_T38 x0 x5).f3) == ((rd_T38 x1 x5).f3)) || (!(((rd_T38 x0 x5).f4) == ((rd_T38 x1 x5).f4)) || (!((((rd_T38 x0 x5).f5).toList) == (((rd_T38 x1 x5).f5).toList)))))))) = true then (some false) else (hopperref04_Txs.l0 k x0 x1 (wrap64 (x5 + 1)))) else (none)) else (none)) else (some true)
def hopperref04_Txs.f (k : Nat) (l0 : List (S38)) (l1 : List (S38)) : Option (Bool) := if (l0.length : Int) = (l1.length : Int) then (hopperref04_Txs.l0 k l0 l1 0) else (some false)
theorem hopperref04_Txs.mono_l : ∀ k, (∀ y0 y1 y2, LeO (hopperref04_Txs.l0 k y0 y1 y2) (hopperref04_Txs.l0 (k + 1) y0 y1 y2))
 | 0 => fun _ _ _ r h => by simp [hopperref04_Txs.l0] at h
 | k + 1 => by
  have ih0 := hopperref04_Txs.mono_l k
  · intro y0 y1 y2
    unfold hopperref04_Txs.l0
    repeat' first
    | (with_reducible exact ih0 _ _ _)
    | (with_reducible exact LeO.refl _)
    | (with_reducible exact LeO.none _)
    | (with_reducible refine LeO.ite ?_ ?_)
    | (with_reducible refine LeO.bind ?_ (fun _ => ?_))
    | exact ih0 _ _ _
    | exact LeO.none _
    | refine LeO.ite ?_ ?_
    | refine LeO.bind ?_ (fun _ => ?_)
theorem hopperref04_Txs.mono : ∀ a0 a1 k, LeO (hopperref04_Txs.f k a0 a1) (hopperref04_Txs.f (k + 1) a0 a1) := by
 intro a0 a1 k
 have ih0 := hopperref04_Txs.mono_l k
 unfold hopperref04_Txs.f
 repeat' first
  | (with_reducible exact ih0 _ _ _)
  | (with_reducible exact LeO.refl _)
  | (with_reducible exact LeO.none _)
  | (with_reducible refine LeO.ite ?_ ?_)
  | (with_reducible refine LeO.bind ?_ (fun _ => ?_))
  | exact ih0 _ _ _
  | exact LeO.none _
  | refine LeO.ite ?_ ?_
  | refine LeO.bind ?_ (fun _ => ?_)
set_option maxHeartbeats 8000000 in
set_option maxRecDepth 100000 in
theorem hopperref04_Txs.calls (k : Nat) (A0 : Option Addr) (c0 : Nat) (l0 : List (S38)) (A1 : Option Addr) (c1 : Nat) (l1 : List (S38)) (r : Bool) (w : World) (hr0 : Kd.C k38 w A0 l0.length l0) (hc0 : l0.length ≤ c0) (hr1 : Kd.C k38 w A1 l1.length l1) (hc1 : l1.length ≤ c1) (h : hopperref04_Txs.f k l0 l1 = some r) :
 Calls Try.prog 13 #[.slice A0 l0.length c0, .slice A1 l1.length c1] w fun e w' => e = .returned (.bool r) ∧ Drawn0 w w' := by
 have hu38 := Try.underlying38
 have HR0 := A_ hr0
 have HC0 := A_ hc0
 clear hr0 hc0
 have HR1 := A_ hr1
 have HC1 := A_ hc1
 clear hr1 hc1
 have H : (if (l0.length : Int) = (l1.length : Int) then (hopperref04_Txs.l0 k l0 l1 0) else (some false)) = some r := h
 clear h
 by_cases c3 : (l0.length : Int) = (l1.length : Int)
 rotate_left
 · rw [if_neg c3] at H
   have c3b0 : ((l0.length : Int) == (l1.length : Int)) = false := beq_eq_false_iff_ne.mpr c3
   have c3b1 : ((l0.length : Int) != (l1.length : Int)) = true := bne_iff_ne.mpr c3
   have c3b2 : (l0.length == l1.length) = false := by first | simpa using c3 | (simp at c3 ⊢; omega)
   obtain rfl := Option.some.inj H
   go_enter Try.func13, Try.ntmps13
   go_wp2
   repeat (go_quiet (fail); try go_wp2)
   go_ret
   exact ⟨by first | rfl | (simp; done) | (simp [*]; done), by repeat (first | exact Drawn0.refl _ | apply Drawn0.step)⟩

 rw [if_pos c3] at H
 have c3b0 : ((l0.length : Int) == (l1.length : Int)) = true := beq_iff_eq.mpr c3
 have c3b1 : ((l0.length : Int) != (l1.length : Int)) = false := bne_eq_false_iff_eq.mpr c3
 have c3b2 : (l0.length == l1.length) = true := by first | simpa using c3 | (simp at c3 ⊢; omega)
 clear c3
 have H' := A_ H
 clear H
 go_enter Try.func13, Try.ntmps13
 go_wp2
 repeat (go_quiet (fail); try go_wp2)
 go_loopg [5] k (fun kq v5 w' => ∃ (x5_1 : Int), v5 = .int .i64 x5_1 ∧ Aside0 (hopperref04_Txs.l0 kq l0 l1 x5_1 = some r) ∧ Aside0 (kq ≤ k) ∧ Drawn0 w w')
 case atStart => exact ⟨(0), (by first | rfl | (simp; done) | (simp [*]; done)), H', ⟨Nat.le_refl _⟩, by repeat (first | exact Drawn0.refl _ | apply Drawn0.step)⟩
 case round =>
  clear H'; (try clear c1); (try clear p2); (try clear c3); (try clear c3b0); (try clear c3b1); (try clear c3b2)
  obtain ⟨x5_1, rfl, HA, HK1, ⟨m1, rfl⟩⟩ := hrel
  cases gk with
  | zero => exact absurd HA.out (by simp [hopperref04_Txs.l0])
  | succ k1 =>
   have H := HA.out
   clear HA
   simp only [hopperref04_Txs.l0] at H
   by_cases c4 : x5_1 < (l0.length : Int)
   rotate_left
   · rw [if_neg c4] at H
     have c4b0 : decide (x5_1 < (l0.length : Int)) = false := decide_eq_false c4
     clear c4
     obtain rfl := Option.some.inj H
     go_wp2
     repeat (go_quiet (fail); try go_wp2)
     go_ret
     exact ⟨by first | rfl | (simp; done) | (simp [*]; done), by repeat (first | exact Drawn0.refl _ | apply Drawn0.step)⟩
   rw [if_pos c4] at H
   have c4b0 : decide (x5_1 < (l0.length : Int)) = true := decide_eq_true c4
   clear c4
   by_cases c5 : 0 ≤ x5_1
   rotate_left
   · rw [if_neg c5] at H
     exact absurd H (by simp)
   rw [if_pos c5] at H
   have c5b0 : decide (0 ≤ x5_1) = true := decide_eq_true c5
   clear c5
   by_cases c6 : x5_1 < (l1.length : Int)
   rotate_left
   · rw [if_neg c6] at H
     exact absurd H (by simp)
   rw [if_pos c6] at H
   have c6b0 : decide (x5_1 < (l1.length : Int)) = true := decide_eq_true c6
   clear c6
   by_cases c7 : (!(((rd_T38 l0 x5_1).f0) == ((rd_T38 l1 x5_1).f0)) || (!(((rd_T38 l0 x5_1).f1) == ((rd_T38 l1 x5_1).f1)) || (!(((rd_T38 l0 x5_1).f2) == ((rd_T38 l1 x5_1).f2)) || (!(((rd_T38 l0 x5_1).f3) == ((rd_T38 l1 x5_1).f3)) || (!(((rd_T38 l0 x5_1).f4) == ((rd_T38 l1 x5_1).f4)) || (!((((rd_T38 l0 x5_1).f5).toList) == (((rd_T38 l1 x5_1).f5).toList)))))))) = true
   · rw [if_pos c7] at H
     have c7b0 : (!(((rd_T38 l0 x5_1).f0) == ((rd_T38 l1 x5_1).f0)) || (!(((rd_T38 l0 x5_1).f1) == ((rd_T38 l1 x5_1).f1)) || (!(((rd_T38 l0 x5_1).f2) == ((rd_T38 l1 x5_1).f2)) || (!(((rd_T38 l0 x5_1).f3) == ((rd_T38 l1 x5_1).f3)) || (!(((rd_T38 l0 x5_1).f4) == ((rd_T38 l1 x5_1).f4)) || (!((((rd_T38 l0 x5_1).f5).toList) == (((rd_T38 l1 x5_1).f5).toList)))))))) = true := c7
     clear c7
     obtain rfl := Option.some.inj H
     have p258 : 0 ≤ (x5_1 : Int) := of_decide_eq_true (by first | (with_reducible assumption) | assumption)
     have q258 : x5_1 < (l0.length : Int) := of_decide_eq_true (by first | (with_reducible assumption) | assumption)
     obtain ⟨ad258, e258, hx258_0, hx258_1, hx258_2, hx258_3, hx258_4, hx258_5⟩ := at_T38 HR0.out x5_1 p258 q258
     cases e258
     replace p258 := eq_true p258
     replace q258 := eq_true q258
     have p259 : 0 ≤ (x5_1 : Int) := of_decide_eq_true (by first | (with_reducible assumption) | assumption)
     have q259 : x5_1 < (l1.length : Int) := of_decide_eq_true (by first | (with_reducible assumption) | assumption)
     obtain ⟨ad259, e259, hx259_0, hx259_1, hx259_2, hx259_3, hx259_4, hx259_5⟩ := at_T38 HR1.out x5_1 p259 q259
     cases e259
     replace p259 := eq_true p259
     replace q259 := eq_true q259
     go_wp2
     repeat (go_quiet (fail); try go_wp2)
     go_ret
     exact ⟨by first | rfl | (simp; done) | (simp [*]; done), by repeat (first | exact Drawn0.refl _ | apply Drawn0.step)⟩
   · rw [if_neg c7] at H
     have c7b0 : (!(((rd_T38 l0 x5_1).f0) == ((rd_T38 l1 x5_1).f0)) || (!(((rd_T38 l0 x5_1).f1) == ((rd_T38 l1 x5_1).f1)) || (!(((rd_T38 l0 x5_1).f2) == ((rd_T38 l1 x5_1).f2)) || (!(((rd_T38 l0 x5_1).f3) == ((rd_T38 l1 x5_1).f3)) || (!(((rd_T38 l0 x5_1).f4) == ((rd_T38 l1 x5_1).f4)) || (!((((rd_T38 l0 x5_1).f5).toList) == (((rd_T38 l1 x5_1).f5).toList)))))))) = false := by simpa using c7
     clear c7
     have H' := A_ H
     clear H
     have p258 : 0 ≤ (x5_1 : Int) := of_decide_eq_true (by first | (with_reducible assumption) | assumption)
     have q258 : x5_1 < (l0.length : Int) := of_decide_eq_true (by first | (with_reducible assumption) | assumption)
     obtain ⟨ad258, e258, hx258_0, hx258_1, hx258_2, hx258_3, hx258_4, hx258_5⟩ := at_T38 HR0.out x5_1 p258 q258
     cases e258
     replace p258 := eq_true p258
     replace q258 := eq_true q258
     have p259 : 0 ≤ (x5_1 : Int) := of_decide_eq_true (by first | (with_reducible assumption) | assumption)
     have q259 : x5_1 < (l1.length : Int) := of_decide_eq_true (by first | (with_reducible assumption) | assumption)
     obtain ⟨ad259, e259, hx259_0, hx259_1, hx259_2, hx259_3, hx259_4, hx259_5⟩ := at_T38 HR1.out x5_1 p259 q259
     cases e259
     replace p259 := eq_true p259
     replace q259 := eq_true q259
     go_wp2
     repeat (go_quiet (fail); try go_wp2)
     go_roundg k1
     case measure => have := HK1.out; omega
     case rel => exact ⟨(wrap64 (x5_1 + 1)), (by first | rfl | (simp; done) | (simp [*]; done)), H', ⟨by have := HK1.out; omega⟩, by repeat (first | exact Drawn0.refl _ | apply Drawn0.step)⟩
end Go.Proofs.Ytahopljippfadaa.D
