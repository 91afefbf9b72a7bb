/- Written by this session's own program over the kit's print: functions of Go told as plain functions, or the row of one statement; proved for every input, with no condition of ours. -/
import Derived.Test.YtnjnogkhbadioaaDx0
import Derived.Test.YtnjnogkhbadioaaDx13
namespace Go.Proofs.Ytnjnogkhbadioaa.D
open Go.RowKit Go.Proofs.YtnjnogkhbadioaaW.PrintWords Go.Proofs.YtnjnogkhbadioaaW.PrintLast Go.Proofs.YtnjnogkhbadioaaW.PrintMore
attribute [local go_sem] max2_int min2_int max_two min_two max_three min_three max_four min_four   -- for this text's walks alone
set_option linter.unusedVariables false
set_option linter.unusedSimpArgs false

/-! ### hopperref11_Accounts: function 14 -/
def hopperref11_Accounts.l0 : Nat → List (S46) → List (S46) → Int → Option (Bool)
 | 0, _, _, _ => none
 | k + 1, x0, x1, x5 => if x5 < (x0.length : Int) then (if 0 ≤ x5 then (if x5 < (x1.length : Int) then ((hopperref05_Same.f k ((rd_T46 x0 x5).f0) ((rd_T46 x0 x5).f1) ((rd_T46 x0 x5).f2) ((rd_T46 x1 x5).f0) ((rd_T46 x1 x5).f1) ((rd_T46 x1 x5).f2)).bind fun t251 => (if t251 = true then (hopperref11_Accounts.l0 k x0 x1 (wrap64 (x5 + 1))) else (some false))) else (none)) else (none)) else (some true)
def hopperref11_Accounts.f (k : Nat) (l0 : List (S46)) (l1 : List (S46)) : Option (Bool) := if (l0.length : Int) = (l1.length : Int) then (hopperref11_Accounts.l0 k l0 l1 0) else (some false)
theorem hopperref11_Accounts.mono_l : ∀ k, (∀ y0 y1 y2, LeO (hopperref11_Accounts.l0 k y0 y1 y2) (hopperref11_Accounts.l0 (k + 1) y0 y1 y2))
 | 0 => fun _ _ _ r h => by simp [hopperref11_Accounts.l0] at h
 | k + 1 => by
  have ih0 := hopperref11_Accounts.mono_l k
  · intro y0 y1 y2
    unfold hopperref11_Accounts.l0
    repeat' first
    | (with_reducible exact ih0 _ _ _)
    | (with_reducible exact hopperref05_Same.mono _ _ _ _ _ _ _)
    | (with_reducible exact LeO.refl _)
    | (with_reducible exact LeO.none _)
    | (with_reducible refine LeO.ite ?_ ?_)
    | (with_reducible refine LeO.bind ?_ (fun _ => ?_))
    | exact ih0 _ _ _
    | exact hopperref05_Same.mono _ _ _ _ _ _ _
    | exact LeO.none _
    | refine LeO.ite ?_ ?_
    | refine LeO.bind ?_ (fun _ => ?_)
theorem hopperref11_Accounts.mono : ∀ a0 a1 k, LeO (hopperref11_Accounts.f k a0 a1) (hopperref11_Accounts.f (k + 1) a0 a1) := by
 intro a0 a1 k
 have ih0 := hopperref11_Accounts.mono_l k
 unfold hopperref11_Accounts.f
 repeat' first
  | (with_reducible exact ih0 _ _ _)
  | (with_reducible exact hopperref05_Same.mono _ _ _ _ _ _ _)
  | (with_reducible exact LeO.refl _)
  | (with_reducible exact LeO.none _)
  | (with_reducible refine LeO.ite ?_ ?_)
  | (with_reducible refine LeO.bind ?_ (fun _ => ?_))
  | exact ih0 _ _ _
  | exact hopperref05_Same.mono _ _ _ _ _ _ _
  | exact LeO.none _
  | refine LeO.ite ?_ ?_
  | refine LeO.bind ?_ (fun _ => ?_)
def hopperref11_Accounts.T6 : Bool × List (List Nat × List Nat) := (true, [([], []), ([], []), ([0, 1], [0, 1]), ([2], [2]), ([], []), ([], []), ([4, 5], [4, 5]), ([6], [6]), ([3, 7], [3, 7]), ([8], [8])])
def hopperref11_Accounts.B6 : List Nat := [0, 0, 3, 7, 0, 0, 48, 112, 255, 511]
theorem hopperref11_Accounts.tab6 : rtab .any (opsOf Try.f14 6) = hopperref11_Accounts.T6 := by kernel_rfl
theorem hopperref11_Accounts.bits6 : waitsOk hopperref11_Accounts.T6.2 hopperref11_Accounts.B6 = true := by kernel_rfl
set_option maxHeartbeats 8000000 in
set_option maxRecDepth 100000 in
theorem hopperref11_Accounts.calls (k : Nat) (A0 : Option Addr) (c0 : Nat) (l0 : List (S46)) (A1 : Option Addr) (c1 : Nat) (l1 : List (S46)) (r : Bool) (w : World) (hr0 : Kd.C k46 w A0 l0.length l0) (hc0 : l0.length ≤ c0) (hr1 : Kd.C k46 w A1 l1.length l1) (hc1 : l1.length ≤ c1) (h : hopperref11_Accounts.f k l0 l1 = some r) :
 Calls Try.prog 14 #[.slice A0 l0.length c0, .slice A1 l1.length c1] w fun e w' => e = .returned (.bool r) ∧ Below w.heap.size w w' := by
 have hu46 := Try.underlying46
 have HR0 := A_ hr0
 have HC0 := A_ hc0
 clear hr0 hc0
 have HR1 := A_ hr1
 have HC1 := A_ hc1
 clear hr1 hc1; have HB := A_ (Below.refl w.heap.size w)
 have H : (if (l0.length : Int) = (l1.length : Int) then (hopperref11_Accounts.l0 k l0 l1 0) else (some false)) = some r := h
 clear h
 by_cases c3 : (l0.length : Int) = (l1.length : Int)
 rotate_left
 · rw [if_neg c3] at H
   have c3b0 : ((l0.length : Int) == (l1.length : Int)) = false := beq_eq_false_iff_ne.mpr c3
   have c3b1 : ((l0.length : Int) != (l1.length : Int)) = true := bne_iff_ne.mpr c3
   have c3b2 : (l0.length == l1.length) = false := by first | simpa using c3 | (simp at c3 ⊢; omega)
   obtain rfl := Option.some.inj H
   go_enter Try.func14, Try.ntmps14
   go_wp2
   go_ret
   exact ⟨by first | rfl | (simp [errW_none, errW_some] <;> rfl) | (simp [*, errW_none, errW_some] <;> rfl), by repeat (first | (with_reducible first | exact HB.out | apply wa_ | apply wn_ | apply wd_) | exact HB.out)⟩

 rw [if_pos c3] at H
 have c3b0 : ((l0.length : Int) == (l1.length : Int)) = true := beq_iff_eq.mpr c3
 have c3b1 : ((l0.length : Int) != (l1.length : Int)) = false := bne_eq_false_iff_eq.mpr c3
 have c3b2 : (l0.length == l1.length) = true := by first | simpa using c3 | (simp at c3 ⊢; omega)
 clear c3
 have H' := A_ H
 clear H
 go_enter Try.func14, Try.ntmps14
 go_wp2
 go_loopg [5] k (fun kq v5 w' => ∃ (x5_1 : Int), v5 = .int .i64 x5_1 ∧ Aside0 (hopperref11_Accounts.l0 kq l0 l1 x5_1 = some r) ∧ Aside0 (kq ≤ k) ∧ Aside0 (Below w.heap.size w w'))
 case atStart => exact ⟨(0), (by first | rfl | (simp; done) | (simp [*]; done)), H', ⟨Nat.le_refl _⟩, ⟨by repeat (first | (with_reducible first | exact HB.out | apply wa_ | apply wn_ | apply wd_) | exact HB.out)⟩⟩
 case round =>
  clear H'; (try clear c1); (try clear p2); (try clear c3); (try clear c3b0); (try clear c3b1); (try clear c3b2)
  obtain ⟨x5_1, rfl, HA, HK1, HB⟩ := hrel
  cases gk with
  | zero => exact absurd HA.out (by simp [hopperref11_Accounts.l0])
  | succ k1 =>
   have H := HA.out
   clear HA
   simp only [hopperref11_Accounts.l0] at H
   by_cases c4 : x5_1 < (l0.length : Int)
   rotate_left
   · rw [if_neg c4] at H
     have c4b0 : decide (x5_1 < (l0.length : Int)) = false := decide_eq_false c4
     clear c4
     obtain rfl := Option.some.inj H
     go_wp2
     go_ret
     exact ⟨by first | rfl | (simp [errW_none, errW_some] <;> rfl) | (simp [*, errW_none, errW_some] <;> rfl), by repeat (first | (with_reducible first | exact HB.out | apply wa_ | apply wn_ | apply wd_) | exact HB.out)⟩
   rw [if_pos c4] at H
   have c4b0 : decide (x5_1 < (l0.length : Int)) = true := decide_eq_true c4
   clear c4
   by_cases c5 : 0 ≤ x5_1
   rotate_left
   · rw [if_neg c5] at H
     exact absurd H (by simp)
   rw [if_pos c5] at H
   have c5b0 : decide (0 ≤ x5_1) = true := decide_eq_true c5
   clear c5
   by_cases c6 : x5_1 < (l1.length : Int)
   rotate_left
   · rw [if_neg c6] at H
     exact absurd H (by simp)
   rw [if_pos c6] at H
   have c6b0 : decide (x5_1 < (l1.length : Int)) = true := decide_eq_true c6
   clear c6
   replace H := Option.bind_eq_some_iff.mp H
   obtain ⟨t251, A70, H⟩ := H
   try dsimp only at H
   have A7 := A_ A70
   clear A70
   by_cases c8 : t251 = true
   · subst c8
     have H1 : (hopperref11_Accounts.l0 k1 l0 l1 (wrap64 (x5_1 + 1))) = some r := by rw [if_pos rfl] at H; exact H
     clear H
     have H := H1
     clear H1
     have H' := A_ H
     clear H
     try go_wp2
     have n0_ := A_ (wd_ HB.out); replace HB := n0_; clear n0_
     have p249 : 0 ≤ (x5_1 : Int) := of_decide_eq_true (by first | (with_reducible assumption) | assumption)
     have q249 : x5_1 < (l0.length : Int) := of_decide_eq_true (by first | (with_reducible assumption) | assumption)
     obtain ⟨ad249, A249_2, c249_2, e249, hx249_0, hx249_1, hx249_2, hl249_2, hi249_2⟩ := at_T46 HR0.out x5_1 p249 q249
     have hw249_2 := hx249_2
     have hw249_1 := hx249_1
     have hw249_0 := hx249_0
     cases e249
     replace hx249_0 := on_ HB.out hx249_0
     replace hx249_1 := on_ HB.out hx249_1
     replace hx249_2 := on_ HB.out hx249_2
     have HR249_2 := A_ hi249_2
     have HC249_2 := A_ hl249_2
     clear hi249_2 hl249_2
     replace p249 := eq_true p249
     replace q249 := eq_true q249
     have p250 : 0 ≤ (x5_1 : Int) := of_decide_eq_true (by first | (with_reducible assumption) | assumption)
     have q250 : x5_1 < (l1.length : Int) := of_decide_eq_true (by first | (with_reducible assumption) | assumption)
     obtain ⟨ad250, A250_2, c250_2, e250, hx250_0, hx250_1, hx250_2, hl250_2, hi250_2⟩ := at_T46 HR1.out x5_1 p250 q250
     have hw250_2 := hx250_2
     have hw250_1 := hx250_1
     have hw250_0 := hx250_0
     cases e250
     replace hx250_0 := on_ HB.out hx250_0
     replace hx250_1 := on_ HB.out hx250_1
     replace hx250_2 := on_ HB.out hx250_2
     have HR250_2 := A_ hi250_2
     have HC250_2 := A_ hl250_2
     clear hi250_2 hl250_2
     replace p250 := eq_true p250
     replace q250 := eq_true q250
     refine start_ (n := 10) (S := fun w' => w'.cell? (ad249.add ((x5_1).toNat * 3)) = some (.int .i64 ((rd_T46 l0 x5_1).f0)) ∧ w'.cell? ⟨(ad249.add ((x5_1).toNat * 3)).block, (ad249.add ((x5_1).toNat * 3)).off + 1, none⟩ = some (.int .i64 ((rd_T46 l0 x5_1).f1)) ∧ w'.cell? ⟨(ad249.add ((x5_1).toNat * 3)).block, (ad249.add ((x5_1).toNat * 3)).off + 2, none⟩ = some (.slice A249_2 ((rd_T46 l0 x5_1).f2).length c249_2) ∧ w'.cell? (ad250.add ((x5_1).toNat * 3)) = some (.int .i64 ((rd_T46 l1 x5_1).f0)) ∧ w'.cell? ⟨(ad250.add ((x5_1).toNat * 3)).block, (ad250.add ((x5_1).toNat * 3)).off + 1, none⟩ = some (.int .i64 ((rd_T46 l1 x5_1).f1)) ∧ w'.cell? ⟨(ad250.add ((x5_1).toNat * 3)).block, (ad250.add ((x5_1).toNat * 3)).off + 2, none⟩ = some (.slice A250_2 ((rd_T46 l1 x5_1).f2).length c250_2)) (ds := []) #[F,F,F,F,F,F,F,F,F,F] (by kernel_rfl) rfl rfl ⟨((HB.out.cell (World.block_lt_of_cell? w _ hw249_0)).trans hw249_0), ((HB.out.cell (World.block_lt_of_cell? w _ hw249_1)).trans hw249_1), ((HB.out.cell (World.block_lt_of_cell? w _ hw249_2)).trans hw249_2), ((HB.out.cell (World.block_lt_of_cell? w _ hw250_0)).trans hw250_0), ((HB.out.cell (World.block_lt_of_cell? w _ hw250_1)).trans hw250_1), ((HB.out.cell (World.block_lt_of_cell? w _ hw250_2)).trans hw250_2)⟩ (fun hHeld => ?_); refine with_tabW hopperref11_Accounts.tab6 hopperref11_Accounts.bits6 (fun HT_ HW_ => ?_)
     generalize wr.drew = w9 at HB HR249_2 HR250_2 hx249_0 hx249_1 hx249_2 hx250_0 hx250_1 hx250_2 hHeld ⊢
     refine pq_ 0 17 HT_ ?_
     refine pq_ 1 18 HT_ ?_
     refine pq_ 2 19 HT_ ?_
     refine pq_ 4 21 HT_ ?_
     refine pq_ 5 22 HT_ ?_
     refine pq_ 6 23 HT_ ?_
     refine tk_ 3 20 HT_ HW_ hHeld ?_
     refine tk_ 7 24 HT_ HW_ hHeld ?_
     refine one_ (i := 8) (N := some 25) #[T,T,T,T,T,T,T,T,T,F] rfl rfl (one_of HT_.out (by kernel_rfl)) (by decide) (fun K hK => ?_)
     refine goes_ Try.func32 (by kernel_rfl) rfl #[.agg #[.int .i64 ((rd_T46 l0 x5_1).f0), .int .i64 ((rd_T46 l0 x5_1).f1), .slice A249_2 ((rd_T46 l0 x5_1).f2).length c249_2], .agg #[.int .i64 ((rd_T46 l1 x5_1).f0), .int .i64 ((rd_T46 l1 x5_1).f1), .slice A250_2 ((rd_T46 l1 x5_1).f2).length c250_2]] (by rfl) rfl rfl (by (try simp only [m0_, m1_, m2_]); first | done | rfl) ?_
     with_reducible refine (hopperref05_Same.calls k1 ((rd_T46 l0 x5_1).f0) ((rd_T46 l0 x5_1).f1) _ _ ((rd_T46 l0 x5_1).f2) ((rd_T46 l1 x5_1).f0) ((rd_T46 l1 x5_1).f1) _ _ ((rd_T46 l1 x5_1).f2) true _ ?side1 ?side2 ?side3 ?side4 A7.out).mono ?_
     (case side1 => repeat (first | exact (Kd.C_below HR249_2.out HB.out) | (with_reducible refine ca_ ?_ _) | (with_reducible refine cn_ ?_ _) | (with_reducible refine cd_ ?_)))
     (case side2 => exact HC249_2.out)
     (case side3 => repeat (first | exact (Kd.C_below HR250_2.out HB.out) | (with_reducible refine ca_ ?_ _) | (with_reducible refine cn_ ?_ _) | (with_reducible refine cd_ ?_)))
     (case side4 => exact HC250_2.out)
     rintro e w10 ⟨rfl, hb⟩
     refine ⟨_, rfl, ?_⟩
     have n0_ := A_ (below_step bw_ hb); replace HB := n0_; clear n0_
     (try clear hb)
     (try clear hb2)
     (try clear hk)
     (try clear hi)
     refine hK.out _ _ ⟨((HB.out.cell (World.block_lt_of_cell? w _ hw249_0)).trans hw249_0), ((HB.out.cell (World.block_lt_of_cell? w _ hw249_1)).trans hw249_1), ((HB.out.cell (World.block_lt_of_cell? w _ hw249_2)).trans hw249_2), ((HB.out.cell (World.block_lt_of_cell? w _ hw250_0)).trans hw250_0), ((HB.out.cell (World.block_lt_of_cell? w _ hw250_1)).trans hw250_1), ((HB.out.cell (World.block_lt_of_cell? w _ hw250_2)).trans hw250_2)⟩ (fun hHeld => ?_)
     clear hK K
     refine norm_ (a' := ?_) ?_ ?_
     rotate_left
     · show Act.put _ (some 25) _ = _
       simp only [Act.put, s0_, s1_, s2_, i64_w, i32_w]
       rfl
     refine pq_ 9 26 HT_ ?_
     refine done_ (done_of HT_.out (by kernel_rfl)) ?_
     try go_wp2
     go_roundg k1
     case measure => have := HK1.out; omega
     case rel => exact ⟨(wrap64 (x5_1 + 1)), (by first | rfl | (simp; done) | (simp [*]; done)), H', ⟨by have := HK1.out; omega⟩, ⟨by repeat (first | (with_reducible first | exact HB.out | apply wa_ | apply wn_ | apply wd_) | exact HB.out)⟩⟩
   · replace c8 := Bool.eq_false_iff.mpr c8
     subst c8
     have H1 : (some false) = some r := by rw [if_neg (show ¬ (false = true) by decide)] at H; exact H
     clear H
     have H := H1
     clear H1
     obtain rfl := Option.some.inj H
     try go_wp2
     have n0_ := A_ (wd_ HB.out); replace HB := n0_; clear n0_
     have p249 : 0 ≤ (x5_1 : Int) := of_decide_eq_true (by first | (with_reducible assumption) | assumption)
     have q249 : x5_1 < (l0.length : Int) := of_decide_eq_true (by first | (with_reducible assumption) | assumption)
     obtain ⟨ad249, A249_2, c249_2, e249, hx249_0, hx249_1, hx249_2, hl249_2, hi249_2⟩ := at_T46 HR0.out x5_1 p249 q249
     have hw249_2 := hx249_2
     have hw249_1 := hx249_1
     have hw249_0 := hx249_0
     cases e249
     replace hx249_0 := on_ HB.out hx249_0
     replace hx249_1 := on_ HB.out hx249_1
     replace hx249_2 := on_ HB.out hx249_2
     have HR249_2 := A_ hi249_2
     have HC249_2 := A_ hl249_2
     clear hi249_2 hl249_2
     replace p249 := eq_true p249
     replace q249 := eq_true q249
     have p250 : 0 ≤ (x5_1 : Int) := of_decide_eq_true (by first | (with_reducible assumption) | assumption)
     have q250 : x5_1 < (l1.length : Int) := of_decide_eq_true (by first | (with_reducible assumption) | assumption)
     obtain ⟨ad250, A250_2, c250_2, e250, hx250_0, hx250_1, hx250_2, hl250_2, hi250_2⟩ := at_T46 HR1.out x5_1 p250 q250
     have hw250_2 := hx250_2
     have hw250_1 := hx250_1
     have hw250_0 := hx250_0
     cases e250
     replace hx250_0 := on_ HB.out hx250_0
     replace hx250_1 := on_ HB.out hx250_1
     replace hx250_2 := on_ HB.out hx250_2
     have HR250_2 := A_ hi250_2
     have HC250_2 := A_ hl250_2
     clear hi250_2 hl250_2
     replace p250 := eq_true p250
     replace q250 := eq_true q250
     refine start_ (n := 10) (S := fun w' => w'.cell? (ad249.add ((x5_1).toNat * 3)) = some (.int .i64 ((rd_T46 l0 x5_1).f0)) ∧ w'.cell? ⟨(ad249.add ((x5_1).toNat * 3)).block, (ad249.add ((x5_1).toNat * 3)).off + 1, none⟩ = some (.int .i64 ((rd_T46 l0 x5_1).f1)) ∧ w'.cell? ⟨(ad249.add ((x5_1).toNat * 3)).block, (ad249.add ((x5_1).toNat * 3)).off + 2, none⟩ = some (.slice A249_2 ((rd_T46 l0 x5_1).f2).length c249_2) ∧ w'.cell? (ad250.add ((x5_1).toNat * 3)) = some (.int .i64 ((rd_T46 l1 x5_1).f0)) ∧ w'.cell? ⟨(ad250.add ((x5_1).toNat * 3)).block, (ad250.add ((x5_1).toNat * 3)).off + 1, none⟩ = some (.int .i64 ((rd_T46 l1 x5_1).f1)) ∧ w'.cell? ⟨(ad250.add ((x5_1).toNat * 3)).block, (ad250.add ((x5_1).toNat * 3)).off + 2, none⟩ = some (.slice A250_2 ((rd_T46 l1 x5_1).f2).length c250_2)) (ds := []) #[F,F,F,F,F,F,F,F,F,F] (by kernel_rfl) rfl rfl ⟨((HB.out.cell (World.block_lt_of_cell? w _ hw249_0)).trans hw249_0), ((HB.out.cell (World.block_lt_of_cell? w _ hw249_1)).trans hw249_1), ((HB.out.cell (World.block_lt_of_cell? w _ hw249_2)).trans hw249_2), ((HB.out.cell (World.block_lt_of_cell? w _ hw250_0)).trans hw250_0), ((HB.out.cell (World.block_lt_of_cell? w _ hw250_1)).trans hw250_1), ((HB.out.cell (World.block_lt_of_cell? w _ hw250_2)).trans hw250_2)⟩ (fun hHeld => ?_); refine with_tabW hopperref11_Accounts.tab6 hopperref11_Accounts.bits6 (fun HT_ HW_ => ?_)
     generalize wr.drew = w11 at HB HR249_2 HR250_2 hx249_0 hx249_1 hx249_2 hx250_0 hx250_1 hx250_2 hHeld ⊢
     refine pq_ 0 17 HT_ ?_
     refine pq_ 1 18 HT_ ?_
     refine pq_ 2 19 HT_ ?_
     refine pq_ 4 21 HT_ ?_
     refine pq_ 5 22 HT_ ?_
     refine pq_ 6 23 HT_ ?_
     refine tk_ 3 20 HT_ HW_ hHeld ?_
     refine tk_ 7 24 HT_ HW_ hHeld ?_
     refine one_ (i := 8) (N := some 25) #[T,T,T,T,T,T,T,T,T,F] rfl rfl (one_of HT_.out (by kernel_rfl)) (by decide) (fun K hK => ?_)
     refine goes_ Try.func32 (by kernel_rfl) rfl #[.agg #[.int .i64 ((rd_T46 l0 x5_1).f0), .int .i64 ((rd_T46 l0 x5_1).f1), .slice A249_2 ((rd_T46 l0 x5_1).f2).length c249_2], .agg #[.int .i64 ((rd_T46 l1 x5_1).f0), .int .i64 ((rd_T46 l1 x5_1).f1), .slice A250_2 ((rd_T46 l1 x5_1).f2).length c250_2]] (by rfl) rfl rfl (by (try simp only [m0_, m1_, m2_]); first | done | rfl) ?_
     with_reducible refine (hopperref05_Same.calls k1 ((rd_T46 l0 x5_1).f0) ((rd_T46 l0 x5_1).f1) _ _ ((rd_T46 l0 x5_1).f2) ((rd_T46 l1 x5_1).f0) ((rd_T46 l1 x5_1).f1) _ _ ((rd_T46 l1 x5_1).f2) false _ ?side1 ?side2 ?side3 ?side4 A7.out).mono ?_
     (case side1 => repeat (first | exact (Kd.C_below HR249_2.out HB.out) | (with_reducible refine ca_ ?_ _) | (with_reducible refine cn_ ?_ _) | (with_reducible refine cd_ ?_)))
     (case side2 => exact HC249_2.out)
     (case side3 => repeat (first | exact (Kd.C_below HR250_2.out HB.out) | (with_reducible refine ca_ ?_ _) | (with_reducible refine cn_ ?_ _) | (with_reducible refine cd_ ?_)))
     (case side4 => exact HC250_2.out)
     rintro e w12 ⟨rfl, hb⟩
     refine ⟨_, rfl, ?_⟩
     have n0_ := A_ (below_step bw_ hb); replace HB := n0_; clear n0_
     (try clear hb)
     (try clear hb2)
     (try clear hk)
     (try clear hi)
     refine hK.out _ _ ⟨((HB.out.cell (World.block_lt_of_cell? w _ hw249_0)).trans hw249_0), ((HB.out.cell (World.block_lt_of_cell? w _ hw249_1)).trans hw249_1), ((HB.out.cell (World.block_lt_of_cell? w _ hw249_2)).trans hw249_2), ((HB.out.cell (World.block_lt_of_cell? w _ hw250_0)).trans hw250_0), ((HB.out.cell (World.block_lt_of_cell? w _ hw250_1)).trans hw250_1), ((HB.out.cell (World.block_lt_of_cell? w _ hw250_2)).trans hw250_2)⟩ (fun hHeld => ?_)
     clear hK K
     refine norm_ (a' := ?_) ?_ ?_
     rotate_left
     · show Act.put _ (some 25) _ = _
       simp only [Act.put, s0_, s1_, s2_, i64_w, i32_w]
       rfl
     refine pq_ 9 26 HT_ ?_
     refine done_ (done_of HT_.out (by kernel_rfl)) ?_
     try go_wp2
     go_ret
     exact ⟨by first | rfl | (simp [errW_none, errW_some] <;> rfl) | (simp [*, errW_none, errW_some] <;> rfl), by repeat (first | (with_reducible first | exact HB.out | apply wa_ | apply wn_ | apply wd_) | exact HB.out)⟩
/-! ### hopperref11_Same: function 22 -/
def hopperref11_Same.f (k : Nat) (l0_0 : List (S46)) (a0_1 : Int) (l1_0 : List (S46)) (a1_1 : Int) : Option (Bool) := if a0_1 = a1_1 then ((hopperref11_Accounts.f k l0_0 l1_0).bind fun t254 => (some t254)) else (some false)
theorem hopperref11_Same.mono : ∀ a0 a1 a2 a3 k, LeO (hopperref11_Same.f k a0 a1 a2 a3) (hopperref11_Same.f (k + 1) a0 a1 a2 a3) := by
 intro a0 a1 a2 a3 k
 unfold hopperref11_Same.f
 repeat' first
  | (with_reducible exact hopperref11_Accounts.mono _ _ _)
  | (with_reducible exact LeO.refl _)
  | (with_reducible exact LeO.none _)
  | (with_reducible refine LeO.ite ?_ ?_)
  | (with_reducible refine LeO.bind ?_ (fun _ => ?_))
  | exact hopperref11_Accounts.mono _ _ _
  | exact LeO.none _
  | refine LeO.ite ?_ ?_
  | refine LeO.bind ?_ (fun _ => ?_)
set_option maxHeartbeats 8000000 in
set_option maxRecDepth 100000 in
theorem hopperref11_Same.calls (k : Nat) (A0_0 : Option Addr) (c0_0 : Nat) (l0_0 : List (S46)) (a0_1 : Int) (A1_0 : Option Addr) (c1_0 : Nat) (l1_0 : List (S46)) (a1_1 : Int) (r : Bool) (w : World) (hr0_0 : Kd.C k46 w A0_0 l0_0.length l0_0) (hc0_0 : l0_0.length ≤ c0_0) (hr1_0 : Kd.C k46 w A1_0 l1_0.length l1_0) (hc1_0 : l1_0.length ≤ c1_0) (h : hopperref11_Same.f k l0_0 a0_1 l1_0 a1_1 = some r) :
 Calls Try.prog 22 #[.agg #[.slice A0_0 l0_0.length c0_0, .int .i64 a0_1], .agg #[.slice A1_0 l1_0.length c1_0, .int .i64 a1_1]] w fun e w' => e = .returned (.bool r) ∧ Below w.heap.size w w' := by
 have hu26 := Try.underlying26
 have HR0_0 := A_ hr0_0
 have HC0_0 := A_ hc0_0
 clear hr0_0 hc0_0
 have HR1_0 := A_ hr1_0
 have HC1_0 := A_ hc1_0
 clear hr1_0 hc1_0; have HB := A_ (Below.refl w.heap.size w)
 have H : (if a0_1 = a1_1 then ((hopperref11_Accounts.f k l0_0 l1_0).bind fun t254 => (some t254)) else (some false)) = some r := h
 clear h
 by_cases c3 : a0_1 = a1_1
 rotate_left
 · rw [if_neg c3] at H
   have c3b0 : (a0_1 == a1_1) = false := beq_eq_false_iff_ne.mpr c3
   have c3b1 : (a0_1 != a1_1) = true := bne_iff_ne.mpr c3
   obtain rfl := Option.some.inj H
   go_enter Try.func22, Try.ntmps22
   go_wp2_with (first | ((with_reducible refine gate_dst (N := 2) rfl ?_); refine box_event ?hg (N := 2) ?hd (cs := #[.slice A0_0 l0_0.length c0_0, .int .i64 a0_1]) (t := 26) ?hr ?_; (case hd => rfl); (case hg => rfl); (case hr => first | (go_simp; done) | (go_simp; rfl)); intro gb252 hg w11 hbox hb; have n0_ := A_ (below_step bw_ hb); have n1_ := A_ (hbox); have n2_ := A_ (gz_ (w := w) hg); have n3_ := A_ (gz_ (w := w) hg); replace HB := n0_; have BK252 := n1_; have GW252 := n2_; have GE252 := n3_; clear n0_ n1_ n2_ n3_; clear hb hbox hg) | ((with_reducible refine gate_dst (N := 3) rfl ?_); refine box_event ?hg (N := 3) ?hd (cs := #[.slice A1_0 l1_0.length c1_0, .int .i64 a1_1]) (t := 26) ?hr ?_; (case hd => rfl); (case hg => rfl); (case hr => first | (go_simp; done) | (go_simp; rfl)); intro gb253 hg w12 hbox hb; have n0_ := A_ (kb_ BK252 hb); have n1_ := A_ (below_step bw_ hb); have n2_ := A_ (hbox); have n3_ := A_ (gz_ (w := w) hg); have n4_ := A_ (gz_ (w := w) hg); have n5_ := A_ (nl_ BK252 hg); have n6_ := A_ (ng_ BK252 hg); replace BK252 := n0_; replace HB := n1_; have BK253 := n2_; have GW253 := n3_; have GE253 := n4_; have NB252_253 := n5_; have NB253_252 := n6_; clear n0_ n1_ n2_ n3_ n4_ n5_ n6_; clear hb hbox hg; have hnb13 := NB252_253.out; have hnc13 := NB253_252.out; have hcz14_0 : w12.cell? ⟨gb252, 0, none⟩ = some (.slice A0_0 l0_0.length c0_0) := e_ BK252 0; have hcz14_1 : w12.cell? ⟨gb252, 1, none⟩ = some (.int .i64 a0_1) := e_ BK252 1; have hfz14_0 := blk_frozen BK252.out 0; have hfz14_1 := blk_frozen BK252.out 1; have hcz15_0 : w12.cell? ⟨gb253, 0, none⟩ = some (.slice A1_0 l1_0.length c1_0) := e_ BK253 0; have hcz15_1 : w12.cell? ⟨gb253, 1, none⟩ = some (.int .i64 a1_1) := e_ BK253 1; have hfz15_0 := blk_frozen BK253.out 0; have hfz15_1 := blk_frozen BK253.out 1))
   go_ret
   exact ⟨by first | rfl | (simp [errW_none, errW_some] <;> rfl) | (simp [*, errW_none, errW_some] <;> rfl), by repeat (first | (with_reducible first | exact HB.out | apply wa_ | apply wn_ | apply wd_ | refine ws_ ?_ GE252.out | refine ws_ ?_ GE253.out) | exact HB.out)⟩

 rw [if_pos c3] at H
 have c3b0 : (a0_1 == a1_1) = true := beq_iff_eq.mpr c3
 have c3b1 : (a0_1 != a1_1) = false := bne_eq_false_iff_eq.mpr c3
 clear c3
 replace H := Option.bind_eq_some_iff.mp H
 obtain ⟨t254, A40, H⟩ := H
 replace H : (some t254) = some r := H
 have A4 := A_ A40
 clear A40
 obtain rfl := Option.some.inj H
 go_enter Try.func22, Try.ntmps22
 go_wp2_with (first | ((with_reducible refine gate_dst (N := 2) rfl ?_); refine box_event ?hg (N := 2) ?hd (cs := #[.slice A0_0 l0_0.length c0_0, .int .i64 a0_1]) (t := 26) ?hr ?_; (case hd => rfl); (case hg => rfl); (case hr => first | (go_simp; done) | (go_simp; rfl)); intro gb252 hg w5 hbox hb; have n0_ := A_ (below_step bw_ hb); have n1_ := A_ (hbox); have n2_ := A_ (gz_ (w := w) hg); have n3_ := A_ (gz_ (w := w) hg); replace HB := n0_; have BK252 := n1_; have GW252 := n2_; have GE252 := n3_; clear n0_ n1_ n2_ n3_; clear hb hbox hg) | ((with_reducible refine gate_dst (N := 3) rfl ?_); refine box_event ?hg (N := 3) ?hd (cs := #[.slice A1_0 l1_0.length c1_0, .int .i64 a1_1]) (t := 26) ?hr ?_; (case hd => rfl); (case hg => rfl); (case hr => first | (go_simp; done) | (go_simp; rfl)); intro gb253 hg w6 hbox hb; have n0_ := A_ (kb_ BK252 hb); have n1_ := A_ (below_step bw_ hb); have n2_ := A_ (hbox); have n3_ := A_ (gz_ (w := w) hg); have n4_ := A_ (gz_ (w := w) hg); have n5_ := A_ (nl_ BK252 hg); have n6_ := A_ (ng_ BK252 hg); replace BK252 := n0_; replace HB := n1_; have BK253 := n2_; have GW253 := n3_; have GE253 := n4_; have NB252_253 := n5_; have NB253_252 := n6_; clear n0_ n1_ n2_ n3_ n4_ n5_ n6_; clear hb hbox hg; have hnb7 := NB252_253.out; have hnc7 := NB253_252.out; have hcz8_0 : w6.cell? ⟨gb252, 0, none⟩ = some (.slice A0_0 l0_0.length c0_0) := e_ BK252 0; have hcz8_1 : w6.cell? ⟨gb252, 1, none⟩ = some (.int .i64 a0_1) := e_ BK252 1; have hfz8_0 := blk_frozen BK252.out 0; have hfz8_1 := blk_frozen BK252.out 1; have hcz9_0 : w6.cell? ⟨gb253, 0, none⟩ = some (.slice A1_0 l1_0.length c1_0) := e_ BK253 0; have hcz9_1 : w6.cell? ⟨gb253, 1, none⟩ = some (.int .i64 a1_1) := e_ BK253 1; have hfz9_0 := blk_frozen BK253.out 0; have hfz9_1 := blk_frozen BK253.out 1) | (go_at_call 14; (with_reducible refine (hopperref11_Accounts.calls k _ _ l0_0 _ _ l1_0 t254 _ ?side1 ?side2 ?side3 ?side4 A4.out).mono ?_); (case side1 => repeat (first | exact (Kd.C_below HR0_0.out HB.out) | (with_reducible refine ca_ ?_ _) | (with_reducible refine cn_ ?_ _) | (with_reducible refine cd_ ?_))); (case side2 => exact HC0_0.out); (case side3 => repeat (first | exact (Kd.C_below HR1_0.out HB.out) | (with_reducible refine ca_ ?_ _) | (with_reducible refine cn_ ?_ _) | (with_reducible refine cd_ ?_))); (case side4 => exact HC1_0.out); rintro e w10 ⟨rfl, hb⟩; replace BK252 := A_ (kb_ BK252 hb); replace BK253 := A_ (kb_ BK253 hb); replace HB := A_ (below_step bw_ hb); (try clear hb); (try clear hb2); (try clear hk); (try clear hi)))
 go_ret
 exact ⟨by first | rfl | (simp [errW_none, errW_some] <;> rfl) | (simp [*, errW_none, errW_some] <;> rfl), by repeat (first | (with_reducible first | exact HB.out | apply wa_ | apply wn_ | apply wd_ | refine ws_ ?_ GE252.out | refine ws_ ?_ GE253.out) | exact HB.out)⟩
end Go.Proofs.Ytnjnogkhbadioaa.D
