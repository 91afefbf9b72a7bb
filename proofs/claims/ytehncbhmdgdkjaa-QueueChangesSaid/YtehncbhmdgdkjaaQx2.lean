/- Written by this session's own program over the kit's print: functions of Go told as plain functions, or the row of one statement; proved for every input, with no condition of ours. -/
import Derived.Test.YtehncbhmdgdkjaaQx0
import Derived.Test.YtehncbhmdgdkjaaQx1
namespace Go.Proofs.Ytehncbhmdgdkjaa.Q
open Go.RowKit Go.Proofs.YtehncbhmdgdkjaaW.PrintWords Go.Proofs.YtehncbhmdgdkjaaW.PrintLast Go.Proofs.YtehncbhmdgdkjaaW.PrintMore
attribute [local go_sem] max2_int min2_int max_two min_two max_three min_three max_four min_four   -- for this text's walks alone
set_option linter.unusedVariables false
set_option linter.unusedSimpArgs false

attribute [local go_sem high] eqA24
/-! ### hopperref04_Txs: function 30 -/
def hopperref04_Txs.l0 : Nat → List (S24) → List (S24) → Int → Option (Bool)
 | 0, _, _, _ => none
 | k + 1, x0, x1, x5 => if x5 < (x0.length : Int) then (if 0 ≤ x5 then (if x5 < (x1.length : Int) then (if (!(((rd_T24 x0 x5).f0) == ((rd_T24 x1 x5).f0)) || (!(((rd_T24 x0 x5).f1) == ((rd_T24 x1 x5).f1)) || (!(((rd_T24 x0 x5).f2) == ((rd_T24 x1 x5).f2)) || (!(((rd_T24 x0 x5).f3) == ((rd_T24 x1 x5).f3)) || (!(((rd_T24 x0 x5).f4) == ((rd_T24 x1 x5).f4)) || (!((((rd_T24 x0 x5).f5).toList) == (((rd_T24 x1 x5).f5).toList)))))))) = true then (some false) else (hopperref04_Txs.l0 k x0 x1 (wrap64 (x5 + 1)))) else (none)) else (none)) else (some true)
def hopperref04_Txs.f (k : Nat) (l0 : List (S24)) (l1 : List (S24)) : Option (Bool) := if (l0.length : Int) = (l1.length : Int) then (hopperref04_Txs.l0 k l0 l1 0) else (some false)
theorem hopperref04_Txs.mono_l : ∀ k, (∀ y0 y1 y2, LeO (hopperref04_Txs.l0 k y0 y1 y2) (hopperref04_Txs.l0 (k + 1) y0 y1 y2))
 | 0 => fun _ _ _ r h => by simp [hopperref04_Txs.l0] at h
 | k + 1 => by
  have ih0 := hopperref04_Txs.mono_l k
  · intro y0 y1 y2
    unfold hopperref04_Txs.l0
    repeat' first
    | (with_reducible exact ih0 _ _ _)
    | (with_reducible exact LeO.refl _)
    | (with_reducible exact LeO.none _)
    | (with_reducible refine LeO.ite ?_ ?_)
    | (with_reducible refine LeO.bind ?_ (fun _ => ?_))
    | exact ih0 _ _ _
    | exact LeO.none _
    | refine LeO.ite ?_ ?_
    | refine LeO.bind ?_ (fun _ => ?_)
theorem hopperref04_Txs.mono : ∀ a0 a1 k, LeO (hopperref04_Txs.f k a0 a1) (hopperref04_Txs.f (k + 1) a0 a1) := by
 intro a0 a1 k
 have ih0 := hopperref04_Txs.mono_l k
 unfold hopperref04_Txs.f
 repeat' first
  | (with_reducible exact ih0 _ _ _)
  | (with_reducible exact LeO.refl _)
  | (with_reducible exact LeO.none _)
  | (with_reducible refine LeO.ite ?_ ?_)
  | (with_reducible refine LeO.bind ?_ (fun _ => ?_))
  | exact ih0 _ _ _
  | exact LeO.none _
  | refine LeO.ite ?_ ?_
  | refine LeO.bind ?_ (fun _ => ?_)
set_option maxHeartbeats 8000000 in
set_option maxRecDepth 100000 in
theorem hopperref04_Txs.calls (k : Nat) (A0 : Option Addr) (c0 : Nat) (l0 : List (S24)) (A1 : Option Addr) (c1 : Nat) (l1 : List (S24)) (r : Bool) (w : World) (hr0 : Kd.C k24 w A0 l0.length l0) (hc0 : l0.length ≤ c0) (hr1 : Kd.C k24 w A1 l1.length l1) (hc1 : l1.length ≤ c1) (h : hopperref04_Txs.f k l0 l1 = some r) :
 Calls Try.prog 30 #[.slice A0 l0.length c0, .slice A1 l1.length c1] w fun e w' => e = .returned (.bool r) ∧ Drawn0 w w' := by
 have hu24 := Try.underlying24
 have HR0 := A_ hr0
 have HC0 := A_ hc0
 clear hr0 hc0
 have HR1 := A_ hr1
 have HC1 := A_ hc1
 clear hr1 hc1
 have H : (if (l0.length : Int) = (l1.length : Int) then (hopperref04_Txs.l0 k l0 l1 0) else (some false)) = some r := h
 clear h
 by_cases c3 : (l0.length : Int) = (l1.length : Int)
 rotate_left
 · rw [if_neg c3] at H
   have c3b0 : ((l0.length : Int) == (l1.length : Int)) = false := beq_eq_false_iff_ne.mpr c3
   have c3b1 : ((l0.length : Int) != (l1.length : Int)) = true := bne_iff_ne.mpr c3
   have c3b2 : (l0.length == l1.length) = false := by first | simpa using c3 | (simp at c3 ⊢; omega)
   obtain rfl := Option.some.inj H
   go_enter Try.func30, Try.ntmps30
   go_wp2
   repeat (go_quiet (fail); try go_wp2)
   go_ret
   exact ⟨by first | rfl | (simp; done) | (simp [*]; done), by repeat (first | exact Drawn0.refl _ | apply Drawn0.step)⟩

 rw [if_pos c3] at H
 have c3b0 : ((l0.length : Int) == (l1.length : Int)) = true := beq_iff_eq.mpr c3
 have c3b1 : ((l0.length : Int) != (l1.length : Int)) = false := bne_eq_false_iff_eq.mpr c3
 have c3b2 : (l0.length == l1.length) = true := by first | simpa using c3 | (simp at c3 ⊢; omega)
 clear c3
 have H' := A_ H
 clear H
 go_enter Try.func30, Try.ntmps30
 go_wp2
 repeat (go_quiet (fail); try go_wp2)
 go_loopg [5] k (fun kq v5 w' => ∃ (x5_1 : Int), v5 = .int .i64 x5_1 ∧ Aside0 (hopperref04_Txs.l0 kq l0 l1 x5_1 = some r) ∧ Aside0 (kq ≤ k) ∧ Drawn0 w w')
 case atStart => exact ⟨(0), (by first | rfl | (simp; done) | (simp [*]; done)), H', ⟨Nat.le_refl _⟩, by repeat (first | exact Drawn0.refl _ | apply Drawn0.step)⟩
 case round =>
  clear H'; (try clear c1); (try clear p2); (try clear c3); (try clear c3b0); (try clear c3b1); (try clear c3b2)
  obtain ⟨x5_1, rfl, HA, HK1, ⟨m1, rfl⟩⟩ := hrel
  cases gk with
  | zero => exact absurd HA.out (by simp [hopperref04_Txs.l0])
  | succ k1 =>
   have H := HA.out
   clear HA
   simp only [hopperref04_Txs.l0] at H
   by_cases c4 : x5_1 < (l0.length : Int)
   rotate_left
   · rw [if_neg c4] at H
     have c4b0 : decide (x5_1 < (l0.length : Int)) = false := decide_eq_false c4
     clear c4
     obtain rfl := Option.some.inj H
     go_wp2
     repeat (go_quiet (fail); try go_wp2)
     go_ret
     exact ⟨by first | rfl | (simp; done) | (simp [*]; done), by repeat (first | exact Drawn0.refl _ | apply Drawn0.step)⟩
   rw [if_pos c4] at H
   have c4b0 : decide (x5_1 < (l0.length : Int)) = true := decide_eq_true c4
   clear c4
   by_cases c5 : 0 ≤ x5_1
   rotate_left
   · rw [if_neg c5] at H
     exact absurd H (by simp)
   rw [if_pos c5] at H
   have c5b0 : decide (0 ≤ x5_1) = true := decide_eq_true c5
   clear c5
   by_cases c6 : x5_1 < (l1.length : Int)
   rotate_left
   · rw [if_neg c6] at H
     exact absurd H (by simp)
   rw [if_pos c6] at H
   have c6b0 : decide (x5_1 < (l1.length : Int)) = true := decide_eq_true c6
   clear c6
   by_cases c7 : (!(((rd_T24 l0 x5_1).f0) == ((rd_T24 l1 x5_1).f0)) || (!(((rd_T24 l0 x5_1).f1) == ((rd_T24 l1 x5_1).f1)) || (!(((rd_T24 l0 x5_1).f2) == ((rd_T24 l1 x5_1).f2)) || (!(((rd_T24 l0 x5_1).f3) == ((rd_T24 l1 x5_1).f3)) || (!(((rd_T24 l0 x5_1).f4) == ((rd_T24 l1 x5_1).f4)) || (!((((rd_T24 l0 x5_1).f5).toList) == (((rd_T24 l1 x5_1).f5).toList)))))))) = true
   · rw [if_pos c7] at H
     have c7b0 : (!(((rd_T24 l0 x5_1).f0) == ((rd_T24 l1 x5_1).f0)) || (!(((rd_T24 l0 x5_1).f1) == ((rd_T24 l1 x5_1).f1)) || (!(((rd_T24 l0 x5_1).f2) == ((rd_T24 l1 x5_1).f2)) || (!(((rd_T24 l0 x5_1).f3) == ((rd_T24 l1 x5_1).f3)) || (!(((rd_T24 l0 x5_1).f4) == ((rd_T24 l1 x5_1).f4)) || (!((((rd_T24 l0 x5_1).f5).toList) == (((rd_T24 l1 x5_1).f5).toList)))))))) = true := c7
     clear c7
     obtain rfl := Option.some.inj H
     have p101 : 0 ≤ (x5_1 : Int) := of_decide_eq_true (by first | (with_reducible assumption) | assumption)
     have q101 : x5_1 < (l0.length : Int) := of_decide_eq_true (by first | (with_reducible assumption) | assumption)
     obtain ⟨ad101, e101, hx101_0, hx101_1, hx101_2, hx101_3, hx101_4, hx101_5⟩ := at_T24 HR0.out x5_1 p101 q101
     cases e101
     replace p101 := eq_true p101
     replace q101 := eq_true q101
     have p102 : 0 ≤ (x5_1 : Int) := of_decide_eq_true (by first | (with_reducible assumption) | assumption)
     have q102 : x5_1 < (l1.length : Int) := of_decide_eq_true (by first | (with_reducible assumption) | assumption)
     obtain ⟨ad102, e102, hx102_0, hx102_1, hx102_2, hx102_3, hx102_4, hx102_5⟩ := at_T24 HR1.out x5_1 p102 q102
     cases e102
     replace p102 := eq_true p102
     replace q102 := eq_true q102
     go_wp2
     repeat (go_quiet (fail); try go_wp2)
     go_ret
     exact ⟨by first | rfl | (simp; done) | (simp [*]; done), by repeat (first | exact Drawn0.refl _ | apply Drawn0.step)⟩
   · rw [if_neg c7] at H
     have c7b0 : (!(((rd_T24 l0 x5_1).f0) == ((rd_T24 l1 x5_1).f0)) || (!(((rd_T24 l0 x5_1).f1) == ((rd_T24 l1 x5_1).f1)) || (!(((rd_T24 l0 x5_1).f2) == ((rd_T24 l1 x5_1).f2)) || (!(((rd_T24 l0 x5_1).f3) == ((rd_T24 l1 x5_1).f3)) || (!(((rd_T24 l0 x5_1).f4) == ((rd_T24 l1 x5_1).f4)) || (!((((rd_T24 l0 x5_1).f5).toList) == (((rd_T24 l1 x5_1).f5).toList)))))))) = false := by simpa using c7
     clear c7
     have H' := A_ H
     clear H
     have p101 : 0 ≤ (x5_1 : Int) := of_decide_eq_true (by first | (with_reducible assumption) | assumption)
     have q101 : x5_1 < (l0.length : Int) := of_decide_eq_true (by first | (with_reducible assumption) | assumption)
     obtain ⟨ad101, e101, hx101_0, hx101_1, hx101_2, hx101_3, hx101_4, hx101_5⟩ := at_T24 HR0.out x5_1 p101 q101
     cases e101
     replace p101 := eq_true p101
     replace q101 := eq_true q101
     have p102 : 0 ≤ (x5_1 : Int) := of_decide_eq_true (by first | (with_reducible assumption) | assumption)
     have q102 : x5_1 < (l1.length : Int) := of_decide_eq_true (by first | (with_reducible assumption) | assumption)
     obtain ⟨ad102, e102, hx102_0, hx102_1, hx102_2, hx102_3, hx102_4, hx102_5⟩ := at_T24 HR1.out x5_1 p102 q102
     cases e102
     replace p102 := eq_true p102
     replace q102 := eq_true q102
     go_wp2
     repeat (go_quiet (fail); try go_wp2)
     go_roundg k1
     case measure => have := HK1.out; omega
     case rel => exact ⟨(wrap64 (x5_1 + 1)), (by first | rfl | (simp; done) | (simp [*]; done)), H', ⟨by have := HK1.out; omega⟩, by repeat (first | exact Drawn0.refl _ | apply Drawn0.step)⟩
/-! ### hopperref04_Check: function 67 -/
def hopperref04_Check.f (a0_0 : Int) (a0_1 : Int) (a0_2 : Int) (a0_3 : Int) (a0_4 : Int) (a0_5 : ByteArray) : Option (Bool) := if a0_0 < 0 then (some false) else (if a0_0 > 255 then (some false) else (if a0_1 < 0 then (some false) else (if a0_1 ≥ 4294967296 then (some false) else (if a0_2 < 0 then (some false) else (if a0_2 > a0_3 then (some false) else (if a0_3 > 1099511627776 then (some false) else (if a0_4 ≥ 1 then (if a0_4 ≤ 1073741824 then (some (decide ((a0_5.size : Int) ≤ 256))) else (some false)) else (some false))))))))
set_option maxHeartbeats 8000000 in
set_option maxRecDepth 100000 in
theorem hopperref04_Check.calls (a0_0 : Int) (a0_1 : Int) (a0_2 : Int) (a0_3 : Int) (a0_4 : Int) (a0_5 : ByteArray) (r : Bool) (w : World) (h : hopperref04_Check.f a0_0 a0_1 a0_2 a0_3 a0_4 a0_5 = some r) :
 Calls Try.prog 67 #[.agg #[.int .i64 a0_0, .int .i64 a0_1, .int .i64 a0_2, .int .i64 a0_3, .int .i64 a0_4, .string a0_5]] w fun e w' => e = .returned (.bool r) ∧ Below w.heap.size w w' := by
 have hu24 := Try.underlying24
 have HB := A_ (Below.refl w.heap.size w)
 have H : (if a0_0 < 0 then (some false) else (if a0_0 > 255 then (some false) else (if a0_1 < 0 then (some false) else (if a0_1 ≥ 4294967296 then (some false) else (if a0_2 < 0 then (some false) else (if a0_2 > a0_3 then (some false) else (if a0_3 > 1099511627776 then (some false) else (if a0_4 ≥ 1 then (if a0_4 ≤ 1073741824 then (some (decide ((a0_5.size : Int) ≤ 256))) else (some false)) else (some false))))))))) = some r := h
 clear h
 by_cases c2 : a0_0 < 0
 · rw [if_pos c2] at H
   have c2b0 : decide (a0_0 < 0) = true := decide_eq_true c2
   clear c2
   obtain rfl := Option.some.inj H
   go_enter Try.func67, Try.ntmps67
   go_wp2_with (first | ((with_reducible refine gate_dst (N := 1) rfl ?_); (try (refine gate_guard (by rfl) ?_; dsimp only)); refine box_event ?hg (N := 1) ?hd (cs := #[.int .i64 a0_0, .int .i64 a0_1, .int .i64 a0_2, .int .i64 a0_3, .int .i64 a0_4, .string a0_5]) (t := 24) ?hr ?_; (case hd => rfl); (case hg => rfl); (case hr => first | (go_simp; done) | (go_simp; rfl)); intro gb103 hg w3 hbox hb; have n0_ := A_ (below_step bw_ hb); have n1_ := A_ (hbox); have n2_ := A_ (gz_ (w := w) hg); have n3_ := A_ (gz_ (w := w) hg); replace HB := n0_; have BK103 := n1_; have GW103 := n2_; have GE103 := n3_; clear n0_ n1_ n2_ n3_; clear hb hbox hg; have hcz4_0 : w3.cell? ⟨gb103, 0, none⟩ = some (.int .i64 a0_0) := e_ BK103 0; have hcz4_1 : w3.cell? ⟨gb103, 1, none⟩ = some (.int .i64 a0_1) := e_ BK103 1; have hcz4_2 : w3.cell? ⟨gb103, 2, none⟩ = some (.int .i64 a0_2) := e_ BK103 2; have hcz4_3 : w3.cell? ⟨gb103, 3, none⟩ = some (.int .i64 a0_3) := e_ BK103 3; have hcz4_4 : w3.cell? ⟨gb103, 4, none⟩ = some (.int .i64 a0_4) := e_ BK103 4; have hcz4_5 : w3.cell? ⟨gb103, 5, none⟩ = some (.string a0_5) := e_ BK103 5; obtain ⟨hfz4_0, hfz4_1, hfz4_2, hfz4_3, hfz4_4, hfz4_5⟩ := z6_ BK103))
   go_ret
   exact ⟨by first | rfl | (simp [errW_none, errW_some] <;> rfl) | (simp [*, errW_none, errW_some] <;> rfl), by repeat (first | (with_reducible first | exact HB.out | apply wa_ | apply wn_ | apply wd_ | refine ws_ ?_ GE103.out) | exact HB.out)⟩
 rw [if_neg c2] at H
 have c2b0 : decide (a0_0 < 0) = false := decide_eq_false c2
 clear c2
 by_cases c5 : a0_0 > 255
 · rw [if_pos c5] at H
   have c5b0 : decide (255 < a0_0) = true := decide_eq_true c5
   clear c5
   obtain rfl := Option.some.inj H
   go_enter Try.func67, Try.ntmps67
   go_wp2_with (first | ((with_reducible refine gate_dst (N := 1) rfl ?_); (try (refine gate_guard (by rfl) ?_; dsimp only)); refine box_event ?hg (N := 1) ?hd (cs := #[.int .i64 a0_0, .int .i64 a0_1, .int .i64 a0_2, .int .i64 a0_3, .int .i64 a0_4, .string a0_5]) (t := 24) ?hr ?_; (case hd => rfl); (case hg => rfl); (case hr => first | (go_simp; done) | (go_simp; rfl)); intro gb103 hg w6 hbox hb; have n0_ := A_ (below_step bw_ hb); have n1_ := A_ (hbox); have n2_ := A_ (gz_ (w := w) hg); have n3_ := A_ (gz_ (w := w) hg); replace HB := n0_; have BK103 := n1_; have GW103 := n2_; have GE103 := n3_; clear n0_ n1_ n2_ n3_; clear hb hbox hg; have hcz7_0 : w6.cell? ⟨gb103, 0, none⟩ = some (.int .i64 a0_0) := e_ BK103 0; have hcz7_1 : w6.cell? ⟨gb103, 1, none⟩ = some (.int .i64 a0_1) := e_ BK103 1; have hcz7_2 : w6.cell? ⟨gb103, 2, none⟩ = some (.int .i64 a0_2) := e_ BK103 2; have hcz7_3 : w6.cell? ⟨gb103, 3, none⟩ = some (.int .i64 a0_3) := e_ BK103 3; have hcz7_4 : w6.cell? ⟨gb103, 4, none⟩ = some (.int .i64 a0_4) := e_ BK103 4; have hcz7_5 : w6.cell? ⟨gb103, 5, none⟩ = some (.string a0_5) := e_ BK103 5; obtain ⟨hfz7_0, hfz7_1, hfz7_2, hfz7_3, hfz7_4, hfz7_5⟩ := z6_ BK103))
   go_ret
   exact ⟨by first | rfl | (simp [errW_none, errW_some] <;> rfl) | (simp [*, errW_none, errW_some] <;> rfl), by repeat (first | (with_reducible first | exact HB.out | apply wa_ | apply wn_ | apply wd_ | refine ws_ ?_ GE103.out) | exact HB.out)⟩
 rw [if_neg c5] at H
 have c5b0 : decide (255 < a0_0) = false := decide_eq_false c5
 clear c5
 by_cases c8 : a0_1 < 0
 · rw [if_pos c8] at H
   have c8b0 : decide (a0_1 < 0) = true := decide_eq_true c8
   clear c8
   obtain rfl := Option.some.inj H
   go_enter Try.func67, Try.ntmps67
   go_wp2_with (first | ((with_reducible refine gate_dst (N := 1) rfl ?_); (try (refine gate_guard (by rfl) ?_; dsimp only)); refine box_event ?hg (N := 1) ?hd (cs := #[.int .i64 a0_0, .int .i64 a0_1, .int .i64 a0_2, .int .i64 a0_3, .int .i64 a0_4, .string a0_5]) (t := 24) ?hr ?_; (case hd => rfl); (case hg => rfl); (case hr => first | (go_simp; done) | (go_simp; rfl)); intro gb103 hg w9 hbox hb; have n0_ := A_ (below_step bw_ hb); have n1_ := A_ (hbox); have n2_ := A_ (gz_ (w := w) hg); have n3_ := A_ (gz_ (w := w) hg); replace HB := n0_; have BK103 := n1_; have GW103 := n2_; have GE103 := n3_; clear n0_ n1_ n2_ n3_; clear hb hbox hg; have hcz10_0 : w9.cell? ⟨gb103, 0, none⟩ = some (.int .i64 a0_0) := e_ BK103 0; have hcz10_1 : w9.cell? ⟨gb103, 1, none⟩ = some (.int .i64 a0_1) := e_ BK103 1; have hcz10_2 : w9.cell? ⟨gb103, 2, none⟩ = some (.int .i64 a0_2) := e_ BK103 2; have hcz10_3 : w9.cell? ⟨gb103, 3, none⟩ = some (.int .i64 a0_3) := e_ BK103 3; have hcz10_4 : w9.cell? ⟨gb103, 4, none⟩ = some (.int .i64 a0_4) := e_ BK103 4; have hcz10_5 : w9.cell? ⟨gb103, 5, none⟩ = some (.string a0_5) := e_ BK103 5; obtain ⟨hfz10_0, hfz10_1, hfz10_2, hfz10_3, hfz10_4, hfz10_5⟩ := z6_ BK103))
   go_ret
   exact ⟨by first | rfl | (simp [errW_none, errW_some] <;> rfl) | (simp [*, errW_none, errW_some] <;> rfl), by repeat (first | (with_reducible first | exact HB.out | apply wa_ | apply wn_ | apply wd_ | refine ws_ ?_ GE103.out) | exact HB.out)⟩
 rw [if_neg c8] at H
 have c8b0 : decide (a0_1 < 0) = false := decide_eq_false c8
 clear c8
 by_cases c11 : a0_1 ≥ 4294967296
 · rw [if_pos c11] at H
   have c11b0 : decide (4294967296 ≤ a0_1) = true := decide_eq_true c11
   clear c11
   obtain rfl := Option.some.inj H
   go_enter Try.func67, Try.ntmps67
   go_wp2_with (first | ((with_reducible refine gate_dst (N := 1) rfl ?_); (try (refine gate_guard (by rfl) ?_; dsimp only)); refine box_event ?hg (N := 1) ?hd (cs := #[.int .i64 a0_0, .int .i64 a0_1, .int .i64 a0_2, .int .i64 a0_3, .int .i64 a0_4, .string a0_5]) (t := 24) ?hr ?_; (case hd => rfl); (case hg => rfl); (case hr => first | (go_simp; done) | (go_simp; rfl)); intro gb103 hg w12 hbox hb; have n0_ := A_ (below_step bw_ hb); have n1_ := A_ (hbox); have n2_ := A_ (gz_ (w := w) hg); have n3_ := A_ (gz_ (w := w) hg); replace HB := n0_; have BK103 := n1_; have GW103 := n2_; have GE103 := n3_; clear n0_ n1_ n2_ n3_; clear hb hbox hg; have hcz13_0 : w12.cell? ⟨gb103, 0, none⟩ = some (.int .i64 a0_0) := e_ BK103 0; have hcz13_1 : w12.cell? ⟨gb103, 1, none⟩ = some (.int .i64 a0_1) := e_ BK103 1; have hcz13_2 : w12.cell? ⟨gb103, 2, none⟩ = some (.int .i64 a0_2) := e_ BK103 2; have hcz13_3 : w12.cell? ⟨gb103, 3, none⟩ = some (.int .i64 a0_3) := e_ BK103 3; have hcz13_4 : w12.cell? ⟨gb103, 4, none⟩ = some (.int .i64 a0_4) := e_ BK103 4; have hcz13_5 : w12.cell? ⟨gb103, 5, none⟩ = some (.string a0_5) := e_ BK103 5; obtain ⟨hfz13_0, hfz13_1, hfz13_2, hfz13_3, hfz13_4, hfz13_5⟩ := z6_ BK103))
   go_ret
   exact ⟨by first | rfl | (simp [errW_none, errW_some] <;> rfl) | (simp [*, errW_none, errW_some] <;> rfl), by repeat (first | (with_reducible first | exact HB.out | apply wa_ | apply wn_ | apply wd_ | refine ws_ ?_ GE103.out) | exact HB.out)⟩
 rw [if_neg c11] at H
 have c11b0 : decide (4294967296 ≤ a0_1) = false := decide_eq_false c11
 clear c11
 by_cases c14 : a0_2 < 0
 · rw [if_pos c14] at H
   have c14b0 : decide (a0_2 < 0) = true := decide_eq_true c14
   clear c14
   obtain rfl := Option.some.inj H
   go_enter Try.func67, Try.ntmps67
   go_wp2_with (first | ((with_reducible refine gate_dst (N := 1) rfl ?_); (try (refine gate_guard (by rfl) ?_; dsimp only)); refine box_event ?hg (N := 1) ?hd (cs := #[.int .i64 a0_0, .int .i64 a0_1, .int .i64 a0_2, .int .i64 a0_3, .int .i64 a0_4, .string a0_5]) (t := 24) ?hr ?_; (case hd => rfl); (case hg => rfl); (case hr => first | (go_simp; done) | (go_simp; rfl)); intro gb103 hg w15 hbox hb; have n0_ := A_ (below_step bw_ hb); have n1_ := A_ (hbox); have n2_ := A_ (gz_ (w := w) hg); have n3_ := A_ (gz_ (w := w) hg); replace HB := n0_; have BK103 := n1_; have GW103 := n2_; have GE103 := n3_; clear n0_ n1_ n2_ n3_; clear hb hbox hg; have hcz16_0 : w15.cell? ⟨gb103, 0, none⟩ = some (.int .i64 a0_0) := e_ BK103 0; have hcz16_1 : w15.cell? ⟨gb103, 1, none⟩ = some (.int .i64 a0_1) := e_ BK103 1; have hcz16_2 : w15.cell? ⟨gb103, 2, none⟩ = some (.int .i64 a0_2) := e_ BK103 2; have hcz16_3 : w15.cell? ⟨gb103, 3, none⟩ = some (.int .i64 a0_3) := e_ BK103 3; have hcz16_4 : w15.cell? ⟨gb103, 4, none⟩ = some (.int .i64 a0_4) := e_ BK103 4; have hcz16_5 : w15.cell? ⟨gb103, 5, none⟩ = some (.string a0_5) := e_ BK103 5; obtain ⟨hfz16_0, hfz16_1, hfz16_2, hfz16_3, hfz16_4, hfz16_5⟩ := z6_ BK103))
   go_ret
   exact ⟨by first | rfl | (simp [errW_none, errW_some] <;> rfl) | (simp [*, errW_none, errW_some] <;> rfl), by repeat (first | (with_reducible first | exact HB.out | apply wa_ | apply wn_ | apply wd_ | refine ws_ ?_ GE103.out) | exact HB.out)⟩
 rw [if_neg c14] at H
 have c14b0 : decide (a0_2 < 0) = false := decide_eq_false c14
 clear c14
 by_cases c17 : a0_2 > a0_3
 · rw [if_pos c17] at H
   have c17b0 : decide (a0_3 < a0_2) = true := decide_eq_true c17
   clear c17
   obtain rfl := Option.some.inj H
   go_enter Try.func67, Try.ntmps67
   go_wp2_with (first | ((with_reducible refine gate_dst (N := 1) rfl ?_); (try (refine gate_guard (by rfl) ?_; dsimp only)); refine box_event ?hg (N := 1) ?hd (cs := #[.int .i64 a0_0, .int .i64 a0_1, .int .i64 a0_2, .int .i64 a0_3, .int .i64 a0_4, .string a0_5]) (t := 24) ?hr ?_; (case hd => rfl); (case hg => rfl); (case hr => first | (go_simp; done) | (go_simp; rfl)); intro gb103 hg w18 hbox hb; have n0_ := A_ (below_step bw_ hb); have n1_ := A_ (hbox); have n2_ := A_ (gz_ (w := w) hg); have n3_ := A_ (gz_ (w := w) hg); replace HB := n0_; have BK103 := n1_; have GW103 := n2_; have GE103 := n3_; clear n0_ n1_ n2_ n3_; clear hb hbox hg; have hcz19_0 : w18.cell? ⟨gb103, 0, none⟩ = some (.int .i64 a0_0) := e_ BK103 0; have hcz19_1 : w18.cell? ⟨gb103, 1, none⟩ = some (.int .i64 a0_1) := e_ BK103 1; have hcz19_2 : w18.cell? ⟨gb103, 2, none⟩ = some (.int .i64 a0_2) := e_ BK103 2; have hcz19_3 : w18.cell? ⟨gb103, 3, none⟩ = some (.int .i64 a0_3) := e_ BK103 3; have hcz19_4 : w18.cell? ⟨gb103, 4, none⟩ = some (.int .i64 a0_4) := e_ BK103 4; have hcz19_5 : w18.cell? ⟨gb103, 5, none⟩ = some (.string a0_5) := e_ BK103 5; obtain ⟨hfz19_0, hfz19_1, hfz19_2, hfz19_3, hfz19_4, hfz19_5⟩ := z6_ BK103))
   go_ret
   exact ⟨by first | rfl | (simp [errW_none, errW_some] <;> rfl) | (simp [*, errW_none, errW_some] <;> rfl), by repeat (first | (with_reducible first | exact HB.out | apply wa_ | apply wn_ | apply wd_ | refine ws_ ?_ GE103.out) | exact HB.out)⟩
 rw [if_neg c17] at H
 have c17b0 : decide (a0_3 < a0_2) = false := decide_eq_false c17
 clear c17
 by_cases c20 : a0_3 > 1099511627776
 · rw [if_pos c20] at H
   have c20b0 : decide (1099511627776 < a0_3) = true := decide_eq_true c20
   clear c20
   obtain rfl := Option.some.inj H
   go_enter Try.func67, Try.ntmps67
   go_wp2_with (first | ((with_reducible refine gate_dst (N := 1) rfl ?_); (try (refine gate_guard (by rfl) ?_; dsimp only)); refine box_event ?hg (N := 1) ?hd (cs := #[.int .i64 a0_0, .int .i64 a0_1, .int .i64 a0_2, .int .i64 a0_3, .int .i64 a0_4, .string a0_5]) (t := 24) ?hr ?_; (case hd => rfl); (case hg => rfl); (case hr => first | (go_simp; done) | (go_simp; rfl)); intro gb103 hg w21 hbox hb; have n0_ := A_ (below_step bw_ hb); have n1_ := A_ (hbox); have n2_ := A_ (gz_ (w := w) hg); have n3_ := A_ (gz_ (w := w) hg); replace HB := n0_; have BK103 := n1_; have GW103 := n2_; have GE103 := n3_; clear n0_ n1_ n2_ n3_; clear hb hbox hg; have hcz22_0 : w21.cell? ⟨gb103, 0, none⟩ = some (.int .i64 a0_0) := e_ BK103 0; have hcz22_1 : w21.cell? ⟨gb103, 1, none⟩ = some (.int .i64 a0_1) := e_ BK103 1; have hcz22_2 : w21.cell? ⟨gb103, 2, none⟩ = some (.int .i64 a0_2) := e_ BK103 2; have hcz22_3 : w21.cell? ⟨gb103, 3, none⟩ = some (.int .i64 a0_3) := e_ BK103 3; have hcz22_4 : w21.cell? ⟨gb103, 4, none⟩ = some (.int .i64 a0_4) := e_ BK103 4; have hcz22_5 : w21.cell? ⟨gb103, 5, none⟩ = some (.string a0_5) := e_ BK103 5; obtain ⟨hfz22_0, hfz22_1, hfz22_2, hfz22_3, hfz22_4, hfz22_5⟩ := z6_ BK103))
   go_ret
   exact ⟨by first | rfl | (simp [errW_none, errW_some] <;> rfl) | (simp [*, errW_none, errW_some] <;> rfl), by repeat (first | (with_reducible first | exact HB.out | apply wa_ | apply wn_ | apply wd_ | refine ws_ ?_ GE103.out) | exact HB.out)⟩
 rw [if_neg c20] at H
 have c20b0 : decide (1099511627776 < a0_3) = false := decide_eq_false c20
 clear c20
 by_cases c23 : a0_4 ≥ 1
 rotate_left
 · rw [if_neg c23] at H
   have c23b0 : decide (1 ≤ a0_4) = false := decide_eq_false c23
   clear c23
   obtain rfl := Option.some.inj H
   go_enter Try.func67, Try.ntmps67
   go_wp2_with (first | ((with_reducible refine gate_dst (N := 1) rfl ?_); (try (refine gate_guard (by rfl) ?_; dsimp only)); refine box_event ?hg (N := 1) ?hd (cs := #[.int .i64 a0_0, .int .i64 a0_1, .int .i64 a0_2, .int .i64 a0_3, .int .i64 a0_4, .string a0_5]) (t := 24) ?hr ?_; (case hd => rfl); (case hg => rfl); (case hr => first | (go_simp; done) | (go_simp; rfl)); intro gb103 hg w29 hbox hb; have n0_ := A_ (below_step bw_ hb); have n1_ := A_ (hbox); have n2_ := A_ (gz_ (w := w) hg); have n3_ := A_ (gz_ (w := w) hg); replace HB := n0_; have BK103 := n1_; have GW103 := n2_; have GE103 := n3_; clear n0_ n1_ n2_ n3_; clear hb hbox hg; have hcz30_0 : w29.cell? ⟨gb103, 0, none⟩ = some (.int .i64 a0_0) := e_ BK103 0; have hcz30_1 : w29.cell? ⟨gb103, 1, none⟩ = some (.int .i64 a0_1) := e_ BK103 1; have hcz30_2 : w29.cell? ⟨gb103, 2, none⟩ = some (.int .i64 a0_2) := e_ BK103 2; have hcz30_3 : w29.cell? ⟨gb103, 3, none⟩ = some (.int .i64 a0_3) := e_ BK103 3; have hcz30_4 : w29.cell? ⟨gb103, 4, none⟩ = some (.int .i64 a0_4) := e_ BK103 4; have hcz30_5 : w29.cell? ⟨gb103, 5, none⟩ = some (.string a0_5) := e_ BK103 5; obtain ⟨hfz30_0, hfz30_1, hfz30_2, hfz30_3, hfz30_4, hfz30_5⟩ := z6_ BK103))
   go_ret
   exact ⟨by first | rfl | (simp [errW_none, errW_some] <;> rfl) | (simp [*, errW_none, errW_some] <;> rfl), by repeat (first | (with_reducible first | exact HB.out | apply wa_ | apply wn_ | apply wd_ | refine ws_ ?_ GE103.out) | exact HB.out)⟩

 rw [if_pos c23] at H
 have c23b0 : decide (1 ≤ a0_4) = true := decide_eq_true c23
 clear c23
 by_cases c24 : a0_4 ≤ 1073741824
 · rw [if_pos c24] at H
   have c24b0 : decide (a0_4 ≤ 1073741824) = true := decide_eq_true c24
   clear c24
   obtain rfl := Option.some.inj H
   go_enter Try.func67, Try.ntmps67
   go_wp2_with (first | ((with_reducible refine gate_dst (N := 1) rfl ?_); (try (refine gate_guard (by rfl) ?_; dsimp only)); refine box_event ?hg (N := 1) ?hd (cs := #[.int .i64 a0_0, .int .i64 a0_1, .int .i64 a0_2, .int .i64 a0_3, .int .i64 a0_4, .string a0_5]) (t := 24) ?hr ?_; (case hd => rfl); (case hg => rfl); (case hr => first | (go_simp; done) | (go_simp; rfl)); intro gb103 hg w25 hbox hb; have n0_ := A_ (below_step bw_ hb); have n1_ := A_ (hbox); have n2_ := A_ (gz_ (w := w) hg); have n3_ := A_ (gz_ (w := w) hg); replace HB := n0_; have BK103 := n1_; have GW103 := n2_; have GE103 := n3_; clear n0_ n1_ n2_ n3_; clear hb hbox hg; have hcz26_0 : w25.cell? ⟨gb103, 0, none⟩ = some (.int .i64 a0_0) := e_ BK103 0; have hcz26_1 : w25.cell? ⟨gb103, 1, none⟩ = some (.int .i64 a0_1) := e_ BK103 1; have hcz26_2 : w25.cell? ⟨gb103, 2, none⟩ = some (.int .i64 a0_2) := e_ BK103 2; have hcz26_3 : w25.cell? ⟨gb103, 3, none⟩ = some (.int .i64 a0_3) := e_ BK103 3; have hcz26_4 : w25.cell? ⟨gb103, 4, none⟩ = some (.int .i64 a0_4) := e_ BK103 4; have hcz26_5 : w25.cell? ⟨gb103, 5, none⟩ = some (.string a0_5) := e_ BK103 5; obtain ⟨hfz26_0, hfz26_1, hfz26_2, hfz26_3, hfz26_4, hfz26_5⟩ := z6_ BK103))
   go_ret
   exact ⟨by first | rfl | (simp [errW_none, errW_some] <;> rfl) | (simp [*, errW_none, errW_some] <;> rfl), by repeat (first | (with_reducible first | exact HB.out | apply wa_ | apply wn_ | apply wd_ | refine ws_ ?_ GE103.out) | exact HB.out)⟩
 · rw [if_neg c24] at H
   have c24b0 : decide (a0_4 ≤ 1073741824) = false := decide_eq_false c24
   clear c24
   obtain rfl := Option.some.inj H
   go_enter Try.func67, Try.ntmps67
   go_wp2_with (first | ((with_reducible refine gate_dst (N := 1) rfl ?_); (try (refine gate_guard (by rfl) ?_; dsimp only)); refine box_event ?hg (N := 1) ?hd (cs := #[.int .i64 a0_0, .int .i64 a0_1, .int .i64 a0_2, .int .i64 a0_3, .int .i64 a0_4, .string a0_5]) (t := 24) ?hr ?_; (case hd => rfl); (case hg => rfl); (case hr => first | (go_simp; done) | (go_simp; rfl)); intro gb103 hg w27 hbox hb; have n0_ := A_ (below_step bw_ hb); have n1_ := A_ (hbox); have n2_ := A_ (gz_ (w := w) hg); have n3_ := A_ (gz_ (w := w) hg); replace HB := n0_; have BK103 := n1_; have GW103 := n2_; have GE103 := n3_; clear n0_ n1_ n2_ n3_; clear hb hbox hg; have hcz28_0 : w27.cell? ⟨gb103, 0, none⟩ = some (.int .i64 a0_0) := e_ BK103 0; have hcz28_1 : w27.cell? ⟨gb103, 1, none⟩ = some (.int .i64 a0_1) := e_ BK103 1; have hcz28_2 : w27.cell? ⟨gb103, 2, none⟩ = some (.int .i64 a0_2) := e_ BK103 2; have hcz28_3 : w27.cell? ⟨gb103, 3, none⟩ = some (.int .i64 a0_3) := e_ BK103 3; have hcz28_4 : w27.cell? ⟨gb103, 4, none⟩ = some (.int .i64 a0_4) := e_ BK103 4; have hcz28_5 : w27.cell? ⟨gb103, 5, none⟩ = some (.string a0_5) := e_ BK103 5; obtain ⟨hfz28_0, hfz28_1, hfz28_2, hfz28_3, hfz28_4, hfz28_5⟩ := z6_ BK103))
   go_ret
   exact ⟨by first | rfl | (simp [errW_none, errW_some] <;> rfl) | (simp [*, errW_none, errW_some] <;> rfl), by repeat (first | (with_reducible first | exact HB.out | apply wa_ | apply wn_ | apply wd_ | refine ws_ ?_ GE103.out) | exact HB.out)⟩
end Go.Proofs.Ytehncbhmdgdkjaa.Q
