/- Written by this session's own program over the kit's print: functions of Go told as plain functions, or the row of one statement; proved for every input, with no condition of ours. -/
import Derived.Test.YtnjnogkhbadioaaDx0
import Derived.Test.YtnjnogkhbadioaaDx1
import Derived.Test.YtnjnogkhbadioaaDx2
import Derived.Test.YtnjnogkhbadioaaDx3
import Derived.Test.YtnjnogkhbadioaaDx5
import Derived.Test.YtnjnogkhbadioaaDx10
import Derived.Test.YtnjnogkhbadioaaDx12
namespace Go.Proofs.Ytnjnogkhbadioaa.D
open Go.RowKit Go.Proofs.YtnjnogkhbadioaaW.PrintWords Go.Proofs.YtnjnogkhbadioaaW.PrintLast Go.Proofs.YtnjnogkhbadioaaW.PrintMore
attribute [local go_sem] max2_int min2_int max_two min_two max_three min_three max_four min_four   -- for this text's walks alone
set_option linter.unusedVariables false
set_option linter.unusedSimpArgs false

attribute [local go_sem high] eqA32
/-! ### hopperlaw11_ShardWorst: function 4 -/
def hopperlaw11_ShardWorst.l0 : Nat → List (S46) → Bool → List (S32) → Bool → Bool → Int → Int → Int → Int → Int → Int → ByteArray → Option (Bool)
 | 0, _, _, _, _, _, _, _, _, _, _, _, _ => none
 | k + 1, x0, x4, x5, x7, x8, x9, x232000, x232001, x232002, x232003, x232004, x232005 => if x9 < (x5.length : Int) then (if x4 = true then (if 0 ≤ x9 then ((hopperref04_Better.f k x232000 x232001 x232002 x232003 x232004 x232005 ((rd_T32 x5 x9).f0) ((rd_T32 x5 x9).f1) ((rd_T32 x5 x9).f2) ((rd_T32 x5 x9).f3) ((rd_T32 x5 x9).f4) ((rd_T32 x5 x9).f5)).bind fun t238 => (if t238 = true then (none) else (if x8 = true then (hopperlaw11_ShardWorst.l0 k x0 x4 x5 x7 true (wrap64 (x9 + 1)) x232000 x232001 x232002 x232003 x232004 x232005) else (hopperlaw11_ShardWorst.l0 k x0 x4 x5 x7 (((rd_T32 x5 x9).f0) == x232000 && (((rd_T32 x5 x9).f1) == x232001 && (((rd_T32 x5 x9).f2) == x232002 && (((rd_T32 x5 x9).f3) == x232003 && (((rd_T32 x5 x9).f4) == x232004 && ((((rd_T32 x5 x9).f5).toList) == x232005.toList)))))) (wrap64 (x9 + 1)) x232000 x232001 x232002 x232003 x232004 x232005)))) else (none)) else (if x8 = true then (hopperlaw11_ShardWorst.l0 k x0 x4 x5 x7 true (wrap64 (x9 + 1)) x232000 x232001 x232002 x232003 x232004 x232005) else (if 0 ≤ x9 then (hopperlaw11_ShardWorst.l0 k x0 x4 x5 x7 (((rd_T32 x5 x9).f0) == x232000 && (((rd_T32 x5 x9).f1) == x232001 && (((rd_T32 x5 x9).f2) == x232002 && (((rd_T32 x5 x9).f3) == x232003 && (((rd_T32 x5 x9).f4) == x232004 && ((((rd_T32 x5 x9).f5).toList) == x232005.toList)))))) (wrap64 (x9 + 1)) x232000 x232001 x232002 x232003 x232004 x232005) else (none)))) else (if (x4 == x7) = true then (if (x4 == x8) = true then (if (x5.length : Int) ≤ (x0.length : Int) then ((hopperlaw11_live.f).bind fun t241 => (some t241)) else (none)) else (none)) else (none))
def hopperlaw11_ShardWorst.f (k : Nat) (l0 : List (S46)) : Option (Bool) := (hopperref11_Few.f k l0 20).bind fun t222 => (if t222 = true then ((shard_Worst.f k l0).bind fun bt224 => ((shard_Lasts.f k l0).bind fun t232 => ((hopperref06_Worst.f k t232).bind fun bt235 => (hopperlaw11_ShardWorst.l0 k l0 bt224.2.2.2.2.2.2 t232 bt235.2 false 0 bt224.1 bt224.2.1 bt224.2.2.1 bt224.2.2.2.1 bt224.2.2.2.2.1 bt224.2.2.2.2.2.1)))) else ((hopperlaw11_live.f).bind fun t223 => (some t223)))
theorem hopperlaw11_ShardWorst.mono_l : ∀ k, (∀ y0 y1 y2 y3 y4 y5 y6 y7 y8 y9 y10 y11, LeO (hopperlaw11_ShardWorst.l0 k y0 y1 y2 y3 y4 y5 y6 y7 y8 y9 y10 y11) (hopperlaw11_ShardWorst.l0 (k + 1) y0 y1 y2 y3 y4 y5 y6 y7 y8 y9 y10 y11))
 | 0 => fun _ _ _ _ _ _ _ _ _ _ _ _ r h => by simp [hopperlaw11_ShardWorst.l0] at h
 | k + 1 => by
  have ih0 := hopperlaw11_ShardWorst.mono_l k
  · intro y0 y1 y2 y3 y4 y5 y6 y7 y8 y9 y10 y11
    unfold hopperlaw11_ShardWorst.l0
    repeat' first
    | (with_reducible exact ih0 _ _ _ _ _ _ _ _ _ _ _ _)
    | (with_reducible exact hopperref04_Better.mono _ _ _ _ _ _ _ _ _ _ _ _ _)
    | (with_reducible exact hopperref06_Worst.mono _ _)
    | (with_reducible exact hopperref11_Few.mono _ _ _)
    | (with_reducible exact shard_Lasts.mono _ _)
    | (with_reducible exact shard_Worst.mono _ _)
    | (with_reducible exact LeO.refl _)
    | (with_reducible exact LeO.none _)
    | (with_reducible refine LeO.ite ?_ ?_)
    | (with_reducible refine LeO.bind ?_ (fun _ => ?_))
    | exact ih0 _ _ _ _ _ _ _ _ _ _ _ _
    | exact hopperref04_Better.mono _ _ _ _ _ _ _ _ _ _ _ _ _
    | exact hopperref06_Worst.mono _ _
    | exact hopperref11_Few.mono _ _ _
    | exact shard_Lasts.mono _ _
    | exact shard_Worst.mono _ _
    | exact LeO.none _
    | refine LeO.ite ?_ ?_
    | refine LeO.bind ?_ (fun _ => ?_)
theorem hopperlaw11_ShardWorst.mono : ∀ a0 k, LeO (hopperlaw11_ShardWorst.f k a0) (hopperlaw11_ShardWorst.f (k + 1) a0) := by
 intro a0 k
 have ih0 := hopperlaw11_ShardWorst.mono_l k
 unfold hopperlaw11_ShardWorst.f
 repeat' first
  | (with_reducible exact ih0 _ _ _ _ _ _ _ _ _ _ _ _)
  | (with_reducible exact hopperref04_Better.mono _ _ _ _ _ _ _ _ _ _ _ _ _)
  | (with_reducible exact hopperref06_Worst.mono _ _)
  | (with_reducible exact hopperref11_Few.mono _ _ _)
  | (with_reducible exact shard_Lasts.mono _ _)
  | (with_reducible exact shard_Worst.mono _ _)
  | (with_reducible exact LeO.refl _)
  | (with_reducible exact LeO.none _)
  | (with_reducible refine LeO.ite ?_ ?_)
  | (with_reducible refine LeO.bind ?_ (fun _ => ?_))
  | exact ih0 _ _ _ _ _ _ _ _ _ _ _ _
  | exact hopperref04_Better.mono _ _ _ _ _ _ _ _ _ _ _ _ _
  | exact hopperref06_Worst.mono _ _
  | exact hopperref11_Few.mono _ _ _
  | exact shard_Lasts.mono _ _
  | exact shard_Worst.mono _ _
  | exact LeO.none _
  | refine LeO.ite ?_ ?_
  | refine LeO.bind ?_ (fun _ => ?_)
def hopperlaw11_ShardWorst.T10 : Bool × List (List Nat × List Nat) := (true, [([], []), ([0], [0]), ([1], [1]), ([1], [1]), ([1], [1]), ([3, 4, 1], [1, 3, 4]), ([5, 1], [1, 5]), ([2, 6, 1, 1], [1, 2, 6]), ([1, 7], [1, 7])])
def hopperlaw11_ShardWorst.B10 : List Nat := [0, 1, 3, 3, 3, 27, 59, 127, 255]
theorem hopperlaw11_ShardWorst.tab10 : rtab .any (opsOf Try.f4 10) = hopperlaw11_ShardWorst.T10 := by kernel_rfl
theorem hopperlaw11_ShardWorst.bits10 : waitsOk hopperlaw11_ShardWorst.T10.2 hopperlaw11_ShardWorst.B10 = true := by kernel_rfl
def hopperlaw11_ShardWorst.T12 : Bool × List (List Nat × List Nat) := (true, [([], []), ([0], [0]), ([1], [1]), ([1], [1]), ([2, 3, 1], [1, 2, 3]), ([4, 1], [1, 4]), ([1], [1]), ([5, 6, 1], [1, 5, 6]), ([1, 7], [1, 7]), ([8, 1, 0, 1, 2, 3, 4, 5, 6, 7, 8], [0, 8])])
def hopperlaw11_ShardWorst.B12 : List Nat := [0, 1, 3, 3, 15, 31, 3, 127, 255, 511]
theorem hopperlaw11_ShardWorst.tab12 : rtab .any (opsOf Try.f4 12) = hopperlaw11_ShardWorst.T12 := by kernel_rfl
theorem hopperlaw11_ShardWorst.bits12 : waitsOk hopperlaw11_ShardWorst.T12.2 hopperlaw11_ShardWorst.B12 = true := by kernel_rfl
set_option maxHeartbeats 8000000 in
set_option maxRecDepth 100000 in
theorem hopperlaw11_ShardWorst.calls (k : Nat) (A0 : Option Addr) (c0 : Nat) (l0 : List (S46)) (r : Bool) (w : World) (hr0 : Kd.C k46 w A0 l0.length l0) (hc0 : l0.length ≤ c0) (h : hopperlaw11_ShardWorst.f k l0 = some r) :
 Calls Try.prog 4 #[.slice A0 l0.length c0] w fun e w' => e = .returned (.bool r) ∧ Below w.heap.size w w' := by
 have hu32 := Try.underlying32
 have HR0 := A_ hr0
 have HC0 := A_ hc0
 clear hr0 hc0; have HB := A_ (Below.refl w.heap.size w)
 have H : ((hopperref11_Few.f k l0 20).bind fun t222 => (if t222 = true then ((shard_Worst.f k l0).bind fun bt224 => ((shard_Lasts.f k l0).bind fun t232 => ((hopperref06_Worst.f k t232).bind fun bt235 => (hopperlaw11_ShardWorst.l0 k l0 bt224.2.2.2.2.2.2 t232 bt235.2 false 0 bt224.1 bt224.2.1 bt224.2.2.1 bt224.2.2.2.1 bt224.2.2.2.2.1 bt224.2.2.2.2.2.1)))) else ((hopperlaw11_live.f).bind fun t223 => (some t223)))) = some r := h
 clear h
 replace H := Option.bind_eq_some_iff.mp H
 obtain ⟨t222, A20, H⟩ := H
 try dsimp only at H
 have A2 := A_ A20
 clear A20
 by_cases c3 : t222 = true
 · subst c3
   have H1 : ((shard_Worst.f k l0).bind fun bt224 => ((shard_Lasts.f k l0).bind fun t232 => ((hopperref06_Worst.f k t232).bind fun bt235 => (hopperlaw11_ShardWorst.l0 k l0 bt224.2.2.2.2.2.2 t232 bt235.2 false 0 bt224.1 bt224.2.1 bt224.2.2.1 bt224.2.2.2.1 bt224.2.2.2.2.1 bt224.2.2.2.2.2.1)))) = some r := by rw [if_pos rfl] at H; exact H
   clear H
   have H := H1
   clear H1
   replace H := Option.bind_eq_some_iff.mp H
   obtain ⟨⟨t224, t225, t226, t227, t228, t229, t230⟩, A40, H⟩ := H
   try dsimp only at H
   have A4 := A_ A40
   clear A40
   replace H := Option.bind_eq_some_iff.mp H
   obtain ⟨t232, A50, H⟩ := H
   try dsimp only at H
   have A5 := A_ A50
   clear A50
   replace H := Option.bind_eq_some_iff.mp H
   obtain ⟨⟨t235, t236⟩, A60, H⟩ := H
   try dsimp only at H
   have A6 := A_ A60
   clear A60
   have H' := A_ H
   clear H
   go_enter Try.func4, Try.ntmps4
   go_wp2_with (first | ((with_reducible refine gate_callee (f := 7) rfl ?_); refine goesL_ (some 11) rfl rfl Try.func7 (by kernel_rfl) rfl #[.slice A0 l0.length c0, .int .i64 20] rfl (by (try simp only [m0_, m1_, m2_]); first | done | rfl) ?_; (with_reducible refine (hopperref11_Few.calls k _ _ l0 20 true _ ?side1 ?side2 A2.out).mono ?_); (case side1 => repeat (first | exact HR0.out | (with_reducible refine ca_ ?_ _) | (with_reducible refine cn_ ?_ _) | (with_reducible refine cd_ ?_))); (case side2 => exact HC0.out); rintro e w7 ⟨rfl, hb⟩; refine ⟨_, rfl, ?_⟩; replace HB := A_ (below_step bw_ hb); (try clear hb); (try clear hb2); (try clear hk); (try clear hi)) | ((with_reducible refine gate_callee (f := 11) rfl ?_); refine goesL_ (some 16) rfl rfl Try.func11 (by kernel_rfl) rfl #[.slice A0 l0.length c0] rfl (by (try simp only [m0_, m1_, m2_]); first | done | rfl) ?_; (with_reducible refine (shard_Worst.calls k _ _ l0 t224 t225 t226 t227 t228 t229 t230 _ ?side1 ?side2 A4.out).mono ?_); (case side1 => repeat (first | exact (Kd.C_below HR0.out HB.out) | (with_reducible refine ca_ ?_ _) | (with_reducible refine cn_ ?_ _) | (with_reducible refine cd_ ?_))); (case side2 => exact HC0.out); rintro e w8 ⟨rfl, hb⟩; refine ⟨_, rfl, ?_⟩; replace HB := A_ (below_step bw_ hb); (try clear hb); (try clear hb2); (try clear hk); (try clear hi)) | ((with_reducible refine gate_dst (N := 3) rfl ?_); (try (refine gate_guard (by rfl) ?_; dsimp only)); refine box_event ?hg (N := 3) ?hd (cs := #[.int .i64 0, .int .i64 0, .int .i64 0, .int .i64 0, .int .i64 0, .string (⟨#[]⟩ : ByteArray)]) (t := 32) ?hr ?_; (case hd => rfl); (case hg => rfl); (case hr => first | (go_simp; done) | (go_simp; rfl)); intro gb231 hg w9 hbox hb; have n0_ := A_ (below_step bw_ hb); have n1_ := A_ (hbox); have n2_ := A_ (gz_ (w := w) hg); have n3_ := A_ (gz_ (w := w) hg); replace HB := n0_; have BK231 := n1_; have GW231 := n2_; have GE231 := n3_; clear n0_ n1_ n2_ n3_; clear hb hbox hg; have hcz10_0 : w9.cell? ⟨gb231, 0, none⟩ = some (.int .i64 0) := e_ BK231 0; have hcz10_1 : w9.cell? ⟨gb231, 1, none⟩ = some (.int .i64 0) := e_ BK231 1; have hcz10_2 : w9.cell? ⟨gb231, 2, none⟩ = some (.int .i64 0) := e_ BK231 2; have hcz10_3 : w9.cell? ⟨gb231, 3, none⟩ = some (.int .i64 0) := e_ BK231 3; have hcz10_4 : w9.cell? ⟨gb231, 4, none⟩ = some (.int .i64 0) := e_ BK231 4; have hcz10_5 : w9.cell? ⟨gb231, 5, none⟩ = some (.string (⟨#[]⟩ : ByteArray)) := e_ BK231 5; obtain ⟨hfz10_0, hfz10_1, hfz10_2, hfz10_3, hfz10_4, hfz10_5⟩ := z6_ BK231) | ((with_reducible refine gate_callee (f := 16) rfl ?_); refine goesL_ (some 20) rfl rfl Try.func16 (by kernel_rfl) rfl #[.slice A0 l0.length c0] rfl (by (try simp only [m0_, m1_, m2_]); first | done | rfl) ?_; (with_reducible refine (shard_Lasts.calls k _ _ l0 t232 _ ?side1 ?side2 A5.out).mono ?_); (case side1 => exact Kd.C_below HR0.out bw_); (case side2 => exact HC0.out); rintro e w11 ⟨v233, rfl, ho0, hb⟩; refine ⟨_, rfl, ?_⟩; have HO234 := A_ (Kd.R_lower (Kd.R_newB ho0 (g := gb231) (o := .cells #[.int .i64 t224, .int .i64 t225, .int .i64 t226, .int .i64 t227, .int .i64 t228, .string t229] 32 (0, 0)) (by exact pk_ (b6_ BK231.out))) (below_size bw_)); replace BK231 := A_ (blk_below (g := gb231) (o := .cells #[.int .i64 t224, .int .i64 t225, .int .i64 t226, .int .i64 t227, .int .i64 t228, .string t229] 32 (0, 0)) (by exact pk_ (b6_ BK231.out)) hb); replace HB := A_ (below_step bw_ hb); (try clear hb); (try clear hb2); (try clear hk); (try clear hi); (try clear ho0); obtain ⟨Ao12, co12, eo12⟩ := Kd.R_slice HO234.out; subst eo12) | ((with_reducible refine gate_callee (f := 18) rfl ?_); refine goesL_ (some 23) rfl rfl Try.func18 (by kernel_rfl) rfl #[.slice Ao12 t232.length co12] rfl (by (try simp only [m0_, m1_, m2_]); first | done | rfl) ?_; (with_reducible refine (hopperref06_Worst.calls k _ _ t232 t235 t236 _ ?side1 ?side2 A6.out).mono ?_); (case side1 => repeat (first | exact (Kd.R_reads' HO234.out).2.2 | (with_reducible refine ca_ ?_ _) | (with_reducible refine cn_ ?_ _) | (with_reducible refine cd_ ?_))); (case side2 => exact (Kd.R_reads' HO234.out).2.1); rintro e w13 ⟨rfl, hb⟩; refine ⟨_, rfl, ?_⟩; replace HO234 := A_ (Kd.R_below (pr_ HO234.out) hb); replace BK231 := A_ (kb_ BK231 hb); replace HB := A_ (below_step bw_ hb); (try clear hb); (try clear hb2); (try clear hk); (try clear hi)))
   go_loopg [8, 9] k (fun kq v8 v9 w' => ∃ (x8_1 : Bool) (x9_1 : Int), v8 = .bool x8_1 ∧ v9 = .int .i64 x9_1 ∧ Aside0 (hopperlaw11_ShardWorst.l0 kq l0 t230 t232 t236 x8_1 x9_1 t224 t225 t226 t227 t228 t229 = some r) ∧ Aside0 (kq ≤ k) ∧ Aside0 (Kd.R k32 32 w' w.heap.size (fun k_ => k_ ≠ gb231) (.slice Ao12 t232.length co12) t232) ∧ Aside0 (w'.heap[gb231]? = some (.cells #[.int .i64 t224, .int .i64 t225, .int .i64 t226, .int .i64 t227, .int .i64 t228, .string t229] 32 (0, 0))) ∧ Aside0 (Below w.heap.size w w'))
   case atStart => exact ⟨(false), (0), (by first | rfl | (simp; done) | (simp [*]; done)), (by first | rfl | (simp; done) | (simp [*]; done)), H', ⟨Nat.le_refl _⟩, ⟨by (with_reducible repeat (first | apply ra_ | apply rn_ | apply rd_)); exact Kd.R_mono HO234.out (fun _ hk => hk.2)⟩, ⟨bk_⟩, ⟨by repeat (first | (with_reducible first | exact HB.out | apply wa_ | apply wn_ | apply wd_ | refine ws_ ?_ GE231.out) | exact HB.out)⟩⟩
   case round =>
    clear H'; (try clear c1); (try clear p2); (try clear c3); (try clear c4); (try clear c7); (try clear c11); (try clear hcz10_0 hcz10_1 hcz10_2 hcz10_3 hcz10_4 hcz10_5); (try clear hfz10_0 hfz10_1 hfz10_2 hfz10_3 hfz10_4 hfz10_5)
    obtain ⟨x8_1, x9_1, rfl, rfl, HA, HK1, HO_5, BK231, HB⟩ := hrel
    cases gk with
    | zero => exact absurd HA.out (by simp [hopperlaw11_ShardWorst.l0])
    | succ k1 =>
     have H := HA.out
     clear HA
     simp only [hopperlaw11_ShardWorst.l0] at H
     by_cases c14 : x9_1 < (t232.length : Int)
     · rw [if_pos c14] at H
       have c14b0 : decide (x9_1 < (t232.length : Int)) = true := decide_eq_true c14
       clear c14
       by_cases c15 : t230 = true
       · subst c15
         have H1 : (if 0 ≤ x9_1 then ((hopperref04_Better.f k1 t224 t225 t226 t227 t228 t229 ((rd_T32 t232 x9_1).f0) ((rd_T32 t232 x9_1).f1) ((rd_T32 t232 x9_1).f2) ((rd_T32 t232 x9_1).f3) ((rd_T32 t232 x9_1).f4) ((rd_T32 t232 x9_1).f5)).bind fun t238 => (if t238 = true then (none) else (if x8_1 = true then (hopperlaw11_ShardWorst.l0 k1 l0 true t232 t236 true (wrap64 (x9_1 + 1)) t224 t225 t226 t227 t228 t229) else (hopperlaw11_ShardWorst.l0 k1 l0 true t232 t236 (((rd_T32 t232 x9_1).f0) == t224 && (((rd_T32 t232 x9_1).f1) == t225 && (((rd_T32 t232 x9_1).f2) == t226 && (((rd_T32 t232 x9_1).f3) == t227 && (((rd_T32 t232 x9_1).f4) == t228 && ((((rd_T32 t232 x9_1).f5).toList) == t229.toList)))))) (wrap64 (x9_1 + 1)) t224 t225 t226 t227 t228 t229)))) else (none)) = some r := by rw [if_pos rfl] at H; exact H
         clear H
         have H := H1
         clear H1
         by_cases c16 : 0 ≤ x9_1
         rotate_left
         · rw [if_neg c16] at H
           exact absurd H (by simp)
         rw [if_pos c16] at H
         have c16b0 : decide (0 ≤ x9_1) = true := decide_eq_true c16
         clear c16
         replace H := Option.bind_eq_some_iff.mp H
         obtain ⟨t238, A170, H⟩ := H
         try dsimp only at H
         have A17 := A_ A170
         clear A170
         by_cases c18 : t238 = true
         · subst c18
           have H1 : (none) = some r := by rw [if_pos rfl] at H; exact H
           clear H
           have H := H1
           clear H1
           exact absurd H (by simp)
         replace c18 := Bool.eq_false_iff.mpr c18
         subst c18
         have H1 : (if x8_1 = true then (hopperlaw11_ShardWorst.l0 k1 l0 true t232 t236 true (wrap64 (x9_1 + 1)) t224 t225 t226 t227 t228 t229) else (hopperlaw11_ShardWorst.l0 k1 l0 true t232 t236 (((rd_T32 t232 x9_1).f0) == t224 && (((rd_T32 t232 x9_1).f1) == t225 && (((rd_T32 t232 x9_1).f2) == t226 && (((rd_T32 t232 x9_1).f3) == t227 && (((rd_T32 t232 x9_1).f4) == t228 && ((((rd_T32 t232 x9_1).f5).toList) == t229.toList)))))) (wrap64 (x9_1 + 1)) t224 t225 t226 t227 t228 t229)) = some r := by rw [if_neg (show ¬ (false = true) by decide)] at H; exact H
         clear H
         have H := H1
         clear H1
         by_cases c19 : x8_1 = true
         · subst c19
           have H1 : (hopperlaw11_ShardWorst.l0 k1 l0 true t232 t236 true (wrap64 (x9_1 + 1)) t224 t225 t226 t227 t228 t229) = some r := by rw [if_pos rfl] at H; exact H
           clear H
           have H := H1
           clear H1
           have H' := A_ H
           clear H
           try go_wp2
           have n0_ := A_ (rd_ HO_5.out); have n1_ := A_ (bd_ BK231.out); have n2_ := A_ (wd_ HB.out); replace HO_5 := n0_; replace BK231 := n1_; replace HB := n2_; clear n0_ n1_ n2_
           have p237 : 0 ≤ (x9_1 : Int) := of_decide_eq_true (by first | (with_reducible assumption) | assumption)
           have q237 : x9_1 < (t232.length : Int) := of_decide_eq_true (by first | (with_reducible assumption) | assumption)
           obtain ⟨ad237, e237, hx237_0, hx237_1, hx237_2, hx237_3, hx237_4, hx237_5⟩ := at_T32 (Kd.R_reads' HO_5.out).2.2 x9_1 p237 q237
           cases e237
           replace p237 := eq_true p237
           replace q237 := eq_true q237
           refine start_ (n := 9) (S := fun w' => w'.cell? ⟨gb231, 0, none⟩ = some (.int .i64 t224) ∧ w'.cell? ⟨gb231, 1, none⟩ = some (.int .i64 t225) ∧ w'.cell? ⟨gb231, 2, none⟩ = some (.int .i64 t226) ∧ w'.cell? ⟨gb231, 3, none⟩ = some (.int .i64 t227) ∧ w'.cell? ⟨gb231, 4, none⟩ = some (.int .i64 t228) ∧ w'.cell? ⟨gb231, 5, none⟩ = some (.string t229) ∧ w'.cell? (ad237.add ((x9_1).toNat * 6)) = some (.int .i64 ((rd_T32 t232 x9_1).f0)) ∧ w'.cell? ⟨(ad237.add ((x9_1).toNat * 6)).block, (ad237.add ((x9_1).toNat * 6)).off + 1, none⟩ = some (.int .i64 ((rd_T32 t232 x9_1).f1)) ∧ w'.cell? ⟨(ad237.add ((x9_1).toNat * 6)).block, (ad237.add ((x9_1).toNat * 6)).off + 2, none⟩ = some (.int .i64 ((rd_T32 t232 x9_1).f2)) ∧ w'.cell? ⟨(ad237.add ((x9_1).toNat * 6)).block, (ad237.add ((x9_1).toNat * 6)).off + 3, none⟩ = some (.int .i64 ((rd_T32 t232 x9_1).f3)) ∧ w'.cell? ⟨(ad237.add ((x9_1).toNat * 6)).block, (ad237.add ((x9_1).toNat * 6)).off + 4, none⟩ = some (.int .i64 ((rd_T32 t232 x9_1).f4)) ∧ w'.cell? ⟨(ad237.add ((x9_1).toNat * 6)).block, (ad237.add ((x9_1).toNat * 6)).off + 5, none⟩ = some (.string ((rd_T32 t232 x9_1).f5))) (ds := []) #[false, false, false, false, false, false, false, false, false] (by kernel_rfl) rfl rfl ⟨e_ BK231 0, e_ BK231 1, e_ BK231 2, e_ BK231 3, e_ BK231 4, e_ BK231 5, hx237_0, hx237_1, hx237_2, hx237_3, hx237_4, hx237_5⟩ (fun hHeld => ?_); refine with_tabW hopperlaw11_ShardWorst.tab10 hopperlaw11_ShardWorst.bits10 (fun HT_ HW_ => ?_)
           generalize wr.drew = w20 at HO_5 BK231 HB hx237_0 hx237_1 hx237_2 hx237_3 hx237_4 hx237_5 hHeld ⊢
           refine pq_ 0 32 HT_ ?_
           refine pq_ 1 33 HT_ ?_
           refine pq_ 3 35 HT_ ?_
           refine pq_ 4 36 HT_ ?_
           refine pq_ 5 37 HT_ ?_
           refine tk_ 2 34 HT_ HW_ hHeld ?_
           refine tk_ 6 38 HT_ HW_ hHeld ?_
           refine one_ (i := 7) (N := some 39) #[true, true, true, true, true, true, true, true, false] rfl rfl (one_of HT_.out (by kernel_rfl)) (by decide) (fun K hK => ?_)
           refine goes_ Try.func19 (by kernel_rfl) rfl #[.agg #[.int .i64 t224, .int .i64 t225, .int .i64 t226, .int .i64 t227, .int .i64 t228, .string t229], .agg #[.int .i64 ((rd_T32 t232 x9_1).f0), .int .i64 ((rd_T32 t232 x9_1).f1), .int .i64 ((rd_T32 t232 x9_1).f2), .int .i64 ((rd_T32 t232 x9_1).f3), .int .i64 ((rd_T32 t232 x9_1).f4), .string ((rd_T32 t232 x9_1).f5)]] (by rfl) rfl rfl (by (try simp only [m0_, m1_, m2_]); first | done | rfl) ?_
           with_reducible refine (hopperref04_Better.calls k1 t224 t225 t226 t227 t228 t229 ((rd_T32 t232 x9_1).f0) ((rd_T32 t232 x9_1).f1) ((rd_T32 t232 x9_1).f2) ((rd_T32 t232 x9_1).f3) ((rd_T32 t232 x9_1).f4) ((rd_T32 t232 x9_1).f5) false _ A17.out).mono ?_
           rintro e w21 ⟨rfl, hb⟩
           obtain ⟨_, _, _, _, _, _, h6_, h7_, h8_, h9_, h10_, h11_⟩ := hHeld
           have o_ := fun (p_ : Addr) (v_ : Value) => @on_ _ _ p_ v_ hb
           refine ⟨_, rfl, ?_⟩
           have n0_ := A_ (Kd.R_below (pr_ HO_5.out) hb); have n1_ := A_ (kb_ BK231 hb); have n2_ := A_ (below_step bw_ hb); replace HO_5 := n0_; replace BK231 := n1_; replace HB := n2_; clear n0_ n1_ n2_
           (try clear hb)
           (try clear hb2)
           (try clear hk)
           (try clear hi)
           refine hK.out _ _ ⟨e_ BK231 0, e_ BK231 1, e_ BK231 2, e_ BK231 3, e_ BK231 4, e_ BK231 5, o_ _ _ h6_, o_ _ _ h7_, o_ _ _ h8_, o_ _ _ h9_, o_ _ _ h10_, o_ _ _ h11_⟩ (fun hHeld => ?_)
           clear hK K
           refine norm_ (a' := ?_) ?_ ?_
           rotate_left
           · show Act.put _ (some 39) _ = _
             simp only [Act.put, s0_, s1_, s2_, i64_w, i32_w]
             rfl
           refine pq_ 8 40 HT_ ?_
           refine done_ (done_of HT_.out (by kernel_rfl)) ?_
           try go_wp2
           have n0_ := A_ (rd_ HO_5.out); have n1_ := A_ (bd_ BK231.out); have n2_ := A_ (wd_ HB.out); replace HO_5 := n0_; replace BK231 := n1_; replace HB := n2_; clear n0_ n1_ n2_
           refine start_ (n := 10) (S := fun w' => True) (ds := []) #[F,F,F,F,F,F,F,F,F,F] (by kernel_rfl) rfl rfl trivial (fun hHeld => ?_); refine with_tabW hopperlaw11_ShardWorst.tab12 hopperlaw11_ShardWorst.bits12 (fun HT_ HW_ => ?_)
           generalize w21.drew = w22 at HO_5 BK231 HB hHeld ⊢
           refine pq_ 0 41 HT_ ?_
           refine pq_ 1 42 HT_ ?_
           refine pu_ 2 43 HT_ ?_
           refine pu_ 3 44 HT_ ?_
           refine pu_ 4 45 HT_ ?_
           refine pu_ 5 46 HT_ ?_
           refine pu_ 6 47 HT_ ?_
           refine pu_ 7 48 HT_ ?_
           refine pq_ 8 49 HT_ ?_
           refine pq_ 9 8 HT_ ?_
           refine done_ (done_of HT_.out (by kernel_rfl)) ?_
           try go_wp2
           go_roundg k1
           case measure => have := HK1.out; omega
           case rel => exact ⟨(true), (wrap64 (x9_1 + 1)), (by first | rfl | (simp; done) | (simp [*]; done)), (by first | rfl | (simp; done) | (simp [*]; done)), H', ⟨by have := HK1.out; omega⟩, ⟨by (with_reducible repeat (first | apply ra_ | apply rn_ | apply rd_)); exact HO_5.out⟩, ⟨bk_⟩, ⟨by repeat (first | (with_reducible first | exact HB.out | apply wa_ | apply wn_ | apply wd_ | refine ws_ ?_ GE231.out) | exact HB.out)⟩⟩
         · replace c19 := Bool.eq_false_iff.mpr c19
           subst c19
           have H1 : (hopperlaw11_ShardWorst.l0 k1 l0 true t232 t236 (((rd_T32 t232 x9_1).f0) == t224 && (((rd_T32 t232 x9_1).f1) == t225 && (((rd_T32 t232 x9_1).f2) == t226 && (((rd_T32 t232 x9_1).f3) == t227 && (((rd_T32 t232 x9_1).f4) == t228 && ((((rd_T32 t232 x9_1).f5).toList) == t229.toList)))))) (wrap64 (x9_1 + 1)) t224 t225 t226 t227 t228 t229) = some r := by rw [if_neg (show ¬ (false = true) by decide)] at H; exact H
           clear H
           have H := H1
           clear H1
           have H' := A_ H
           clear H
           try go_wp2
           have n0_ := A_ (rd_ HO_5.out); have n1_ := A_ (bd_ BK231.out); have n2_ := A_ (wd_ HB.out); replace HO_5 := n0_; replace BK231 := n1_; replace HB := n2_; clear n0_ n1_ n2_
           have p237 : 0 ≤ (x9_1 : Int) := of_decide_eq_true (by first | (with_reducible assumption) | assumption)
           have q237 : x9_1 < (t232.length : Int) := of_decide_eq_true (by first | (with_reducible assumption) | assumption)
           obtain ⟨ad237, e237, hx237_0, hx237_1, hx237_2, hx237_3, hx237_4, hx237_5⟩ := at_T32 (Kd.R_reads' HO_5.out).2.2 x9_1 p237 q237
           cases e237
           replace p237 := eq_true p237
           replace q237 := eq_true q237
           refine start_ (n := 9) (S := fun w' => w'.cell? ⟨gb231, 0, none⟩ = some (.int .i64 t224) ∧ w'.cell? ⟨gb231, 1, none⟩ = some (.int .i64 t225) ∧ w'.cell? ⟨gb231, 2, none⟩ = some (.int .i64 t226) ∧ w'.cell? ⟨gb231, 3, none⟩ = some (.int .i64 t227) ∧ w'.cell? ⟨gb231, 4, none⟩ = some (.int .i64 t228) ∧ w'.cell? ⟨gb231, 5, none⟩ = some (.string t229) ∧ w'.cell? (ad237.add ((x9_1).toNat * 6)) = some (.int .i64 ((rd_T32 t232 x9_1).f0)) ∧ w'.cell? ⟨(ad237.add ((x9_1).toNat * 6)).block, (ad237.add ((x9_1).toNat * 6)).off + 1, none⟩ = some (.int .i64 ((rd_T32 t232 x9_1).f1)) ∧ w'.cell? ⟨(ad237.add ((x9_1).toNat * 6)).block, (ad237.add ((x9_1).toNat * 6)).off + 2, none⟩ = some (.int .i64 ((rd_T32 t232 x9_1).f2)) ∧ w'.cell? ⟨(ad237.add ((x9_1).toNat * 6)).block, (ad237.add ((x9_1).toNat * 6)).off + 3, none⟩ = some (.int .i64 ((rd_T32 t232 x9_1).f3)) ∧ w'.cell? ⟨(ad237.add ((x9_1).toNat * 6)).block, (ad237.add ((x9_1).toNat * 6)).off + 4, none⟩ = some (.int .i64 ((rd_T32 t232 x9_1).f4)) ∧ w'.cell? ⟨(ad237.add ((x9_1).toNat * 6)).block, (ad237.add ((x9_1).toNat * 6)).off + 5, none⟩ = some (.string ((rd_T32 t232 x9_1).f5))) (ds := []) #[false, false, false, false, false, false, false, false, false] (by kernel_rfl) rfl rfl ⟨e_ BK231 0, e_ BK231 1, e_ BK231 2, e_ BK231 3, e_ BK231 4, e_ BK231 5, hx237_0, hx237_1, hx237_2, hx237_3, hx237_4, hx237_5⟩ (fun hHeld => ?_); refine with_tabW hopperlaw11_ShardWorst.tab10 hopperlaw11_ShardWorst.bits10 (fun HT_ HW_ => ?_)
           generalize wr.drew = w23 at HO_5 BK231 HB hx237_0 hx237_1 hx237_2 hx237_3 hx237_4 hx237_5 hHeld ⊢
           refine pq_ 0 32 HT_ ?_
           refine pq_ 1 33 HT_ ?_
           refine pq_ 3 35 HT_ ?_
           refine pq_ 4 36 HT_ ?_
           refine pq_ 5 37 HT_ ?_
           refine tk_ 2 34 HT_ HW_ hHeld ?_
           refine tk_ 6 38 HT_ HW_ hHeld ?_
           refine one_ (i := 7) (N := some 39) #[true, true, true, true, true, true, true, true, false] rfl rfl (one_of HT_.out (by kernel_rfl)) (by decide) (fun K hK => ?_)
           refine goes_ Try.func19 (by kernel_rfl) rfl #[.agg #[.int .i64 t224, .int .i64 t225, .int .i64 t226, .int .i64 t227, .int .i64 t228, .string t229], .agg #[.int .i64 ((rd_T32 t232 x9_1).f0), .int .i64 ((rd_T32 t232 x9_1).f1), .int .i64 ((rd_T32 t232 x9_1).f2), .int .i64 ((rd_T32 t232 x9_1).f3), .int .i64 ((rd_T32 t232 x9_1).f4), .string ((rd_T32 t232 x9_1).f5)]] (by rfl) rfl rfl (by (try simp only [m0_, m1_, m2_]); first | done | rfl) ?_
           with_reducible refine (hopperref04_Better.calls k1 t224 t225 t226 t227 t228 t229 ((rd_T32 t232 x9_1).f0) ((rd_T32 t232 x9_1).f1) ((rd_T32 t232 x9_1).f2) ((rd_T32 t232 x9_1).f3) ((rd_T32 t232 x9_1).f4) ((rd_T32 t232 x9_1).f5) false _ A17.out).mono ?_
           rintro e w24 ⟨rfl, hb⟩
           obtain ⟨_, _, _, _, _, _, h6_, h7_, h8_, h9_, h10_, h11_⟩ := hHeld
           have o_ := fun (p_ : Addr) (v_ : Value) => @on_ _ _ p_ v_ hb
           refine ⟨_, rfl, ?_⟩
           have n0_ := A_ (Kd.R_below (pr_ HO_5.out) hb); have n1_ := A_ (kb_ BK231 hb); have n2_ := A_ (below_step bw_ hb); replace HO_5 := n0_; replace BK231 := n1_; replace HB := n2_; clear n0_ n1_ n2_
           (try clear hb)
           (try clear hb2)
           (try clear hk)
           (try clear hi)
           refine hK.out _ _ ⟨e_ BK231 0, e_ BK231 1, e_ BK231 2, e_ BK231 3, e_ BK231 4, e_ BK231 5, o_ _ _ h6_, o_ _ _ h7_, o_ _ _ h8_, o_ _ _ h9_, o_ _ _ h10_, o_ _ _ h11_⟩ (fun hHeld => ?_)
           clear hK K
           refine norm_ (a' := ?_) ?_ ?_
           rotate_left
           · show Act.put _ (some 39) _ = _
             simp only [Act.put, s0_, s1_, s2_, i64_w, i32_w]
             rfl
           refine pq_ 8 40 HT_ ?_
           refine done_ (done_of HT_.out (by kernel_rfl)) ?_
           try go_wp2
           have n0_ := A_ (rd_ HO_5.out); have n1_ := A_ (bd_ BK231.out); have n2_ := A_ (wd_ HB.out); replace HO_5 := n0_; replace BK231 := n1_; replace HB := n2_; clear n0_ n1_ n2_
           have p239 : 0 ≤ (x9_1 : Int) := of_decide_eq_true (by first | (with_reducible assumption) | assumption)
           have q239 : x9_1 < (t232.length : Int) := of_decide_eq_true (by first | (with_reducible assumption) | assumption)
           obtain ⟨ad239, e239, hx239_0, hx239_1, hx239_2, hx239_3, hx239_4, hx239_5⟩ := at_T32 (Kd.R_reads' HO_5.out).2.2 x9_1 p239 q239
           obtain rfl : ad237 = ad239 := (by injection e239)
           replace p239 := eq_true p239
           replace q239 := eq_true q239
           refine start_ (n := 10) (S := fun w' => w'.cell? ⟨gb231, 0, none⟩ = some (.int .i64 t224) ∧ w'.cell? ⟨gb231, 1, none⟩ = some (.int .i64 t225) ∧ w'.cell? ⟨gb231, 2, none⟩ = some (.int .i64 t226) ∧ w'.cell? ⟨gb231, 3, none⟩ = some (.int .i64 t227) ∧ w'.cell? ⟨gb231, 4, none⟩ = some (.int .i64 t228) ∧ w'.cell? ⟨gb231, 5, none⟩ = some (.string t229) ∧ w'.cell? (ad237.add ((x9_1).toNat * 6)) = some (.int .i64 ((rd_T32 t232 x9_1).f0)) ∧ w'.cell? ⟨(ad237.add ((x9_1).toNat * 6)).block, (ad237.add ((x9_1).toNat * 6)).off + 1, none⟩ = some (.int .i64 ((rd_T32 t232 x9_1).f1)) ∧ w'.cell? ⟨(ad237.add ((x9_1).toNat * 6)).block, (ad237.add ((x9_1).toNat * 6)).off + 2, none⟩ = some (.int .i64 ((rd_T32 t232 x9_1).f2)) ∧ w'.cell? ⟨(ad237.add ((x9_1).toNat * 6)).block, (ad237.add ((x9_1).toNat * 6)).off + 3, none⟩ = some (.int .i64 ((rd_T32 t232 x9_1).f3)) ∧ w'.cell? ⟨(ad237.add ((x9_1).toNat * 6)).block, (ad237.add ((x9_1).toNat * 6)).off + 4, none⟩ = some (.int .i64 ((rd_T32 t232 x9_1).f4)) ∧ w'.cell? ⟨(ad237.add ((x9_1).toNat * 6)).block, (ad237.add ((x9_1).toNat * 6)).off + 5, none⟩ = some (.string ((rd_T32 t232 x9_1).f5))) (ds := []) #[F,F,F,F,F,F,F,F,F,F] (by kernel_rfl) rfl rfl ⟨e_ BK231 0, e_ BK231 1, e_ BK231 2, e_ BK231 3, e_ BK231 4, e_ BK231 5, hx239_0, hx239_1, hx239_2, hx239_3, hx239_4, hx239_5⟩ (fun hHeld => ?_); refine with_tabW hopperlaw11_ShardWorst.tab12 hopperlaw11_ShardWorst.bits12 (fun HT_ HW_ => ?_)
           generalize w24.drew = w25 at HO_5 BK231 HB hx239_0 hx239_1 hx239_2 hx239_3 hx239_4 hx239_5 hHeld ⊢
           refine pq_ 0 41 HT_ ?_
           refine pq_ 1 42 HT_ ?_
           refine pq_ 2 43 HT_ ?_
           refine pq_ 3 44 HT_ ?_
           refine pq_ 4 45 HT_ ?_
           refine tk_ 5 46 HT_ HW_ hHeld ?_
           refine tk_ 6 47 HT_ HW_ hHeld ?_
           refine pq_ 7 48 HT_ ?_
           refine pq_ 8 49 HT_ ?_
           refine pq_ 9 8 HT_ ?_
           refine done_ (done_of HT_.out (by kernel_rfl)) ?_
           try go_wp2
           go_roundg k1
           case measure => have := HK1.out; omega
           case rel => exact ⟨((((rd_T32 t232 x9_1).f0) == t224 && (((rd_T32 t232 x9_1).f1) == t225 && (((rd_T32 t232 x9_1).f2) == t226 && (((rd_T32 t232 x9_1).f3) == t227 && (((rd_T32 t232 x9_1).f4) == t228 && ((((rd_T32 t232 x9_1).f5).toList) == t229.toList))))))), (wrap64 (x9_1 + 1)), (by first | rfl | (simp; done) | (simp [*]; done)), (by first | rfl | (simp; done) | (simp [*]; done)), H', ⟨by have := HK1.out; omega⟩, ⟨by (with_reducible repeat (first | apply ra_ | apply rn_ | apply rd_)); exact HO_5.out⟩, ⟨bk_⟩, ⟨by repeat (first | (with_reducible first | exact HB.out | apply wa_ | apply wn_ | apply wd_ | refine ws_ ?_ GE231.out) | exact HB.out)⟩⟩
       · replace c15 := Bool.eq_false_iff.mpr c15
         subst c15
         have H1 : (if x8_1 = true then (hopperlaw11_ShardWorst.l0 k1 l0 false t232 t236 true (wrap64 (x9_1 + 1)) t224 t225 t226 t227 t228 t229) else (if 0 ≤ x9_1 then (hopperlaw11_ShardWorst.l0 k1 l0 false t232 t236 (((rd_T32 t232 x9_1).f0) == t224 && (((rd_T32 t232 x9_1).f1) == t225 && (((rd_T32 t232 x9_1).f2) == t226 && (((rd_T32 t232 x9_1).f3) == t227 && (((rd_T32 t232 x9_1).f4) == t228 && ((((rd_T32 t232 x9_1).f5).toList) == t229.toList)))))) (wrap64 (x9_1 + 1)) t224 t225 t226 t227 t228 t229) else (none))) = some r := by rw [if_neg (show ¬ (false = true) by decide)] at H; exact H
         clear H
         have H := H1
         clear H1
         by_cases c26 : x8_1 = true
         · subst c26
           have H1 : (hopperlaw11_ShardWorst.l0 k1 l0 false t232 t236 true (wrap64 (x9_1 + 1)) t224 t225 t226 t227 t228 t229) = some r := by rw [if_pos rfl] at H; exact H
           clear H
           have H := H1
           clear H1
           have H' := A_ H
           clear H
           try go_wp2
           have n0_ := A_ (rd_ HO_5.out); have n1_ := A_ (bd_ BK231.out); have n2_ := A_ (wd_ HB.out); replace HO_5 := n0_; replace BK231 := n1_; replace HB := n2_; clear n0_ n1_ n2_
           refine start_ (n := 9) (S := fun w' => True) (ds := []) #[false, false, false, false, false, false, false, false, false] (by kernel_rfl) rfl rfl trivial (fun hHeld => ?_); refine with_tabW hopperlaw11_ShardWorst.tab10 hopperlaw11_ShardWorst.bits10 (fun HT_ HW_ => ?_)
           generalize wr.drew = w27 at HO_5 BK231 HB hHeld ⊢
           refine pq_ 0 32 HT_ ?_
           refine pq_ 1 33 HT_ ?_
           refine pu_ 2 34 HT_ ?_
           refine pu_ 3 35 HT_ ?_
           refine pu_ 4 36 HT_ ?_
           refine pu_ 5 37 HT_ ?_
           refine pu_ 6 38 HT_ ?_
           refine pu_ 7 39 HT_ ?_
           refine pq_ 8 40 HT_ ?_
           refine done_ (done_of HT_.out (by kernel_rfl)) ?_
           try go_wp2
           have n0_ := A_ (rd_ HO_5.out); have n1_ := A_ (bd_ BK231.out); have n2_ := A_ (wd_ HB.out); replace HO_5 := n0_; replace BK231 := n1_; replace HB := n2_; clear n0_ n1_ n2_
           refine start_ (n := 10) (S := fun w' => True) (ds := []) #[F,F,F,F,F,F,F,F,F,F] (by kernel_rfl) rfl rfl trivial (fun hHeld => ?_); refine with_tabW hopperlaw11_ShardWorst.tab12 hopperlaw11_ShardWorst.bits12 (fun HT_ HW_ => ?_)
           generalize w27.drew = w28 at HO_5 BK231 HB hHeld ⊢
           refine pq_ 0 41 HT_ ?_
           refine pq_ 1 42 HT_ ?_
           refine pu_ 2 43 HT_ ?_
           refine pu_ 3 44 HT_ ?_
           refine pu_ 4 45 HT_ ?_
           refine pu_ 5 46 HT_ ?_
           refine pu_ 6 47 HT_ ?_
           refine pu_ 7 48 HT_ ?_
           refine pq_ 8 49 HT_ ?_
           refine pq_ 9 8 HT_ ?_
           refine done_ (done_of HT_.out (by kernel_rfl)) ?_
           try go_wp2
           go_roundg k1
           case measure => have := HK1.out; omega
           case rel => exact ⟨(true), (wrap64 (x9_1 + 1)), (by first | rfl | (simp; done) | (simp [*]; done)), (by first | rfl | (simp; done) | (simp [*]; done)), H', ⟨by have := HK1.out; omega⟩, ⟨by (with_reducible repeat (first | apply ra_ | apply rn_ | apply rd_)); exact HO_5.out⟩, ⟨bk_⟩, ⟨by repeat (first | (with_reducible first | exact HB.out | apply wa_ | apply wn_ | apply wd_ | refine ws_ ?_ GE231.out) | exact HB.out)⟩⟩
         · replace c26 := Bool.eq_false_iff.mpr c26
           subst c26
           have H1 : (if 0 ≤ x9_1 then (hopperlaw11_ShardWorst.l0 k1 l0 false t232 t236 (((rd_T32 t232 x9_1).f0) == t224 && (((rd_T32 t232 x9_1).f1) == t225 && (((rd_T32 t232 x9_1).f2) == t226 && (((rd_T32 t232 x9_1).f3) == t227 && (((rd_T32 t232 x9_1).f4) == t228 && ((((rd_T32 t232 x9_1).f5).toList) == t229.toList)))))) (wrap64 (x9_1 + 1)) t224 t225 t226 t227 t228 t229) else (none)) = some r := by rw [if_neg (show ¬ (false = true) by decide)] at H; exact H
           clear H
           have H := H1
           clear H1
           by_cases c29 : 0 ≤ x9_1
           rotate_left
           · rw [if_neg c29] at H
             exact absurd H (by simp)
           rw [if_pos c29] at H
           have c29b0 : decide (0 ≤ x9_1) = true := decide_eq_true c29
           clear c29
           have H' := A_ H
           clear H
           try go_wp2
           have n0_ := A_ (rd_ HO_5.out); have n1_ := A_ (bd_ BK231.out); have n2_ := A_ (wd_ HB.out); replace HO_5 := n0_; replace BK231 := n1_; replace HB := n2_; clear n0_ n1_ n2_
           refine start_ (n := 9) (S := fun w' => True) (ds := []) #[false, false, false, false, false, false, false, false, false] (by kernel_rfl) rfl rfl trivial (fun hHeld => ?_); refine with_tabW hopperlaw11_ShardWorst.tab10 hopperlaw11_ShardWorst.bits10 (fun HT_ HW_ => ?_)
           generalize wr.drew = w30 at HO_5 BK231 HB hHeld ⊢
           refine pq_ 0 32 HT_ ?_
           refine pq_ 1 33 HT_ ?_
           refine pu_ 2 34 HT_ ?_
           refine pu_ 3 35 HT_ ?_
           refine pu_ 4 36 HT_ ?_
           refine pu_ 5 37 HT_ ?_
           refine pu_ 6 38 HT_ ?_
           refine pu_ 7 39 HT_ ?_
           refine pq_ 8 40 HT_ ?_
           refine done_ (done_of HT_.out (by kernel_rfl)) ?_
           try go_wp2
           have n0_ := A_ (rd_ HO_5.out); have n1_ := A_ (bd_ BK231.out); have n2_ := A_ (wd_ HB.out); replace HO_5 := n0_; replace BK231 := n1_; replace HB := n2_; clear n0_ n1_ n2_
           have p240 : 0 ≤ (x9_1 : Int) := of_decide_eq_true (by first | (with_reducible assumption) | assumption)
           have q240 : x9_1 < (t232.length : Int) := of_decide_eq_true (by first | (with_reducible assumption) | assumption)
           obtain ⟨ad240, e240, hx240_0, hx240_1, hx240_2, hx240_3, hx240_4, hx240_5⟩ := at_T32 (Kd.R_reads' HO_5.out).2.2 x9_1 p240 q240
           cases e240
           replace p240 := eq_true p240
           replace q240 := eq_true q240
           refine start_ (n := 10) (S := fun w' => w'.cell? ⟨gb231, 0, none⟩ = some (.int .i64 t224) ∧ w'.cell? ⟨gb231, 1, none⟩ = some (.int .i64 t225) ∧ w'.cell? ⟨gb231, 2, none⟩ = some (.int .i64 t226) ∧ w'.cell? ⟨gb231, 3, none⟩ = some (.int .i64 t227) ∧ w'.cell? ⟨gb231, 4, none⟩ = some (.int .i64 t228) ∧ w'.cell? ⟨gb231, 5, none⟩ = some (.string t229) ∧ w'.cell? (ad240.add ((x9_1).toNat * 6)) = some (.int .i64 ((rd_T32 t232 x9_1).f0)) ∧ w'.cell? ⟨(ad240.add ((x9_1).toNat * 6)).block, (ad240.add ((x9_1).toNat * 6)).off + 1, none⟩ = some (.int .i64 ((rd_T32 t232 x9_1).f1)) ∧ w'.cell? ⟨(ad240.add ((x9_1).toNat * 6)).block, (ad240.add ((x9_1).toNat * 6)).off + 2, none⟩ = some (.int .i64 ((rd_T32 t232 x9_1).f2)) ∧ w'.cell? ⟨(ad240.add ((x9_1).toNat * 6)).block, (ad240.add ((x9_1).toNat * 6)).off + 3, none⟩ = some (.int .i64 ((rd_T32 t232 x9_1).f3)) ∧ w'.cell? ⟨(ad240.add ((x9_1).toNat * 6)).block, (ad240.add ((x9_1).toNat * 6)).off + 4, none⟩ = some (.int .i64 ((rd_T32 t232 x9_1).f4)) ∧ w'.cell? ⟨(ad240.add ((x9_1).toNat * 6)).block, (ad240.add ((x9_1).toNat * 6)).off + 5, none⟩ = some (.string ((rd_T32 t232 x9_1).f5))) (ds := []) #[F,F,F,F,F,F,F,F,F,F] (by kernel_rfl) rfl rfl ⟨e_ BK231 0, e_ BK231 1, e_ BK231 2, e_ BK231 3, e_ BK231 4, e_ BK231 5, hx240_0, hx240_1, hx240_2, hx240_3, hx240_4, hx240_5⟩ (fun hHeld => ?_); refine with_tabW hopperlaw11_ShardWorst.tab12 hopperlaw11_ShardWorst.bits12 (fun HT_ HW_ => ?_)
           generalize w30.drew = w31 at HO_5 BK231 HB hx240_0 hx240_1 hx240_2 hx240_3 hx240_4 hx240_5 hHeld ⊢
           refine pq_ 0 41 HT_ ?_
           refine pq_ 1 42 HT_ ?_
           refine pq_ 2 43 HT_ ?_
           refine pq_ 3 44 HT_ ?_
           refine pq_ 4 45 HT_ ?_
           refine tk_ 5 46 HT_ HW_ hHeld ?_
           refine tk_ 6 47 HT_ HW_ hHeld ?_
           refine pq_ 7 48 HT_ ?_
           refine pq_ 8 49 HT_ ?_
           refine pq_ 9 8 HT_ ?_
           refine done_ (done_of HT_.out (by kernel_rfl)) ?_
           try go_wp2
           go_roundg k1
           case measure => have := HK1.out; omega
           case rel => exact ⟨((((rd_T32 t232 x9_1).f0) == t224 && (((rd_T32 t232 x9_1).f1) == t225 && (((rd_T32 t232 x9_1).f2) == t226 && (((rd_T32 t232 x9_1).f3) == t227 && (((rd_T32 t232 x9_1).f4) == t228 && ((((rd_T32 t232 x9_1).f5).toList) == t229.toList))))))), (wrap64 (x9_1 + 1)), (by first | rfl | (simp; done) | (simp [*]; done)), (by first | rfl | (simp; done) | (simp [*]; done)), H', ⟨by have := HK1.out; omega⟩, ⟨by (with_reducible repeat (first | apply ra_ | apply rn_ | apply rd_)); exact HO_5.out⟩, ⟨bk_⟩, ⟨by repeat (first | (with_reducible first | exact HB.out | apply wa_ | apply wn_ | apply wd_ | refine ws_ ?_ GE231.out) | exact HB.out)⟩⟩
     · rw [if_neg c14] at H
       have c14b0 : decide (x9_1 < (t232.length : Int)) = false := decide_eq_false c14
       clear c14
       by_cases c32 : (t230 == t236) = true
       rotate_left
       · rw [if_neg c32] at H
         exact absurd H (by simp)
       rw [if_pos c32] at H
       have c32b0 : (t230 == t236) = true := c32
       (try (have c32b1 : decide (t230 = t236) = true := by simpa using c32))
       (try (have c32b2 : (t230 == t236) = true := by simpa using c32))
       clear c32
       by_cases c33 : (t230 == x8_1) = true
       rotate_left
       · rw [if_neg c33] at H
         exact absurd H (by simp)
       rw [if_pos c33] at H
       have c33b0 : (t230 == x8_1) = true := c33
       (try (have c33b1 : decide (t230 = x8_1) = true := by simpa using c33))
       (try (have c33b2 : (t230 == x8_1) = true := by simpa using c33))
       clear c33
       by_cases c34 : (t232.length : Int) ≤ (l0.length : Int)
       rotate_left
       · rw [if_neg c34] at H
         exact absurd H (by simp)
       rw [if_pos c34] at H
       have c34b0 : decide ((t232.length : Int) ≤ (l0.length : Int)) = true := decide_eq_true c34
       have c34b1 : decide (t232.length ≤ l0.length) = true := decide_eq_true (Int.ofNat_le.mp c34)
       clear c34
       replace H := Option.bind_eq_some_iff.mp H
       obtain ⟨t241, A350, H⟩ := H
       replace H : (some t241) = some r := H
       have A35 := A_ A350
       clear A350
       obtain rfl := Option.some.inj H
       go_wp2_with (first | (go_at_call 8; (with_reducible refine (hopperlaw11_live.calls  t241 _ A35.out).mono ?_); rintro e w36 ⟨rfl, hb⟩; replace HO_5 := A_ (Kd.R_below (pr_ HO_5.out) hb); replace BK231 := A_ (kb_ BK231 hb); replace HB := A_ (below_step bw_ hb); (try clear hb); (try clear hb2); (try clear hk); (try clear hi)))
       go_ret
       exact ⟨by first | rfl | (simp [errW_none, errW_some] <;> rfl) | (simp [*, errW_none, errW_some] <;> rfl), by repeat (first | (with_reducible first | exact HB.out | apply wa_ | apply wn_ | apply wd_ | refine ws_ ?_ GE231.out) | exact HB.out)⟩
 · replace c3 := Bool.eq_false_iff.mpr c3
   subst c3
   have H1 : ((hopperlaw11_live.f).bind fun t223 => (some t223)) = some r := by rw [if_neg (show ¬ (false = true) by decide)] at H; exact H
   clear H
   have H := H1
   clear H1
   replace H := Option.bind_eq_some_iff.mp H
   obtain ⟨t223, A370, H⟩ := H
   replace H : (some t223) = some r := H
   have A37 := A_ A370
   clear A370
   obtain rfl := Option.some.inj H
   go_enter Try.func4, Try.ntmps4
   go_wp2_with (first | ((with_reducible refine gate_callee (f := 7) rfl ?_); refine goesL_ (some 11) rfl rfl Try.func7 (by kernel_rfl) rfl #[.slice A0 l0.length c0, .int .i64 20] rfl (by (try simp only [m0_, m1_, m2_]); first | done | rfl) ?_; (with_reducible refine (hopperref11_Few.calls k _ _ l0 20 false _ ?side1 ?side2 A2.out).mono ?_); (case side1 => repeat (first | exact HR0.out | (with_reducible refine ca_ ?_ _) | (with_reducible refine cn_ ?_ _) | (with_reducible refine cd_ ?_))); (case side2 => exact HC0.out); rintro e w38 ⟨rfl, hb⟩; refine ⟨_, rfl, ?_⟩; replace HB := A_ (below_step bw_ hb); (try clear hb); (try clear hb2); (try clear hk); (try clear hi)) | ((with_reducible refine gate_callee (f := 8) rfl ?_); refine goesL_ (some 13) rfl rfl Try.func8 (by kernel_rfl) rfl #[] rfl (by (try simp only [m0_, m1_, m2_]); first | done | rfl) ?_; (with_reducible refine (hopperlaw11_live.calls  t223 _ A37.out).mono ?_); rintro e w39 ⟨rfl, hb⟩; refine ⟨_, rfl, ?_⟩; replace HB := A_ (below_step bw_ hb); (try clear hb); (try clear hb2); (try clear hk); (try clear hi)))
   go_ret
   exact ⟨by first | rfl | (simp [errW_none, errW_some] <;> rfl) | (simp [*, errW_none, errW_some] <;> rfl), by repeat (first | (with_reducible first | exact HB.out | apply wa_ | apply wn_ | apply wd_) | exact HB.out)⟩

open Go.Proofs.Ytnjnogkhbadioaa.Row (okI okB okS okL) in
/-- THE ONE PURE STATEMENT of hopperlaw11_ShardWorst. -/
def hopperlaw11_ShardWorst.Pure : Prop := ∀ (l0 : List (S46)), (okL ok46) l0 → ∃ k, hopperlaw11_ShardWorst.f k l0 = some true

/-! ### hopperref05_Small: function 20 -/
def hopperref05_Small.f (k : Nat) (a0_0 : Int) (a0_1 : Int) (l0_2 : List (S32)) : Option (Bool) := (hopperref04_Few.f k l0_2 30).bind fun t243 => (some t243)
theorem hopperref05_Small.mono : ∀ a0 a1 a2 k, LeO (hopperref05_Small.f k a0 a1 a2) (hopperref05_Small.f (k + 1) a0 a1 a2) := by
  intro a0 a1 a2 k
  unfold hopperref05_Small.f
  repeat' first
      | (with_reducible exact hopperref04_Few.mono _ _ _)
      | (with_reducible exact LeO.refl _)
      | (with_reducible exact LeO.none _)
      | (with_reducible refine LeO.ite ?_ ?_)
      | (with_reducible refine LeO.bind ?_ (fun _ => ?_))
      | exact hopperref04_Few.mono _ _ _
      | exact LeO.none _
      | refine LeO.ite ?_ ?_
      | refine LeO.bind ?_ (fun _ => ?_)
set_option maxHeartbeats 8000000 in
set_option maxRecDepth 100000 in
theorem hopperref05_Small.calls (k : Nat) (a0_0 : Int) (a0_1 : Int) (A0_2 : Option Addr) (c0_2 : Nat) (l0_2 : List (S32)) (r : Bool) (w : World) (hr0_2 : Kd.C k32 w A0_2 l0_2.length l0_2) (hc0_2 : l0_2.length ≤ c0_2) (h : hopperref05_Small.f k a0_0 a0_1 l0_2 = some r) :
    Calls Try.prog 20 #[.agg #[.int .i64 a0_0, .int .i64 a0_1, .slice A0_2 l0_2.length c0_2]] w fun e w' => e = .returned (.bool r) ∧ Below w.heap.size w w' := by
  have hu46 := Try.underlying46
  have HR0_2 := Aside0.mk hr0_2
  have HC0_2 := Aside0.mk hc0_2
  clear hr0_2 hc0_2
  have HB := Aside0.mk (Below.refl w.heap.size w)
  have H : ((hopperref04_Few.f k l0_2 30).bind fun t243 => (some t243)) = some r := h
  clear h
  replace H := Option.bind_eq_some_iff.mp H
  obtain ⟨t243, A20, H⟩ := H
  replace H : (some t243) = some r := H
  have A2 := Aside0.mk A20
  clear A20
  obtain rfl := Option.some.inj H
  go_enter Try.func20, Try.ntmps20
  go_wp2_with (first | ((with_reducible refine gate_dst (N := 1) rfl ?_); refine box_event ?hg (N := 1) ?hd (cs := #[.int .i64 a0_0, .int .i64 a0_1, .slice A0_2 l0_2.length c0_2]) (t := 46) ?hr ?_; (case hd => rfl); (case hg => rfl); (case hr => first | (go_simp; done) | (go_simp; rfl)); intro gb242 hg w3 hbox hb; have n0_ := Aside0.mk (below_step (by repeat (first | (with_reducible first | exact HB.out | apply below_alloc | apply pw_below_drewN | apply below_drew1) | exact HB.out)) hb); have n1_ := Aside0.mk (hbox); have n2_ := Aside0.mk ((by rw [hg]; exact (below_size (by repeat (first | (with_reducible first | exact HB.out | apply below_alloc | apply pw_below_drewN | apply below_drew1) | exact HB.out))) : w.heap.size ≤ gb242)); have n3_ := Aside0.mk ((by rw [hg]; exact (below_size (by repeat (first | (with_reducible first | exact HB.out | apply below_alloc | apply pw_below_drewN | apply below_drew1) | exact HB.out))) : w.heap.size ≤ gb242)); clear HB; have HB := n0_; have BK242 := n1_; have GW242 := n2_; have GE242 := n3_; clear n0_ n1_ n2_ n3_; clear hb hbox hg; have hcz4_0 : w3.cell? ⟨gb242, 0, none⟩ = some (.int .i64 a0_0) := (blk_cell BK242.out 0).trans rfl; have hcz4_1 : w3.cell? ⟨gb242, 1, none⟩ = some (.int .i64 a0_1) := (blk_cell BK242.out 1).trans rfl; have hcz4_2 : w3.cell? ⟨gb242, 2, none⟩ = some (.slice A0_2 l0_2.length c0_2) := (blk_cell BK242.out 2).trans rfl; have hfz4_0 := blk_frozen BK242.out 0; have hfz4_1 := blk_frozen BK242.out 1; have hfz4_2 := blk_frozen BK242.out 2) | ((with_reducible refine gate_callee (f := 24) rfl ?_); refine goesL_ (some 5) rfl rfl Try.func24 (by kernel_rfl) rfl #[.slice A0_2 l0_2.length c0_2, .int .i64 30] rfl (by (try simp only [List.map_toArray, List.map_cons, List.map_nil]); first | done | rfl | (simp only [List.length_drop, List.length_take]; rfl)) ?_; (with_reducible refine (hopperref04_Few.calls k _ _ l0_2 30 t243 _ ?side1 ?side2 A2.out).mono ?_); (case side1 => repeat (first | exact (Kd.C_below HR0_2.out HB.out) | (with_reducible refine Kd.C_alloc ?_ _) | (with_reducible refine Kd.C_drewN ?_ _) | (with_reducible refine Kd.C_drew ?_))); (case side2 => exact HC0_2.out); rintro e w5 ⟨rfl, hb⟩; refine ⟨_, rfl, ?_⟩; have n0_ := Aside0.mk (blk_below (g := gb242) (o := .cells #[.int .i64 a0_0, .int .i64 a0_1, .slice A0_2 l0_2.length c0_2] 46 (0, 0)) (by (with_reducible repeat (first | refine blk_drewN ?_ _ | refine blk_drew ?_ | refine blk_alloc ?_ _)); exact BK242.out) hb); have n1_ := Aside0.mk (below_step (by repeat (first | (with_reducible first | exact HB.out | apply below_alloc | apply pw_below_drewN | apply below_drew1 | refine below_set ?_ GE242.out) | exact HB.out)) hb); clear BK242; clear HB; have BK242 := n0_; have HB := n1_; clear n0_ n1_; (try clear hb); (try clear hb2); (try clear hk); (try clear hi)))
  go_ret
  exact ⟨by first | rfl | (simp [errW_none, errW_some] <;> rfl) | (simp [*, errW_none, errW_some] <;> rfl), by repeat (first | (with_reducible first | exact HB.out | apply below_alloc | apply pw_below_drewN | apply below_drew1 | refine below_set ?_ GE242.out) | exact HB.out)⟩

/-! ### hopperref04_Txs: function 15 -/
def hopperref04_Txs.l0 : Nat → List (S32) → List (S32) → Int → Option (Bool)
 | 0, _, _, _ => none
 | k + 1, x0, x1, x5 => if x5 < (x0.length : Int) then (if 0 ≤ x5 then (if x5 < (x1.length : Int) then (if (!(((rd_T32 x0 x5).f0) == ((rd_T32 x1 x5).f0)) || (!(((rd_T32 x0 x5).f1) == ((rd_T32 x1 x5).f1)) || (!(((rd_T32 x0 x5).f2) == ((rd_T32 x1 x5).f2)) || (!(((rd_T32 x0 x5).f3) == ((rd_T32 x1 x5).f3)) || (!(((rd_T32 x0 x5).f4) == ((rd_T32 x1 x5).f4)) || (!((((rd_T32 x0 x5).f5).toList) == (((rd_T32 x1 x5).f5).toList)))))))) = true then (some false) else (hopperref04_Txs.l0 k x0 x1 (wrap64 (x5 + 1)))) else (none)) else (none)) else (some true)
def hopperref04_Txs.f (k : Nat) (l0 : List (S32)) (l1 : List (S32)) : Option (Bool) := if (l0.length : Int) = (l1.length : Int) then (hopperref04_Txs.l0 k l0 l1 0) else (some false)
theorem hopperref04_Txs.mono_l : ∀ k, (∀ y0 y1 y2, LeO (hopperref04_Txs.l0 k y0 y1 y2) (hopperref04_Txs.l0 (k + 1) y0 y1 y2))
 | 0 => fun _ _ _ r h => by simp [hopperref04_Txs.l0] at h
 | k + 1 => by
  have ih0 := hopperref04_Txs.mono_l k
  · intro y0 y1 y2
    unfold hopperref04_Txs.l0
    repeat' first
    | (with_reducible exact ih0 _ _ _)
    | (with_reducible exact LeO.refl _)
    | (with_reducible exact LeO.none _)
    | (with_reducible refine LeO.ite ?_ ?_)
    | (with_reducible refine LeO.bind ?_ (fun _ => ?_))
    | exact ih0 _ _ _
    | exact LeO.none _
    | refine LeO.ite ?_ ?_
    | refine LeO.bind ?_ (fun _ => ?_)
theorem hopperref04_Txs.mono : ∀ a0 a1 k, LeO (hopperref04_Txs.f k a0 a1) (hopperref04_Txs.f (k + 1) a0 a1) := by
 intro a0 a1 k
 have ih0 := hopperref04_Txs.mono_l k
 unfold hopperref04_Txs.f
 repeat' first
  | (with_reducible exact ih0 _ _ _)
  | (with_reducible exact LeO.refl _)
  | (with_reducible exact LeO.none _)
  | (with_reducible refine LeO.ite ?_ ?_)
  | (with_reducible refine LeO.bind ?_ (fun _ => ?_))
  | exact ih0 _ _ _
  | exact LeO.none _
  | refine LeO.ite ?_ ?_
  | refine LeO.bind ?_ (fun _ => ?_)
set_option maxHeartbeats 8000000 in
set_option maxRecDepth 100000 in
theorem hopperref04_Txs.calls (k : Nat) (A0 : Option Addr) (c0 : Nat) (l0 : List (S32)) (A1 : Option Addr) (c1 : Nat) (l1 : List (S32)) (r : Bool) (w : World) (hr0 : Kd.C k32 w A0 l0.length l0) (hc0 : l0.length ≤ c0) (hr1 : Kd.C k32 w A1 l1.length l1) (hc1 : l1.length ≤ c1) (h : hopperref04_Txs.f k l0 l1 = some r) :
 Calls Try.prog 15 #[.slice A0 l0.length c0, .slice A1 l1.length c1] w fun e w' => e = .returned (.bool r) ∧ Drawn0 w w' := by
 have hu32 := Try.underlying32
 have HR0 := A_ hr0
 have HC0 := A_ hc0
 clear hr0 hc0
 have HR1 := A_ hr1
 have HC1 := A_ hc1
 clear hr1 hc1
 have H : (if (l0.length : Int) = (l1.length : Int) then (hopperref04_Txs.l0 k l0 l1 0) else (some false)) = some r := h
 clear h
 by_cases c3 : (l0.length : Int) = (l1.length : Int)
 rotate_left
 · rw [if_neg c3] at H
   have c3b0 : ((l0.length : Int) == (l1.length : Int)) = false := beq_eq_false_iff_ne.mpr c3
   have c3b1 : ((l0.length : Int) != (l1.length : Int)) = true := bne_iff_ne.mpr c3
   have c3b2 : (l0.length == l1.length) = false := by first | simpa using c3 | (simp at c3 ⊢; omega)
   obtain rfl := Option.some.inj H
   go_enter Try.func15, Try.ntmps15
   go_wp2
   repeat (go_quiet (fail); try go_wp2)
   go_ret
   exact ⟨by first | rfl | (simp; done) | (simp [*]; done), by repeat (first | exact Drawn0.refl _ | apply Drawn0.step)⟩

 rw [if_pos c3] at H
 have c3b0 : ((l0.length : Int) == (l1.length : Int)) = true := beq_iff_eq.mpr c3
 have c3b1 : ((l0.length : Int) != (l1.length : Int)) = false := bne_eq_false_iff_eq.mpr c3
 have c3b2 : (l0.length == l1.length) = true := by first | simpa using c3 | (simp at c3 ⊢; omega)
 clear c3
 have H' := A_ H
 clear H
 go_enter Try.func15, Try.ntmps15
 go_wp2
 repeat (go_quiet (fail); try go_wp2)
 go_loopg [5] k (fun kq v5 w' => ∃ (x5_1 : Int), v5 = .int .i64 x5_1 ∧ Aside0 (hopperref04_Txs.l0 kq l0 l1 x5_1 = some r) ∧ Aside0 (kq ≤ k) ∧ Drawn0 w w')
 case atStart => exact ⟨(0), (by first | rfl | (simp; done) | (simp [*]; done)), H', ⟨Nat.le_refl _⟩, by repeat (first | exact Drawn0.refl _ | apply Drawn0.step)⟩
 case round =>
  clear H'; (try clear c1); (try clear p2); (try clear c3); (try clear c3b0); (try clear c3b1); (try clear c3b2)
  obtain ⟨x5_1, rfl, HA, HK1, ⟨m1, rfl⟩⟩ := hrel
  cases gk with
  | zero => exact absurd HA.out (by simp [hopperref04_Txs.l0])
  | succ k1 =>
   have H := HA.out
   clear HA
   simp only [hopperref04_Txs.l0] at H
   by_cases c4 : x5_1 < (l0.length : Int)
   rotate_left
   · rw [if_neg c4] at H
     have c4b0 : decide (x5_1 < (l0.length : Int)) = false := decide_eq_false c4
     clear c4
     obtain rfl := Option.some.inj H
     go_wp2
     repeat (go_quiet (fail); try go_wp2)
     go_ret
     exact ⟨by first | rfl | (simp; done) | (simp [*]; done), by repeat (first | exact Drawn0.refl _ | apply Drawn0.step)⟩
   rw [if_pos c4] at H
   have c4b0 : decide (x5_1 < (l0.length : Int)) = true := decide_eq_true c4
   clear c4
   by_cases c5 : 0 ≤ x5_1
   rotate_left
   · rw [if_neg c5] at H
     exact absurd H (by simp)
   rw [if_pos c5] at H
   have c5b0 : decide (0 ≤ x5_1) = true := decide_eq_true c5
   clear c5
   by_cases c6 : x5_1 < (l1.length : Int)
   rotate_left
   · rw [if_neg c6] at H
     exact absurd H (by simp)
   rw [if_pos c6] at H
   have c6b0 : decide (x5_1 < (l1.length : Int)) = true := decide_eq_true c6
   clear c6
   by_cases c7 : (!(((rd_T32 l0 x5_1).f0) == ((rd_T32 l1 x5_1).f0)) || (!(((rd_T32 l0 x5_1).f1) == ((rd_T32 l1 x5_1).f1)) || (!(((rd_T32 l0 x5_1).f2) == ((rd_T32 l1 x5_1).f2)) || (!(((rd_T32 l0 x5_1).f3) == ((rd_T32 l1 x5_1).f3)) || (!(((rd_T32 l0 x5_1).f4) == ((rd_T32 l1 x5_1).f4)) || (!((((rd_T32 l0 x5_1).f5).toList) == (((rd_T32 l1 x5_1).f5).toList)))))))) = true
   · rw [if_pos c7] at H
     have c7b0 : (!(((rd_T32 l0 x5_1).f0) == ((rd_T32 l1 x5_1).f0)) || (!(((rd_T32 l0 x5_1).f1) == ((rd_T32 l1 x5_1).f1)) || (!(((rd_T32 l0 x5_1).f2) == ((rd_T32 l1 x5_1).f2)) || (!(((rd_T32 l0 x5_1).f3) == ((rd_T32 l1 x5_1).f3)) || (!(((rd_T32 l0 x5_1).f4) == ((rd_T32 l1 x5_1).f4)) || (!((((rd_T32 l0 x5_1).f5).toList) == (((rd_T32 l1 x5_1).f5).toList)))))))) = true := c7
     clear c7
     obtain rfl := Option.some.inj H
     have p244 : 0 ≤ (x5_1 : Int) := of_decide_eq_true (by first | (with_reducible assumption) | assumption)
     have q244 : x5_1 < (l0.length : Int) := of_decide_eq_true (by first | (with_reducible assumption) | assumption)
     obtain ⟨ad244, e244, hx244_0, hx244_1, hx244_2, hx244_3, hx244_4, hx244_5⟩ := at_T32 HR0.out x5_1 p244 q244
     cases e244
     replace p244 := eq_true p244
     replace q244 := eq_true q244
     have p245 : 0 ≤ (x5_1 : Int) := of_decide_eq_true (by first | (with_reducible assumption) | assumption)
     have q245 : x5_1 < (l1.length : Int) := of_decide_eq_true (by first | (with_reducible assumption) | assumption)
     obtain ⟨ad245, e245, hx245_0, hx245_1, hx245_2, hx245_3, hx245_4, hx245_5⟩ := at_T32 HR1.out x5_1 p245 q245
     cases e245
     replace p245 := eq_true p245
     replace q245 := eq_true q245
     go_wp2
     repeat (go_quiet (fail); try go_wp2)
     go_ret
     exact ⟨by first | rfl | (simp; done) | (simp [*]; done), by repeat (first | exact Drawn0.refl _ | apply Drawn0.step)⟩
   · rw [if_neg c7] at H
     have c7b0 : (!(((rd_T32 l0 x5_1).f0) == ((rd_T32 l1 x5_1).f0)) || (!(((rd_T32 l0 x5_1).f1) == ((rd_T32 l1 x5_1).f1)) || (!(((rd_T32 l0 x5_1).f2) == ((rd_T32 l1 x5_1).f2)) || (!(((rd_T32 l0 x5_1).f3) == ((rd_T32 l1 x5_1).f3)) || (!(((rd_T32 l0 x5_1).f4) == ((rd_T32 l1 x5_1).f4)) || (!((((rd_T32 l0 x5_1).f5).toList) == (((rd_T32 l1 x5_1).f5).toList)))))))) = false := by simpa using c7
     clear c7
     have H' := A_ H
     clear H
     have p244 : 0 ≤ (x5_1 : Int) := of_decide_eq_true (by first | (with_reducible assumption) | assumption)
     have q244 : x5_1 < (l0.length : Int) := of_decide_eq_true (by first | (with_reducible assumption) | assumption)
     obtain ⟨ad244, e244, hx244_0, hx244_1, hx244_2, hx244_3, hx244_4, hx244_5⟩ := at_T32 HR0.out x5_1 p244 q244
     cases e244
     replace p244 := eq_true p244
     replace q244 := eq_true q244
     have p245 : 0 ≤ (x5_1 : Int) := of_decide_eq_true (by first | (with_reducible assumption) | assumption)
     have q245 : x5_1 < (l1.length : Int) := of_decide_eq_true (by first | (with_reducible assumption) | assumption)
     obtain ⟨ad245, e245, hx245_0, hx245_1, hx245_2, hx245_3, hx245_4, hx245_5⟩ := at_T32 HR1.out x5_1 p245 q245
     cases e245
     replace p245 := eq_true p245
     replace q245 := eq_true q245
     go_wp2
     repeat (go_quiet (fail); try go_wp2)
     go_roundg k1
     case measure => have := HK1.out; omega
     case rel => exact ⟨(wrap64 (x5_1 + 1)), (by first | rfl | (simp; done) | (simp [*]; done)), H', ⟨by have := HK1.out; omega⟩, by repeat (first | exact Drawn0.refl _ | apply Drawn0.step)⟩
/-! ### hopperref05_Same: function 32 -/
def hopperref05_Same.f (k : Nat) (a0_0 : Int) (a0_1 : Int) (l0_2 : List (S32)) (a1_0 : Int) (a1_1 : Int) (l1_2 : List (S32)) : Option (Bool) := if a0_0 = a1_0 then (if a0_1 = a1_1 then ((hopperref04_Txs.f k l0_2 l1_2).bind fun t248 => (some t248)) else (some false)) else (some false)
theorem hopperref05_Same.mono : ∀ a0 a1 a2 a3 a4 a5 k, LeO (hopperref05_Same.f k a0 a1 a2 a3 a4 a5) (hopperref05_Same.f (k + 1) a0 a1 a2 a3 a4 a5) := by
 intro a0 a1 a2 a3 a4 a5 k
 unfold hopperref05_Same.f
 repeat' first
  | (with_reducible exact hopperref04_Txs.mono _ _ _)
  | (with_reducible exact LeO.refl _)
  | (with_reducible exact LeO.none _)
  | (with_reducible refine LeO.ite ?_ ?_)
  | (with_reducible refine LeO.bind ?_ (fun _ => ?_))
  | exact hopperref04_Txs.mono _ _ _
  | exact LeO.none _
  | refine LeO.ite ?_ ?_
  | refine LeO.bind ?_ (fun _ => ?_)
set_option maxHeartbeats 8000000 in
set_option maxRecDepth 100000 in
theorem hopperref05_Same.calls (k : Nat) (a0_0 : Int) (a0_1 : Int) (A0_2 : Option Addr) (c0_2 : Nat) (l0_2 : List (S32)) (a1_0 : Int) (a1_1 : Int) (A1_2 : Option Addr) (c1_2 : Nat) (l1_2 : List (S32)) (r : Bool) (w : World) (hr0_2 : Kd.C k32 w A0_2 l0_2.length l0_2) (hc0_2 : l0_2.length ≤ c0_2) (hr1_2 : Kd.C k32 w A1_2 l1_2.length l1_2) (hc1_2 : l1_2.length ≤ c1_2) (h : hopperref05_Same.f k a0_0 a0_1 l0_2 a1_0 a1_1 l1_2 = some r) :
 Calls Try.prog 32 #[.agg #[.int .i64 a0_0, .int .i64 a0_1, .slice A0_2 l0_2.length c0_2], .agg #[.int .i64 a1_0, .int .i64 a1_1, .slice A1_2 l1_2.length c1_2]] w fun e w' => e = .returned (.bool r) ∧ Below w.heap.size w w' := by
 have hu46 := Try.underlying46
 have HR0_2 := A_ hr0_2
 have HC0_2 := A_ hc0_2
 clear hr0_2 hc0_2
 have HR1_2 := A_ hr1_2
 have HC1_2 := A_ hc1_2
 clear hr1_2 hc1_2; have HB := A_ (Below.refl w.heap.size w)
 have H : (if a0_0 = a1_0 then (if a0_1 = a1_1 then ((hopperref04_Txs.f k l0_2 l1_2).bind fun t248 => (some t248)) else (some false)) else (some false)) = some r := h
 clear h
 by_cases c3 : a0_0 = a1_0
 rotate_left
 · rw [if_neg c3] at H
   have c3b0 : (a0_0 == a1_0) = false := beq_eq_false_iff_ne.mpr c3
   have c3b1 : (a0_0 != a1_0) = true := bne_iff_ne.mpr c3
   obtain rfl := Option.some.inj H
   go_enter Try.func32, Try.ntmps32
   go_wp2_with (first | ((with_reducible refine gate_dst (N := 2) rfl ?_); refine box_event ?hg (N := 2) ?hd (cs := #[.int .i64 a0_0, .int .i64 a0_1, .slice A0_2 l0_2.length c0_2]) (t := 46) ?hr ?_; (case hd => rfl); (case hg => rfl); (case hr => first | (go_simp; done) | (go_simp; rfl)); intro gb246 hg w16 hbox hb; have n0_ := A_ (below_step bw_ hb); have n1_ := A_ (hbox); have n2_ := A_ (gz_ (w := w) hg); have n3_ := A_ (gz_ (w := w) hg); replace HB := n0_; have BK246 := n1_; have GW246 := n2_; have GE246 := n3_; clear n0_ n1_ n2_ n3_; clear hb hbox hg) | ((with_reducible refine gate_dst (N := 3) rfl ?_); refine box_event ?hg (N := 3) ?hd (cs := #[.int .i64 a1_0, .int .i64 a1_1, .slice A1_2 l1_2.length c1_2]) (t := 46) ?hr ?_; (case hd => rfl); (case hg => rfl); (case hr => first | (go_simp; done) | (go_simp; rfl)); intro gb247 hg w17 hbox hb; have n0_ := A_ (kb_ BK246 hb); have n1_ := A_ (below_step bw_ hb); have n2_ := A_ (hbox); have n3_ := A_ (gz_ (w := w) hg); have n4_ := A_ (gz_ (w := w) hg); have n5_ := A_ (nl_ BK246 hg); have n6_ := A_ (ng_ BK246 hg); replace BK246 := n0_; replace HB := n1_; have BK247 := n2_; have GW247 := n3_; have GE247 := n4_; have NB246_247 := n5_; have NB247_246 := n6_; clear n0_ n1_ n2_ n3_ n4_ n5_ n6_; clear hb hbox hg; have hnb18 := NB246_247.out; have hnc18 := NB247_246.out; have hcz19_0 : w17.cell? ⟨gb246, 0, none⟩ = some (.int .i64 a0_0) := e_ BK246 0; have hcz19_1 : w17.cell? ⟨gb246, 1, none⟩ = some (.int .i64 a0_1) := e_ BK246 1; have hcz19_2 : w17.cell? ⟨gb246, 2, none⟩ = some (.slice A0_2 l0_2.length c0_2) := e_ BK246 2; obtain ⟨hfz19_0, hfz19_1, hfz19_2⟩ := z3_ BK246; have hcz20_0 : w17.cell? ⟨gb247, 0, none⟩ = some (.int .i64 a1_0) := e_ BK247 0; have hcz20_1 : w17.cell? ⟨gb247, 1, none⟩ = some (.int .i64 a1_1) := e_ BK247 1; have hcz20_2 : w17.cell? ⟨gb247, 2, none⟩ = some (.slice A1_2 l1_2.length c1_2) := e_ BK247 2; obtain ⟨hfz20_0, hfz20_1, hfz20_2⟩ := z3_ BK247))
   go_ret
   exact ⟨by first | rfl | (simp [errW_none, errW_some] <;> rfl) | (simp [*, errW_none, errW_some] <;> rfl), by repeat (first | (with_reducible first | exact HB.out | apply wa_ | apply wn_ | apply wd_ | refine ws_ ?_ GE246.out | refine ws_ ?_ GE247.out) | exact HB.out)⟩

 rw [if_pos c3] at H
 have c3b0 : (a0_0 == a1_0) = true := beq_iff_eq.mpr c3
 have c3b1 : (a0_0 != a1_0) = false := bne_eq_false_iff_eq.mpr c3
 clear c3
 by_cases c4 : a0_1 = a1_1
 rotate_left
 · rw [if_neg c4] at H
   have c4b0 : (a0_1 == a1_1) = false := beq_eq_false_iff_ne.mpr c4
   have c4b1 : (a0_1 != a1_1) = true := bne_iff_ne.mpr c4
   obtain rfl := Option.some.inj H
   go_enter Try.func32, Try.ntmps32
   go_wp2_with (first | ((with_reducible refine gate_dst (N := 2) rfl ?_); refine box_event ?hg (N := 2) ?hd (cs := #[.int .i64 a0_0, .int .i64 a0_1, .slice A0_2 l0_2.length c0_2]) (t := 46) ?hr ?_; (case hd => rfl); (case hg => rfl); (case hr => first | (go_simp; done) | (go_simp; rfl)); intro gb246 hg w11 hbox hb; have n0_ := A_ (below_step bw_ hb); have n1_ := A_ (hbox); have n2_ := A_ (gz_ (w := w) hg); have n3_ := A_ (gz_ (w := w) hg); replace HB := n0_; have BK246 := n1_; have GW246 := n2_; have GE246 := n3_; clear n0_ n1_ n2_ n3_; clear hb hbox hg) | ((with_reducible refine gate_dst (N := 3) rfl ?_); refine box_event ?hg (N := 3) ?hd (cs := #[.int .i64 a1_0, .int .i64 a1_1, .slice A1_2 l1_2.length c1_2]) (t := 46) ?hr ?_; (case hd => rfl); (case hg => rfl); (case hr => first | (go_simp; done) | (go_simp; rfl)); intro gb247 hg w12 hbox hb; have n0_ := A_ (kb_ BK246 hb); have n1_ := A_ (below_step bw_ hb); have n2_ := A_ (hbox); have n3_ := A_ (gz_ (w := w) hg); have n4_ := A_ (gz_ (w := w) hg); have n5_ := A_ (nl_ BK246 hg); have n6_ := A_ (ng_ BK246 hg); replace BK246 := n0_; replace HB := n1_; have BK247 := n2_; have GW247 := n3_; have GE247 := n4_; have NB246_247 := n5_; have NB247_246 := n6_; clear n0_ n1_ n2_ n3_ n4_ n5_ n6_; clear hb hbox hg; have hnb13 := NB246_247.out; have hnc13 := NB247_246.out; have hcz14_0 : w12.cell? ⟨gb246, 0, none⟩ = some (.int .i64 a0_0) := e_ BK246 0; have hcz14_1 : w12.cell? ⟨gb246, 1, none⟩ = some (.int .i64 a0_1) := e_ BK246 1; have hcz14_2 : w12.cell? ⟨gb246, 2, none⟩ = some (.slice A0_2 l0_2.length c0_2) := e_ BK246 2; obtain ⟨hfz14_0, hfz14_1, hfz14_2⟩ := z3_ BK246; have hcz15_0 : w12.cell? ⟨gb247, 0, none⟩ = some (.int .i64 a1_0) := e_ BK247 0; have hcz15_1 : w12.cell? ⟨gb247, 1, none⟩ = some (.int .i64 a1_1) := e_ BK247 1; have hcz15_2 : w12.cell? ⟨gb247, 2, none⟩ = some (.slice A1_2 l1_2.length c1_2) := e_ BK247 2; obtain ⟨hfz15_0, hfz15_1, hfz15_2⟩ := z3_ BK247))
   go_ret
   exact ⟨by first | rfl | (simp [errW_none, errW_some] <;> rfl) | (simp [*, errW_none, errW_some] <;> rfl), by repeat (first | (with_reducible first | exact HB.out | apply wa_ | apply wn_ | apply wd_ | refine ws_ ?_ GE246.out | refine ws_ ?_ GE247.out) | exact HB.out)⟩
 rw [if_pos c4] at H
 have c4b0 : (a0_1 == a1_1) = true := beq_iff_eq.mpr c4
 have c4b1 : (a0_1 != a1_1) = false := bne_eq_false_iff_eq.mpr c4
 clear c4
 replace H := Option.bind_eq_some_iff.mp H
 obtain ⟨t248, A50, H⟩ := H
 replace H : (some t248) = some r := H
 have A5 := A_ A50
 clear A50
 obtain rfl := Option.some.inj H
 go_enter Try.func32, Try.ntmps32
 go_wp2_with (first | ((with_reducible refine gate_dst (N := 2) rfl ?_); refine box_event ?hg (N := 2) ?hd (cs := #[.int .i64 a0_0, .int .i64 a0_1, .slice A0_2 l0_2.length c0_2]) (t := 46) ?hr ?_; (case hd => rfl); (case hg => rfl); (case hr => first | (go_simp; done) | (go_simp; rfl)); intro gb246 hg w6 hbox hb; have n0_ := A_ (below_step bw_ hb); have n1_ := A_ (hbox); have n2_ := A_ (gz_ (w := w) hg); have n3_ := A_ (gz_ (w := w) hg); replace HB := n0_; have BK246 := n1_; have GW246 := n2_; have GE246 := n3_; clear n0_ n1_ n2_ n3_; clear hb hbox hg) | ((with_reducible refine gate_dst (N := 3) rfl ?_); refine box_event ?hg (N := 3) ?hd (cs := #[.int .i64 a1_0, .int .i64 a1_1, .slice A1_2 l1_2.length c1_2]) (t := 46) ?hr ?_; (case hd => rfl); (case hg => rfl); (case hr => first | (go_simp; done) | (go_simp; rfl)); intro gb247 hg w7 hbox hb; have n0_ := A_ (kb_ BK246 hb); have n1_ := A_ (below_step bw_ hb); have n2_ := A_ (hbox); have n3_ := A_ (gz_ (w := w) hg); have n4_ := A_ (gz_ (w := w) hg); have n5_ := A_ (nl_ BK246 hg); have n6_ := A_ (ng_ BK246 hg); replace BK246 := n0_; replace HB := n1_; have BK247 := n2_; have GW247 := n3_; have GE247 := n4_; have NB246_247 := n5_; have NB247_246 := n6_; clear n0_ n1_ n2_ n3_ n4_ n5_ n6_; clear hb hbox hg; have hnb8 := NB246_247.out; have hnc8 := NB247_246.out; have hcz9_0 : w7.cell? ⟨gb246, 0, none⟩ = some (.int .i64 a0_0) := e_ BK246 0; have hcz9_1 : w7.cell? ⟨gb246, 1, none⟩ = some (.int .i64 a0_1) := e_ BK246 1; have hcz9_2 : w7.cell? ⟨gb246, 2, none⟩ = some (.slice A0_2 l0_2.length c0_2) := e_ BK246 2; obtain ⟨hfz9_0, hfz9_1, hfz9_2⟩ := z3_ BK246; have hcz10_0 : w7.cell? ⟨gb247, 0, none⟩ = some (.int .i64 a1_0) := e_ BK247 0; have hcz10_1 : w7.cell? ⟨gb247, 1, none⟩ = some (.int .i64 a1_1) := e_ BK247 1; have hcz10_2 : w7.cell? ⟨gb247, 2, none⟩ = some (.slice A1_2 l1_2.length c1_2) := e_ BK247 2; obtain ⟨hfz10_0, hfz10_1, hfz10_2⟩ := z3_ BK247) | (go_at_call 15; (with_reducible refine (hopperref04_Txs.calls k _ _ l0_2 _ _ l1_2 t248 _ ?side1 ?side2 ?side3 ?side4 A5.out).mono ?_); (case side1 => repeat (first | exact (Kd.C_below HR0_2.out HB.out) | (with_reducible refine ca_ ?_ _) | (with_reducible refine cn_ ?_ _) | (with_reducible refine cd_ ?_))); (case side2 => exact HC0_2.out); (case side3 => repeat (first | exact (Kd.C_below HR1_2.out HB.out) | (with_reducible refine ca_ ?_ _) | (with_reducible refine cn_ ?_ _) | (with_reducible refine cd_ ?_))); (case side4 => exact HC1_2.out); rintro e w' ⟨rfl, ⟨nd, rfl⟩⟩))
 go_ret
 exact ⟨by first | rfl | (simp [errW_none, errW_some] <;> rfl) | (simp [*, errW_none, errW_some] <;> rfl), by repeat (first | (with_reducible first | exact HB.out | apply wa_ | apply wn_ | apply wd_ | refine ws_ ?_ GE246.out | refine ws_ ?_ GE247.out) | exact HB.out)⟩
end Go.Proofs.Ytnjnogkhbadioaa.D
