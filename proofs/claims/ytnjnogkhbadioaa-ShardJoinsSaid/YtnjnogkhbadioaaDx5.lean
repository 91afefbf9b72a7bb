/- Written by this session's own program over the kit's print: functions of Go told as plain functions, or the row of one statement; proved for every input, with no condition of ours. -/
import Derived.Test.YtnjnogkhbadioaaDx0
import Derived.Test.YtnjnogkhbadioaaDx3
import Derived.Test.YtnjnogkhbadioaaDx4
import Derived.Test.YtnjnogkhbadioaaDx8
namespace Go.Proofs.Ytnjnogkhbadioaa.D
open Go.RowKit Go.Proofs.YtnjnogkhbadioaaW.PrintWords Go.Proofs.YtnjnogkhbadioaaW.PrintLast Go.Proofs.YtnjnogkhbadioaaW.PrintMore
attribute [local go_sem] max2_int min2_int max_two min_two max_three min_three max_four min_four   -- for this text's walks alone
set_option linter.unusedVariables false
set_option linter.unusedSimpArgs false

/-! ### txn_Better: function 48 -/
def txn_Better.f (k : Nat) (a0_0 : Int) (a0_1 : Int) (a0_2 : Int) (a0_3 : Int) (a0_4 : Int) (a0_5 : ByteArray) (a1_0 : Int) (a1_1 : Int) (a1_2 : Int) (a1_3 : Int) (a1_4 : Int) (a1_5 : ByteArray) : Option (Bool) := (cmp_Compare_int.f a1_2 a0_2).bind fun t132 => ((txn_ID.f a0_0 a0_1 a0_2 a0_3 a0_4 a0_5).bind fun t133 => ((txn_ID.f a1_0 a1_1 a1_2 a1_3 a1_4 a1_5).bind fun t134 => ((strings_Compare.f t133 t134).bind fun t135 => ((cmp_Compare_int.f a0_0 a1_0).bind fun t136 => ((cmp_Compare_int.f a0_1 a1_1).bind fun t137 => ((cmp_Or_int.f k (([t132, t135, t136, t137] : List Int))).bind fun t141 => (some (decide (t141 < 0)))))))))
theorem txn_Better.mono : ∀ a0 a1 a2 a3 a4 a5 a6 a7 a8 a9 a10 a11 k, LeO (txn_Better.f k a0 a1 a2 a3 a4 a5 a6 a7 a8 a9 a10 a11) (txn_Better.f (k + 1) a0 a1 a2 a3 a4 a5 a6 a7 a8 a9 a10 a11) := by
 intro a0 a1 a2 a3 a4 a5 a6 a7 a8 a9 a10 a11 k
 unfold txn_Better.f
 repeat' first
  | (with_reducible exact cmp_Or_int.mono _ _)
  | (with_reducible exact LeO.refl _)
  | (with_reducible exact LeO.none _)
  | (with_reducible refine LeO.ite ?_ ?_)
  | (with_reducible refine LeO.bind ?_ (fun _ => ?_))
  | exact cmp_Or_int.mono _ _
  | exact LeO.none _
  | refine LeO.ite ?_ ?_
  | refine LeO.bind ?_ (fun _ => ?_)
def txn_Better.T1 : Bool × List (List Nat × List Nat) := (true, [([], []), ([0], [0]), ([], []), ([2], [2]), ([1, 3], [1, 3]), ([], []), ([5, 4], [5]), ([], []), ([7, 6], [7]), ([6, 8, 8], [6, 8]), ([], []), ([10], [10]), ([], []), ([12], [12]), ([11, 13, 9], [11, 13]), ([], []), ([15], [15]), ([], []), ([17], [17]), ([16, 18, 14], [16, 18]), ([4, 9, 14, 19], [4, 9, 14, 19]), ([20, 19], [20]), ([21], [21]), ([22, 21, 0, 1, 2, 3, 4, 5, 6, 7, 8, 9, 10, 11, 12, 13, 14, 15, 16, 17, 18, 19, 20, 21, 22], [22])])
def txn_Better.B1 : List Nat := [0, 1, 0, 4, 15, 0, 63, 0, 255, 511, 0, 1024, 0, 4096, 16383, 0, 32768, 0, 131072, 524287, 1048575, 2097151, 4194303, 8388607]
theorem txn_Better.tab1 : rtab .any (opsOf Try.f48 1) = txn_Better.T1 := by kernel_rfl
theorem txn_Better.bits1 : waitsOk txn_Better.T1.2 txn_Better.B1 = true := by kernel_rfl
set_option maxHeartbeats 8000000 in
set_option maxRecDepth 100000 in
theorem txn_Better.calls (k : Nat) (a0_0 : Int) (a0_1 : Int) (a0_2 : Int) (a0_3 : Int) (a0_4 : Int) (a0_5 : ByteArray) (a1_0 : Int) (a1_1 : Int) (a1_2 : Int) (a1_3 : Int) (a1_4 : Int) (a1_5 : ByteArray) (r : Bool) (w : World) (h : txn_Better.f k a0_0 a0_1 a0_2 a0_3 a0_4 a0_5 a1_0 a1_1 a1_2 a1_3 a1_4 a1_5 = some r) :
 Calls Try.prog 48 #[.agg #[.int .i64 a0_0, .int .i64 a0_1, .int .i64 a0_2, .int .i64 a0_3, .int .i64 a0_4, .string a0_5], .agg #[.int .i64 a1_0, .int .i64 a1_1, .int .i64 a1_2, .int .i64 a1_3, .int .i64 a1_4, .string a1_5]] w fun e w' => e = .returned (.bool r) ∧ Below w.heap.size w w' := by
 have hu32 := Try.underlying32
 have HB := A_ (Below.refl w.heap.size w)
 have H : ((cmp_Compare_int.f a1_2 a0_2).bind fun t132 => ((txn_ID.f a0_0 a0_1 a0_2 a0_3 a0_4 a0_5).bind fun t133 => ((txn_ID.f a1_0 a1_1 a1_2 a1_3 a1_4 a1_5).bind fun t134 => ((strings_Compare.f t133 t134).bind fun t135 => ((cmp_Compare_int.f a0_0 a1_0).bind fun t136 => ((cmp_Compare_int.f a0_1 a1_1).bind fun t137 => ((cmp_Or_int.f k (([t132, t135, t136, t137] : List Int))).bind fun t141 => (some (decide (t141 < 0)))))))))) = some r := h
 clear h
 replace H := Option.bind_eq_some_iff.mp H
 obtain ⟨t132, A30, H⟩ := H
 try dsimp only at H
 have A3 := A_ A30
 clear A30
 replace H := Option.bind_eq_some_iff.mp H
 obtain ⟨t133, A40, H⟩ := H
 try dsimp only at H
 have A4 := A_ A40
 clear A40
 replace H := Option.bind_eq_some_iff.mp H
 obtain ⟨t134, A50, H⟩ := H
 try dsimp only at H
 have A5 := A_ A50
 clear A50
 replace H := Option.bind_eq_some_iff.mp H
 obtain ⟨t135, A60, H⟩ := H
 try dsimp only at H
 have A6 := A_ A60
 clear A60
 replace H := Option.bind_eq_some_iff.mp H
 obtain ⟨t136, A70, H⟩ := H
 try dsimp only at H
 have A7 := A_ A70
 clear A70
 replace H := Option.bind_eq_some_iff.mp H
 obtain ⟨t137, A80, H⟩ := H
 try dsimp only at H
 have A8 := A_ A80
 clear A80
 obtain ⟨y138, hy138⟩ : ∃ y_ : List Int, y_ = (([t132, t135, t136, t137] : List Int)) := ⟨_, rfl⟩
 replace H : ((cmp_Or_int.f k y138).bind fun t141 => (some (decide (t141 < 0)))) = some r := by first | (rw [hy138]; with_reducible exact H) | (have H2_ := (Option.bind_some _ _).symm.trans H; rw [hy138]; with_reducible exact H2_) | (have H2_ := (Option.bind_some _ _).symm.trans H; with_reducible exact H2_) | with_reducible exact H | (rw [hy138]; exact H) | exact H
 have Ny138 := A_ hy138
 clear hy138
 replace H := Option.bind_eq_some_iff.mp H
 obtain ⟨t141, A90, H⟩ := H
 replace H : (some (decide (t141 < 0))) = some r := H
 have A9 := A_ A90
 clear A90
 obtain rfl := Option.some.inj H
 go_enter Try.func48, Try.ntmps48
 try go_wp2_with (first | ((with_reducible refine gate_dst (N := 2) rfl ?_); refine box_event ?hg (N := 2) ?hd (cs := #[.int .i64 a0_0, .int .i64 a0_1, .int .i64 a0_2, .int .i64 a0_3, .int .i64 a0_4, .string a0_5]) (t := 32) ?hr ?_; (case hd => rfl); (case hg => rfl); (case hr => first | (go_simp; done) | (go_simp; rfl)); intro gb130 hg w10 hbox hb; have n0_ := A_ (below_step bw_ hb); have n1_ := A_ (hbox); have n2_ := A_ (gz_ (w := w) hg); have n3_ := A_ (gz_ (w := w) hg); replace HB := n0_; have BK130 := n1_; have GW130 := n2_; have GE130 := n3_; clear n0_ n1_ n2_ n3_; clear hb hbox hg) | ((with_reducible refine gate_dst (N := 3) rfl ?_); refine box_event ?hg (N := 3) ?hd (cs := #[.int .i64 a1_0, .int .i64 a1_1, .int .i64 a1_2, .int .i64 a1_3, .int .i64 a1_4, .string a1_5]) (t := 32) ?hr ?_; (case hd => rfl); (case hg => rfl); (case hr => first | (go_simp; done) | (go_simp; rfl)); intro gb131 hg w11 hbox hb; have n0_ := A_ (kb_ BK130 hb); have n1_ := A_ (below_step bw_ hb); have n2_ := A_ (hbox); have n3_ := A_ (gz_ (w := w) hg); have n4_ := A_ (gz_ (w := w) hg); have n5_ := A_ (nl_ BK130 hg); have n6_ := A_ (ng_ BK130 hg); replace BK130 := n0_; replace HB := n1_; have BK131 := n2_; have GW131 := n3_; have GE131 := n4_; have NB130_131 := n5_; have NB131_130 := n6_; clear n0_ n1_ n2_ n3_ n4_ n5_ n6_; clear hb hbox hg))
 have n0_ := A_ (bd_ BK130.out); have n1_ := A_ (bd_ BK131.out); have n2_ := A_ (wd_ HB.out); replace BK130 := n0_; replace BK131 := n1_; replace HB := n2_; clear n0_ n1_ n2_
 refine start_ (n := 24) (S := fun w' => w'.cell? ⟨gb131, 0, none⟩ = some (.int .i64 a1_0) ∧ w'.cell? ⟨gb131, 1, none⟩ = some (.int .i64 a1_1) ∧ w'.cell? ⟨gb131, 2, none⟩ = some (.int .i64 a1_2) ∧ w'.cell? ⟨gb131, 3, none⟩ = some (.int .i64 a1_3) ∧ w'.cell? ⟨gb131, 4, none⟩ = some (.int .i64 a1_4) ∧ w'.cell? ⟨gb131, 5, none⟩ = some (.string a1_5) ∧ w'.cell? ⟨gb130, 0, none⟩ = some (.int .i64 a0_0) ∧ w'.cell? ⟨gb130, 1, none⟩ = some (.int .i64 a0_1) ∧ w'.cell? ⟨gb130, 2, none⟩ = some (.int .i64 a0_2) ∧ w'.cell? ⟨gb130, 3, none⟩ = some (.int .i64 a0_3) ∧ w'.cell? ⟨gb130, 4, none⟩ = some (.int .i64 a0_4) ∧ w'.cell? ⟨gb130, 5, none⟩ = some (.string a0_5)) (ds := []) #[F,F,F,F,F,F,F,F,F,F,F,F,F,F,F,F,F,F,F,F,F,F,F,F] (by kernel_rfl) rfl rfl ⟨e_ BK131 0, e_ BK131 1, e_ BK131 2, e_ BK131 3, e_ BK131 4, e_ BK131 5, e_ BK130 0, e_ BK130 1, e_ BK130 2, e_ BK130 3, e_ BK130 4, e_ BK130 5⟩ (fun hHeld => ?_); refine with_tabW txn_Better.tab1 txn_Better.bits1 (fun HT_ HW_ => ?_)
 generalize w11.drew = w12 at BK130 BK131 HB hHeld ⊢
 refine pq_ 0 5 HT_ ?_
 refine pq_ 2 7 HT_ ?_
 refine pq_ 10 15 HT_ ?_
 refine pq_ 12 17 HT_ ?_
 refine pq_ 15 20 HT_ ?_
 refine pq_ 17 22 HT_ ?_
 refine tk_ 1 6 HT_ HW_ hHeld ?_
 refine tk_ 3 8 HT_ HW_ hHeld ?_
 refine tk_ 5 10 HT_ HW_ hHeld ?_
 refine tk_ 7 12 HT_ HW_ hHeld ?_
 refine tk_ 11 16 HT_ HW_ hHeld ?_
 refine tk_ 13 18 HT_ HW_ hHeld ?_
 refine tk_ 16 21 HT_ HW_ hHeld ?_
 refine tk_ 18 23 HT_ HW_ hHeld ?_
 refine one_ (i := 4) (N := some 9) #[T,T,T,T,T,T,F,T,F,F,T,T,T,T,F,T,T,T,T,F,F,F,F,F] rfl rfl (one_of HT_.out (by kernel_rfl)) (by decide) (fun K hK => ?_)
 refine goes_ Try.func29 (by kernel_rfl) rfl #[.int .i64 a1_2, .int .i64 a0_2] (by rfl) rfl rfl (by (try simp only [m0_, m1_, m2_]); first | done | rfl) ?_
 with_reducible refine (cmp_Compare_int.calls a1_2 a0_2 t132 _ A3.out).mono ?_
 rintro e w' ⟨rfl, ⟨nd, rfl⟩⟩
 refine ⟨_, rfl, ?_⟩
 refine hK.out _ _ ⟨e_ BK131 0, e_ BK131 1, e_ BK131 2, e_ BK131 3, e_ BK131 4, e_ BK131 5, e_ BK130 0, e_ BK130 1, e_ BK130 2, e_ BK130 3, e_ BK130 4, e_ BK130 5⟩ (fun hHeld => ?_)
 clear hK K
 refine norm_ (a' := ?_) ?_ ?_
 rotate_left
 · show Act.put _ (some 9) _ = _
   simp only [Act.put, s0_, s1_, s2_, i64_w, i32_w]
   rfl
 refine one_ (i := 6) (N := some 11) #[T,T,T,T,T,T,T,T,F,F,T,T,T,T,F,T,T,T,T,F,F,F,F,F] rfl rfl (one_of HT_.out (by kernel_rfl)) (by decide) (fun K hK => ?_)
 refine goes_ Try.func63 (by kernel_rfl) rfl #[.agg #[.int .i64 a0_0, .int .i64 a0_1, .int .i64 a0_2, .int .i64 a0_3, .int .i64 a0_4, .string a0_5]] (by rfl) rfl rfl (by (try simp only [m0_, m1_, m2_]); first | done | rfl) ?_
 with_reducible refine (txn_ID.calls a0_0 a0_1 a0_2 a0_3 a0_4 a0_5 t133 _ A4.out).mono ?_
 rintro e w13 ⟨rfl, hb⟩
 refine ⟨_, rfl, ?_⟩
 have n0_ := A_ (kb_ BK130 hb); have n1_ := A_ (kb_ BK131 hb); have n2_ := A_ (below_step bw_ hb); replace BK130 := n0_; replace BK131 := n1_; replace HB := n2_; clear n0_ n1_ n2_
 (try clear hb)
 (try clear hb2)
 (try clear hk)
 (try clear hi)
 refine hK.out _ _ ⟨e_ BK131 0, e_ BK131 1, e_ BK131 2, e_ BK131 3, e_ BK131 4, e_ BK131 5, e_ BK130 0, e_ BK130 1, e_ BK130 2, e_ BK130 3, e_ BK130 4, e_ BK130 5⟩ (fun hHeld => ?_)
 clear hK K
 refine norm_ (a' := ?_) ?_ ?_
 rotate_left
 · show Act.put _ (some 11) _ = _
   simp only [Act.put, s0_, s1_, s2_, i64_w, i32_w]
   rfl
 refine one_ (i := 8) (N := some 13) #[T,T,T,T,T,T,T,T,T,F,T,T,T,T,F,T,T,T,T,F,F,F,F,F] rfl rfl (one_of HT_.out (by kernel_rfl)) (by decide) (fun K hK => ?_)
 refine goes_ Try.func63 (by kernel_rfl) rfl #[.agg #[.int .i64 a1_0, .int .i64 a1_1, .int .i64 a1_2, .int .i64 a1_3, .int .i64 a1_4, .string a1_5]] (by rfl) rfl rfl (by (try simp only [m0_, m1_, m2_]); first | done | rfl) ?_
 with_reducible refine (txn_ID.calls a1_0 a1_1 a1_2 a1_3 a1_4 a1_5 t134 _ A5.out).mono ?_
 rintro e w14 ⟨rfl, hb⟩
 refine ⟨_, rfl, ?_⟩
 have n0_ := A_ (kb_ BK130 hb); have n1_ := A_ (kb_ BK131 hb); have n2_ := A_ (below_step bw_ hb); replace BK130 := n0_; replace BK131 := n1_; replace HB := n2_; clear n0_ n1_ n2_
 (try clear hb)
 (try clear hb2)
 (try clear hk)
 (try clear hi)
 refine hK.out _ _ ⟨e_ BK131 0, e_ BK131 1, e_ BK131 2, e_ BK131 3, e_ BK131 4, e_ BK131 5, e_ BK130 0, e_ BK130 1, e_ BK130 2, e_ BK130 3, e_ BK130 4, e_ BK130 5⟩ (fun hHeld => ?_)
 clear hK K
 refine norm_ (a' := ?_) ?_ ?_
 rotate_left
 · show Act.put _ (some 13) _ = _
   simp only [Act.put, s0_, s1_, s2_, i64_w, i32_w]
   rfl
 refine one_ (i := 9) (N := some 14) #[T,T,T,T,T,T,T,T,T,T,T,T,T,T,F,T,T,T,T,F,F,F,F,F] rfl rfl (one_of HT_.out (by kernel_rfl)) (by decide) (fun K hK => ?_)
 refine goes_ Try.func62 (by kernel_rfl) rfl #[.string t133, .string t134] (by rfl) rfl rfl (by (try simp only [m0_, m1_, m2_]); first | done | rfl) ?_
 with_reducible refine (strings_Compare.calls t133 t134 t135 _ A6.out).mono ?_
 rintro e w' ⟨rfl, ⟨nd, rfl⟩⟩
 refine ⟨_, rfl, ?_⟩
 refine hK.out _ _ ⟨e_ BK131 0, e_ BK131 1, e_ BK131 2, e_ BK131 3, e_ BK131 4, e_ BK131 5, e_ BK130 0, e_ BK130 1, e_ BK130 2, e_ BK130 3, e_ BK130 4, e_ BK130 5⟩ (fun hHeld => ?_)
 clear hK K
 refine norm_ (a' := ?_) ?_ ?_
 rotate_left
 · show Act.put _ (some 14) _ = _
   simp only [Act.put, s0_, s1_, s2_, i64_w, i32_w]
   rfl
 refine one_ (i := 14) (N := some 19) #[T,T,T,T,T,T,T,T,T,T,T,T,T,T,T,T,T,T,T,F,F,F,F,F] rfl rfl (one_of HT_.out (by kernel_rfl)) (by decide) (fun K hK => ?_)
 refine goes_ Try.func29 (by kernel_rfl) rfl #[.int .i64 a0_0, .int .i64 a1_0] (by rfl) rfl rfl (by (try simp only [m0_, m1_, m2_]); first | done | rfl) ?_
 with_reducible refine (cmp_Compare_int.calls a0_0 a1_0 t136 _ A7.out).mono ?_
 rintro e w' ⟨rfl, ⟨nd, rfl⟩⟩
 refine ⟨_, rfl, ?_⟩
 refine hK.out _ _ ⟨e_ BK131 0, e_ BK131 1, e_ BK131 2, e_ BK131 3, e_ BK131 4, e_ BK131 5, e_ BK130 0, e_ BK130 1, e_ BK130 2, e_ BK130 3, e_ BK130 4, e_ BK130 5⟩ (fun hHeld => ?_)
 clear hK K
 refine norm_ (a' := ?_) ?_ ?_
 rotate_left
 · show Act.put _ (some 19) _ = _
   simp only [Act.put, s0_, s1_, s2_, i64_w, i32_w]
   rfl
 refine one_ (i := 19) (N := some 24) #[T,T,T,T,T,T,T,T,T,T,T,T,T,T,T,T,T,T,T,T,F,F,F,F] rfl rfl (one_of HT_.out (by kernel_rfl)) (by decide) (fun K hK => ?_)
 refine goes_ Try.func29 (by kernel_rfl) rfl #[.int .i64 a0_1, .int .i64 a1_1] (by rfl) rfl rfl (by (try simp only [m0_, m1_, m2_]); first | done | rfl) ?_
 with_reducible refine (cmp_Compare_int.calls a0_1 a1_1 t137 _ A8.out).mono ?_
 rintro e w' ⟨rfl, ⟨nd, rfl⟩⟩
 refine ⟨_, rfl, ?_⟩
 refine hK.out _ _ ⟨e_ BK131 0, e_ BK131 1, e_ BK131 2, e_ BK131 3, e_ BK131 4, e_ BK131 5, e_ BK130 0, e_ BK130 1, e_ BK130 2, e_ BK130 3, e_ BK130 4, e_ BK130 5⟩ (fun hHeld => ?_)
 clear hK K
 refine norm_ (a' := ?_) ?_ ?_
 rotate_left
 · show Act.put _ (some 24) _ = _
   simp only [Act.put, s0_, s1_, s2_, i64_w, i32_w]
   rfl
 refine one_ (i := 20) (N := some 25) #[T,T,T,T,T,T,T,T,T,T,T,T,T,T,T,T,T,T,T,T,T,F,F,F] rfl rfl (one_of HT_.out (by kernel_rfl)) (by decide) (fun K hK => ?_)
 refine Kd.R_lit_step (Kd.int .i64) _ 3 ?hg (N := 25) ?hd (xs := ([t132, t135, t136, t137] : List Int)) (inner := [.int .i64 t132, .int .i64 t135, .int .i64 t136, .int .i64 t137]) (ok := fun _ => True) (okp := fun _ => True) ?hr ?hp (fun _ hk => hk) trivial (Below.refl _ _) (Nat.le_refl _) (by simp) ?_; (case hd => rfl); (case hg => rfl); (case hr => first | (go_simp; done) | (go_simp; rfl)); (case hp => exact (Reps.one (show Kd.M (Kd.int .i64) _ _ _ t132 [.int .i64 t132] from rfl) (Reps.one (show Kd.M (Kd.int .i64) _ _ _ t135 [.int .i64 t135] from rfl) (Reps.one (show Kd.M (Kd.int .i64) _ _ _ t136 [.int .i64 t136] from rfl) (Reps.one (show Kd.M (Kd.int .i64) _ _ _ t137 [.int .i64 t137] from rfl) (Reps.none _ _))))))
 intro v139 w15 ho16 hb hg_ hnew_
 clear hg_ hnew_
 (first | rw [← Ny138.out] at ho16 | (simp only [Int.reduceToNat] at ho16; rw [← Ny138.out] at ho16))
 have HO140 := A_ (Kd.R_lower ho16 (below_size bw_)); replace BK130 := A_ (kb_ BK130 hb); replace BK131 := A_ (kb_ BK131 hb); replace HB := A_ (below_step bw_ hb); clear hb ho16
 obtain ⟨Ao17, co17, eo17⟩ := Kd.R_slice HO140.out
 (first | subst eo17 | (injection eo17 with f1_ f2_ f3_; have f4_ := f1_.symm; have f5_ := f3_.symm; clear f1_ f2_ f3_; subst f4_; subst f5_))
 refine hK.out _ _ ⟨e_ BK131 0, e_ BK131 1, e_ BK131 2, e_ BK131 3, e_ BK131 4, e_ BK131 5, e_ BK130 0, e_ BK130 1, e_ BK130 2, e_ BK130 3, e_ BK130 4, e_ BK130 5⟩ (fun hHeld => ?_)
 clear hK K
 refine norm_ (a' := ?_) ?_ ?_
 rotate_left
 · show Act.put _ (some 25) _ = _
   simp only [Act.put, s0_, s1_, s2_, i64_w, i32_w]
   rfl
 refine one_ (i := 21) (N := some 26) #[T,T,T,T,T,T,T,T,T,T,T,T,T,T,T,T,T,T,T,T,T,T,F,F] rfl rfl (one_of HT_.out (by kernel_rfl)) (by decide) (fun K hK => ?_)
 refine goes_ Try.func61 (by kernel_rfl) rfl #[.slice Ao17 y138.length co17] (by rfl) rfl rfl (by (try simp only [m0_, m1_, m2_]); first | done | rfl) ?_
 with_reducible refine (cmp_Or_int.calls k _ _ y138 t141 _ ?side1 ?side2 A9.out).mono ?_
 (case side1 => repeat (first | exact (Kd.R_reads' HO140.out).2.2 | (with_reducible refine ca_ ?_ _) | (with_reducible refine cn_ ?_ _) | (with_reducible refine cd_ ?_)))
 (case side2 => exact (Kd.R_reads' HO140.out).2.1)
 rintro e w' ⟨rfl, ⟨nd, rfl⟩⟩
 refine ⟨_, rfl, ?_⟩
 refine hK.out _ _ ⟨e_ BK131 0, e_ BK131 1, e_ BK131 2, e_ BK131 3, e_ BK131 4, e_ BK131 5, e_ BK130 0, e_ BK130 1, e_ BK130 2, e_ BK130 3, e_ BK130 4, e_ BK130 5⟩ (fun hHeld => ?_)
 clear hK K
 refine norm_ (a' := ?_) ?_ ?_
 rotate_left
 · show Act.put _ (some 26) _ = _
   simp only [Act.put, s0_, s1_, s2_, i64_w, i32_w]
   rfl
 refine pq_ 22 27 HT_ ?_
 refine pq_ 23 4 HT_ ?_
 refine done_ (done_of HT_.out (by kernel_rfl)) ?_
 try go_wp2
 go_ret
 exact ⟨by first | rfl | (simp [errW_none, errW_some] <;> rfl) | (simp [*, errW_none, errW_some] <;> rfl), by repeat (first | (with_reducible first | exact HB.out | apply wa_ | apply wn_ | apply wd_ | refine ws_ ?_ GE130.out | refine ws_ ?_ GE131.out) | exact HB.out)⟩

/-! ### heap_Worst: function 30 -/
def heap_Worst.l0 : Nat → List (S32) → Int → Int → Int → Option (Int × Bool)
 | 0, _, _, _, _ => none
 | k + 1, x0, x4, x7, x8 => if x8 < x7 then (if 0 ≤ x4 then (if x4 < (x0.length : Int) then (if 0 ≤ x8 then (if x8 < (x0.length : Int) then ((txn_Better.f k ((rd_T32 x0 x4).f0) ((rd_T32 x0 x4).f1) ((rd_T32 x0 x4).f2) ((rd_T32 x0 x4).f3) ((rd_T32 x0 x4).f4) ((rd_T32 x0 x4).f5) ((rd_T32 x0 x8).f0) ((rd_T32 x0 x8).f1) ((rd_T32 x0 x8).f2) ((rd_T32 x0 x8).f3) ((rd_T32 x0 x8).f4) ((rd_T32 x0 x8).f5)).bind fun t144 => (if t144 = true then (heap_Worst.l0 k x0 x8 x7 (wrap64 (x8 + 1))) else (heap_Worst.l0 k x0 x4 x7 (wrap64 (x8 + 1))))) else (none)) else (none)) else (none)) else (none)) else (some (x4, decide ((x0.length : Int) > 0)))
def heap_Worst.f (k : Nat) (l0 : List (S32)) : Option (Int × Bool) := heap_Worst.l0 k l0 0 (l0.length : Int) 0
theorem heap_Worst.mono_l : ∀ k, (∀ y0 y1 y2 y3, LeO (heap_Worst.l0 k y0 y1 y2 y3) (heap_Worst.l0 (k + 1) y0 y1 y2 y3))
 | 0 => fun _ _ _ _ r h => by simp [heap_Worst.l0] at h
 | k + 1 => by
  have ih0 := heap_Worst.mono_l k
  · intro y0 y1 y2 y3
    unfold heap_Worst.l0
    repeat' first
    | (with_reducible exact ih0 _ _ _ _)
    | (with_reducible exact txn_Better.mono _ _ _ _ _ _ _ _ _ _ _ _ _)
    | (with_reducible exact LeO.refl _)
    | (with_reducible exact LeO.none _)
    | (with_reducible refine LeO.ite ?_ ?_)
    | (with_reducible refine LeO.bind ?_ (fun _ => ?_))
    | exact ih0 _ _ _ _
    | exact txn_Better.mono _ _ _ _ _ _ _ _ _ _ _ _ _
    | exact LeO.none _
    | refine LeO.ite ?_ ?_
    | refine LeO.bind ?_ (fun _ => ?_)
theorem heap_Worst.mono : ∀ a0 k, LeO (heap_Worst.f k a0) (heap_Worst.f (k + 1) a0) := by
 intro a0 k
 have ih0 := heap_Worst.mono_l k
 unfold heap_Worst.f
 repeat' first
  | (with_reducible exact ih0 _ _ _ _)
  | (with_reducible exact txn_Better.mono _ _ _ _ _ _ _ _ _ _ _ _ _)
  | (with_reducible exact LeO.refl _)
  | (with_reducible exact LeO.none _)
  | (with_reducible refine LeO.ite ?_ ?_)
  | (with_reducible refine LeO.bind ?_ (fun _ => ?_))
  | exact ih0 _ _ _ _
  | exact txn_Better.mono _ _ _ _ _ _ _ _ _ _ _ _ _
  | exact LeO.none _
  | refine LeO.ite ?_ ?_
  | refine LeO.bind ?_ (fun _ => ?_)
def heap_Worst.T5 : Bool × List (List Nat × List Nat) := (true, [([], []), ([], []), ([0, 1], [0, 1]), ([2], [2]), ([], []), ([], []), ([4, 5], [4, 5]), ([6], [6]), ([3, 7], [3, 7])])
def heap_Worst.B5 : List Nat := [0, 0, 3, 7, 0, 0, 48, 112, 255]
theorem heap_Worst.tab5 : rtab .any (opsOf Try.f30 5) = heap_Worst.T5 := by kernel_rfl
theorem heap_Worst.bits5 : waitsOk heap_Worst.T5.2 heap_Worst.B5 = true := by kernel_rfl
set_option maxHeartbeats 8000000 in
set_option maxRecDepth 100000 in
theorem heap_Worst.calls (k : Nat) (A0 : Option Addr) (c0 : Nat) (l0 : List (S32)) (r1 : Int) (r2 : Bool) (w : World) (hr0 : Kd.C k32 w A0 l0.length l0) (hc0 : l0.length ≤ c0) (h : heap_Worst.f k l0 = some (r1, r2)) :
 Calls Try.prog 30 #[.slice A0 l0.length c0] w fun e w' => e = .returned (.tuple #[.int .i64 r1, .bool r2]) ∧ Below w.heap.size w w' := by
 have hu32 := Try.underlying32
 have HR0 := A_ hr0
 have HC0 := A_ hc0
 clear hr0 hc0; have HB := A_ (Below.refl w.heap.size w)
 have H : (heap_Worst.l0 k l0 0 (l0.length : Int) 0) = some (r1, r2) := h
 clear h
 have H' := A_ H
 clear H
 go_enter Try.func30, Try.ntmps30
 go_wp2
 go_loopg [4, 8] k (fun kq v4 v8 w' => ∃ (x4_1 : Int) (x8_1 : Int), v4 = .int .i64 x4_1 ∧ v8 = .int .i64 x8_1 ∧ Aside0 (heap_Worst.l0 kq l0 x4_1 (l0.length : Int) x8_1 = some (r1, r2)) ∧ Aside0 (kq ≤ k) ∧ Aside0 (Below w.heap.size w w'))
 case atStart => exact ⟨(0), (0), (by first | rfl | (simp; done) | (simp [*]; done)), (by first | rfl | (simp; done) | (simp [*]; done)), H', ⟨Nat.le_refl _⟩, ⟨by repeat (first | (with_reducible first | exact HB.out | apply wa_ | apply wn_ | apply wd_) | exact HB.out)⟩⟩
 case round =>
  clear H'
  obtain ⟨x4_1, x8_1, rfl, rfl, HA, HK1, HB⟩ := hrel
  cases gk with
  | zero => exact absurd HA.out (by simp [heap_Worst.l0])
  | succ k1 =>
   have H := HA.out
   clear HA
   simp only [heap_Worst.l0] at H
   by_cases c2 : x8_1 < (l0.length : Int)
   rotate_left
   · rw [if_neg c2] at H
     have c2b0 : decide (x8_1 < (l0.length : Int)) = false := decide_eq_false c2
     clear c2
     simp only [Option.some.injEq, Prod.mk.injEq] at H
     obtain ⟨rfl, rfl⟩ := H
     go_wp2
     go_ret2
     exact ⟨by first | rfl | (simp [errW_none, errW_some] <;> rfl) | (simp [*, errW_none, errW_some] <;> rfl), by repeat (first | (with_reducible first | exact HB.out | apply wa_ | apply wn_ | apply wd_) | exact HB.out)⟩

   rw [if_pos c2] at H
   have c2b0 : decide (x8_1 < (l0.length : Int)) = true := decide_eq_true c2
   clear c2
   by_cases c3 : 0 ≤ x4_1
   rotate_left
   · rw [if_neg c3] at H
     exact absurd H (by simp)
   rw [if_pos c3] at H
   have c3b0 : decide (0 ≤ x4_1) = true := decide_eq_true c3
   clear c3
   by_cases c4 : x4_1 < (l0.length : Int)
   rotate_left
   · rw [if_neg c4] at H
     exact absurd H (by simp)
   rw [if_pos c4] at H
   have c4b0 : decide (x4_1 < (l0.length : Int)) = true := decide_eq_true c4
   clear c4
   by_cases c5 : 0 ≤ x8_1
   rotate_left
   · rw [if_neg c5] at H
     exact absurd H (by simp)
   rw [if_pos c5] at H
   have c5b0 : decide (0 ≤ x8_1) = true := decide_eq_true c5
   clear c5
   by_cases c6 : x8_1 < (l0.length : Int)
   rotate_left
   · rw [if_neg c6] at H
     exact absurd H (by simp)
   rw [if_pos c6] at H
   have c6b0 : decide (x8_1 < (l0.length : Int)) = true := decide_eq_true c6
   clear c6
   replace H := Option.bind_eq_some_iff.mp H
   obtain ⟨t144, A70, H⟩ := H
   replace H : (if t144 = true then (heap_Worst.l0 k1 l0 x8_1 (l0.length : Int) (wrap64 (x8_1 + 1))) else (heap_Worst.l0 k1 l0 x4_1 (l0.length : Int) (wrap64 (x8_1 + 1)))) = some (r1, r2) := H
   have A7 := A_ A70
   clear A70
   by_cases c8 : t144 = true
   · subst c8
     have H1 : (heap_Worst.l0 k1 l0 x8_1 (l0.length : Int) (wrap64 (x8_1 + 1))) = some (r1, r2) := by rw [if_pos rfl] at H; exact H
     clear H
     have H := H1
     clear H1
     have H' := A_ H
     clear H
     try go_wp2
     have n0_ := A_ (wd_ HB.out); replace HB := n0_; clear n0_
     have p142 : 0 ≤ (x4_1 : Int) := of_decide_eq_true (by first | (with_reducible assumption) | assumption)
     have q142 : x4_1 < (l0.length : Int) := of_decide_eq_true (by first | (with_reducible assumption) | assumption)
     obtain ⟨ad142, e142, hx142_0, hx142_1, hx142_2, hx142_3, hx142_4, hx142_5⟩ := at_T32 HR0.out x4_1 p142 q142
     have hw142_5 := hx142_5
     have hw142_4 := hx142_4
     have hw142_3 := hx142_3
     have hw142_2 := hx142_2
     have hw142_1 := hx142_1
     have hw142_0 := hx142_0
     cases e142
     replace hx142_0 := on_ HB.out hx142_0
     replace hx142_1 := on_ HB.out hx142_1
     replace hx142_2 := on_ HB.out hx142_2
     replace hx142_3 := on_ HB.out hx142_3
     replace hx142_4 := on_ HB.out hx142_4
     replace hx142_5 := on_ HB.out hx142_5
     replace p142 := eq_true p142
     replace q142 := eq_true q142
     have p143 : 0 ≤ (x8_1 : Int) := of_decide_eq_true (by first | (with_reducible assumption) | assumption)
     have q143 : x8_1 < (l0.length : Int) := of_decide_eq_true (by first | (with_reducible assumption) | assumption)
     obtain ⟨ad143, e143, hx143_0, hx143_1, hx143_2, hx143_3, hx143_4, hx143_5⟩ := at_T32 HR0.out x8_1 p143 q143
     have hw143_5 := hx143_5
     have hw143_4 := hx143_4
     have hw143_3 := hx143_3
     have hw143_2 := hx143_2
     have hw143_1 := hx143_1
     have hw143_0 := hx143_0
     obtain rfl : ad142 = ad143 := (by injection e143)
     replace hx143_0 := on_ HB.out hx143_0
     replace hx143_1 := on_ HB.out hx143_1
     replace hx143_2 := on_ HB.out hx143_2
     replace hx143_3 := on_ HB.out hx143_3
     replace hx143_4 := on_ HB.out hx143_4
     replace hx143_5 := on_ HB.out hx143_5
     replace p143 := eq_true p143
     replace q143 := eq_true q143
     refine start_ (n := 9) (S := fun w' => w'.cell? (ad142.add ((x4_1).toNat * 6)) = some (.int .i64 ((rd_T32 l0 x4_1).f0)) ∧ w'.cell? ⟨(ad142.add ((x4_1).toNat * 6)).block, (ad142.add ((x4_1).toNat * 6)).off + 1, none⟩ = some (.int .i64 ((rd_T32 l0 x4_1).f1)) ∧ w'.cell? ⟨(ad142.add ((x4_1).toNat * 6)).block, (ad142.add ((x4_1).toNat * 6)).off + 2, none⟩ = some (.int .i64 ((rd_T32 l0 x4_1).f2)) ∧ w'.cell? ⟨(ad142.add ((x4_1).toNat * 6)).block, (ad142.add ((x4_1).toNat * 6)).off + 3, none⟩ = some (.int .i64 ((rd_T32 l0 x4_1).f3)) ∧ w'.cell? ⟨(ad142.add ((x4_1).toNat * 6)).block, (ad142.add ((x4_1).toNat * 6)).off + 4, none⟩ = some (.int .i64 ((rd_T32 l0 x4_1).f4)) ∧ w'.cell? ⟨(ad142.add ((x4_1).toNat * 6)).block, (ad142.add ((x4_1).toNat * 6)).off + 5, none⟩ = some (.string ((rd_T32 l0 x4_1).f5)) ∧ w'.cell? (ad142.add ((x8_1).toNat * 6)) = some (.int .i64 ((rd_T32 l0 x8_1).f0)) ∧ w'.cell? ⟨(ad142.add ((x8_1).toNat * 6)).block, (ad142.add ((x8_1).toNat * 6)).off + 1, none⟩ = some (.int .i64 ((rd_T32 l0 x8_1).f1)) ∧ w'.cell? ⟨(ad142.add ((x8_1).toNat * 6)).block, (ad142.add ((x8_1).toNat * 6)).off + 2, none⟩ = some (.int .i64 ((rd_T32 l0 x8_1).f2)) ∧ w'.cell? ⟨(ad142.add ((x8_1).toNat * 6)).block, (ad142.add ((x8_1).toNat * 6)).off + 3, none⟩ = some (.int .i64 ((rd_T32 l0 x8_1).f3)) ∧ w'.cell? ⟨(ad142.add ((x8_1).toNat * 6)).block, (ad142.add ((x8_1).toNat * 6)).off + 4, none⟩ = some (.int .i64 ((rd_T32 l0 x8_1).f4)) ∧ w'.cell? ⟨(ad142.add ((x8_1).toNat * 6)).block, (ad142.add ((x8_1).toNat * 6)).off + 5, none⟩ = some (.string ((rd_T32 l0 x8_1).f5))) (ds := []) #[false, false, false, false, false, false, false, false, false] (by kernel_rfl) rfl rfl ⟨((HB.out.cell (World.block_lt_of_cell? w _ hw142_0)).trans hw142_0), ((HB.out.cell (World.block_lt_of_cell? w _ hw142_1)).trans hw142_1), ((HB.out.cell (World.block_lt_of_cell? w _ hw142_2)).trans hw142_2), ((HB.out.cell (World.block_lt_of_cell? w _ hw142_3)).trans hw142_3), ((HB.out.cell (World.block_lt_of_cell? w _ hw142_4)).trans hw142_4), ((HB.out.cell (World.block_lt_of_cell? w _ hw142_5)).trans hw142_5), ((HB.out.cell (World.block_lt_of_cell? w _ hw143_0)).trans hw143_0), ((HB.out.cell (World.block_lt_of_cell? w _ hw143_1)).trans hw143_1), ((HB.out.cell (World.block_lt_of_cell? w _ hw143_2)).trans hw143_2), ((HB.out.cell (World.block_lt_of_cell? w _ hw143_3)).trans hw143_3), ((HB.out.cell (World.block_lt_of_cell? w _ hw143_4)).trans hw143_4), ((HB.out.cell (World.block_lt_of_cell? w _ hw143_5)).trans hw143_5)⟩ (fun hHeld => ?_); refine with_tabW heap_Worst.tab5 heap_Worst.bits5 (fun HT_ HW_ => ?_)
     generalize wr.drew = w9 at HB hx142_0 hx142_1 hx142_2 hx142_3 hx142_4 hx142_5 hx143_0 hx143_1 hx143_2 hx143_3 hx143_4 hx143_5 hHeld ⊢
     refine pq_ 0 11 HT_ ?_
     refine pq_ 1 12 HT_ ?_
     refine pq_ 2 13 HT_ ?_
     refine pq_ 4 15 HT_ ?_
     refine pq_ 5 16 HT_ ?_
     refine pq_ 6 17 HT_ ?_
     refine tk_ 3 14 HT_ HW_ hHeld ?_
     refine tk_ 7 18 HT_ HW_ hHeld ?_
     refine one_ (i := 8) (N := some 19) #[true, true, true, true, true, true, true, true, true] rfl rfl (one_of HT_.out (by kernel_rfl)) (by decide) (fun K hK => ?_)
     refine goes_ Try.func48 (by kernel_rfl) rfl #[.agg #[.int .i64 ((rd_T32 l0 x4_1).f0), .int .i64 ((rd_T32 l0 x4_1).f1), .int .i64 ((rd_T32 l0 x4_1).f2), .int .i64 ((rd_T32 l0 x4_1).f3), .int .i64 ((rd_T32 l0 x4_1).f4), .string ((rd_T32 l0 x4_1).f5)], .agg #[.int .i64 ((rd_T32 l0 x8_1).f0), .int .i64 ((rd_T32 l0 x8_1).f1), .int .i64 ((rd_T32 l0 x8_1).f2), .int .i64 ((rd_T32 l0 x8_1).f3), .int .i64 ((rd_T32 l0 x8_1).f4), .string ((rd_T32 l0 x8_1).f5)]] (by rfl) rfl rfl (by (try simp only [m0_, m1_, m2_]); first | done | rfl) ?_
     with_reducible refine (txn_Better.calls k1 ((rd_T32 l0 x4_1).f0) ((rd_T32 l0 x4_1).f1) ((rd_T32 l0 x4_1).f2) ((rd_T32 l0 x4_1).f3) ((rd_T32 l0 x4_1).f4) ((rd_T32 l0 x4_1).f5) ((rd_T32 l0 x8_1).f0) ((rd_T32 l0 x8_1).f1) ((rd_T32 l0 x8_1).f2) ((rd_T32 l0 x8_1).f3) ((rd_T32 l0 x8_1).f4) ((rd_T32 l0 x8_1).f5) true _ A7.out).mono ?_
     rintro e w10 ⟨rfl, hb⟩
     refine ⟨_, rfl, ?_⟩
     have n0_ := A_ (below_step bw_ hb); replace HB := n0_; clear n0_
     (try clear hb)
     (try clear hb2)
     (try clear hk)
     (try clear hi)
     refine hK.out _ _ ⟨((HB.out.cell (World.block_lt_of_cell? w _ hw142_0)).trans hw142_0), ((HB.out.cell (World.block_lt_of_cell? w _ hw142_1)).trans hw142_1), ((HB.out.cell (World.block_lt_of_cell? w _ hw142_2)).trans hw142_2), ((HB.out.cell (World.block_lt_of_cell? w _ hw142_3)).trans hw142_3), ((HB.out.cell (World.block_lt_of_cell? w _ hw142_4)).trans hw142_4), ((HB.out.cell (World.block_lt_of_cell? w _ hw142_5)).trans hw142_5), ((HB.out.cell (World.block_lt_of_cell? w _ hw143_0)).trans hw143_0), ((HB.out.cell (World.block_lt_of_cell? w _ hw143_1)).trans hw143_1), ((HB.out.cell (World.block_lt_of_cell? w _ hw143_2)).trans hw143_2), ((HB.out.cell (World.block_lt_of_cell? w _ hw143_3)).trans hw143_3), ((HB.out.cell (World.block_lt_of_cell? w _ hw143_4)).trans hw143_4), ((HB.out.cell (World.block_lt_of_cell? w _ hw143_5)).trans hw143_5)⟩ (fun hHeld => ?_)
     clear hK K
     refine norm_ (a' := ?_) ?_ ?_
     rotate_left
     · show Act.put _ (some 19) _ = _
       simp only [Act.put, s0_, s1_, s2_, i64_w, i32_w]
       rfl
     refine done_ (done_of HT_.out (by kernel_rfl)) ?_
     try go_wp2
     go_roundg k1
     case measure => have := HK1.out; omega
     case rel => exact ⟨(x8_1), (wrap64 (x8_1 + 1)), (by first | rfl | (simp; done) | (simp [*]; done)), (by first | rfl | (simp; done) | (simp [*]; done)), H', ⟨by have := HK1.out; omega⟩, ⟨by repeat (first | (with_reducible first | exact HB.out | apply wa_ | apply wn_ | apply wd_) | exact HB.out)⟩⟩
   · replace c8 := Bool.eq_false_iff.mpr c8
     subst c8
     have H1 : (heap_Worst.l0 k1 l0 x4_1 (l0.length : Int) (wrap64 (x8_1 + 1))) = some (r1, r2) := by rw [if_neg (show ¬ (false = true) by decide)] at H; exact H
     clear H
     have H := H1
     clear H1
     have H' := A_ H
     clear H
     try go_wp2
     have n0_ := A_ (wd_ HB.out); replace HB := n0_; clear n0_
     have p142 : 0 ≤ (x4_1 : Int) := of_decide_eq_true (by first | (with_reducible assumption) | assumption)
     have q142 : x4_1 < (l0.length : Int) := of_decide_eq_true (by first | (with_reducible assumption) | assumption)
     obtain ⟨ad142, e142, hx142_0, hx142_1, hx142_2, hx142_3, hx142_4, hx142_5⟩ := at_T32 HR0.out x4_1 p142 q142
     have hw142_5 := hx142_5
     have hw142_4 := hx142_4
     have hw142_3 := hx142_3
     have hw142_2 := hx142_2
     have hw142_1 := hx142_1
     have hw142_0 := hx142_0
     cases e142
     replace hx142_0 := on_ HB.out hx142_0
     replace hx142_1 := on_ HB.out hx142_1
     replace hx142_2 := on_ HB.out hx142_2
     replace hx142_3 := on_ HB.out hx142_3
     replace hx142_4 := on_ HB.out hx142_4
     replace hx142_5 := on_ HB.out hx142_5
     replace p142 := eq_true p142
     replace q142 := eq_true q142
     have p143 : 0 ≤ (x8_1 : Int) := of_decide_eq_true (by first | (with_reducible assumption) | assumption)
     have q143 : x8_1 < (l0.length : Int) := of_decide_eq_true (by first | (with_reducible assumption) | assumption)
     obtain ⟨ad143, e143, hx143_0, hx143_1, hx143_2, hx143_3, hx143_4, hx143_5⟩ := at_T32 HR0.out x8_1 p143 q143
     have hw143_5 := hx143_5
     have hw143_4 := hx143_4
     have hw143_3 := hx143_3
     have hw143_2 := hx143_2
     have hw143_1 := hx143_1
     have hw143_0 := hx143_0
     obtain rfl : ad142 = ad143 := (by injection e143)
     replace hx143_0 := on_ HB.out hx143_0
     replace hx143_1 := on_ HB.out hx143_1
     replace hx143_2 := on_ HB.out hx143_2
     replace hx143_3 := on_ HB.out hx143_3
     replace hx143_4 := on_ HB.out hx143_4
     replace hx143_5 := on_ HB.out hx143_5
     replace p143 := eq_true p143
     replace q143 := eq_true q143
     refine start_ (n := 9) (S := fun w' => w'.cell? (ad142.add ((x4_1).toNat * 6)) = some (.int .i64 ((rd_T32 l0 x4_1).f0)) ∧ w'.cell? ⟨(ad142.add ((x4_1).toNat * 6)).block, (ad142.add ((x4_1).toNat * 6)).off + 1, none⟩ = some (.int .i64 ((rd_T32 l0 x4_1).f1)) ∧ w'.cell? ⟨(ad142.add ((x4_1).toNat * 6)).block, (ad142.add ((x4_1).toNat * 6)).off + 2, none⟩ = some (.int .i64 ((rd_T32 l0 x4_1).f2)) ∧ w'.cell? ⟨(ad142.add ((x4_1).toNat * 6)).block, (ad142.add ((x4_1).toNat * 6)).off + 3, none⟩ = some (.int .i64 ((rd_T32 l0 x4_1).f3)) ∧ w'.cell? ⟨(ad142.add ((x4_1).toNat * 6)).block, (ad142.add ((x4_1).toNat * 6)).off + 4, none⟩ = some (.int .i64 ((rd_T32 l0 x4_1).f4)) ∧ w'.cell? ⟨(ad142.add ((x4_1).toNat * 6)).block, (ad142.add ((x4_1).toNat * 6)).off + 5, none⟩ = some (.string ((rd_T32 l0 x4_1).f5)) ∧ w'.cell? (ad142.add ((x8_1).toNat * 6)) = some (.int .i64 ((rd_T32 l0 x8_1).f0)) ∧ w'.cell? ⟨(ad142.add ((x8_1).toNat * 6)).block, (ad142.add ((x8_1).toNat * 6)).off + 1, none⟩ = some (.int .i64 ((rd_T32 l0 x8_1).f1)) ∧ w'.cell? ⟨(ad142.add ((x8_1).toNat * 6)).block, (ad142.add ((x8_1).toNat * 6)).off + 2, none⟩ = some (.int .i64 ((rd_T32 l0 x8_1).f2)) ∧ w'.cell? ⟨(ad142.add ((x8_1).toNat * 6)).block, (ad142.add ((x8_1).toNat * 6)).off + 3, none⟩ = some (.int .i64 ((rd_T32 l0 x8_1).f3)) ∧ w'.cell? ⟨(ad142.add ((x8_1).toNat * 6)).block, (ad142.add ((x8_1).toNat * 6)).off + 4, none⟩ = some (.int .i64 ((rd_T32 l0 x8_1).f4)) ∧ w'.cell? ⟨(ad142.add ((x8_1).toNat * 6)).block, (ad142.add ((x8_1).toNat * 6)).off + 5, none⟩ = some (.string ((rd_T32 l0 x8_1).f5))) (ds := []) #[false, false, false, false, false, false, false, false, false] (by kernel_rfl) rfl rfl ⟨((HB.out.cell (World.block_lt_of_cell? w _ hw142_0)).trans hw142_0), ((HB.out.cell (World.block_lt_of_cell? w _ hw142_1)).trans hw142_1), ((HB.out.cell (World.block_lt_of_cell? w _ hw142_2)).trans hw142_2), ((HB.out.cell (World.block_lt_of_cell? w _ hw142_3)).trans hw142_3), ((HB.out.cell (World.block_lt_of_cell? w _ hw142_4)).trans hw142_4), ((HB.out.cell (World.block_lt_of_cell? w _ hw142_5)).trans hw142_5), ((HB.out.cell (World.block_lt_of_cell? w _ hw143_0)).trans hw143_0), ((HB.out.cell (World.block_lt_of_cell? w _ hw143_1)).trans hw143_1), ((HB.out.cell (World.block_lt_of_cell? w _ hw143_2)).trans hw143_2), ((HB.out.cell (World.block_lt_of_cell? w _ hw143_3)).trans hw143_3), ((HB.out.cell (World.block_lt_of_cell? w _ hw143_4)).trans hw143_4), ((HB.out.cell (World.block_lt_of_cell? w _ hw143_5)).trans hw143_5)⟩ (fun hHeld => ?_); refine with_tabW heap_Worst.tab5 heap_Worst.bits5 (fun HT_ HW_ => ?_)
     generalize wr.drew = w11 at HB hx142_0 hx142_1 hx142_2 hx142_3 hx142_4 hx142_5 hx143_0 hx143_1 hx143_2 hx143_3 hx143_4 hx143_5 hHeld ⊢
     refine pq_ 0 11 HT_ ?_
     refine pq_ 1 12 HT_ ?_
     refine pq_ 2 13 HT_ ?_
     refine pq_ 4 15 HT_ ?_
     refine pq_ 5 16 HT_ ?_
     refine pq_ 6 17 HT_ ?_
     refine tk_ 3 14 HT_ HW_ hHeld ?_
     refine tk_ 7 18 HT_ HW_ hHeld ?_
     refine one_ (i := 8) (N := some 19) #[true, true, true, true, true, true, true, true, true] rfl rfl (one_of HT_.out (by kernel_rfl)) (by decide) (fun K hK => ?_)
     refine goes_ Try.func48 (by kernel_rfl) rfl #[.agg #[.int .i64 ((rd_T32 l0 x4_1).f0), .int .i64 ((rd_T32 l0 x4_1).f1), .int .i64 ((rd_T32 l0 x4_1).f2), .int .i64 ((rd_T32 l0 x4_1).f3), .int .i64 ((rd_T32 l0 x4_1).f4), .string ((rd_T32 l0 x4_1).f5)], .agg #[.int .i64 ((rd_T32 l0 x8_1).f0), .int .i64 ((rd_T32 l0 x8_1).f1), .int .i64 ((rd_T32 l0 x8_1).f2), .int .i64 ((rd_T32 l0 x8_1).f3), .int .i64 ((rd_T32 l0 x8_1).f4), .string ((rd_T32 l0 x8_1).f5)]] (by rfl) rfl rfl (by (try simp only [m0_, m1_, m2_]); first | done | rfl) ?_
     with_reducible refine (txn_Better.calls k1 ((rd_T32 l0 x4_1).f0) ((rd_T32 l0 x4_1).f1) ((rd_T32 l0 x4_1).f2) ((rd_T32 l0 x4_1).f3) ((rd_T32 l0 x4_1).f4) ((rd_T32 l0 x4_1).f5) ((rd_T32 l0 x8_1).f0) ((rd_T32 l0 x8_1).f1) ((rd_T32 l0 x8_1).f2) ((rd_T32 l0 x8_1).f3) ((rd_T32 l0 x8_1).f4) ((rd_T32 l0 x8_1).f5) false _ A7.out).mono ?_
     rintro e w12 ⟨rfl, hb⟩
     refine ⟨_, rfl, ?_⟩
     have n0_ := A_ (below_step bw_ hb); replace HB := n0_; clear n0_
     (try clear hb)
     (try clear hb2)
     (try clear hk)
     (try clear hi)
     refine hK.out _ _ ⟨((HB.out.cell (World.block_lt_of_cell? w _ hw142_0)).trans hw142_0), ((HB.out.cell (World.block_lt_of_cell? w _ hw142_1)).trans hw142_1), ((HB.out.cell (World.block_lt_of_cell? w _ hw142_2)).trans hw142_2), ((HB.out.cell (World.block_lt_of_cell? w _ hw142_3)).trans hw142_3), ((HB.out.cell (World.block_lt_of_cell? w _ hw142_4)).trans hw142_4), ((HB.out.cell (World.block_lt_of_cell? w _ hw142_5)).trans hw142_5), ((HB.out.cell (World.block_lt_of_cell? w _ hw143_0)).trans hw143_0), ((HB.out.cell (World.block_lt_of_cell? w _ hw143_1)).trans hw143_1), ((HB.out.cell (World.block_lt_of_cell? w _ hw143_2)).trans hw143_2), ((HB.out.cell (World.block_lt_of_cell? w _ hw143_3)).trans hw143_3), ((HB.out.cell (World.block_lt_of_cell? w _ hw143_4)).trans hw143_4), ((HB.out.cell (World.block_lt_of_cell? w _ hw143_5)).trans hw143_5)⟩ (fun hHeld => ?_)
     clear hK K
     refine norm_ (a' := ?_) ?_ ?_
     rotate_left
     · show Act.put _ (some 19) _ = _
       simp only [Act.put, s0_, s1_, s2_, i64_w, i32_w]
       rfl
     refine done_ (done_of HT_.out (by kernel_rfl)) ?_
     try go_wp2
     go_roundg k1
     case measure => have := HK1.out; omega
     case rel => exact ⟨(x4_1), (wrap64 (x8_1 + 1)), (by first | rfl | (simp; done) | (simp [*]; done)), (by first | rfl | (simp; done) | (simp [*]; done)), H', ⟨by have := HK1.out; omega⟩, ⟨by repeat (first | (with_reducible first | exact HB.out | apply wa_ | apply wn_ | apply wd_) | exact HB.out)⟩⟩
/-! ### shard_Worst: function 11 -/
def shard_Worst.f (k : Nat) (l0 : List (S46)) : Option (Int × Int × Int × Int × Int × ByteArray × Bool) := (shard_Lasts.f k l0).bind fun t146 => ((heap_Worst.f k t146).bind fun bt149 => (if bt149.2 = true then (if 0 ≤ bt149.1 then (if bt149.1 < (t146.length : Int) then (some ((rd_T32 t146 bt149.1).f0, (rd_T32 t146 bt149.1).f1, (rd_T32 t146 bt149.1).f2, (rd_T32 t146 bt149.1).f3, (rd_T32 t146 bt149.1).f4, (rd_T32 t146 bt149.1).f5, true)) else (none)) else (none)) else (some (0, 0, 0, 0, 0, (⟨#[]⟩ : ByteArray), false))))
theorem shard_Worst.mono : ∀ a0 k, LeO (shard_Worst.f k a0) (shard_Worst.f (k + 1) a0) := by
 intro a0 k
 unfold shard_Worst.f
 repeat' first
  | (with_reducible exact heap_Worst.mono _ _)
  | (with_reducible exact shard_Lasts.mono _ _)
  | (with_reducible exact LeO.refl _)
  | (with_reducible exact LeO.none _)
  | (with_reducible refine LeO.ite ?_ ?_)
  | (with_reducible refine LeO.bind ?_ (fun _ => ?_))
  | exact heap_Worst.mono _ _
  | exact shard_Lasts.mono _ _
  | exact LeO.none _
  | refine LeO.ite ?_ ?_
  | refine LeO.bind ?_ (fun _ => ?_)
set_option maxHeartbeats 8000000 in
set_option maxRecDepth 100000 in
theorem shard_Worst.calls (k : Nat) (A0 : Option Addr) (c0 : Nat) (l0 : List (S46)) (r1 : Int) (r2 : Int) (r3 : Int) (r4 : Int) (r5 : Int) (r6 : ByteArray) (r7 : Bool) (w : World) (hr0 : Kd.C k46 w A0 l0.length l0) (hc0 : l0.length ≤ c0) (h : shard_Worst.f k l0 = some (r1, r2, r3, r4, r5, r6, r7)) :
 Calls Try.prog 11 #[.slice A0 l0.length c0] w fun e w' => e = .returned (.tuple #[.agg #[.int .i64 r1, .int .i64 r2, .int .i64 r3, .int .i64 r4, .int .i64 r5, .string r6], .bool r7]) ∧ Below w.heap.size w w' := by
 have hu32 := Try.underlying32
 have HR0 := A_ hr0
 have HC0 := A_ hc0
 clear hr0 hc0; have HB := A_ (Below.refl w.heap.size w)
 have H : ((shard_Lasts.f k l0).bind fun t146 => ((heap_Worst.f k t146).bind fun bt149 => (if bt149.2 = true then (if 0 ≤ bt149.1 then (if bt149.1 < (t146.length : Int) then (some ((rd_T32 t146 bt149.1).f0, (rd_T32 t146 bt149.1).f1, (rd_T32 t146 bt149.1).f2, (rd_T32 t146 bt149.1).f3, (rd_T32 t146 bt149.1).f4, (rd_T32 t146 bt149.1).f5, true)) else (none)) else (none)) else (some (0, 0, 0, 0, 0, (⟨#[]⟩ : ByteArray), false))))) = some (r1, r2, r3, r4, r5, r6, r7) := h
 clear h
 replace H := Option.bind_eq_some_iff.mp H
 obtain ⟨t146, A20, H⟩ := H
 replace H : ((heap_Worst.f k t146).bind fun bt149 => (if bt149.2 = true then (if 0 ≤ bt149.1 then (if bt149.1 < (t146.length : Int) then (some ((rd_T32 t146 bt149.1).f0, (rd_T32 t146 bt149.1).f1, (rd_T32 t146 bt149.1).f2, (rd_T32 t146 bt149.1).f3, (rd_T32 t146 bt149.1).f4, (rd_T32 t146 bt149.1).f5, true)) else (none)) else (none)) else (some (0, 0, 0, 0, 0, (⟨#[]⟩ : ByteArray), false)))) = some (r1, r2, r3, r4, r5, r6, r7) := H
 have A2 := A_ A20
 clear A20
 replace H := Option.bind_eq_some_iff.mp H
 obtain ⟨⟨t149, t150⟩, A30, H⟩ := H
 replace H : (if t150 = true then (if 0 ≤ t149 then (if t149 < (t146.length : Int) then (some ((rd_T32 t146 t149).f0, (rd_T32 t146 t149).f1, (rd_T32 t146 t149).f2, (rd_T32 t146 t149).f3, (rd_T32 t146 t149).f4, (rd_T32 t146 t149).f5, true)) else (none)) else (none)) else (some (0, 0, 0, 0, 0, (⟨#[]⟩ : ByteArray), false))) = some (r1, r2, r3, r4, r5, r6, r7) := H
 have A3 := A_ A30
 clear A30
 by_cases c4 : t150 = true
 · subst c4
   have H1 : (if 0 ≤ t149 then (if t149 < (t146.length : Int) then (some ((rd_T32 t146 t149).f0, (rd_T32 t146 t149).f1, (rd_T32 t146 t149).f2, (rd_T32 t146 t149).f3, (rd_T32 t146 t149).f4, (rd_T32 t146 t149).f5, true)) else (none)) else (none)) = some (r1, r2, r3, r4, r5, r6, r7) := by rw [if_pos rfl] at H; exact H
   clear H
   have H := H1
   clear H1
   by_cases c5 : 0 ≤ t149
   rotate_left
   · rw [if_neg c5] at H
     exact absurd H (by simp)
   rw [if_pos c5] at H
   have c5b0 : decide (0 ≤ t149) = true := decide_eq_true c5
   clear c5
   by_cases c6 : t149 < (t146.length : Int)
   · rw [if_pos c6] at H
     have c6b0 : decide (t149 < (t146.length : Int)) = true := decide_eq_true c6
     clear c6
     simp only [Option.some.injEq, Prod.mk.injEq] at H
     obtain ⟨rfl, rfl, rfl, rfl, rfl, rfl, rfl⟩ := H
     go_enter Try.func11, Try.ntmps11
     go_wp2_with (first | ((with_reducible refine gate_dst (N := 2) rfl ?_); refine box_event ?hg (N := 2) ?hd (cs := #[.int .i64 0, .int .i64 0, .int .i64 0, .int .i64 0, .int .i64 0, .string (⟨#[]⟩ : ByteArray)]) (t := 32) ?hr ?_; (case hd => rfl); (case hg => rfl); (case hr => first | (go_simp; done) | (go_simp; rfl)); intro gb145 hg w7 hbox hb; have n0_ := A_ (below_step bw_ hb); have n1_ := A_ (hbox); have n2_ := A_ (gz_ (w := w) hg); have n3_ := A_ (gz_ (w := w) hg); replace HB := n0_; have BK145 := n1_; have GW145 := n2_; have GE145 := n3_; clear n0_ n1_ n2_ n3_; clear hb hbox hg) | ((with_reducible refine gate_callee (f := 16) rfl ?_); refine goesL_ (some 8) rfl rfl Try.func16 (by kernel_rfl) rfl #[.slice A0 l0.length c0] rfl (by (try simp only [m0_, m1_, m2_]); first | done | rfl) ?_; (with_reducible refine (shard_Lasts.calls k _ _ l0 t146 _ ?side1 ?side2 A2.out).mono ?_); (case side1 => repeat (first | exact (Kd.C_below HR0.out HB.out) | (with_reducible refine ca_ ?_ _) | (with_reducible refine cn_ ?_ _) | (with_reducible refine cd_ ?_))); (case side2 => exact HC0.out); rintro e w8 ⟨v147, rfl, ho0, hb⟩; refine ⟨_, rfl, ?_⟩; have HO148 := A_ (Kd.R_lower (Kd.R_newB ho0 (g := gb145) (o := .cells #[.int .i64 0, .int .i64 0, .int .i64 0, .int .i64 0, .int .i64 0, .string (⟨#[]⟩ : ByteArray)] 32 (0, 0)) (by (with_reducible repeat (first | refine bn_ ?_ _ | refine bd_ ?_ | refine ba_ ?_ _)); exact BK145.out)) (below_size bw_)); replace BK145 := A_ (kb_ BK145 hb); replace HB := A_ (below_step bw_ hb); (try clear hb); (try clear hb2); (try clear hk); (try clear hi); (try clear ho0); obtain ⟨Ao9, co9, eo9⟩ := Kd.R_slice HO148.out; subst eo9) | ((with_reducible refine gate_callee (f := 30) rfl ?_); refine goesL_ (some 11) rfl rfl Try.func30 (by kernel_rfl) rfl #[.slice Ao9 t146.length co9] rfl (by (try simp only [m0_, m1_, m2_]); first | done | rfl) ?_; (with_reducible refine (heap_Worst.calls k _ _ t146 t149 true _ ?side1 ?side2 A3.out).mono ?_); (case side1 => repeat (first | exact (Kd.R_reads' HO148.out).2.2 | (with_reducible refine ca_ ?_ _) | (with_reducible refine cn_ ?_ _) | (with_reducible refine cd_ ?_))); (case side2 => exact (Kd.R_reads' HO148.out).2.1); rintro e w10 ⟨rfl, hb⟩; refine ⟨_, rfl, ?_⟩; replace HO148 := A_ (Kd.R_below (pr_ HO148.out) hb); replace BK145 := A_ (kb_ BK145 hb); replace HB := A_ (below_step bw_ hb); (try clear hb); (try clear hb2); (try clear hk); (try clear hi); have p151 : 0 ≤ (t149 : Int) := of_decide_eq_true (by first | (with_reducible assumption) | assumption); have q151 : t149 < (t146.length : Int) := of_decide_eq_true (by first | (with_reducible assumption) | assumption); obtain ⟨ad151, e151, hx151_0, hx151_1, hx151_2, hx151_3, hx151_4, hx151_5⟩ := at_T32 (Kd.R_reads' HO148.out).2.2 t149 p151 q151; cases e151; replace p151 := eq_true p151; replace q151 := eq_true q151; have hcz11_0 : w10.cell? ⟨gb145, 0, none⟩ = some (.int .i64 0) := e_ BK145 0; have hcz11_1 : w10.cell? ⟨gb145, 1, none⟩ = some (.int .i64 0) := e_ BK145 1; have hcz11_2 : w10.cell? ⟨gb145, 2, none⟩ = some (.int .i64 0) := e_ BK145 2; have hcz11_3 : w10.cell? ⟨gb145, 3, none⟩ = some (.int .i64 0) := e_ BK145 3; have hcz11_4 : w10.cell? ⟨gb145, 4, none⟩ = some (.int .i64 0) := e_ BK145 4; have hcz11_5 : w10.cell? ⟨gb145, 5, none⟩ = some (.string (⟨#[]⟩ : ByteArray)) := e_ BK145 5; obtain ⟨hfz11_0, hfz11_1, hfz11_2, hfz11_3, hfz11_4, hfz11_5⟩ := z6_ BK145))
     refine bodyPost_ret (results_ct rfl _ _ gb145 32 #[.int .i64 ((rd_T32 t146 t149).f0), .int .i64 ((rd_T32 t146 t149).f1), .int .i64 ((rd_T32 t146 t149).f2), .int .i64 ((rd_T32 t146 t149).f3), .int .i64 ((rd_T32 t146 t149).f4), .string ((rd_T32 t146 t149).f5)] (0, 0) _ rfl (by exact pk_ (b6_ BK145.out)) Try.underlying32 rfl (by kernel_rfl)) rfl ?_
     exact ⟨by first | rfl | (simp [errW_none, errW_some] <;> rfl) | (simp [*, errW_none, errW_some] <;> rfl), by repeat (first | (with_reducible first | exact HB.out | apply wa_ | apply wn_ | apply wd_ | refine ws_ ?_ GE145.out) | exact HB.out)⟩
   · rw [if_neg c6] at H
     exact absurd H (by simp)
 · replace c4 := Bool.eq_false_iff.mpr c4
   subst c4
   have H1 : (some (0, 0, 0, 0, 0, (⟨#[]⟩ : ByteArray), false)) = some (r1, r2, r3, r4, r5, r6, r7) := by rw [if_neg (show ¬ (false = true) by decide)] at H; exact H
   clear H
   have H := H1
   clear H1
   simp only [Option.some.injEq, Prod.mk.injEq] at H
   obtain ⟨rfl, rfl, rfl, rfl, rfl, rfl, rfl⟩ := H
   go_enter Try.func11, Try.ntmps11
   go_wp2_with (first | ((with_reducible refine gate_dst (N := 2) rfl ?_); refine box_event ?hg (N := 2) ?hd (cs := #[.int .i64 0, .int .i64 0, .int .i64 0, .int .i64 0, .int .i64 0, .string (⟨#[]⟩ : ByteArray)]) (t := 32) ?hr ?_; (case hd => rfl); (case hg => rfl); (case hr => first | (go_simp; done) | (go_simp; rfl)); intro gb145 hg w12 hbox hb; have n0_ := A_ (below_step bw_ hb); have n1_ := A_ (hbox); have n2_ := A_ (gz_ (w := w) hg); have n3_ := A_ (gz_ (w := w) hg); replace HB := n0_; have BK145 := n1_; have GW145 := n2_; have GE145 := n3_; clear n0_ n1_ n2_ n3_; clear hb hbox hg) | ((with_reducible refine gate_callee (f := 16) rfl ?_); refine goesL_ (some 8) rfl rfl Try.func16 (by kernel_rfl) rfl #[.slice A0 l0.length c0] rfl (by (try simp only [m0_, m1_, m2_]); first | done | rfl) ?_; (with_reducible refine (shard_Lasts.calls k _ _ l0 t146 _ ?side1 ?side2 A2.out).mono ?_); (case side1 => repeat (first | exact (Kd.C_below HR0.out HB.out) | (with_reducible refine ca_ ?_ _) | (with_reducible refine cn_ ?_ _) | (with_reducible refine cd_ ?_))); (case side2 => exact HC0.out); rintro e w13 ⟨v147, rfl, ho0, hb⟩; refine ⟨_, rfl, ?_⟩; have HO148 := A_ (Kd.R_lower (Kd.R_newB ho0 (g := gb145) (o := .cells #[.int .i64 0, .int .i64 0, .int .i64 0, .int .i64 0, .int .i64 0, .string (⟨#[]⟩ : ByteArray)] 32 (0, 0)) (by (with_reducible repeat (first | refine bn_ ?_ _ | refine bd_ ?_ | refine ba_ ?_ _)); exact BK145.out)) (below_size bw_)); replace BK145 := A_ (kb_ BK145 hb); replace HB := A_ (below_step bw_ hb); (try clear hb); (try clear hb2); (try clear hk); (try clear hi); (try clear ho0); obtain ⟨Ao14, co14, eo14⟩ := Kd.R_slice HO148.out; subst eo14) | ((with_reducible refine gate_callee (f := 30) rfl ?_); refine goesL_ (some 11) rfl rfl Try.func30 (by kernel_rfl) rfl #[.slice Ao14 t146.length co14] rfl (by (try simp only [m0_, m1_, m2_]); first | done | rfl) ?_; (with_reducible refine (heap_Worst.calls k _ _ t146 t149 false _ ?side1 ?side2 A3.out).mono ?_); (case side1 => repeat (first | exact (Kd.R_reads' HO148.out).2.2 | (with_reducible refine ca_ ?_ _) | (with_reducible refine cn_ ?_ _) | (with_reducible refine cd_ ?_))); (case side2 => exact (Kd.R_reads' HO148.out).2.1); rintro e w15 ⟨rfl, hb⟩; refine ⟨_, rfl, ?_⟩; replace HO148 := A_ (Kd.R_below (pr_ HO148.out) hb); replace BK145 := A_ (kb_ BK145 hb); replace HB := A_ (below_step bw_ hb); (try clear hb); (try clear hb2); (try clear hk); (try clear hi); have hcz16_0 : w15.cell? ⟨gb145, 0, none⟩ = some (.int .i64 0) := e_ BK145 0; have hcz16_1 : w15.cell? ⟨gb145, 1, none⟩ = some (.int .i64 0) := e_ BK145 1; have hcz16_2 : w15.cell? ⟨gb145, 2, none⟩ = some (.int .i64 0) := e_ BK145 2; have hcz16_3 : w15.cell? ⟨gb145, 3, none⟩ = some (.int .i64 0) := e_ BK145 3; have hcz16_4 : w15.cell? ⟨gb145, 4, none⟩ = some (.int .i64 0) := e_ BK145 4; have hcz16_5 : w15.cell? ⟨gb145, 5, none⟩ = some (.string (⟨#[]⟩ : ByteArray)) := e_ BK145 5; obtain ⟨hfz16_0, hfz16_1, hfz16_2, hfz16_3, hfz16_4, hfz16_5⟩ := z6_ BK145))
   refine bodyPost_ret (results_ct rfl _ _ gb145 32 #[.int .i64 0, .int .i64 0, .int .i64 0, .int .i64 0, .int .i64 0, .string (⟨#[]⟩ : ByteArray)] (0, 0) _ rfl (by exact pk_ (b6_ BK145.out)) Try.underlying32 rfl (by kernel_rfl)) rfl ?_
   exact ⟨by first | rfl | (simp [errW_none, errW_some] <;> rfl) | (simp [*, errW_none, errW_some] <;> rfl), by repeat (first | (with_reducible first | exact HB.out | apply wa_ | apply wn_ | apply wd_ | refine ws_ ?_ GE145.out) | exact HB.out)⟩

/-! ### api_Account_38: function 38, by hand -/
-- HAND rounds=0 making=0 opaque
-- IMPORT Derived.Test.YtnjnogkhbadioaaCopyK
theorem api_Account_38.split (x : List Value) (h : x.length = 3) : ∃ u0 u1 u2 : Value, x = [u0, u1, u2] := by
  match x, h with
  | [u0, u1, u2], _ => exact ⟨_, _, _, rfl⟩
set_option maxHeartbeats 8000000 in
set_option maxRecDepth 100000 in
/-- The first place at which a closure says yes, of a row of one's own. -/
theorem api_Account_38.calls (base n : Nat) (v : Value) (rows : List (List Value)) (p : List Value → Bool) (gf : Nat) (lb : Array Value) (eg : ∀ args w, (callFunc gf args).run Try.prog w = .ok (.enter gf args) w) (w : World) (HO : w.ownsRow base 46 3 v n rows.flatten) (hn : rows.length = n) (hr : ∀ r ∈ rows, r.length = 3) (hbig : n < 2513169434916)
    (hp : ∀ (W : World) (x : List Value), x ∈ rows → w.grownBy W none → Calls Try.prog gf (#[.agg x.toArray] ++ lb) W fun e w' => e = .returned (.bool (p x)) ∧ W.grownBy w' none) :
    Calls Try.prog 38 #[v, .func (.func gf) #[] lb] w fun e w' => e = .returned (.int .i64 (CopyK.idxC p rows 0)) ∧ w.grownBy w' none := by
  rcases CopyK.Blk.of HO with ⟨rfl, rfl, hz⟩ | ⟨g, cap, rfl, hbg, hB⟩
  · obtain rfl : rows = [] := List.eq_nil_of_length_eq_zero hn
    go_enter Try.func38, Try.ntmps38
    go_wp2
    go_loopg [5, 8] 1 (fun gg _ s8 wr => 0 < gg ∧ s8 = .int .i64 0 ∧ wr = w)
    case atStart => exact ⟨by omega, rfl, rfl⟩
    case round =>
      obtain ⟨hgg, rfl, rfl⟩ := hrel
      go_wp2
      go_ret
      exact ⟨rfl, CopyK.grown_refl _ _⟩
  · have HB := Aside0.mk hB
    have HP := Aside0.mk hp
    have HR := Aside0.mk hr
    have HN := Aside0.mk hn
    have HBG := Aside0.mk hbig
    clear HO hB hp hr hn hbig
    go_enter Try.func38, Try.ntmps38
    go_wp2
    go_loopg [5, 8] n (fun gg _ s8 wr => ∃ kk : Nat, kk ≤ n ∧ n - kk ≤ gg ∧ s8 = .int .i64 kk ∧ Aside0 (w.grownBy wr none) ∧ Aside0 (CopyK.idxC p rows 0 = CopyK.idxC p (rows.drop kk) kk))
    case atStart => exact ⟨0, Nat.zero_le _, by omega, rfl, ⟨CopyK.grown_refl _ _⟩, ⟨rfl⟩⟩
    case round =>
      obtain ⟨kk, hkk, hg, rfl, BW, A⟩ := hrel
      by_cases hlt : kk < n
      · have hltz : (kk : Int) < (n : Int) := by omega
        have hk0 : (0 : Int) ≤ (kk : Int) := by omega
        obtain ⟨x, hx⟩ : ∃ x, rows[kk]? = some x := ⟨_, List.getElem?_eq_getElem (by rw [HN.out]; exact hlt)⟩
        have hxm : x ∈ rows := List.mem_of_getElem? hx
        have hcall := HP.out wr x hxm BW.out
        have hd : rows.drop kk = x :: rows.drop (kk + 1) := by
          obtain ⟨hk, e⟩ := List.getElem?_eq_some_iff.1 hx
          rw [List.drop_eq_getElem_cons hk, e]
        have hB1 := HB.out.grown BW.out (by simp)
        have hcs : ∀ j u, x[j]? = some u → wr.cell? ⟨g, kk * 3 + j, none⟩ = some u := fun j u hj => hB1.cell _ u (by rw [CopyK.flat_at 3 rows HR.out kk j x hx (by have := (List.getElem?_eq_some_iff.1 hj).1; rw [HR.out x hxm] at this; exact this)]; exact hj)
        obtain ⟨u0, u1, u2, rfl⟩ := api_Account_38.split x (HR.out x hxm)
        have l0 : wr.cell? ⟨g, kk * 3, none⟩ = some u0 := hcs 0 u0 rfl
        have l1 : wr.cell? ⟨g, kk * 3 + 1, none⟩ = some u1 := hcs 1 u1 rfl
        have l2 : wr.cell? ⟨g, kk * 3 + 2, none⟩ = some u2 := hcs 2 u2 rfl
        have HD := Aside0.mk hd
        clear hcs hd hx hxm hB1
        have hw1 : wrap64 ((kk : Int) + 1) = ((kk + 1 : Nat) : Int) := by have := HBG.out; unfold wrap64; omega
        cases hq : p [u0, u1, u2] with
        | true =>
          rw [hq] at hcall
          go_wp2_with (go_at_fn gf; refine hcall.mono ?_; rintro e w' ⟨rfl, hb'⟩)
          go_ret
          refine ⟨?_, BW.out.trans hb'⟩
          rw [A.out, HD.out, CopyK.idxC, if_pos hq]
          rfl
        | false =>
          rw [hq] at hcall
          go_wp2_with (go_at_fn gf; refine hcall.mono ?_; rintro e w' ⟨rfl, hb'⟩)
          go_roundg (n - (kk + 1))
          case measure => omega
          case rel =>
            refine ⟨kk + 1, by omega, by omega, by first | rfl | rw [hw1] | go_num, ⟨BW.out.trans hb'⟩, ⟨?_⟩⟩
            rw [A.out, HD.out, CopyK.idxC, if_neg (by rw [hq]; decide), Int.natCast_add]
            rfl
      · have hltz : ¬ (kk : Int) < (n : Int) := by omega
        have hkn : kk = n := by omega
        subst hkn
        go_wp2
        go_ret
        refine ⟨?_, BW.out⟩
        rw [A.out, List.drop_eq_nil_of_le (by rw [HN.out]; exact Nat.le_refl _)]
        rfl


end Go.Proofs.Ytnjnogkhbadioaa.D
