/- Written by this session's own program over the kit's print: functions of Go told as plain functions, or the row of one statement; proved for every input, with no condition of ours. -/
import Derived.Test.YtehncbhmdgdkjaaLx0
import Derived.Test.YtehncbhmdgdkjaaLx5
import Derived.Test.YtehncbhmdgdkjaaLx9
namespace Go.Proofs.Ytehncbhmdgdkjaa.L
open Go.RowKit Go.Proofs.YtehncbhmdgdkjaaW.PrintWords Go.Proofs.YtehncbhmdgdkjaaW.PrintLast Go.Proofs.YtehncbhmdgdkjaaW.PrintMore
attribute [local go_sem] max2_int min2_int max_two min_two max_three min_three max_four min_four   -- for this text's walks alone
set_option linter.unusedVariables false
set_option linter.unusedSimpArgs false

/-! ### txn_Better: function 84 -/
def txn_Better.f (k : Nat) (a0_0 : Int) (a0_1 : Int) (a0_2 : Int) (a0_3 : Int) (a0_4 : Int) (a0_5 : ByteArray) (a1_0 : Int) (a1_1 : Int) (a1_2 : Int) (a1_3 : Int) (a1_4 : Int) (a1_5 : ByteArray) : Option (Bool) := (cmp_Compare_int.f a1_2 a0_2).bind fun t124 => ((txn_ID.f a0_0 a0_1 a0_2 a0_3 a0_4 a0_5).bind fun t125 => ((txn_ID.f a1_0 a1_1 a1_2 a1_3 a1_4 a1_5).bind fun t126 => ((strings_Compare.f t125 t126).bind fun t127 => ((cmp_Compare_int.f a0_0 a1_0).bind fun t128 => ((cmp_Compare_int.f a0_1 a1_1).bind fun t129 => ((cmp_Or_int.f k (([t124, t127, t128, t129] : List Int))).bind fun t133 => (some (decide (t133 < 0)))))))))
theorem txn_Better.mono : ∀ a0 a1 a2 a3 a4 a5 a6 a7 a8 a9 a10 a11 k, LeO (txn_Better.f k a0 a1 a2 a3 a4 a5 a6 a7 a8 a9 a10 a11) (txn_Better.f (k + 1) a0 a1 a2 a3 a4 a5 a6 a7 a8 a9 a10 a11) := by
 intro a0 a1 a2 a3 a4 a5 a6 a7 a8 a9 a10 a11 k
 unfold txn_Better.f
 repeat' first
  | (with_reducible exact cmp_Or_int.mono _ _)
  | (with_reducible exact LeO.refl _)
  | (with_reducible exact LeO.none _)
  | (with_reducible refine LeO.ite ?_ ?_)
  | (with_reducible refine LeO.bind ?_ (fun _ => ?_))
  | exact cmp_Or_int.mono _ _
  | exact LeO.none _
  | refine LeO.ite ?_ ?_
  | refine LeO.bind ?_ (fun _ => ?_)
def txn_Better.T1 : Bool × List (List Nat × List Nat) := (true, [([], []), ([0], [0]), ([], []), ([2], [2]), ([1, 3], [1, 3]), ([], []), ([5, 4], [5]), ([], []), ([7, 6], [7]), ([6, 8, 8], [6, 8]), ([], []), ([10], [10]), ([], []), ([12], [12]), ([11, 13, 9], [11, 13]), ([], []), ([15], [15]), ([], []), ([17], [17]), ([16, 18, 14], [16, 18]), ([4, 9, 14, 19], [4, 9, 14, 19]), ([20, 19], [20]), ([21], [21]), ([22, 21, 0, 1, 2, 3, 4, 5, 6, 7, 8, 9, 10, 11, 12, 13, 14, 15, 16, 17, 18, 19, 20, 21, 22], [22])])
def txn_Better.B1 : List Nat := [0, 1, 0, 4, 15, 0, 63, 0, 255, 511, 0, 1024, 0, 4096, 16383, 0, 32768, 0, 131072, 524287, 1048575, 2097151, 4194303, 8388607]
theorem txn_Better.tab1 : rtab .any (opsOf Try.f84 1) = txn_Better.T1 := by kernel_rfl
theorem txn_Better.bits1 : waitsOk txn_Better.T1.2 txn_Better.B1 = true := by kernel_rfl
set_option maxHeartbeats 8000000 in
set_option maxRecDepth 100000 in
theorem txn_Better.calls (k : Nat) (a0_0 : Int) (a0_1 : Int) (a0_2 : Int) (a0_3 : Int) (a0_4 : Int) (a0_5 : ByteArray) (a1_0 : Int) (a1_1 : Int) (a1_2 : Int) (a1_3 : Int) (a1_4 : Int) (a1_5 : ByteArray) (r : Bool) (w : World) (h : txn_Better.f k a0_0 a0_1 a0_2 a0_3 a0_4 a0_5 a1_0 a1_1 a1_2 a1_3 a1_4 a1_5 = some r) :
 Calls Try.prog 84 #[.agg #[.int .i64 a0_0, .int .i64 a0_1, .int .i64 a0_2, .int .i64 a0_3, .int .i64 a0_4, .string a0_5], .agg #[.int .i64 a1_0, .int .i64 a1_1, .int .i64 a1_2, .int .i64 a1_3, .int .i64 a1_4, .string a1_5]] w fun e w' => e = .returned (.bool r) ∧ Below w.heap.size w w' := by
 have hu24 := Try.underlying24
 have HB := A_ (Below.refl w.heap.size w)
 have H : ((cmp_Compare_int.f a1_2 a0_2).bind fun t124 => ((txn_ID.f a0_0 a0_1 a0_2 a0_3 a0_4 a0_5).bind fun t125 => ((txn_ID.f a1_0 a1_1 a1_2 a1_3 a1_4 a1_5).bind fun t126 => ((strings_Compare.f t125 t126).bind fun t127 => ((cmp_Compare_int.f a0_0 a1_0).bind fun t128 => ((cmp_Compare_int.f a0_1 a1_1).bind fun t129 => ((cmp_Or_int.f k (([t124, t127, t128, t129] : List Int))).bind fun t133 => (some (decide (t133 < 0)))))))))) = some r := h
 clear h
 replace H := Option.bind_eq_some_iff.mp H
 obtain ⟨t124, A30, H⟩ := H
 try dsimp only at H
 have A3 := A_ A30
 clear A30
 replace H := Option.bind_eq_some_iff.mp H
 obtain ⟨t125, A40, H⟩ := H
 try dsimp only at H
 have A4 := A_ A40
 clear A40
 replace H := Option.bind_eq_some_iff.mp H
 obtain ⟨t126, A50, H⟩ := H
 try dsimp only at H
 have A5 := A_ A50
 clear A50
 replace H := Option.bind_eq_some_iff.mp H
 obtain ⟨t127, A60, H⟩ := H
 try dsimp only at H
 have A6 := A_ A60
 clear A60
 replace H := Option.bind_eq_some_iff.mp H
 obtain ⟨t128, A70, H⟩ := H
 try dsimp only at H
 have A7 := A_ A70
 clear A70
 replace H := Option.bind_eq_some_iff.mp H
 obtain ⟨t129, A80, H⟩ := H
 try dsimp only at H
 have A8 := A_ A80
 clear A80
 obtain ⟨y130, hy130⟩ : ∃ y_ : List Int, y_ = (([t124, t127, t128, t129] : List Int)) := ⟨_, rfl⟩
 replace H : ((cmp_Or_int.f k y130).bind fun t133 => (some (decide (t133 < 0)))) = some r := by first | (rw [hy130]; with_reducible exact H) | (have H2_ := (Option.bind_some _ _).symm.trans H; rw [hy130]; with_reducible exact H2_) | (have H2_ := (Option.bind_some _ _).symm.trans H; with_reducible exact H2_) | with_reducible exact H | (rw [hy130]; exact H) | exact H
 have Ny130 := A_ hy130
 clear hy130
 replace H := Option.bind_eq_some_iff.mp H
 obtain ⟨t133, A90, H⟩ := H
 replace H : (some (decide (t133 < 0))) = some r := H
 have A9 := A_ A90
 clear A90
 obtain rfl := Option.some.inj H
 go_enter Try.func84, Try.ntmps84
 try go_wp2_with (first | ((with_reducible refine gate_dst (N := 2) rfl ?_); refine box_event ?hg (N := 2) ?hd (cs := #[.int .i64 a0_0, .int .i64 a0_1, .int .i64 a0_2, .int .i64 a0_3, .int .i64 a0_4, .string a0_5]) (t := 24) ?hr ?_; (case hd => rfl); (case hg => rfl); (case hr => first | (go_simp; done) | (go_simp; rfl)); intro gb122 hg w10 hbox hb; have n0_ := A_ (below_step bw_ hb); have n1_ := A_ (hbox); have n2_ := A_ (gz_ (w := w) hg); have n3_ := A_ (gz_ (w := w) hg); replace HB := n0_; have BK122 := n1_; have GW122 := n2_; have GE122 := n3_; clear n0_ n1_ n2_ n3_; clear hb hbox hg) | ((with_reducible refine gate_dst (N := 3) rfl ?_); refine box_event ?hg (N := 3) ?hd (cs := #[.int .i64 a1_0, .int .i64 a1_1, .int .i64 a1_2, .int .i64 a1_3, .int .i64 a1_4, .string a1_5]) (t := 24) ?hr ?_; (case hd => rfl); (case hg => rfl); (case hr => first | (go_simp; done) | (go_simp; rfl)); intro gb123 hg w11 hbox hb; have n0_ := A_ (kb_ BK122 hb); have n1_ := A_ (below_step bw_ hb); have n2_ := A_ (hbox); have n3_ := A_ (gz_ (w := w) hg); have n4_ := A_ (gz_ (w := w) hg); have n5_ := A_ (nl_ BK122 hg); have n6_ := A_ (ng_ BK122 hg); replace BK122 := n0_; replace HB := n1_; have BK123 := n2_; have GW123 := n3_; have GE123 := n4_; have NB122_123 := n5_; have NB123_122 := n6_; clear n0_ n1_ n2_ n3_ n4_ n5_ n6_; clear hb hbox hg))
 have n0_ := A_ (bd_ BK122.out); have n1_ := A_ (bd_ BK123.out); have n2_ := A_ (wd_ HB.out); replace BK122 := n0_; replace BK123 := n1_; replace HB := n2_; clear n0_ n1_ n2_
 refine start_ (n := 24) (S := fun w' => w'.cell? ⟨gb123, 0, none⟩ = some (.int .i64 a1_0) ∧ w'.cell? ⟨gb123, 1, none⟩ = some (.int .i64 a1_1) ∧ w'.cell? ⟨gb123, 2, none⟩ = some (.int .i64 a1_2) ∧ w'.cell? ⟨gb123, 3, none⟩ = some (.int .i64 a1_3) ∧ w'.cell? ⟨gb123, 4, none⟩ = some (.int .i64 a1_4) ∧ w'.cell? ⟨gb123, 5, none⟩ = some (.string a1_5) ∧ w'.cell? ⟨gb122, 0, none⟩ = some (.int .i64 a0_0) ∧ w'.cell? ⟨gb122, 1, none⟩ = some (.int .i64 a0_1) ∧ w'.cell? ⟨gb122, 2, none⟩ = some (.int .i64 a0_2) ∧ w'.cell? ⟨gb122, 3, none⟩ = some (.int .i64 a0_3) ∧ w'.cell? ⟨gb122, 4, none⟩ = some (.int .i64 a0_4) ∧ w'.cell? ⟨gb122, 5, none⟩ = some (.string a0_5)) (ds := []) #[F,F,F,F,F,F,F,F,F,F,F,F,F,F,F,F,F,F,F,F,F,F,F,F] (by kernel_rfl) rfl rfl ⟨e_ BK123 0, e_ BK123 1, e_ BK123 2, e_ BK123 3, e_ BK123 4, e_ BK123 5, e_ BK122 0, e_ BK122 1, e_ BK122 2, e_ BK122 3, e_ BK122 4, e_ BK122 5⟩ (fun hHeld => ?_); refine with_tabW txn_Better.tab1 txn_Better.bits1 (fun HT_ HW_ => ?_)
 generalize w11.drew = w12 at BK122 BK123 HB hHeld ⊢
 refine pq_ 0 5 HT_ ?_
 refine pq_ 2 7 HT_ ?_
 refine pq_ 10 15 HT_ ?_
 refine pq_ 12 17 HT_ ?_
 refine pq_ 15 20 HT_ ?_
 refine pq_ 17 22 HT_ ?_
 refine tk_ 1 6 HT_ HW_ hHeld ?_
 refine tk_ 3 8 HT_ HW_ hHeld ?_
 refine tk_ 5 10 HT_ HW_ hHeld ?_
 refine tk_ 7 12 HT_ HW_ hHeld ?_
 refine tk_ 11 16 HT_ HW_ hHeld ?_
 refine tk_ 13 18 HT_ HW_ hHeld ?_
 refine tk_ 16 21 HT_ HW_ hHeld ?_
 refine tk_ 18 23 HT_ HW_ hHeld ?_
 refine one_ (i := 4) (N := some 9) #[T,T,T,T,T,T,F,T,F,F,T,T,T,T,F,T,T,T,T,F,F,F,F,F] rfl rfl (one_of HT_.out (by kernel_rfl)) (by decide) (fun K hK => ?_)
 refine goes_ Try.func114 (by kernel_rfl) rfl #[.int .i64 a1_2, .int .i64 a0_2] (by rfl) rfl rfl (by (try simp only [m0_, m1_, m2_]); first | done | rfl) ?_
 with_reducible refine (cmp_Compare_int.calls a1_2 a0_2 t124 _ A3.out).mono ?_
 rintro e w' ⟨rfl, ⟨nd, rfl⟩⟩
 refine ⟨_, rfl, ?_⟩
 refine hK.out _ _ ⟨e_ BK123 0, e_ BK123 1, e_ BK123 2, e_ BK123 3, e_ BK123 4, e_ BK123 5, e_ BK122 0, e_ BK122 1, e_ BK122 2, e_ BK122 3, e_ BK122 4, e_ BK122 5⟩ (fun hHeld => ?_)
 clear hK K
 refine norm_ (a' := ?_) ?_ ?_
 rotate_left
 · show Act.put _ (some 9) _ = _
   simp only [Act.put, s0_, s1_, s2_, i64_w, i32_w]
   rfl
 refine one_ (i := 6) (N := some 11) #[T,T,T,T,T,T,T,T,F,F,T,T,T,T,F,T,T,T,T,F,F,F,F,F] rfl rfl (one_of HT_.out (by kernel_rfl)) (by decide) (fun K hK => ?_)
 refine goes_ Try.func125 (by kernel_rfl) rfl #[.agg #[.int .i64 a0_0, .int .i64 a0_1, .int .i64 a0_2, .int .i64 a0_3, .int .i64 a0_4, .string a0_5]] (by rfl) rfl rfl (by (try simp only [m0_, m1_, m2_]); first | done | rfl) ?_
 with_reducible refine (txn_ID.calls a0_0 a0_1 a0_2 a0_3 a0_4 a0_5 t125 _ A4.out).mono ?_
 rintro e w13 ⟨rfl, hb⟩
 refine ⟨_, rfl, ?_⟩
 have n0_ := A_ (kb_ BK122 hb); have n1_ := A_ (kb_ BK123 hb); have n2_ := A_ (below_step bw_ hb); replace BK122 := n0_; replace BK123 := n1_; replace HB := n2_; clear n0_ n1_ n2_
 (try clear hb)
 (try clear hb2)
 (try clear hk)
 (try clear hi)
 refine hK.out _ _ ⟨e_ BK123 0, e_ BK123 1, e_ BK123 2, e_ BK123 3, e_ BK123 4, e_ BK123 5, e_ BK122 0, e_ BK122 1, e_ BK122 2, e_ BK122 3, e_ BK122 4, e_ BK122 5⟩ (fun hHeld => ?_)
 clear hK K
 refine norm_ (a' := ?_) ?_ ?_
 rotate_left
 · show Act.put _ (some 11) _ = _
   simp only [Act.put, s0_, s1_, s2_, i64_w, i32_w]
   rfl
 refine one_ (i := 8) (N := some 13) #[T,T,T,T,T,T,T,T,T,F,T,T,T,T,F,T,T,T,T,F,F,F,F,F] rfl rfl (one_of HT_.out (by kernel_rfl)) (by decide) (fun K hK => ?_)
 refine goes_ Try.func125 (by kernel_rfl) rfl #[.agg #[.int .i64 a1_0, .int .i64 a1_1, .int .i64 a1_2, .int .i64 a1_3, .int .i64 a1_4, .string a1_5]] (by rfl) rfl rfl (by (try simp only [m0_, m1_, m2_]); first | done | rfl) ?_
 with_reducible refine (txn_ID.calls a1_0 a1_1 a1_2 a1_3 a1_4 a1_5 t126 _ A5.out).mono ?_
 rintro e w14 ⟨rfl, hb⟩
 refine ⟨_, rfl, ?_⟩
 have n0_ := A_ (kb_ BK122 hb); have n1_ := A_ (kb_ BK123 hb); have n2_ := A_ (below_step bw_ hb); replace BK122 := n0_; replace BK123 := n1_; replace HB := n2_; clear n0_ n1_ n2_
 (try clear hb)
 (try clear hb2)
 (try clear hk)
 (try clear hi)
 refine hK.out _ _ ⟨e_ BK123 0, e_ BK123 1, e_ BK123 2, e_ BK123 3, e_ BK123 4, e_ BK123 5, e_ BK122 0, e_ BK122 1, e_ BK122 2, e_ BK122 3, e_ BK122 4, e_ BK122 5⟩ (fun hHeld => ?_)
 clear hK K
 refine norm_ (a' := ?_) ?_ ?_
 rotate_left
 · show Act.put _ (some 13) _ = _
   simp only [Act.put, s0_, s1_, s2_, i64_w, i32_w]
   rfl
 refine one_ (i := 9) (N := some 14) #[T,T,T,T,T,T,T,T,T,T,T,T,T,T,F,T,T,T,T,F,F,F,F,F] rfl rfl (one_of HT_.out (by kernel_rfl)) (by decide) (fun K hK => ?_)
 refine goes_ Try.func124 (by kernel_rfl) rfl #[.string t125, .string t126] (by rfl) rfl rfl (by (try simp only [m0_, m1_, m2_]); first | done | rfl) ?_
 with_reducible refine (strings_Compare.calls t125 t126 t127 _ A6.out).mono ?_
 rintro e w' ⟨rfl, ⟨nd, rfl⟩⟩
 refine ⟨_, rfl, ?_⟩
 refine hK.out _ _ ⟨e_ BK123 0, e_ BK123 1, e_ BK123 2, e_ BK123 3, e_ BK123 4, e_ BK123 5, e_ BK122 0, e_ BK122 1, e_ BK122 2, e_ BK122 3, e_ BK122 4, e_ BK122 5⟩ (fun hHeld => ?_)
 clear hK K
 refine norm_ (a' := ?_) ?_ ?_
 rotate_left
 · show Act.put _ (some 14) _ = _
   simp only [Act.put, s0_, s1_, s2_, i64_w, i32_w]
   rfl
 refine one_ (i := 14) (N := some 19) #[T,T,T,T,T,T,T,T,T,T,T,T,T,T,T,T,T,T,T,F,F,F,F,F] rfl rfl (one_of HT_.out (by kernel_rfl)) (by decide) (fun K hK => ?_)
 refine goes_ Try.func114 (by kernel_rfl) rfl #[.int .i64 a0_0, .int .i64 a1_0] (by rfl) rfl rfl (by (try simp only [m0_, m1_, m2_]); first | done | rfl) ?_
 with_reducible refine (cmp_Compare_int.calls a0_0 a1_0 t128 _ A7.out).mono ?_
 rintro e w' ⟨rfl, ⟨nd, rfl⟩⟩
 refine ⟨_, rfl, ?_⟩
 refine hK.out _ _ ⟨e_ BK123 0, e_ BK123 1, e_ BK123 2, e_ BK123 3, e_ BK123 4, e_ BK123 5, e_ BK122 0, e_ BK122 1, e_ BK122 2, e_ BK122 3, e_ BK122 4, e_ BK122 5⟩ (fun hHeld => ?_)
 clear hK K
 refine norm_ (a' := ?_) ?_ ?_
 rotate_left
 · show Act.put _ (some 19) _ = _
   simp only [Act.put, s0_, s1_, s2_, i64_w, i32_w]
   rfl
 refine one_ (i := 19) (N := some 24) #[T,T,T,T,T,T,T,T,T,T,T,T,T,T,T,T,T,T,T,T,F,F,F,F] rfl rfl (one_of HT_.out (by kernel_rfl)) (by decide) (fun K hK => ?_)
 refine goes_ Try.func114 (by kernel_rfl) rfl #[.int .i64 a0_1, .int .i64 a1_1] (by rfl) rfl rfl (by (try simp only [m0_, m1_, m2_]); first | done | rfl) ?_
 with_reducible refine (cmp_Compare_int.calls a0_1 a1_1 t129 _ A8.out).mono ?_
 rintro e w' ⟨rfl, ⟨nd, rfl⟩⟩
 refine ⟨_, rfl, ?_⟩
 refine hK.out _ _ ⟨e_ BK123 0, e_ BK123 1, e_ BK123 2, e_ BK123 3, e_ BK123 4, e_ BK123 5, e_ BK122 0, e_ BK122 1, e_ BK122 2, e_ BK122 3, e_ BK122 4, e_ BK122 5⟩ (fun hHeld => ?_)
 clear hK K
 refine norm_ (a' := ?_) ?_ ?_
 rotate_left
 · show Act.put _ (some 24) _ = _
   simp only [Act.put, s0_, s1_, s2_, i64_w, i32_w]
   rfl
 refine one_ (i := 20) (N := some 25) #[T,T,T,T,T,T,T,T,T,T,T,T,T,T,T,T,T,T,T,T,T,F,F,F] rfl rfl (one_of HT_.out (by kernel_rfl)) (by decide) (fun K hK => ?_)
 refine Kd.R_lit_step (Kd.int .i64) _ 3 ?hg (N := 25) ?hd (xs := ([t124, t127, t128, t129] : List Int)) (inner := [.int .i64 t124, .int .i64 t127, .int .i64 t128, .int .i64 t129]) (ok := fun _ => True) (okp := fun _ => True) ?hr ?hp (fun _ hk => hk) trivial (Below.refl _ _) (Nat.le_refl _) (by simp) ?_; (case hd => rfl); (case hg => rfl); (case hr => first | (go_simp; done) | (go_simp; rfl)); (case hp => exact (Reps.one (show Kd.M (Kd.int .i64) _ _ _ t124 [.int .i64 t124] from rfl) (Reps.one (show Kd.M (Kd.int .i64) _ _ _ t127 [.int .i64 t127] from rfl) (Reps.one (show Kd.M (Kd.int .i64) _ _ _ t128 [.int .i64 t128] from rfl) (Reps.one (show Kd.M (Kd.int .i64) _ _ _ t129 [.int .i64 t129] from rfl) (Reps.none _ _))))))
 intro v131 w15 ho16 hb hg_ hnew_
 clear hg_ hnew_
 (first | rw [← Ny130.out] at ho16 | (simp only [Int.reduceToNat] at ho16; rw [← Ny130.out] at ho16))
 have HO132 := A_ (Kd.R_lower ho16 (below_size bw_)); replace BK122 := A_ (kb_ BK122 hb); replace BK123 := A_ (kb_ BK123 hb); replace HB := A_ (below_step bw_ hb); clear hb ho16
 obtain ⟨Ao17, co17, eo17⟩ := Kd.R_slice HO132.out
 (first | subst eo17 | (injection eo17 with f1_ f2_ f3_; have f4_ := f1_.symm; have f5_ := f3_.symm; clear f1_ f2_ f3_; subst f4_; subst f5_))
 refine hK.out _ _ ⟨e_ BK123 0, e_ BK123 1, e_ BK123 2, e_ BK123 3, e_ BK123 4, e_ BK123 5, e_ BK122 0, e_ BK122 1, e_ BK122 2, e_ BK122 3, e_ BK122 4, e_ BK122 5⟩ (fun hHeld => ?_)
 clear hK K
 refine norm_ (a' := ?_) ?_ ?_
 rotate_left
 · show Act.put _ (some 25) _ = _
   simp only [Act.put, s0_, s1_, s2_, i64_w, i32_w]
   rfl
 refine one_ (i := 21) (N := some 26) #[T,T,T,T,T,T,T,T,T,T,T,T,T,T,T,T,T,T,T,T,T,T,F,F] rfl rfl (one_of HT_.out (by kernel_rfl)) (by decide) (fun K hK => ?_)
 refine goes_ Try.func123 (by kernel_rfl) rfl #[.slice Ao17 y130.length co17] (by rfl) rfl rfl (by (try simp only [m0_, m1_, m2_]); first | done | rfl) ?_
 with_reducible refine (cmp_Or_int.calls k _ _ y130 t133 _ ?side1 ?side2 A9.out).mono ?_
 (case side1 => repeat (first | exact (Kd.R_reads' HO132.out).2.2 | (with_reducible refine ca_ ?_ _) | (with_reducible refine cn_ ?_ _) | (with_reducible refine cd_ ?_)))
 (case side2 => exact (Kd.R_reads' HO132.out).2.1)
 rintro e w' ⟨rfl, ⟨nd, rfl⟩⟩
 refine ⟨_, rfl, ?_⟩
 refine hK.out _ _ ⟨e_ BK123 0, e_ BK123 1, e_ BK123 2, e_ BK123 3, e_ BK123 4, e_ BK123 5, e_ BK122 0, e_ BK122 1, e_ BK122 2, e_ BK122 3, e_ BK122 4, e_ BK122 5⟩ (fun hHeld => ?_)
 clear hK K
 refine norm_ (a' := ?_) ?_ ?_
 rotate_left
 · show Act.put _ (some 26) _ = _
   simp only [Act.put, s0_, s1_, s2_, i64_w, i32_w]
   rfl
 refine pq_ 22 27 HT_ ?_
 refine pq_ 23 4 HT_ ?_
 refine done_ (done_of HT_.out (by kernel_rfl)) ?_
 try go_wp2
 go_ret
 exact ⟨by first | rfl | (simp [errW_none, errW_some] <;> rfl) | (simp [*, errW_none, errW_some] <;> rfl), by repeat (first | (with_reducible first | exact HB.out | apply wa_ | apply wn_ | apply wd_ | refine ws_ ?_ GE122.out | refine ws_ ?_ GE123.out) | exact HB.out)⟩

end Go.Proofs.Ytehncbhmdgdkjaa.L
