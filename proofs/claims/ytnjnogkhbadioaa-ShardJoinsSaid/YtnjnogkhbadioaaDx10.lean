/- Written by this session's own program over the kit's print: functions of Go told as plain functions, or the row of one statement; proved for every input, with no condition of ours. -/
import Derived.Test.YtnjnogkhbadioaaDx0
import Derived.Test.YtnjnogkhbadioaaDx2
import Derived.Test.YtnjnogkhbadioaaDx3
import Derived.Test.YtnjnogkhbadioaaDx5
import Derived.Test.YtnjnogkhbadioaaDx7
import Derived.Test.YtnjnogkhbadioaaDx8
import Derived.Test.YtnjnogkhbadioaaDx9
namespace Go.Proofs.Ytnjnogkhbadioaa.D
open Go.RowKit Go.Proofs.YtnjnogkhbadioaaW.PrintWords Go.Proofs.YtnjnogkhbadioaaW.PrintLast Go.Proofs.YtnjnogkhbadioaaW.PrintMore
attribute [local go_sem] max2_int min2_int max_two min_two max_three min_three max_four min_four   -- for this text's walks alone
set_option linter.unusedVariables false
set_option linter.unusedSimpArgs false

/-! ### hopperlaw11_live: function 8, by hand -/
-- HAND rounds=0 making=1
-- IMPORT Derived.Test.YtnjnogkhbadioaaRowL
/-- The two transactions. -/
def hopperlaw11_live.T : S32 := ⟨3, 1, 5, 9, 1, ⟨#[]⟩⟩
def hopperlaw11_live.U : S32 := ⟨5, 0, 4, 9, 1, ⟨#[]⟩⟩
def hopperlaw11_live.cT : List Value := [.int .i64 3, .int .i64 1, .int .i64 5, .int .i64 9, .int .i64 1, .string ⟨#[]⟩]
def hopperlaw11_live.cU : List Value := [.int .i64 5, .int .i64 0, .int .i64 4, .int .i64 9, .int .i64 1, .string ⟨#[]⟩]
def hopperlaw11_live.aS : S46 := ⟨3, 0, [hopperlaw11_live.T]⟩
def hopperlaw11_live.aR : S46 := ⟨1, 4, []⟩
def hopperlaw11_live.aJ : S46 := ⟨2, 1, []⟩
def hopperlaw11_live.aW : S46 := ⟨9, 1, []⟩
def hopperlaw11_live.aU : S46 := ⟨5, 0, [hopperlaw11_live.U]⟩
theorem hopperlaw11_live.set1 : shard_Set.f [] 7 3 0 [hopperlaw11_live.T] = some ([hopperlaw11_live.aS], 8) := by rfl
theorem hopperlaw11_live.set2 : shard_Set.f [hopperlaw11_live.aS] 8 1 4 [] = some ([hopperlaw11_live.aR, hopperlaw11_live.aS], 9) := by rfl
theorem hopperlaw11_live.set3 : shard_Set.f [hopperlaw11_live.aR, hopperlaw11_live.aS] 9 3 0 [] = some ([hopperlaw11_live.aR], 10) := by rfl
theorem hopperlaw11_live.join : shard_Join.f [⟨[hopperlaw11_live.aS], 8⟩, ⟨[hopperlaw11_live.aJ], 0⟩] = some [hopperlaw11_live.aJ, hopperlaw11_live.aS] := by rfl
theorem hopperlaw11_live.get1 : shard_Get.f [hopperlaw11_live.aS] 8 3 = some (3, 0, [hopperlaw11_live.T]) := by rfl
theorem hopperlaw11_live.get2 : shard_Get.f [hopperlaw11_live.aS] 8 4 = some (4, 0, []) := by rfl
theorem hopperlaw11_live.worst : shard_Worst.f 40 [hopperlaw11_live.aS, hopperlaw11_live.aW, hopperlaw11_live.aU] = some (5, 0, 4, 9, 1, ⟨#[]⟩, true) := by kernel_rfl
theorem hopperlaw11_live.slots : shard_Slots.f 40 [hopperlaw11_live.aS] 8 = some 1 := by decide +kernel
theorem hopperlaw11_live.chk1 : shard_Check.f 40 [hopperlaw11_live.aS] 8 0 1 0 0 4 0 0 0 0 = some true := by decide +kernel
theorem hopperlaw11_live.chk2 : shard_Check.f 40 [⟨0, 0, []⟩] 0 0 1 0 0 4 0 0 0 0 = some false := by decide +kernel
theorem hopperlaw11_live.lasts : shard_Lasts.f 40 [hopperlaw11_live.aR, hopperlaw11_live.aS] = some [hopperlaw11_live.T] := by kernel_rfl
def hopperlaw11_live.f : Option Bool := some true
theorem hopperlaw11_live.fld2 (x y v : Value) (w : World) : (Instr.field 46 (.agg #[x, y, v]) 2).run Try.prog w = .ok v w := by
  have h1 := Try.underlying46
  have h2 := Try.underlying38
  unfold Instr.field asAgg
  go_simp
theorem hopperlaw11_live.fld0 (x y v : Value) (w : World) : (Instr.field 46 (.agg #[x, y, v]) 0).run Try.prog w = .ok x w := by
  have h1 := Try.underlying46
  have h2 := Try.underlying3
  unfold Instr.field asAgg
  go_simp
def hopperlaw11_live.T10 : Bool × List (List Nat × List Nat) := (true, [([], []), ([0], [0]), ([1], [1]), ([2], [2]), ([3], [3]), ([4, 3], [3, 4]), ([5, 3], [3, 5]), ([3, 6], [3, 6]), ([7, 3], [7]), ([8], [8]), ([9, 8], [8, 9]), ([10, 8], [8, 10]), ([11, 8], [8, 11]), ([12, 8], [8, 12]), ([13, 8], [8, 13]), ([8, 14], [8, 14]), ([15, 8], [15]), ([16], [16]), ([17, 16], [16, 17]), ([18, 16], [16, 18]), ([19, 16], [16, 19]), ([20, 16], [16, 20]), ([21, 16], [16, 21]), ([16, 22], [16, 22]), ([23, 16], [23]), ([24], [24]), ([25, 24], [24, 25]), ([26, 24], [24, 26]), ([27, 24], [24, 27]), ([28, 24], [24, 28]), ([24, 29], [24, 29]), ([30, 24], [30]), ([31], [31]), ([31], [31]), ([32, 33, 31], [31, 32, 33]), ([31, 34], [31, 34]), ([35, 31], [35]), ([36], [36]), ([36, 37], [36, 37]), ([38, 36], [38]), ([39], [39]), ([40, 39, 39], [39, 40]), ([41, 39], [39, 41]), ([39, 42], [39, 42]), ([43, 41], [43]), ([44], [44]), ([45, 44, 44], [44, 45]), ([46, 44], [44, 46]), ([47, 44], [44, 47]), ([48, 44], [44, 48]), ([44], [44]), ([49, 50, 44], [44, 49, 50]), ([44, 51], [44, 51]), ([52, 46], [52]), ([53], [53]), ([54, 53, 53], [53, 54]), ([55, 53], [53, 55]), ([56, 53], [53, 56]), ([53, 57], [53, 57]), ([58, 55], [58]), ([59], [59]), ([59], [59]), ([60, 61, 59, 59], [59, 60, 61]), ([59, 62], [59, 62]), ([63, 62], [63]), ([64], [64]), ([65, 64], [64, 65]), ([66, 64], [64, 66]), ([64], [64]), ([67, 68, 64, 64], [64, 67, 68]), ([69, 64], [64, 69]), ([64, 70], [64, 70]), ([71, 69], [71]), ([72], [72]), ([73, 72], [72, 73]), ([74, 72, 72], [72, 74]), ([75, 72], [72, 75]), ([76, 72], [72, 76]), ([72, 77], [72, 77]), ([78, 75, 0, 1, 2, 3, 4, 5, 6, 7, 8, 9, 10, 11, 12, 13, 14, 15, 16, 17, 18, 19, 20, 21, 22, 23, 24, 25, 26, 27, 28, 29, 30, 31, 32, 33, 34, 35, 36, 37, 38, 39, 40, 41, 42, 43, 44, 45, 46, 47, 48, 49, 50, 51, 52, 53, 54, 55, 56, 57, 58, 59, 60, 61, 62, 63, 64, 65, 66, 67, 68, 69, 70, 71, 72, 73, 74, 75, 76, 77, 78], [78])])
def hopperlaw11_live.B10 : List Nat := [0, 1, 3, 7, 15, 31, 63, 127, 255, 511, 1023, 2047, 4095, 8191, 16383, 32767, 65535, 131071, 262143, 524287, 1048575, 2097151, 4194303, 8388607, 16777215, 33554431, 67108863, 134217727, 268435455, 536870911, 1073741823, 2147483647, 4294967295, 4294967295, 17179869183, 34359738367, 68719476735, 137438953471, 274877906943, 549755813887, 1099511627775, 2199023255551, 4398046511103, 8796093022207, 17592186044415, 35184372088831, 70368744177663, 140737488355327, 281474976710655, 562949953421311, 35184372088831, 2251799813685247, 4503599627370495, 9007199254740991, 18014398509481983, 36028797018963967, 72057594037927935, 144115188075855871, 288230376151711743, 576460752303423487, 1152921504606846975, 1152921504606846975, 4611686018427387903, 9223372036854775807, 18446744073709551615, 36893488147419103231, 73786976294838206463, 147573952589676412927, 36893488147419103231, 590295810358705651711, 1180591620717411303423, 2361183241434822606847, 4722366482869645213695, 9444732965739290427391, 18889465931478580854783, 37778931862957161709567, 75557863725914323419135, 151115727451828646838271, 302231454903657293676543, 604462909807314587353087]
theorem hopperlaw11_live.tab10 : rtab .any (opsOf Try.f8 10) = hopperlaw11_live.T10 := by kernel_rfl
theorem hopperlaw11_live.bits10 : waitsOk hopperlaw11_live.T10.2 hopperlaw11_live.B10 = true := by kernel_rfl
set_option maxHeartbeats 8000000 in
set_option maxRecDepth 100000 in
theorem hopperlaw11_live.calls (r : Bool) (w : World) (h : hopperlaw11_live.f = some r) : Calls Try.prog 8 #[] w fun e w' => e = .returned (.bool r) ∧ Below w.heap.size w w' := by
  obtain rfl : true = r := Option.some.inj h
  clear h
  go_enter Try.func8, Try.ntmps8
  go_upto_region 3 with (fail)
  have BT := heap_alloc_new w (.cells #[.int .i64 3, .int .i64 1, .int .i64 5, .int .i64 9, .int .i64 1, .string ⟨#[]⟩] 32)
  have BU := heap_alloc_new (w.alloc (.cells #[.int .i64 3, .int .i64 1, .int .i64 5, .int .i64 9, .int .i64 1, .string ⟨#[]⟩] 32)) (.cells #[.int .i64 5, .int .i64 0, .int .i64 4, .int .i64 9, .int .i64 1, .string ⟨#[]⟩] 32)
  replace BT := (heap_alloc_old (w.alloc (.cells #[.int .i64 3, .int .i64 1, .int .i64 5, .int .i64 9, .int .i64 1, .string ⟨#[]⟩] 32)) (.cells #[.int .i64 5, .int .i64 0, .int .i64 4, .int .i64 9, .int .i64 1, .string ⟨#[]⟩] 32) (by simp : w.heap.size < _)).trans BT
  have HB := below_alloc (below_alloc (Below.refl w.heap.size w) (.cells #[.int .i64 3, .int .i64 1, .int .i64 5, .int .i64 9, .int .i64 1, .string ⟨#[]⟩] 32)) (.cells #[.int .i64 5, .int .i64 0, .int .i64 4, .int .i64 9, .int .i64 1, .string ⟨#[]⟩] 32)
  rw [World.size_alloc] at BU
  generalize World.alloc (World.alloc w _) _ = w2 at BT BU HB ⊢
  obtain ⟨b0, hb0⟩ : ∃ b0, b0 = w.heap.size := ⟨_, rfl⟩
  rw [← hb0] at BT BU ⊢
  clear hb0
  replace BT := Aside0.mk BT
  replace BU := Aside0.mk BU
  replace HB := Aside0.mk HB
  have ct0 : w2.cell? ⟨b0, 0, none⟩ = some (.int .i64 3) := (blk_cell BT.out 0).trans rfl
  have ct1 : w2.cell? ⟨b0, 1, none⟩ = some (.int .i64 1) := (blk_cell BT.out 1).trans rfl
  have ct2 : w2.cell? ⟨b0, 2, none⟩ = some (.int .i64 5) := (blk_cell BT.out 2).trans rfl
  have ct3 : w2.cell? ⟨b0, 3, none⟩ = some (.int .i64 9) := (blk_cell BT.out 3).trans rfl
  have ct4 : w2.cell? ⟨b0, 4, none⟩ = some (.int .i64 1) := (blk_cell BT.out 4).trans rfl
  have ct5 : w2.cell? ⟨b0, 5, none⟩ = some (.string ⟨#[]⟩) := (blk_cell BT.out 5).trans rfl
  have hx3 := heap_alloc_new w2 (.cells #[.int .i64 3, .int .i64 1, .int .i64 5, .int .i64 9, .int .i64 1, .string ⟨#[]⟩] 32)
  have hb3 := Aside0.mk (below_alloc (Below.refl w2.heap.size w2) (.cells #[.int .i64 3, .int .i64 1, .int .i64 5, .int .i64 9, .int .i64 1, .string ⟨#[]⟩] 32))
  have HC := Aside0.mk (shard_Set.calls (fun _ => True) none 0 [] 7 3 0 (fun _ => True) (some ⟨w2.heap.size, 0, none⟩) 1 [hopperlaw11_live.T] _ _ (w2.alloc (.cells #[.int .i64 3, .int .i64 1, .int .i64 5, .int .i64 9, .int .i64 1, .string ⟨#[]⟩] 32)) (Kd.V_nil _ _ _ _ _) (RowN.V_all (e := 32) (base := 0) k32_heap (RowN.C_block (rows := [[.int .i64 3, .int .i64 1, .int .i64 5, .int .i64 9, .int .i64 1, .string ⟨#[]⟩]]) hx3 rfl (by decide) (by intro j x c hx hc; match j, hx, hc with | 0, hx, hc => (obtain rfl := Option.some.inj hx; obtain rfl := Option.some.inj hc; exact k32_mk _ hopperlaw11_live.T))) (Nat.le_refl _)) hopperlaw11_live.set1)
  simp only [List.length_cons, List.length_nil, Nat.zero_add, Nat.reduceAdd] at HC
  clear hx3
  go_upto_region 4 with (go_at_call 21; refine HC.out.mono ?_; rintro e w4 ⟨v0, rfl, hN, hb⟩; have H4 := Aside0.mk (below_step hb3.out hb); obtain ⟨gS, cS, rfl, _, _, _⟩ := Kd.N_form hN (by decide); have VS := Aside0.mk (Kd.V_mono (ok' := fun _ => True) (Kd.N_V (base' := 0) hN) (fun _ _ => trivial)); clear hN hb)
  skip
  clear ct0 ct1 ct2 ct3 ct4 ct5
  clear hb3
  have hba := below_alloc (Below.refl w4.heap.size w4) (.cells #[.slice (some ⟨gS, 0, none⟩) 1 cS, .int .i64 8] 48)
  have BS := heap_alloc_new w4 (.cells #[.slice (some ⟨gS, 0, none⟩) 1 cS, .int .i64 8] 48)
  replace H4 := Aside0.mk (below_step H4.out hba)
  replace VS := Aside0.mk (Kd.V_below VS.out hba)
  clear hba HC
  generalize w4.alloc (.cells #[.slice (some ⟨gS, 0, none⟩) 1 cS, .int .i64 8] 48) = w5 at BS H4 VS ⊢
  generalize w4.heap.size = bS at BS ⊢
  replace BS := Aside0.mk BS
  replace BT := Aside0.mk (blk_below BT.out H4.out)
  replace BU := Aside0.mk (blk_below BU.out H4.out)
  replace HB := Aside0.mk (below_step HB.out H4.out)
  clear H4
  have cs0 : w5.cell? ⟨bS, 0, none⟩ = some (.slice (some ⟨gS, 0, none⟩) 1 cS) := (blk_cell BS.out 0).trans rfl
  have cs1 : w5.cell? ⟨bS, 1, none⟩ = some (.int .i64 8) := (blk_cell BS.out 1).trans rfl
  have HC := Aside0.mk (shard_Set.calls (fun _ => True) (some ⟨gS, 0, none⟩) cS [hopperlaw11_live.aS] 8 1 4 (fun _ => True) none 0 [] _ _ w5 VS.out (Kd.V_nil _ _ _ _ _) hopperlaw11_live.set2)
  simp only [List.length_cons, List.length_nil, Nat.zero_add, Nat.reduceAdd] at HC
  go_upto_region 5 with (go_at_call 21; refine HC.out.mono ?_; rintro e w6 ⟨v0, rfl, hN, hb⟩; have H := Aside0.mk hb; obtain ⟨gR, cR, rfl, _, _, _⟩ := Kd.N_form hN (by decide); have VR := Aside0.mk (Kd.V_mono (ok' := fun _ => True) (Kd.N_V (base' := 0) hN) (fun _ _ => trivial)); clear hN hb)
  clear cs0 cs1
  have hba := below_alloc (Below.refl w6.heap.size w6) (.cells #[.slice (some ⟨gR, 0, none⟩) 2 cR, .int .i64 9] 48)
  have BR := heap_alloc_new w6 (.cells #[.slice (some ⟨gR, 0, none⟩) 2 cR, .int .i64 9] 48)
  replace H := Aside0.mk (below_step H.out hba)
  replace VR := Aside0.mk (Kd.V_below VR.out hba)
  clear hba HC
  generalize w6.alloc (.cells #[.slice (some ⟨gR, 0, none⟩) 2 cR, .int .i64 9] 48) = w7 at BR H VR ⊢
  generalize w6.heap.size = bR at BR ⊢
  replace BR := Aside0.mk BR
  replace BT := Aside0.mk (blk_below BT.out H.out)
  replace BU := Aside0.mk (blk_below BU.out H.out)
  replace HB := Aside0.mk (below_step HB.out H.out)
  replace BS := Aside0.mk (blk_below BS.out H.out)
  replace VS := Aside0.mk (Kd.V_below VS.out H.out)
  clear H
  have cr0 : w7.cell? ⟨bR, 0, none⟩ = some (.slice (some ⟨gR, 0, none⟩) 2 cR) := (blk_cell BR.out 0).trans rfl
  have cr1 : w7.cell? ⟨bR, 1, none⟩ = some (.int .i64 9) := (blk_cell BR.out 1).trans rfl
  have HC := Aside0.mk (shard_Set.calls (fun _ => True) (some ⟨gR, 0, none⟩) cR [hopperlaw11_live.aR, hopperlaw11_live.aS] 9 3 0 (fun _ => True) none 0 [] _ _ w7 VR.out (Kd.V_nil _ _ _ _ _) hopperlaw11_live.set3)
  simp only [List.length_cons, List.length_nil, Nat.zero_add, Nat.reduceAdd] at HC
  go_upto_region 6 with (go_at_call 21; refine HC.out.mono ?_; rintro e w8 ⟨v0, rfl, hN, hb⟩; have H := Aside0.mk hb; obtain ⟨gQ, cQ, rfl, _, _, _⟩ := Kd.N_form hN (by decide); have VQ := Aside0.mk (Kd.V_mono (ok' := fun _ => True) (Kd.N_V (base' := 0) hN) (fun _ _ => trivial)); clear hN hb)
  clear cr0 cr1
  have hba := below_alloc (Below.refl w8.heap.size w8) (.cells #[.slice (some ⟨gQ, 0, none⟩) 1 cQ, .int .i64 10] 48)
  have BQ := heap_alloc_new w8 (.cells #[.slice (some ⟨gQ, 0, none⟩) 1 cQ, .int .i64 10] 48)
  replace H := Aside0.mk (below_step H.out hba)
  replace VQ := Aside0.mk (Kd.V_below VQ.out hba)
  clear hba HC
  generalize w8.alloc (.cells #[.slice (some ⟨gQ, 0, none⟩) 1 cQ, .int .i64 10] 48) = w9 at BQ H VQ ⊢
  generalize w8.heap.size = bQ at BQ ⊢
  replace BQ := Aside0.mk BQ
  replace BT := Aside0.mk (blk_below BT.out H.out)
  replace BU := Aside0.mk (blk_below BU.out H.out)
  replace HB := Aside0.mk (below_step HB.out H.out)
  replace BS := Aside0.mk (blk_below BS.out H.out)
  replace VS := Aside0.mk (Kd.V_below VS.out H.out)
  replace BR := Aside0.mk (blk_below BR.out H.out)
  replace VR := Aside0.mk (Kd.V_below VR.out H.out)
  clear H
  have cs0 : w9.cell? ⟨bS, 0, none⟩ = some (.slice (some ⟨gS, 0, none⟩) 1 cS) := (blk_cell BS.out 0).trans rfl
  have cs1 : w9.cell? ⟨bS, 1, none⟩ = some (.int .i64 8) := (blk_cell BS.out 1).trans rfl
  have x1 := heap_alloc_new w9 (.cells #[.int .i64 2, .int .i64 1, .slice none 0 0] 46)
  have x2 := heap_alloc_new (w9.alloc (.cells #[.int .i64 2, .int .i64 1, .slice none 0 0] 46)) (.cells #[.slice (some ⟨gS, 0, none⟩) 1 cS, .int .i64 8, .slice (some ⟨w9.heap.size, 0, none⟩) 1 1, .int .i64 0] 48)
  have h1 := below_alloc (Below.refl w9.heap.size w9) (.cells #[.int .i64 2, .int .i64 1, .slice none 0 0] 46)
  have h2 := below_alloc (Below.refl (w9.alloc (.cells #[.int .i64 2, .int .i64 1, .slice none 0 0] 46)).heap.size (w9.alloc (.cells #[.int .i64 2, .int .i64 1, .slice none 0 0] 46))) (.cells #[.slice (some ⟨gS, 0, none⟩) 1 cS, .int .i64 8, .slice (some ⟨w9.heap.size, 0, none⟩) 1 1, .int .i64 0] 48)
  have h12 := Aside0.mk (below_step h1 h2)
  have x1b := blk_below x1 h2
  have VS2 := Kd.V_below VS.out h12.out
  rw [World.size_alloc] at x2
  have cJ := RowN.C_block (e := 46) (d := k46) (xs := [hopperlaw11_live.aJ]) (rows := [[.int .i64 2, .int .i64 1, .slice none 0 0]]) x1b rfl (by decide) (by intro j x c hx hc; match j, hx, hc with | 0, hx, hc => (obtain rfl := Option.some.inj hx; obtain rfl := Option.some.inj hc; exact k46_mk _ hopperlaw11_live.aJ (Nat.le_refl _) (Kd.C_nil _ _)))
  have vJ := RowN.V_all (e := 48) (base := 0) k48_heap (RowN.C_block (xs := [⟨[hopperlaw11_live.aS], 8⟩, ⟨[hopperlaw11_live.aJ], 0⟩]) (rows := [[.slice (some ⟨gS, 0, none⟩) 1 cS, .int .i64 8], [.slice (some ⟨w9.heap.size, 0, none⟩) 1 1, .int .i64 0]]) x2 rfl (by decide) (by intro j x c hx hc; match j, hx, hc with | 0, hx, hc => (obtain rfl := Option.some.inj hx; obtain rfl := Option.some.inj hc; exact k48_mk _ ⟨[hopperlaw11_live.aS], 8⟩ (Kd.V_reads' VS2).2.1 (Kd.V_reads' VS2).2.2) | 1, hx, hc => (obtain rfl := Option.some.inj hx; obtain rfl := Option.some.inj hc; exact k48_mk _ ⟨[hopperlaw11_live.aJ], 0⟩ (Nat.le_refl _) cJ))) (Nat.le_refl _)
  have HC := Aside0.mk (shard_Join.calls (fun _ => True) (some ⟨w9.heap.size + 1, 0, none⟩) 2 [⟨[hopperlaw11_live.aS], 8⟩, ⟨[hopperlaw11_live.aJ], 0⟩] _ ((w9.alloc (.cells #[.int .i64 2, .int .i64 1, .slice none 0 0] 46)).alloc (.cells #[.slice (some ⟨gS, 0, none⟩) 1 cS, .int .i64 8, .slice (some ⟨w9.heap.size, 0, none⟩) 1 1, .int .i64 0] 48)) vJ hopperlaw11_live.join)
  simp only [List.length_cons, List.length_nil, Nat.zero_add, Nat.reduceAdd] at HC
  clear x1 x2 h1 h2 x1b VS2 cJ vJ
  go_upto_region 7 with (go_at_call 9; refine HC.out.mono ?_; rintro e w10 ⟨v0, rfl, hN, hb⟩; have H := Aside0.mk (below_step h12.out hb); obtain ⟨gJ, cJ, rfl, _, _, _⟩ := Kd.N_form hN (by decide); have VJ := Aside0.mk (Kd.V_mono (ok' := fun _ => True) (Kd.N_V (base' := 0) hN) (fun _ _ => trivial)); clear hN hb)
  clear cs0 cs1
  clear h12 HC
  replace BT := Aside0.mk (blk_below BT.out H.out)
  replace BU := Aside0.mk (blk_below BU.out H.out)
  replace HB := Aside0.mk (below_step HB.out H.out)
  replace BS := Aside0.mk (blk_below BS.out H.out)
  replace VS := Aside0.mk (Kd.V_below VS.out H.out)
  replace BR := Aside0.mk (blk_below BR.out H.out)
  replace VR := Aside0.mk (Kd.V_below VR.out H.out)
  replace BQ := Aside0.mk (blk_below BQ.out H.out)
  replace VQ := Aside0.mk (Kd.V_below VQ.out H.out)
  clear H
  have ct0 : w10.cell? ⟨b0, 0, none⟩ = some (.int .i64 3) := (blk_cell BT.out 0).trans rfl
  have ct1 : w10.cell? ⟨b0, 1, none⟩ = some (.int .i64 1) := (blk_cell BT.out 1).trans rfl
  have ct2 : w10.cell? ⟨b0, 2, none⟩ = some (.int .i64 5) := (blk_cell BT.out 2).trans rfl
  have ct3 : w10.cell? ⟨b0, 3, none⟩ = some (.int .i64 9) := (blk_cell BT.out 3).trans rfl
  have ct4 : w10.cell? ⟨b0, 4, none⟩ = some (.int .i64 1) := (blk_cell BT.out 4).trans rfl
  have ct5 : w10.cell? ⟨b0, 5, none⟩ = some (.string ⟨#[]⟩) := (blk_cell BT.out 5).trans rfl
  have cu0 : w10.cell? ⟨b0 + 1, 0, none⟩ = some (.int .i64 5) := (blk_cell BU.out 0).trans rfl
  have cu1 : w10.cell? ⟨b0 + 1, 1, none⟩ = some (.int .i64 0) := (blk_cell BU.out 1).trans rfl
  have cu2 : w10.cell? ⟨b0 + 1, 2, none⟩ = some (.int .i64 4) := (blk_cell BU.out 2).trans rfl
  have cu3 : w10.cell? ⟨b0 + 1, 3, none⟩ = some (.int .i64 9) := (blk_cell BU.out 3).trans rfl
  have cu4 : w10.cell? ⟨b0 + 1, 4, none⟩ = some (.int .i64 1) := (blk_cell BU.out 4).trans rfl
  have cu5 : w10.cell? ⟨b0 + 1, 5, none⟩ = some (.string ⟨#[]⟩) := (blk_cell BU.out 5).trans rfl
  have x1 := heap_alloc_new w10 (.cells #[.int .i64 3, .int .i64 1, .int .i64 5, .int .i64 9, .int .i64 1, .string ⟨#[]⟩] 32)
  have x2 := heap_alloc_new (w10.alloc (.cells #[.int .i64 3, .int .i64 1, .int .i64 5, .int .i64 9, .int .i64 1, .string ⟨#[]⟩] 32)) (.cells #[.int .i64 5, .int .i64 0, .int .i64 4, .int .i64 9, .int .i64 1, .string ⟨#[]⟩] 32)
  have x3 := heap_alloc_new ((w10.alloc (.cells #[.int .i64 3, .int .i64 1, .int .i64 5, .int .i64 9, .int .i64 1, .string ⟨#[]⟩] 32)).alloc (.cells #[.int .i64 5, .int .i64 0, .int .i64 4, .int .i64 9, .int .i64 1, .string ⟨#[]⟩] 32)) (.cells #[.int .i64 3, .int .i64 0, .slice (some ⟨w10.heap.size, 0, none⟩) 1 1, .int .i64 9, .int .i64 1, .slice none 0 0, .int .i64 5, .int .i64 0, .slice (some ⟨w10.heap.size + 1, 0, none⟩) 1 1] 46)
  have h1 := below_alloc (Below.refl w10.heap.size w10) (.cells #[.int .i64 3, .int .i64 1, .int .i64 5, .int .i64 9, .int .i64 1, .string ⟨#[]⟩] 32)
  have h2 := below_alloc (Below.refl (w10.alloc (.cells #[.int .i64 3, .int .i64 1, .int .i64 5, .int .i64 9, .int .i64 1, .string ⟨#[]⟩] 32)).heap.size (w10.alloc (.cells #[.int .i64 3, .int .i64 1, .int .i64 5, .int .i64 9, .int .i64 1, .string ⟨#[]⟩] 32))) (.cells #[.int .i64 5, .int .i64 0, .int .i64 4, .int .i64 9, .int .i64 1, .string ⟨#[]⟩] 32)
  have h3 := below_alloc (Below.refl ((w10.alloc (.cells #[.int .i64 3, .int .i64 1, .int .i64 5, .int .i64 9, .int .i64 1, .string ⟨#[]⟩] 32)).alloc (.cells #[.int .i64 5, .int .i64 0, .int .i64 4, .int .i64 9, .int .i64 1, .string ⟨#[]⟩] 32)).heap.size ((w10.alloc (.cells #[.int .i64 3, .int .i64 1, .int .i64 5, .int .i64 9, .int .i64 1, .string ⟨#[]⟩] 32)).alloc (.cells #[.int .i64 5, .int .i64 0, .int .i64 4, .int .i64 9, .int .i64 1, .string ⟨#[]⟩] 32))) (.cells #[.int .i64 3, .int .i64 0, .slice (some ⟨w10.heap.size, 0, none⟩) 1 1, .int .i64 9, .int .i64 1, .slice none 0 0, .int .i64 5, .int .i64 0, .slice (some ⟨w10.heap.size + 1, 0, none⟩) 1 1] 46)
  have hnu : b0 + 1 ≠ w10.heap.size := by have := (Array.getElem?_eq_some_iff.1 BU.out).1; omega
  have cv0 : (w10.alloc (.cells #[.int .i64 3, .int .i64 1, .int .i64 5, .int .i64 9, .int .i64 1, .string ⟨#[]⟩] 32)).cell? ⟨b0 + 1, 0, none⟩ = some (.int .i64 5) := (blk_cell (blk_below BU.out h1) 0).trans rfl
  have cv1 : (w10.alloc (.cells #[.int .i64 3, .int .i64 1, .int .i64 5, .int .i64 9, .int .i64 1, .string ⟨#[]⟩] 32)).cell? ⟨b0 + 1, 1, none⟩ = some (.int .i64 0) := (blk_cell (blk_below BU.out h1) 1).trans rfl
  have cv2 : (w10.alloc (.cells #[.int .i64 3, .int .i64 1, .int .i64 5, .int .i64 9, .int .i64 1, .string ⟨#[]⟩] 32)).cell? ⟨b0 + 1, 2, none⟩ = some (.int .i64 4) := (blk_cell (blk_below BU.out h1) 2).trans rfl
  have cv3 : (w10.alloc (.cells #[.int .i64 3, .int .i64 1, .int .i64 5, .int .i64 9, .int .i64 1, .string ⟨#[]⟩] 32)).cell? ⟨b0 + 1, 3, none⟩ = some (.int .i64 9) := (blk_cell (blk_below BU.out h1) 3).trans rfl
  have cv4 : (w10.alloc (.cells #[.int .i64 3, .int .i64 1, .int .i64 5, .int .i64 9, .int .i64 1, .string ⟨#[]⟩] 32)).cell? ⟨b0 + 1, 4, none⟩ = some (.int .i64 1) := (blk_cell (blk_below BU.out h1) 4).trans rfl
  have cv5 : (w10.alloc (.cells #[.int .i64 3, .int .i64 1, .int .i64 5, .int .i64 9, .int .i64 1, .string ⟨#[]⟩] 32)).cell? ⟨b0 + 1, 5, none⟩ = some (.string ⟨#[]⟩) := (blk_cell (blk_below BU.out h1) 5).trans rfl
  have x1c := blk_below (blk_below x1 h2) h3
  have x2c := blk_below x2 h3
  have h13 := Aside0.mk (below_step (below_step h1 h2) h3)
  rw [World.size_alloc] at x2 x2c
  rw [World.size_alloc, World.size_alloc] at x3
  have cT := RowN.C_block (e := 32) (d := k32) (xs := [hopperlaw11_live.T]) (rows := [[.int .i64 3, .int .i64 1, .int .i64 5, .int .i64 9, .int .i64 1, .string ⟨#[]⟩]]) x1c rfl (by decide) (by intro j x c hx hc; match j, hx, hc with | 0, hx, hc => (obtain rfl := Option.some.inj hx; obtain rfl := Option.some.inj hc; exact k32_mk _ hopperlaw11_live.T))
  have cU := RowN.C_block (e := 32) (d := k32) (xs := [hopperlaw11_live.U]) (rows := [[.int .i64 5, .int .i64 0, .int .i64 4, .int .i64 9, .int .i64 1, .string ⟨#[]⟩]]) x2c rfl (by decide) (by intro j x c hx hc; match j, hx, hc with | 0, hx, hc => (obtain rfl := Option.some.inj hx; obtain rfl := Option.some.inj hc; exact k32_mk _ hopperlaw11_live.U))
  have cW := RowN.C_block (e := 46) (d := k46) (xs := [hopperlaw11_live.aS, hopperlaw11_live.aW, hopperlaw11_live.aU]) (rows := [[.int .i64 3, .int .i64 0, .slice (some ⟨w10.heap.size, 0, none⟩) 1 1], [.int .i64 9, .int .i64 1, .slice none 0 0], [.int .i64 5, .int .i64 0, .slice (some ⟨w10.heap.size + 1, 0, none⟩) 1 1]]) x3 rfl (by decide) (by intro j x c hx hc; match j, hx, hc with | 0, hx, hc => (obtain rfl := Option.some.inj hx; obtain rfl := Option.some.inj hc; exact k46_mk _ hopperlaw11_live.aS (Nat.le_refl _) cT) | 1, hx, hc => (obtain rfl := Option.some.inj hx; obtain rfl := Option.some.inj hc; exact k46_mk _ hopperlaw11_live.aW (Nat.le_refl _) (Kd.C_nil _ _)) | 2, hx, hc => (obtain rfl := Option.some.inj hx; obtain rfl := Option.some.inj hc; exact k46_mk _ hopperlaw11_live.aU (Nat.le_refl _) cU))
  have HC := Aside0.mk (shard_Worst.calls 40 (some ⟨w10.heap.size + 1 + 1, 0, none⟩) 3 [hopperlaw11_live.aS, hopperlaw11_live.aW, hopperlaw11_live.aU] _ _ _ _ _ _ _ (((w10.alloc (.cells #[.int .i64 3, .int .i64 1, .int .i64 5, .int .i64 9, .int .i64 1, .string ⟨#[]⟩] 32)).alloc (.cells #[.int .i64 5, .int .i64 0, .int .i64 4, .int .i64 9, .int .i64 1, .string ⟨#[]⟩] 32)).alloc (.cells #[.int .i64 3, .int .i64 0, .slice (some ⟨w10.heap.size, 0, none⟩) 1 1, .int .i64 9, .int .i64 1, .slice none 0 0, .int .i64 5, .int .i64 0, .slice (some ⟨w10.heap.size + 1, 0, none⟩) 1 1] 46)) cW (Nat.le_refl _) hopperlaw11_live.worst)
  simp only [List.length_cons, List.length_nil, Nat.zero_add, Nat.reduceAdd] at HC
  clear x1 x2 x3 h1 h2 h3 x1c x2c cT cU cW
  go_upto_region 8 with (go_at_call 11; refine HC.out.mono ?_; rintro e w11 ⟨rfl, hb⟩; have H := Aside0.mk (below_step h13.out hb); clear hb)
  clear ct0 ct1 ct2 ct3 ct4 ct5
  clear cu0 cu1 cu2 cu3 cu4 cu5
  clear cv0 cv1 cv2 cv3 cv4 cv5
  clear h13
  have hba := below_alloc (Below.refl w11.heap.size w11) (.cells #[.int .i64 5, .int .i64 0, .int .i64 4, .int .i64 9, .int .i64 1, .string ⟨#[]⟩] 32)
  have BW_ := heap_alloc_new w11 (.cells #[.int .i64 5, .int .i64 0, .int .i64 4, .int .i64 9, .int .i64 1, .string ⟨#[]⟩] 32)
  replace H := Aside0.mk (below_step H.out hba)
  clear hba HC
  generalize w11.alloc (.cells #[.int .i64 5, .int .i64 0, .int .i64 4, .int .i64 9, .int .i64 1, .string ⟨#[]⟩] 32) = w12 at BW_ H ⊢
  generalize w11.heap.size = bW at BW_ ⊢
  replace BW_ := Aside0.mk BW_
  replace BT := Aside0.mk (blk_below BT.out H.out)
  replace BU := Aside0.mk (blk_below BU.out H.out)
  replace HB := Aside0.mk (below_step HB.out H.out)
  replace BS := Aside0.mk (blk_below BS.out H.out)
  replace VS := Aside0.mk (Kd.V_below VS.out H.out)
  replace BR := Aside0.mk (blk_below BR.out H.out)
  replace VR := Aside0.mk (Kd.V_below VR.out H.out)
  replace BQ := Aside0.mk (blk_below BQ.out H.out)
  replace VQ := Aside0.mk (Kd.V_below VQ.out H.out)
  replace VJ := Aside0.mk (Kd.V_below VJ.out H.out)
  clear H
  have cr0 : w12.cell? ⟨bR, 0, none⟩ = some (.slice (some ⟨gR, 0, none⟩) 2 cR) := (blk_cell BR.out 0).trans rfl
  have cr1 : w12.cell? ⟨bR, 1, none⟩ = some (.int .i64 9) := (blk_cell BR.out 1).trans rfl
  have cq0 : w12.cell? ⟨bQ, 0, none⟩ = some (.slice (some ⟨gQ, 0, none⟩) 1 cQ) := (blk_cell BQ.out 0).trans rfl
  have cq1 : w12.cell? ⟨bQ, 1, none⟩ = some (.int .i64 10) := (blk_cell BQ.out 1).trans rfl
  have cs0 : w12.cell? ⟨bS, 0, none⟩ = some (.slice (some ⟨gS, 0, none⟩) 1 cS) := (blk_cell BS.out 0).trans rfl
  have cs1 : w12.cell? ⟨bS, 1, none⟩ = some (.int .i64 8) := (blk_cell BS.out 1).trans rfl
  go_upto_region 10 with (fail)
  have xr : w12.cell? ⟨gR, 0, none⟩ = some (.int .i64 1) := by obtain ⟨ad_, A_2, c_2, he_, h0_, h1_, _⟩ := at_T46 (Kd.V_reads' VR.out).2.2 0 (by decide) (by decide); injection he_ with he_; subst he_; exact h0_
  have xq : w12.cell? ⟨gQ, 1, none⟩ = some (.int .i64 4) := by obtain ⟨ad_, A_2, c_2, he_, h0_, h1_, _⟩ := at_T46 (Kd.V_reads' VQ.out).2.2 0 (by decide) (by decide); injection he_ with he_; subst he_; exact h1_
  have xj : w12.cell? ⟨gJ, 0, none⟩ = some (.int .i64 2) := by obtain ⟨ad_, A_2, c_2, he_, h0_, h1_, _⟩ := at_T46 (Kd.V_reads' VJ.out).2.2 0 (by decide) (by decide); injection he_ with he_; subst he_; exact h0_
  have cw0 : w12.cell? ⟨bW, 0, none⟩ = some (.int .i64 5) := (blk_cell BW_.out 0).trans rfl
  have cw1 : w12.cell? ⟨bW, 1, none⟩ = some (.int .i64 0) := (blk_cell BW_.out 1).trans rfl
  have cw2 : w12.cell? ⟨bW, 2, none⟩ = some (.int .i64 4) := (blk_cell BW_.out 2).trans rfl
  have cw3 : w12.cell? ⟨bW, 3, none⟩ = some (.int .i64 9) := (blk_cell BW_.out 3).trans rfl
  have cw4 : w12.cell? ⟨bW, 4, none⟩ = some (.int .i64 1) := (blk_cell BW_.out 4).trans rfl
  have cw5 : w12.cell? ⟨bW, 5, none⟩ = some (.string ⟨#[]⟩) := (blk_cell BW_.out 5).trans rfl
  have cu0 : w12.cell? ⟨b0 + 1, 0, none⟩ = some (.int .i64 5) := (blk_cell BU.out 0).trans rfl
  have cu1 : w12.cell? ⟨b0 + 1, 1, none⟩ = some (.int .i64 0) := (blk_cell BU.out 1).trans rfl
  have cu2 : w12.cell? ⟨b0 + 1, 2, none⟩ = some (.int .i64 4) := (blk_cell BU.out 2).trans rfl
  have cu3 : w12.cell? ⟨b0 + 1, 3, none⟩ = some (.int .i64 9) := (blk_cell BU.out 3).trans rfl
  have cu4 : w12.cell? ⟨b0 + 1, 4, none⟩ = some (.int .i64 1) := (blk_cell BU.out 4).trans rfl
  have cu5 : w12.cell? ⟨b0 + 1, 5, none⟩ = some (.string ⟨#[]⟩) := (blk_cell BU.out 5).trans rfl
  have hu46 := Try.underlying46
  have hu48 := Try.underlying48
  have hu32 := Try.underlying32
  have hf2 := hopperlaw11_live.fld2
  have hf0 := hopperlaw11_live.fld0
  clear cr0
  clear cr1
  clear cq0
  clear cq1
  clear cs0
  clear cs1
  clear cw0
  clear cw1
  clear cw2
  clear cw3
  clear cw4
  clear cw5
  clear cu0
  clear cu1
  clear cu2
  clear cu3
  clear cu4
  clear cu5
  replace xr := Aside0.mk xr
  replace xq := Aside0.mk xq
  replace xj := Aside0.mk xj
  replace BT := Aside0.mk (blk_drew BT.out)
  replace BU := Aside0.mk (blk_drew BU.out)
  replace HB := Aside0.mk (below_drew HB.out)
  replace BS := Aside0.mk (blk_drew BS.out)
  replace VS := Aside0.mk (Kd.V_drew VS.out)
  replace BR := Aside0.mk (blk_drew BR.out)
  replace VR := Aside0.mk (Kd.V_drew VR.out)
  replace BQ := Aside0.mk (blk_drew BQ.out)
  replace VQ := Aside0.mk (Kd.V_drew VQ.out)
  replace VJ := Aside0.mk (Kd.V_drew VJ.out)
  replace BW_ := Aside0.mk (blk_drew BW_.out)
  replace xr := Aside0.mk (on_ (below_drew (Below.refl _ _)) xr.out)
  replace xq := Aside0.mk (on_ (below_drew (Below.refl _ _)) xq.out)
  replace xj := Aside0.mk (on_ (below_drew (Below.refl _ _)) xj.out)
  refine start_ (n := 80) (S := fun w' => w'.cell? ⟨bS, 0, none⟩ = some (.slice (some ⟨gS, 0, none⟩) 1 cS) ∧ w'.cell? ⟨bS, 1, none⟩ = some (.int .i64 8) ∧ w'.cell? ⟨bR, 0, none⟩ = some (.slice (some ⟨gR, 0, none⟩) 2 cR) ∧ w'.cell? ⟨bR, 1, none⟩ = some (.int .i64 9) ∧ w'.cell? ⟨bQ, 0, none⟩ = some (.slice (some ⟨gQ, 0, none⟩) 1 cQ) ∧ w'.cell? ⟨gR, 0, none⟩ = some (.int .i64 1) ∧ w'.cell? ⟨gQ, 1, none⟩ = some (.int .i64 4) ∧ w'.cell? ⟨gJ, 0, none⟩ = some (.int .i64 2) ∧ w'.cell? ⟨bW, 0, none⟩ = some (.int .i64 5) ∧ w'.cell? ⟨bW, 1, none⟩ = some (.int .i64 0) ∧ w'.cell? ⟨bW, 2, none⟩ = some (.int .i64 4) ∧ w'.cell? ⟨bW, 3, none⟩ = some (.int .i64 9) ∧ w'.cell? ⟨bW, 4, none⟩ = some (.int .i64 1) ∧ w'.cell? ⟨bW, 5, none⟩ = some (.string ⟨#[]⟩) ∧ w'.cell? ⟨b0 + 1, 0, none⟩ = some (.int .i64 5) ∧ w'.cell? ⟨b0 + 1, 1, none⟩ = some (.int .i64 0) ∧ w'.cell? ⟨b0 + 1, 2, none⟩ = some (.int .i64 4) ∧ w'.cell? ⟨b0 + 1, 3, none⟩ = some (.int .i64 9) ∧ w'.cell? ⟨b0 + 1, 4, none⟩ = some (.int .i64 1) ∧ w'.cell? ⟨b0 + 1, 5, none⟩ = some (.string ⟨#[]⟩) ∧ w'.cell? ⟨b0, 0, none⟩ = some (.int .i64 3) ∧ w'.cell? ⟨b0, 1, none⟩ = some (.int .i64 1) ∧ w'.cell? ⟨b0, 2, none⟩ = some (.int .i64 5) ∧ w'.cell? ⟨b0, 3, none⟩ = some (.int .i64 9) ∧ w'.cell? ⟨b0, 4, none⟩ = some (.int .i64 1) ∧ w'.cell? ⟨b0, 5, none⟩ = some (.string ⟨#[]⟩)) (ds := []) #[false, false, false, false, false, false, false, false, false, false, false, false, false, false, false, false, false, false, false, false, false, false, false, false, false, false, false, false, false, false, false, false, false, false, false, false, false, false, false, false, false, false, false, false, false, false, false, false, false, false, false, false, false, false, false, false, false, false, false, false, false, false, false, false, false, false, false, false, false, false, false, false, false, false, false, false, false, false, false, false] (by kernel_rfl) rfl rfl ⟨e_ BS 0, e_ BS 1, e_ BR 0, e_ BR 1, e_ BQ 0, xr.out, xq.out, xj.out, e_ BW_ 0, e_ BW_ 1, e_ BW_ 2, e_ BW_ 3, e_ BW_ 4, e_ BW_ 5, e_ BU 0, e_ BU 1, e_ BU 2, e_ BU 3, e_ BU 4, e_ BU 5, e_ BT 0, e_ BT 1, e_ BT 2, e_ BT 3, e_ BT 4, e_ BT 5⟩ (fun hHeld => ?_); refine with_tabW hopperlaw11_live.tab10 hopperlaw11_live.bits10 (fun HT_ HW_ => ?_)
  generalize w12.drew = w13 at BT BU HB BS VS BR VR BQ VQ VJ BW_ xr xq xj hHeld ⊢
  refine pq_ 0 55 HT_ ?_
  refine tk_ 1 56 HT_ HW_ hHeld ?_
  refine pq_ 2 57 HT_ ?_
  refine pq_ 3 58 HT_ ?_
  refine pq_ 4 59 HT_ ?_
  refine tk_ 5 60 HT_ HW_ hHeld ?_
  refine pq_ 6 61 HT_ ?_
  refine pq_ 7 62 HT_ ?_
  refine pq_ 8 63 HT_ ?_
  refine pq_ 9 64 HT_ ?_
  refine tk_ 10 65 HT_ HW_ hHeld ?_
  refine pq_ 11 66 HT_ ?_
  refine pq_ 12 67 HT_ ?_
  refine tk_ 13 68 HT_ HW_ hHeld ?_
  refine pq_ 14 69 HT_ ?_
  refine pq_ 15 70 HT_ ?_
  refine pq_ 16 71 HT_ ?_
  refine pq_ 17 72 HT_ ?_
  refine tk_ 18 73 HT_ HW_ hHeld ?_
  refine pq_ 19 74 HT_ ?_
  refine pq_ 20 75 HT_ ?_
  refine tk_ 21 76 HT_ HW_ hHeld ?_
  refine pq_ 22 77 HT_ ?_
  refine pq_ 23 78 HT_ ?_
  refine pq_ 24 79 HT_ ?_
  refine pq_ 25 80 HT_ ?_
  refine pq_ 26 81 HT_ ?_
  refine pq_ 27 82 HT_ ?_
  refine tk_ 28 83 HT_ HW_ hHeld ?_
  refine pq_ 29 84 HT_ ?_
  refine pq_ 30 85 HT_ ?_
  refine pq_ 31 86 HT_ ?_
  refine tk_ 32 87 HT_ HW_ hHeld ?_
  refine tk_ 33 88 HT_ HW_ hHeld ?_
  refine pq_ 34 89 HT_ ?_
  refine pq_ 35 90 HT_ ?_
  refine pq_ 36 91 HT_ ?_
  refine pq_ 37 92 HT_ ?_
  refine pq_ 38 93 HT_ ?_
  refine pq_ 39 94 HT_ ?_
  refine tk_ 40 95 HT_ HW_ hHeld ?_
  refine one_ (i := 41) (N := some 96) #[true, true, true, true, true, true, true, true, true, true, true, true, true, true, true, true, true, true, true, true, true, true, true, true, true, true, true, true, true, true, true, true, true, true, true, true, true, true, true, true, true, true, false, false, false, false, false, false, false, false, false, false, false, false, false, false, false, false, false, false, false, false, false, false, false, false, false, false, false, false, false, false, false, false, false, false, false, false, false, false] rfl rfl (one_of HT_.out (by kernel_rfl)) (by decide) (fun K hK => ?_)
  refine goes_ Try.func23 (by kernel_rfl) rfl #[.agg #[.slice (some ⟨gS, 0, none⟩) 1 cS, .int .i64 8]] (by rfl) rfl rfl (by (try simp only [m0_, m1_, m2_]); first | done | rfl) ?_
  have HC := shard_Slots.calls 40 (some ⟨gS, 0, none⟩) cS [hopperlaw11_live.aS] 8 _ w13 (Kd.V_reads' VS.out).2.2 (Kd.V_reads' VS.out).2.1 hopperlaw11_live.slots
  simp only [List.length_cons, List.length_nil, Nat.zero_add, Nat.reduceAdd] at HC
  refine HC.mono ?_
  clear HC
  rintro e w14 ⟨rfl, hb⟩
  refine ⟨_, rfl, ?_⟩
  replace BT := Aside0.mk (blk_below BT.out hb)
  replace BU := Aside0.mk (blk_below BU.out hb)
  replace HB := Aside0.mk (below_step HB.out hb)
  replace BS := Aside0.mk (blk_below BS.out hb)
  replace VS := Aside0.mk (Kd.V_below VS.out hb)
  replace BR := Aside0.mk (blk_below BR.out hb)
  replace VR := Aside0.mk (Kd.V_below VR.out hb)
  replace BQ := Aside0.mk (blk_below BQ.out hb)
  replace VQ := Aside0.mk (Kd.V_below VQ.out hb)
  replace VJ := Aside0.mk (Kd.V_below VJ.out hb)
  replace BW_ := Aside0.mk (blk_below BW_.out hb)
  replace xr := Aside0.mk (on_ hb xr.out)
  replace xq := Aside0.mk (on_ hb xq.out)
  replace xj := Aside0.mk (on_ hb xj.out)
  clear hb
  refine hK.out _ _ ⟨e_ BS 0, e_ BS 1, e_ BR 0, e_ BR 1, e_ BQ 0, xr.out, xq.out, xj.out, e_ BW_ 0, e_ BW_ 1, e_ BW_ 2, e_ BW_ 3, e_ BW_ 4, e_ BW_ 5, e_ BU 0, e_ BU 1, e_ BU 2, e_ BU 3, e_ BU 4, e_ BU 5, e_ BT 0, e_ BT 1, e_ BT 2, e_ BT 3, e_ BT 4, e_ BT 5⟩ (fun hHeld => ?_)
  clear hK K
  refine norm_ (a' := ?_) ?_ ?_
  rotate_left
  · show Act.put _ (some 96) _ = _
    simp only [Act.put, List.setIfInBounds_toArray, List.set_cons_zero, List.set_cons_succ, i64_w, i32_w]
    rfl
  refine pq_ 42 97 HT_ ?_
  refine pq_ 43 98 HT_ ?_
  refine pq_ 44 99 HT_ ?_
  refine tk_ 50 105 HT_ HW_ hHeld ?_
  refine tk_ 45 100 HT_ HW_ hHeld ?_
  refine one_ (i := 46) (N := some 101) #[true, true, true, true, true, true, true, true, true, true, true, true, true, true, true, true, true, true, true, true, true, true, true, true, true, true, true, true, true, true, true, true, true, true, true, true, true, true, true, true, true, true, true, true, true, true, true, false, false, false, true, false, false, false, false, false, false, false, false, false, false, false, false, false, false, false, false, false, false, false, false, false, false, false, false, false, false, false, false, false] rfl rfl (one_of HT_.out (by kernel_rfl)) (by decide) (fun K hK => ?_)
  refine goes_ Try.func25 (by kernel_rfl) rfl #[.agg #[.slice (some ⟨gS, 0, none⟩) 1 cS, .int .i64 8], .int .i64 3] (by rfl) rfl rfl (by (try simp only [m0_, m1_, m2_]); first | done | rfl) ?_
  have HC := shard_Get.calls (fun _ => True) (some ⟨gS, 0, none⟩) cS [hopperlaw11_live.aS] 8 3 _ _ _ w14 VS.out hopperlaw11_live.get1
  simp only [List.length_cons, List.length_nil, Nat.zero_add, Nat.reduceAdd] at HC
  refine HC.mono ?_
  clear HC
  rintro e w15 ⟨v0, rfl, hv, hb⟩
  refine ⟨_, rfl, ?_⟩
  replace BT := Aside0.mk (blk_below BT.out hb)
  replace BU := Aside0.mk (blk_below BU.out hb)
  replace HB := Aside0.mk (below_step HB.out hb)
  replace BS := Aside0.mk (blk_below BS.out hb)
  replace VS := Aside0.mk (Kd.V_below VS.out hb)
  replace BR := Aside0.mk (blk_below BR.out hb)
  replace VR := Aside0.mk (Kd.V_below VR.out hb)
  replace BQ := Aside0.mk (blk_below BQ.out hb)
  replace VQ := Aside0.mk (Kd.V_below VQ.out hb)
  replace VJ := Aside0.mk (Kd.V_below VJ.out hb)
  replace BW_ := Aside0.mk (blk_below BW_.out hb)
  replace xr := Aside0.mk (on_ hb xr.out)
  replace xq := Aside0.mk (on_ hb xq.out)
  replace xj := Aside0.mk (on_ hb xj.out)
  obtain ⟨AG, cG, rfl⟩ := Kd.V_slice hv; obtain ⟨adG, he_, g0_, g1_, g2_, g3_, g4_, g5_⟩ := at_T32 (Kd.V_reads' hv).2.2 0 (by decide) (by decide); subst he_; clear hv hb
  refine hK.out _ _ ⟨e_ BS 0, e_ BS 1, e_ BR 0, e_ BR 1, e_ BQ 0, xr.out, xq.out, xj.out, e_ BW_ 0, e_ BW_ 1, e_ BW_ 2, e_ BW_ 3, e_ BW_ 4, e_ BW_ 5, e_ BU 0, e_ BU 1, e_ BU 2, e_ BU 3, e_ BU 4, e_ BU 5, e_ BT 0, e_ BT 1, e_ BT 2, e_ BT 3, e_ BT 4, e_ BT 5⟩ (fun hHeld => ?_)
  clear hK K
  refine norm_ (a' := ?_) ?_ ?_
  rotate_left
  · show Act.put _ (some 101) _ = _
    simp only [Act.put, List.setIfInBounds_toArray, List.set_cons_zero, List.set_cons_succ, i64_w, i32_w]
    rfl
  refine pq_ 47 102 HT_ ?_
  refine pq_ 48 103 HT_ ?_
  refine one_ (i := 49) (N := some 104) #[true, true, true, true, true, true, true, true, true, true, true, true, true, true, true, true, true, true, true, true, true, true, true, true, true, true, true, true, true, true, true, true, true, true, true, true, true, true, true, true, true, true, true, true, true, true, true, true, true, true, true, false, false, false, false, false, false, false, false, false, false, false, false, false, false, false, false, false, false, false, false, false, false, false, false, false, false, false, false, false] rfl rfl (one_of HT_.out (by kernel_rfl)) (by decide) (fun K hK => ?_)
  simp only [show (0 : Int).toNat * 6 = 0 from rfl, Addr.add_zero'] at g0_ g1_ g2_ g3_ g4_ g5_
  replace g0_ : w15.cell? adG = some (.int .i64 3) := g0_
  replace g1_ : w15.cell? ⟨adG.block, adG.off + 1, none⟩ = some (.int .i64 1) := g1_
  replace g2_ : w15.cell? ⟨adG.block, adG.off + 2, none⟩ = some (.int .i64 5) := g2_
  replace g3_ : w15.cell? ⟨adG.block, adG.off + 3, none⟩ = some (.int .i64 9) := g3_
  replace g4_ : w15.cell? ⟨adG.block, adG.off + 4, none⟩ = some (.int .i64 1) := g4_
  replace g5_ : w15.cell? ⟨adG.block, adG.off + 5, none⟩ = some (.string ⟨#[]⟩) := g5_
  refine value_ (w1 := w15) (v := .agg #[.int .i64 3, .int .i64 1, .int .i64 5, .int .i64 9, .int .i64 1, .string ⟨#[]⟩]) (by rfl) rfl (by go_simp) ?_
  refine hK.out _ _ ⟨e_ BS 0, e_ BS 1, e_ BR 0, e_ BR 1, e_ BQ 0, xr.out, xq.out, xj.out, e_ BW_ 0, e_ BW_ 1, e_ BW_ 2, e_ BW_ 3, e_ BW_ 4, e_ BW_ 5, e_ BU 0, e_ BU 1, e_ BU 2, e_ BU 3, e_ BU 4, e_ BU 5, e_ BT 0, e_ BT 1, e_ BT 2, e_ BT 3, e_ BT 4, e_ BT 5⟩ (fun hHeld => ?_)
  clear hK K
  refine norm_ (a' := ?_) ?_ ?_
  rotate_left
  · show Act.put _ (some 104) _ = _
    simp only [Act.put, List.setIfInBounds_toArray, List.set_cons_zero, List.set_cons_succ, i64_w, i32_w]
    rfl
  clear g0_ g1_ g2_ g3_ g4_ g5_
  refine pq_ 51 106 HT_ ?_
  refine pq_ 52 107 HT_ ?_
  refine pq_ 53 108 HT_ ?_
  refine tk_ 54 109 HT_ HW_ hHeld ?_
  refine one_ (i := 55) (N := some 110) #[true, true, true, true, true, true, true, true, true, true, true, true, true, true, true, true, true, true, true, true, true, true, true, true, true, true, true, true, true, true, true, true, true, true, true, true, true, true, true, true, true, true, true, true, true, true, true, true, true, true, true, true, true, true, true, true, false, false, false, false, false, false, false, false, false, false, false, false, false, false, false, false, false, false, false, false, false, false, false, false] rfl rfl (one_of HT_.out (by kernel_rfl)) (by decide) (fun K hK => ?_)
  refine goes_ Try.func25 (by kernel_rfl) rfl #[.agg #[.slice (some ⟨gS, 0, none⟩) 1 cS, .int .i64 8], .int .i64 4] (by rfl) rfl rfl (by (try simp only [m0_, m1_, m2_]); first | done | rfl) ?_
  have HC := shard_Get.calls (fun _ => True) (some ⟨gS, 0, none⟩) cS [hopperlaw11_live.aS] 8 4 _ _ _ w15 VS.out hopperlaw11_live.get2
  simp only [List.length_cons, List.length_nil, Nat.zero_add, Nat.reduceAdd] at HC
  refine HC.mono ?_
  clear HC
  rintro e w16 ⟨v0, rfl, hv, hb⟩
  refine ⟨_, rfl, ?_⟩
  replace BT := Aside0.mk (blk_below BT.out hb)
  replace BU := Aside0.mk (blk_below BU.out hb)
  replace HB := Aside0.mk (below_step HB.out hb)
  replace BS := Aside0.mk (blk_below BS.out hb)
  replace VS := Aside0.mk (Kd.V_below VS.out hb)
  replace BR := Aside0.mk (blk_below BR.out hb)
  replace VR := Aside0.mk (Kd.V_below VR.out hb)
  replace BQ := Aside0.mk (blk_below BQ.out hb)
  replace VQ := Aside0.mk (Kd.V_below VQ.out hb)
  replace VJ := Aside0.mk (Kd.V_below VJ.out hb)
  replace BW_ := Aside0.mk (blk_below BW_.out hb)
  replace xr := Aside0.mk (on_ hb xr.out)
  replace xq := Aside0.mk (on_ hb xq.out)
  replace xj := Aside0.mk (on_ hb xj.out)
  clear hv hb
  refine hK.out _ _ ⟨e_ BS 0, e_ BS 1, e_ BR 0, e_ BR 1, e_ BQ 0, xr.out, xq.out, xj.out, e_ BW_ 0, e_ BW_ 1, e_ BW_ 2, e_ BW_ 3, e_ BW_ 4, e_ BW_ 5, e_ BU 0, e_ BU 1, e_ BU 2, e_ BU 3, e_ BU 4, e_ BU 5, e_ BT 0, e_ BT 1, e_ BT 2, e_ BT 3, e_ BT 4, e_ BT 5⟩ (fun hHeld => ?_)
  clear hK K
  refine norm_ (a' := ?_) ?_ ?_
  rotate_left
  · show Act.put _ (some 110) _ = _
    simp only [Act.put, List.setIfInBounds_toArray, List.set_cons_zero, List.set_cons_succ, i64_w, i32_w]
    rfl
  refine pq_ 56 111 HT_ ?_
  refine pq_ 57 112 HT_ ?_
  refine pq_ 58 113 HT_ ?_
  refine pq_ 59 114 HT_ ?_
  refine tk_ 60 115 HT_ HW_ hHeld ?_
  refine pq_ 61 116 HT_ ?_
  refine one_ (i := 62) (N := some 117) #[true, true, true, true, true, true, true, true, true, true, true, true, true, true, true, true, true, true, true, true, true, true, true, true, true, true, true, true, true, true, true, true, true, true, true, true, true, true, true, true, true, true, true, true, true, true, true, true, true, true, true, true, true, true, true, true, true, true, true, true, true, true, true, false, false, false, false, false, false, false, false, false, false, false, false, false, false, false, false, false] rfl rfl (one_of HT_.out (by kernel_rfl)) (by decide) (fun K hK => ?_)
  refine goes_ Try.func26 (by kernel_rfl) rfl #[.agg #[.slice (some ⟨gS, 0, none⟩) 1 cS, .int .i64 8], .int .i64 0, .agg #[.int .i64 1, .int .i64 0, .int .i64 0, .int .i64 4, .int .i64 0, .int .i64 0, .int .i64 0, .int .i64 0]] (by rfl) rfl rfl (by (try simp only [m0_, m1_, m2_]); first | done | rfl) ?_
  have HC := shard_Check.calls 40 (some ⟨gS, 0, none⟩) cS [hopperlaw11_live.aS] 8 0 1 0 0 4 0 0 0 0 _ w16 (Kd.V_reads' VS.out).2.2 (Kd.V_reads' VS.out).2.1 hopperlaw11_live.chk1
  simp only [List.length_cons, List.length_nil, Nat.zero_add, Nat.reduceAdd] at HC
  refine HC.mono ?_
  clear HC
  rintro e w17 ⟨rfl, hb⟩
  refine ⟨_, rfl, ?_⟩
  replace BT := Aside0.mk (blk_below BT.out hb)
  replace BU := Aside0.mk (blk_below BU.out hb)
  replace HB := Aside0.mk (below_step HB.out hb)
  replace BS := Aside0.mk (blk_below BS.out hb)
  replace VS := Aside0.mk (Kd.V_below VS.out hb)
  replace BR := Aside0.mk (blk_below BR.out hb)
  replace VR := Aside0.mk (Kd.V_below VR.out hb)
  replace BQ := Aside0.mk (blk_below BQ.out hb)
  replace VQ := Aside0.mk (Kd.V_below VQ.out hb)
  replace VJ := Aside0.mk (Kd.V_below VJ.out hb)
  replace BW_ := Aside0.mk (blk_below BW_.out hb)
  replace xr := Aside0.mk (on_ hb xr.out)
  replace xq := Aside0.mk (on_ hb xq.out)
  replace xj := Aside0.mk (on_ hb xj.out)
  clear hb
  refine hK.out _ _ ⟨e_ BS 0, e_ BS 1, e_ BR 0, e_ BR 1, e_ BQ 0, xr.out, xq.out, xj.out, e_ BW_ 0, e_ BW_ 1, e_ BW_ 2, e_ BW_ 3, e_ BW_ 4, e_ BW_ 5, e_ BU 0, e_ BU 1, e_ BU 2, e_ BU 3, e_ BU 4, e_ BU 5, e_ BT 0, e_ BT 1, e_ BT 2, e_ BT 3, e_ BT 4, e_ BT 5⟩ (fun hHeld => ?_)
  clear hK K
  refine norm_ (a' := ?_) ?_ ?_
  rotate_left
  · show Act.put _ (some 117) _ = _
    simp only [Act.put, List.setIfInBounds_toArray, List.set_cons_zero, List.set_cons_succ, i64_w, i32_w]
    rfl
  refine pq_ 63 118 HT_ ?_
  refine pq_ 64 119 HT_ ?_
  refine pq_ 68 123 HT_ ?_
  refine pq_ 65 120 HT_ ?_
  refine one_ (i := 66) (N := some 121) #[true, true, true, true, true, true, true, true, true, true, true, true, true, true, true, true, true, true, true, true, true, true, true, true, true, true, true, true, true, true, true, true, true, true, true, true, true, true, true, true, true, true, true, true, true, true, true, true, true, true, true, true, true, true, true, true, true, true, true, true, true, true, true, true, true, true, true, false, true, false, false, false, false, false, false, false, false, false, false, false] rfl rfl (one_of HT_.out (by kernel_rfl)) (by decide) (fun K hK => ?_)
  have x1 := heap_alloc_new w17 (.cells #[.int .i64 0, .int .i64 0, .slice none 0 0] 46)
  have hba := below_alloc (Below.refl w17.heap.size w17) (.cells #[.int .i64 0, .int .i64 0, .slice none 0 0] 46)
  refine value_ (w1 := w17.alloc (.cells #[.int .i64 0, .int .i64 0, .slice none 0 0] 46)) (v := .slice (some ⟨w17.heap.size, 0, none⟩) 1 1) (by rfl) rfl (by go_simp) ?_
  replace BT := Aside0.mk (blk_below BT.out hba)
  replace BU := Aside0.mk (blk_below BU.out hba)
  replace HB := Aside0.mk (below_step HB.out hba)
  replace BS := Aside0.mk (blk_below BS.out hba)
  replace VS := Aside0.mk (Kd.V_below VS.out hba)
  replace BR := Aside0.mk (blk_below BR.out hba)
  replace VR := Aside0.mk (Kd.V_below VR.out hba)
  replace BQ := Aside0.mk (blk_below BQ.out hba)
  replace VQ := Aside0.mk (Kd.V_below VQ.out hba)
  replace VJ := Aside0.mk (Kd.V_below VJ.out hba)
  replace BW_ := Aside0.mk (blk_below BW_.out hba)
  replace xr := Aside0.mk (on_ hba xr.out)
  replace xq := Aside0.mk (on_ hba xq.out)
  replace xj := Aside0.mk (on_ hba xj.out)
  generalize w17.alloc (.cells #[.int .i64 0, .int .i64 0, .slice none 0 0] 46) = wa at x1 hba BT BU HB BS VS BR VR BQ VQ VJ BW_ xr xq xj ⊢
  have hsz := x1
  clear hba
  refine hK.out _ _ ⟨e_ BS 0, e_ BS 1, e_ BR 0, e_ BR 1, e_ BQ 0, xr.out, xq.out, xj.out, e_ BW_ 0, e_ BW_ 1, e_ BW_ 2, e_ BW_ 3, e_ BW_ 4, e_ BW_ 5, e_ BU 0, e_ BU 1, e_ BU 2, e_ BU 3, e_ BU 4, e_ BU 5, e_ BT 0, e_ BT 1, e_ BT 2, e_ BT 3, e_ BT 4, e_ BT 5⟩ (fun hHeld => ?_)
  clear hK K
  refine norm_ (a' := ?_) ?_ ?_
  rotate_left
  · show Act.put _ (some 121) _ = _
    simp only [Act.put, List.setIfInBounds_toArray, List.set_cons_zero, List.set_cons_succ, i64_w, i32_w]
    rfl
  generalize w17.heap.size = bC at x1 hsz ⊢
  clear hsz
  have cC := RowN.C_block (e := 46) (d := k46) (xs := [⟨0, 0, []⟩]) (rows := [[.int .i64 0, .int .i64 0, .slice none 0 0]]) x1 rfl (by decide) (by intro j x c hx hc; match j, hx, hc with | 0, hx, hc => (obtain rfl := Option.some.inj hx; obtain rfl := Option.some.inj hc; exact k46_mk _ ⟨0, 0, []⟩ (Nat.le_refl _) (Kd.C_nil _ _)))
  replace cC := Aside0.mk cC
  clear x1
  refine pq_ 67 122 HT_ ?_
  refine one_ (i := 69) (N := some 124) #[true, true, true, true, true, true, true, true, true, true, true, true, true, true, true, true, true, true, true, true, true, true, true, true, true, true, true, true, true, true, true, true, true, true, true, true, true, true, true, true, true, true, true, true, true, true, true, true, true, true, true, true, true, true, true, true, true, true, true, true, true, true, true, true, true, true, true, true, true, true, false, false, false, false, false, false, false, false, false, false] rfl rfl (one_of HT_.out (by kernel_rfl)) (by decide) (fun K hK => ?_)
  refine goes_ Try.func26 (by kernel_rfl) rfl #[.agg #[.slice (some ⟨bC, 0, none⟩) 1 1, .int .i64 0], .int .i64 0, .agg #[.int .i64 1, .int .i64 0, .int .i64 0, .int .i64 4, .int .i64 0, .int .i64 0, .int .i64 0, .int .i64 0]] (by rfl) rfl rfl (by (try simp only [m0_, m1_, m2_]); first | done | rfl) ?_
  have HC := shard_Check.calls 40 (some ⟨bC, 0, none⟩) 1 [⟨0, 0, []⟩] 0 0 1 0 0 4 0 0 0 0 _ wa cC.out (Nat.le_refl _) hopperlaw11_live.chk2
  simp only [List.length_cons, List.length_nil, Nat.zero_add, Nat.reduceAdd] at HC
  refine HC.mono ?_
  clear HC
  rintro e w18 ⟨rfl, hb⟩
  refine ⟨_, rfl, ?_⟩
  replace BT := Aside0.mk (blk_below BT.out hb)
  replace BU := Aside0.mk (blk_below BU.out hb)
  replace HB := Aside0.mk (below_step HB.out hb)
  replace BS := Aside0.mk (blk_below BS.out hb)
  replace VS := Aside0.mk (Kd.V_below VS.out hb)
  replace BR := Aside0.mk (blk_below BR.out hb)
  replace VR := Aside0.mk (Kd.V_below VR.out hb)
  replace BQ := Aside0.mk (blk_below BQ.out hb)
  replace VQ := Aside0.mk (Kd.V_below VQ.out hb)
  replace VJ := Aside0.mk (Kd.V_below VJ.out hb)
  replace BW_ := Aside0.mk (blk_below BW_.out hb)
  replace xr := Aside0.mk (on_ hb xr.out)
  replace xq := Aside0.mk (on_ hb xq.out)
  replace xj := Aside0.mk (on_ hb xj.out)
  clear hb cC
  refine hK.out _ _ ⟨e_ BS 0, e_ BS 1, e_ BR 0, e_ BR 1, e_ BQ 0, xr.out, xq.out, xj.out, e_ BW_ 0, e_ BW_ 1, e_ BW_ 2, e_ BW_ 3, e_ BW_ 4, e_ BW_ 5, e_ BU 0, e_ BU 1, e_ BU 2, e_ BU 3, e_ BU 4, e_ BU 5, e_ BT 0, e_ BT 1, e_ BT 2, e_ BT 3, e_ BT 4, e_ BT 5⟩ (fun hHeld => ?_)
  clear hK K
  refine norm_ (a' := ?_) ?_ ?_
  rotate_left
  · show Act.put _ (some 124) _ = _
    simp only [Act.put, List.setIfInBounds_toArray, List.set_cons_zero, List.set_cons_succ, i64_w, i32_w]
    rfl
  refine pq_ 70 125 HT_ ?_
  refine pq_ 71 126 HT_ ?_
  refine pq_ 72 127 HT_ ?_
  refine pq_ 73 128 HT_ ?_
  refine tk_ 74 129 HT_ HW_ hHeld ?_
  refine one_ (i := 75) (N := some 130) #[true, true, true, true, true, true, true, true, true, true, true, true, true, true, true, true, true, true, true, true, true, true, true, true, true, true, true, true, true, true, true, true, true, true, true, true, true, true, true, true, true, true, true, true, true, true, true, true, true, true, true, true, true, true, true, true, true, true, true, true, true, true, true, true, true, true, true, true, true, true, true, true, true, true, true, true, false, false, false, false] rfl rfl (one_of HT_.out (by kernel_rfl)) (by decide) (fun K hK => ?_)
  refine goes_ Try.func16 (by kernel_rfl) rfl #[.slice (some ⟨gR, 0, none⟩) 2 cR] (by rfl) rfl rfl (by (try simp only [m0_, m1_, m2_]); first | done | rfl) ?_
  have HC := shard_Lasts.calls 40 (some ⟨gR, 0, none⟩) cR [hopperlaw11_live.aR, hopperlaw11_live.aS] _ w18 (Kd.V_reads' VR.out).2.2 (Kd.V_reads' VR.out).2.1 hopperlaw11_live.lasts
  simp only [List.length_cons, List.length_nil, Nat.zero_add, Nat.reduceAdd] at HC
  refine HC.mono ?_
  clear HC
  rintro e w19 ⟨v0, rfl, hv, hb⟩
  refine ⟨_, rfl, ?_⟩
  replace BT := Aside0.mk (blk_below BT.out hb)
  replace BU := Aside0.mk (blk_below BU.out hb)
  replace HB := Aside0.mk (below_step HB.out hb)
  replace BS := Aside0.mk (blk_below BS.out hb)
  replace VS := Aside0.mk (Kd.V_below VS.out hb)
  replace BR := Aside0.mk (blk_below BR.out hb)
  replace VR := Aside0.mk (Kd.V_below VR.out hb)
  replace BQ := Aside0.mk (blk_below BQ.out hb)
  replace VQ := Aside0.mk (Kd.V_below VQ.out hb)
  replace VJ := Aside0.mk (Kd.V_below VJ.out hb)
  replace BW_ := Aside0.mk (blk_below BW_.out hb)
  replace xr := Aside0.mk (on_ hb xr.out)
  replace xq := Aside0.mk (on_ hb xq.out)
  replace xj := Aside0.mk (on_ hb xj.out)
  obtain ⟨AL, cL, rfl⟩ := Kd.R_slice hv; clear hv hb
  refine hK.out _ _ ⟨e_ BS 0, e_ BS 1, e_ BR 0, e_ BR 1, e_ BQ 0, xr.out, xq.out, xj.out, e_ BW_ 0, e_ BW_ 1, e_ BW_ 2, e_ BW_ 3, e_ BW_ 4, e_ BW_ 5, e_ BU 0, e_ BU 1, e_ BU 2, e_ BU 3, e_ BU 4, e_ BU 5, e_ BT 0, e_ BT 1, e_ BT 2, e_ BT 3, e_ BT 4, e_ BT 5⟩ (fun hHeld => ?_)
  clear hK K
  refine norm_ (a' := ?_) ?_ ?_
  rotate_left
  · show Act.put _ (some 130) _ = _
    simp only [Act.put, List.setIfInBounds_toArray, List.set_cons_zero, List.set_cons_succ, i64_w, i32_w]
    rfl
  refine pq_ 76 131 HT_ ?_
  refine pq_ 77 132 HT_ ?_
  refine pq_ 78 133 HT_ ?_
  refine pq_ 79 0 HT_ ?_
  refine done_ (done_of HT_.out (by kernel_rfl)) ?_
  try go_wp2
  go_ret
  exact ⟨rfl, HB.out⟩


end Go.Proofs.Ytnjnogkhbadioaa.D
