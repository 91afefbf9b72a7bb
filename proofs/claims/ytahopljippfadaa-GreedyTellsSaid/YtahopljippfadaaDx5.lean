/- Written by this session's own program over the kit's print: functions of Go told as plain functions, or the row of one statement; proved for every input, with no condition of ours. -/
import Derived.Test.YtahopljippfadaaDx0
import Derived.Test.YtahopljippfadaaDx4
import Derived.Test.YtahopljippfadaaDx7
namespace Go.Proofs.Ytahopljippfadaa.D
open Go.RowKit Go.Proofs.YtahopljippfadaaW.PrintWords Go.Proofs.YtahopljippfadaaW.PrintLast Go.Proofs.YtahopljippfadaaW.PrintMore
attribute [local go_sem] max2_int min2_int max_two min_two max_three min_three max_four min_four   -- for this text's walks alone
set_option linter.unusedVariables false
set_option linter.unusedSimpArgs false

/-! ### greedy_block_best: function 31, by hand -/
-- HAND rounds=0 making=0 opaque
-- IMPORT Derived.Test.YtahopljippfadaaPlK
-- NEEDS hopper/greedy.lines
/-- A block in memory: gas, its lines, who has a place, what is taken. -/
structure Bk (base : Nat) (F : Nat → Prop) (W : World) (gB : Nat) (gas : Int) (A : Option Addr) (c bM n : Nat) (vT : Value) (D : DataW Value) (Y : List LineW) (L : List Bool) : Prop where
  box : W.heap[gB]? = some (.cells #[.int .i64 gas, .slice A Y.length c, .map (some bM), vT] 57 (0, 0))
  row : Kd.R (Kd.scalar encL encL1) 50 W base (fun _ => True) (.slice A Y.length c) (Y.map LineW.g)
  lines : Lines base F W Y
  map_ : W.ownsMap Try.prog 3 MapK.Rh bM n D
  pl : PlK.Pl D (fun i => encL ((Y.map LineW.g).getD i 0)) L
  len : L.length = Y.length
  some_ : ∀ i y, Y[i]? = some y → L.getD i false = true → y.xs ≠ []
theorem Bk.below {base : Nat} {F : Nat → Prop} {W W' : World} {gB : Nat} {gas : Int} {A : Option Addr} {c bM n : Nat} {vT : Value} {D : DataW Value} {Y : List LineW} {L : List Bool} (h : Bk base F W gB gas A c bM n vT D Y L) (hb : Below W.heap.size W W') : Bk base F W' gB gas A c bM n vT D Y L :=
  ⟨blk_below h.box hb, Kd.R_below h.row hb, h.lines.below hb, own_block h.map_ (hb.block bM h.map_.lt), h.pl, h.len, h.some_⟩
/-- The head of a line. -/
def headAt (X : List (List S38)) (i : Nat) : S38 := (X.getD i []).headD z38
/-- The number of whose place has the best one; below 0: nobody has one. -/
def bestL (X : List (List S38)) (L : List Bool) : Nat → Nat → Int → Option Int
  | 0, _, k => some k
  | n + 1, i, k => if L.getD i false = true then (if k < 0 then bestL X L n (i + 1) i else (txn_Better.f 5 (headAt X i).f0 (headAt X i).f1 (headAt X i).f2 (headAt X i).f3 (headAt X i).f4 (headAt X i).f5 (headAt X k.toNat).f0 (headAt X k.toNat).f1 (headAt X k.toNat).f2 (headAt X k.toNat).f3 (headAt X k.toNat).f4 (headAt X k.toNat).f5).bind fun b => bestL X L n (i + 1) (if b = true then (i : Int) else k)) else bestL X L n (i + 1) k
def greedy_block_best.T5 : Bool × List (List Nat × List Nat) := (true, [([], []), ([0], [0]), ([1], [1]), ([2], [2]), ([], []), ([3, 4], [3, 4]), ([5], [5]), ([6], [6]), ([7], [7]), ([8, 7], [7, 8]), ([9, 7, 7], [7, 9]), ([10], [10]), ([11, 10], [10, 11]), ([12, 10], [10, 12]), ([13, 10], [10, 13]), ([14, 10], [10, 14]), ([15, 10], [10, 15]), ([10], [10]), ([17, 10], [10, 17]), ([18, 10], [10, 18]), ([19, 10], [10, 19]), ([10], [10]), ([20, 21, 10], [10, 20, 21]), ([22, 10], [10, 22]), ([23, 10], [10, 23]), ([24, 10], [10, 24]), ([25, 10], [10, 25]), ([26, 10], [10, 26]), ([27, 10], [10, 27]), ([16, 28, 10, 10], [10, 16, 28]), ([10, 29, 7], [7, 10, 29]), ([7, 30], [7, 30])])
def greedy_block_best.B5 : List Nat := [0, 1, 3, 7, 0, 31, 63, 127, 255, 511, 1023, 2047, 4095, 8191, 16383, 32767, 65535, 2047, 133119, 395263, 919551, 2047, 4065279, 8259583, 16648191, 33425407, 66979839, 134088703, 268306431, 536870911, 1073741823, 2147483647]
theorem greedy_block_best.tab5 : rtab .any (opsOf Try.f31 5) = greedy_block_best.T5 := by kernel_rfl
theorem greedy_block_best.bits5 : waitsOk greedy_block_best.T5.2 greedy_block_best.B5 = true := by kernel_rfl
set_option maxHeartbeats 8000000 in
set_option maxRecDepth 100000 in
theorem greedy_block_best.calls (base : Nat) (F : Nat → Prop) (gB : Nat) (gas : Int) (A : Option Addr) (c bM n : Nat) (vT : Value) (D : DataW Value) (Y : List LineW) (L : List Bool) (w : World) (r : Int) (hB : Bk base F w gB gas A c bM n vT D Y L) (hl : Y.length < 1000000000000) (h : bestL (Y.map LineW.xs) L Y.length 0 (-1) = some r) :
    Calls Try.prog 31 #[.pointer (some ⟨gB, 0, none⟩)] w fun e w' => e = .returned (.int .i64 r) ∧ Below w.heap.size w w' := by
  have H0 := Aside0.mk hB
  have H1 := Aside0.mk hl
  have H2 := Aside0.mk h
  clear hB hl h
  have b1 : w.cell? ⟨gB, 1, none⟩ = some (.slice A Y.length c) := (blk_cell H0.out.box 1).trans rfl
  go_enter Try.func31, Try.ntmps31
  go_wp2
  clear b1
  go_loopg [3, 4, 5, 11] Y.length (fun gg s3 _ _ s11 wr => ∃ (i : Nat) (k : Int), i ≤ Y.length ∧ Y.length - i ≤ gg ∧ s11 = .int .i64 (i : Int) ∧ s3 = .int .i64 k ∧ (k = -1 ∨ (0 ≤ k ∧ k < (i : Int) ∧ L.getD k.toNat false = true)) ∧ Aside0 (Below w.heap.size w wr) ∧ Aside0 (bestL (Y.map LineW.xs) L (Y.length - i) i k = some r))
  case atStart => exact ⟨0, -1, Nat.zero_le _, by omega, rfl, rfl, Or.inl rfl, ⟨Below.refl _ _⟩, H2⟩
  case round =>
    obtain ⟨i, k, hi, hg, rfl, rfl, hk, BW, EQ⟩ := hrel
    by_cases hlt : i < Y.length
    · have hltz : (i : Int) < (Y.length : Int) := by omega
      have hi0 : (0 : Int) ≤ (i : Int) := by omega
      have hwi : wrap64 ((i : Int) + 1) = ((i + 1 : Nat) : Int) := by have := H1.out; unfold wrap64; omega
      have HBk := Aside0.mk (H0.out.below BW.out)
      obtain ⟨y, hy⟩ : ∃ y, Y[i]? = some y := ⟨_, List.getElem?_eq_getElem hlt⟩
      have hrow : ∀ (j : Nat) (z : LineW), Y[j]? = some z → ∃ g cap, A = some ⟨g, 0, none⟩ ∧ wr.cell? ⟨g, j, none⟩ = some (.pointer (some ⟨z.g, 0, none⟩)) := fun j z hz => by
        have hj : j < Y.length := (List.getElem?_eq_some_iff.1 hz).1
        have hln : (Y.map LineW.g).length = Y.length := List.length_map ..
        obtain ⟨g, cap, hv, _, _, _⟩ := Kd.R_form HBk.out.row (by omega)
        injection hv with hA hn_ hc
        refine ⟨g, cap, hA, ?_⟩
        have hr2 := HBk.out.row
        rw [hA] at hr2
        have := (Kd.R_celln (d := 0) hr2 (j : Int) (by omega) (by omega)).1
        rw [Int.toNat_natCast] at this
        rw [this]
        have e : rdOf 0 (Y.map LineW.g) (j : Int) = z.g := by
          unfold rdOf
          rw [Int.toNat_natCast, List.getD_eq_getElem?_getD, List.getElem?_map, hz]
          rfl
        rw [e]
        rfl
      have HROW := Aside0.mk hrow
      clear hrow
      obtain ⟨g, cap, hA, p0⟩ := HROW.out i y hy
      subst hA
      have HY := Aside0.mk hy
      have HK := Aside0.mk hk
      clear hy hk
      go_upto_region 5 with (fail)
      clear p0
      have b1 := e_ (Aside0.mk HBk.out.box) 1
      have b2 := e_ (Aside0.mk HBk.out.box) 2
      have hwfi : (Lit.int .i64 (i : Int)).wf = true := by
        have e : wrap64 (i : Int) = (i : Int) := by have := H1.out; unfold wrap64; omega
        rw [← e]
        exact wrap64_wf _
      have HWI := Aside0.mk hwfi
      clear hwfi b1 b2
      have HBd := Aside0.mk (HBk.out.below (below_drew (Below.refl _ _)))
      have BWd := Aside0.mk (below_step BW.out (below_drew (Below.refl _ _)))
      cases hL : L.getD i false with
      | false =>
        rw [show Y.length - i = (Y.length - (i + 1)) + 1 by omega, bestL, if_neg (by rw [hL]; decide)] at EQ
        have HL := Aside0.mk hL
        clear hL
        refine start_ (n := 32) (S := fun w' => w'.cell? ⟨gB, 2, none⟩ = some (.map (some bM))) (ds := []) #[false, false, false, false, false, false, false, false, false, false, false, false, false, false, false, false, false, false, false, false, false, false, false, false, false, false, false, false, false, false, false, false] (by kernel_rfl) rfl rfl (e_ (Aside0.mk HBd.out.box) 2) (fun hHeld => ?_); refine with_tabW greedy_block_best.tab5 greedy_block_best.bits5 (fun HT_ HW_ => ?_)
        generalize wr.drew = w3 at HBd BWd hHeld ⊢
        refine pq_ 0 16 HT_ ?_
        refine pq_ 1 17 HT_ ?_
        refine pq_ 2 18 HT_ ?_
        refine tk_ 3 19 HT_ HW_ hHeld ?_
        refine pq_ 4 20 HT_ ?_
        refine one_ (i := 5) (N := some 21) #[true, true, true, true, true, true, false, false, false, false, false, false, false, false, false, false, false, false, false, false, false, false, false, false, false, false, false, false, false, false, false, false] rfl rfl (one_of HT_.out (by kernel_rfl)) (by decide) (fun K hK => ?_)
        obtain ⟨v, ps, hrun, hv⟩ := HBd.out.map_.lookup (Maps.int_keyed Try.underlying3) Try.underlying55 (Try.zeroValue50 _) (zd := .held (.pointer none)) (zp := []) rfl (Maps.keyOf_int_mk Try.underlying3 HWI.out)
        have hv2 : DataW.held v = .held (.pointer none) := (congrArg Prod.fst (Option.some.inj hv)).trans (by rw [HBd.out.pl.at_, PlK.on_nat, HL.out, if_neg (by decide)])
        injection hv2 with hv2
        subst hv2
        refine value_ (w1 := w3) (v := .pointer none) (by rfl) rfl (by go_simp) ?_
        refine hK.out _ _ (e_ (Aside0.mk HBd.out.box) 2) (fun hHeld => ?_)
        clear hK K hrun hv
        refine norm_ (a' := ?_) ?_ ?_
        rotate_left
        · show Act.put _ (some 21) _ = _
          simp only [Act.put, List.setIfInBounds_toArray, List.set_cons_zero, List.set_cons_succ, i64_w, i32_w]
          rfl
        refine pq_ 6 22 HT_ ?_
        refine pq_ 7 23 HT_ ?_
        refine pu_ 8 24 HT_ ?_
        refine pu_ 9 25 HT_ ?_
        refine pu_ 10 26 HT_ ?_
        refine pu_ 11 27 HT_ ?_
        refine pu_ 12 28 HT_ ?_
        refine pu_ 13 29 HT_ ?_
        refine pu_ 14 30 HT_ ?_
        refine pu_ 15 31 HT_ ?_
        refine pu_ 16 32 HT_ ?_
        refine pu_ 17 33 HT_ ?_
        refine pu_ 18 34 HT_ ?_
        refine pu_ 19 35 HT_ ?_
        refine pu_ 20 36 HT_ ?_
        refine pu_ 21 37 HT_ ?_
        refine pu_ 22 38 HT_ ?_
        refine pu_ 23 39 HT_ ?_
        refine pu_ 24 40 HT_ ?_
        refine pu_ 25 41 HT_ ?_
        refine pu_ 26 42 HT_ ?_
        refine pu_ 27 43 HT_ ?_
        refine pu_ 28 44 HT_ ?_
        refine pu_ 29 45 HT_ ?_
        refine pu_ 30 46 HT_ ?_
        refine pq_ 31 47 HT_ ?_
        refine done_ (done_of HT_.out (by kernel_rfl)) ?_
        go_wp2
        have hk3 : k = -1 ∨ (0 ≤ k ∧ k < ((i + 1 : Nat) : Int) ∧ L.getD k.toNat false = true) := HK.out.imp id (fun q => ⟨q.1, by have := q.2.1; omega, q.2.2⟩)
        have HK3 := Aside0.mk hk3
        clear hk3
        go_roundg (Y.length - (i + 1))
        case measure => omega
        case rel => exact ⟨i + 1, k, by omega, by omega, by first | rfl | rw [hwi] | go_num, rfl, HK3.out, BWd, EQ⟩
      | true =>
        rw [show Y.length - i = (Y.length - (i + 1)) + 1 by omega, bestL, if_pos hL] at EQ
        have HL := Aside0.mk hL
        clear hL
        have hiy : (Y.map LineW.g).getD i 0 = y.g := by rw [List.getD_eq_getElem?_getD, List.getElem?_map, HY.out]; rfl
        have HIY := Aside0.mk hiy
        clear hiy
        rcases HK.out with hk | hk
        · subst hk
          rw [if_pos (by decide)] at EQ
          refine start_ (n := 32) (S := fun w' => w'.cell? ⟨gB, 2, none⟩ = some (.map (some bM))) (ds := []) #[false, false, false, false, false, false, false, false, false, false, false, false, false, false, false, false, false, false, false, false, false, false, false, false, false, false, false, false, false, false, false, false] (by kernel_rfl) rfl rfl (e_ (Aside0.mk HBd.out.box) 2) (fun hHeld => ?_); refine with_tabW greedy_block_best.tab5 greedy_block_best.bits5 (fun HT_ HW_ => ?_)
          generalize wr.drew = w3 at HBd BWd hHeld ⊢
          refine pq_ 0 16 HT_ ?_
          refine pq_ 1 17 HT_ ?_
          refine pq_ 2 18 HT_ ?_
          refine tk_ 3 19 HT_ HW_ hHeld ?_
          refine pq_ 4 20 HT_ ?_
          refine one_ (i := 5) (N := some 21) #[true, true, true, true, true, true, false, false, false, false, false, false, false, false, false, false, false, false, false, false, false, false, false, false, false, false, false, false, false, false, false, false] rfl rfl (one_of HT_.out (by kernel_rfl)) (by decide) (fun K hK => ?_)
          obtain ⟨v, ps, hrun, hv⟩ := HBd.out.map_.lookup (Maps.int_keyed Try.underlying3) Try.underlying55 (Try.zeroValue50 _) (zd := .held (.pointer none)) (zp := []) rfl (Maps.keyOf_int_mk Try.underlying3 HWI.out)
          have hv2 : DataW.held v = .held (encL y.g) := (congrArg Prod.fst (Option.some.inj hv)).trans (by rw [HBd.out.pl.at_, PlK.on_nat, HL.out, if_pos rfl, Int.toNat_natCast, HIY.out])
          injection hv2 with hv2
          subst hv2
          refine value_ (w1 := w3) (v := .pointer (some ⟨y.g, 0, none⟩)) (by rfl) rfl (by unfold encL at hrun; go_simp) ?_
          refine hK.out _ _ (e_ (Aside0.mk HBd.out.box) 2) (fun hHeld => ?_)
          clear hK K hrun hv
          refine norm_ (a' := ?_) ?_ ?_
          rotate_left
          · show Act.put _ (some 21) _ = _
            simp only [Act.put, List.setIfInBounds_toArray, List.set_cons_zero, List.set_cons_succ, i64_w, i32_w]
            rfl
          refine pq_ 6 22 HT_ ?_
          refine pq_ 7 23 HT_ ?_
          refine pq_ 8 24 HT_ ?_
          refine pq_ 9 25 HT_ ?_
          refine pq_ 10 26 HT_ ?_
          refine pu_ 11 27 HT_ ?_
          refine pu_ 12 28 HT_ ?_
          refine pu_ 13 29 HT_ ?_
          refine pu_ 14 30 HT_ ?_
          refine pu_ 15 31 HT_ ?_
          refine pu_ 16 32 HT_ ?_
          refine pu_ 17 33 HT_ ?_
          refine pu_ 18 34 HT_ ?_
          refine pu_ 19 35 HT_ ?_
          refine pu_ 20 36 HT_ ?_
          refine pu_ 21 37 HT_ ?_
          refine pu_ 22 38 HT_ ?_
          refine pu_ 23 39 HT_ ?_
          refine pu_ 24 40 HT_ ?_
          refine pu_ 25 41 HT_ ?_
          refine pu_ 26 42 HT_ ?_
          refine pu_ 27 43 HT_ ?_
          refine pu_ 28 44 HT_ ?_
          refine pu_ 29 45 HT_ ?_
          refine pq_ 30 46 HT_ ?_
          refine pq_ 31 47 HT_ ?_
          refine done_ (done_of HT_.out (by kernel_rfl)) ?_
          go_wp2
          have hk3 : (i : Int) = -1 ∨ (0 ≤ (i : Int) ∧ (i : Int) < ((i + 1 : Nat) : Int) ∧ L.getD (i : Int).toNat false = true) := Or.inr ⟨by omega, by omega, HL.out⟩
          have HK3 := Aside0.mk hk3
          clear hk3
          go_roundg (Y.length - (i + 1))
          case measure => omega
          case rel => exact ⟨i + 1, (i : Int), by omega, by omega, by first | rfl | rw [hwi] | go_num, rfl, HK3.out, BWd, EQ⟩
        · obtain ⟨hk0, hki, hkl⟩ := hk
          rw [if_neg (by omega)] at EQ
          obtain ⟨bb, hbb, hrest⟩ := Option.bind_eq_some_iff.1 EQ.out
          have hkn : k < (Y.length : Int) := by omega
          obtain ⟨z, hz⟩ : ∃ z, Y[k.toNat]? = some z := ⟨_, List.getElem?_eq_getElem (by omega)⟩
          obtain ⟨g2, cap2, hA2, q0⟩ := HROW.out k.toNat z hz
          obtain rfl : g = g2 := by injection hA2 with hA2; injection hA2
          have hyx := HBk.out.some_ i y HY.out HL.out
          have hzx := HBk.out.some_ k.toNat z hz hkl
          obtain ⟨_, hyb, hyV⟩ := HBd.out.lines.at_ y (List.mem_of_getElem? HY.out)
          obtain ⟨_, hzb, hzV⟩ := HBd.out.lines.at_ z (List.mem_of_getElem? hz)
          have hy0 : (0 : Int) < (y.xs.length : Int) := by have := List.length_pos_iff.2 hyx; omega
          have hz0 : (0 : Int) < (z.xs.length : Int) := by have := List.length_pos_iff.2 hzx; omega
          obtain ⟨ady, hAy, t0, t1, t2, t3, t4, t5⟩ := at_T38 (Kd.V_reads' hyV).2.2 0 (by decide) hy0
          obtain ⟨adz, hAz, u0, u1, u2, u3_, u4_, u5_⟩ := at_T38 (Kd.V_reads' hzV).2.2 0 (by decide) hz0
          rw [hAy] at hyb
          rw [hAz] at hzb
          have ey : rd_T38 y.xs 0 = headAt (Y.map LineW.xs) i := by
            unfold headAt rd_T38
            rw [List.getD_eq_getElem?_getD (l := Y.map LineW.xs), List.getElem?_map, HY.out]
            show y.xs.getD 0 _ = y.xs.headD _
            cases y.xs <;> rfl
          have ez : rd_T38 z.xs 0 = headAt (Y.map LineW.xs) k.toNat := by
            unfold headAt rd_T38
            rw [List.getD_eq_getElem?_getD (l := Y.map LineW.xs), List.getElem?_map, hz]
            show z.xs.getD 0 _ = z.xs.headD _
            cases z.xs <;> rfl
          rw [ey] at t0 t1 t2 t3 t4 t5
          rw [ez] at u0 u1 u2 u3_ u4_ u5_
          generalize headAt (Y.map LineW.xs) i = t at t0 t1 t2 t3 t4 t5 hbb
          generalize headAt (Y.map LineW.xs) k.toNat = u at u0 u1 u2 u3_ u4_ u5_ hbb
          simp only [show (0 : Int).toNat * 6 = 0 from rfl, Addr.add_zero'] at t0 t1 t2 t3 t4 t5 u0 u1 u2 u3_ u4_ u5_
          have HBB := Aside0.mk hbb
          have HRE := Aside0.mk hrest
          have HSS : Aside0 (wr.drew.cell? ⟨gB, 1, none⟩ = some (.slice (some ⟨g, 0, none⟩) Y.length c) ∧ wr.drew.cell? ⟨gB, 2, none⟩ = some (.map (some bM)) ∧ wr.drew.cell? ⟨y.g, 0, none⟩ = some (.slice (some ady) y.xs.length y.c) ∧ wr.drew.cell? ⟨g, k.toNat, none⟩ = some (.pointer (some ⟨z.g, 0, none⟩)) ∧ wr.drew.cell? ⟨z.g, 0, none⟩ = some (.slice (some adz) z.xs.length z.c) ∧ wr.drew.cell? ady = some (.int .i64 t.f0) ∧ wr.drew.cell? ⟨ady.block, ady.off + 1, none⟩ = some (.int .i64 t.f1) ∧ wr.drew.cell? ⟨ady.block, ady.off + 2, none⟩ = some (.int .i64 t.f2) ∧ wr.drew.cell? ⟨ady.block, ady.off + 3, none⟩ = some (.int .i64 t.f3) ∧ wr.drew.cell? ⟨ady.block, ady.off + 4, none⟩ = some (.int .i64 t.f4) ∧ wr.drew.cell? ⟨ady.block, ady.off + 5, none⟩ = some (.string t.f5) ∧ wr.drew.cell? adz = some (.int .i64 u.f0) ∧ wr.drew.cell? ⟨adz.block, adz.off + 1, none⟩ = some (.int .i64 u.f1) ∧ wr.drew.cell? ⟨adz.block, adz.off + 2, none⟩ = some (.int .i64 u.f2) ∧ wr.drew.cell? ⟨adz.block, adz.off + 3, none⟩ = some (.int .i64 u.f3) ∧ wr.drew.cell? ⟨adz.block, adz.off + 4, none⟩ = some (.int .i64 u.f4) ∧ wr.drew.cell? ⟨adz.block, adz.off + 5, none⟩ = some (.string u.f5)) := ⟨⟨e_ (Aside0.mk HBd.out.box) 1, e_ (Aside0.mk HBd.out.box) 2, (blk_cell hyb 0).trans rfl, on_ (below_drew (Below.refl _ _)) q0, (blk_cell hzb 0).trans rfl, t0, t1, t2, t3, t4, t5, u0, u1, u2, u3_, u4_, u5_⟩⟩
          have hygt : (y.xs.length : Int) > 0 := hy0
          have hyn : 0 < y.xs.length := by omega
          have hzn : 0 < z.xs.length := by omega
          have hkneg : decide (k < 0) = false := decide_eq_false (by omega)
          have hkneg2 : (k < 0) = False := eq_false (by omega)
          clear hbb hrest hA2 q0 hyx hzx hyb hyV hzb hzV hAy hAz ey ez t0 t1 t2 t3 t4 t5 u0 u1 u2 u3_ u4_ u5_ hz EQ
          refine start_ (n := 32) (S := fun w' => w'.cell? ⟨gB, 1, none⟩ = some (.slice (some ⟨g, 0, none⟩) Y.length c) ∧ w'.cell? ⟨gB, 2, none⟩ = some (.map (some bM)) ∧ w'.cell? ⟨y.g, 0, none⟩ = some (.slice (some ady) y.xs.length y.c) ∧ w'.cell? ⟨g, k.toNat, none⟩ = some (.pointer (some ⟨z.g, 0, none⟩)) ∧ w'.cell? ⟨z.g, 0, none⟩ = some (.slice (some adz) z.xs.length z.c) ∧ w'.cell? ady = some (.int .i64 t.f0) ∧ w'.cell? ⟨ady.block, ady.off + 1, none⟩ = some (.int .i64 t.f1) ∧ w'.cell? ⟨ady.block, ady.off + 2, none⟩ = some (.int .i64 t.f2) ∧ w'.cell? ⟨ady.block, ady.off + 3, none⟩ = some (.int .i64 t.f3) ∧ w'.cell? ⟨ady.block, ady.off + 4, none⟩ = some (.int .i64 t.f4) ∧ w'.cell? ⟨ady.block, ady.off + 5, none⟩ = some (.string t.f5) ∧ w'.cell? adz = some (.int .i64 u.f0) ∧ w'.cell? ⟨adz.block, adz.off + 1, none⟩ = some (.int .i64 u.f1) ∧ w'.cell? ⟨adz.block, adz.off + 2, none⟩ = some (.int .i64 u.f2) ∧ w'.cell? ⟨adz.block, adz.off + 3, none⟩ = some (.int .i64 u.f3) ∧ w'.cell? ⟨adz.block, adz.off + 4, none⟩ = some (.int .i64 u.f4) ∧ w'.cell? ⟨adz.block, adz.off + 5, none⟩ = some (.string u.f5)) (ds := []) #[false, false, false, false, false, false, false, false, false, false, false, false, false, false, false, false, false, false, false, false, false, false, false, false, false, false, false, false, false, false, false, false] (by kernel_rfl) rfl rfl HSS.out (fun hHeld => ?_); refine with_tabW greedy_block_best.tab5 greedy_block_best.bits5 (fun HT_ HW_ => ?_)
          generalize wr.drew = w3 at HBd BWd HSS hHeld ⊢
          refine pq_ 0 16 HT_ ?_
          refine pq_ 1 17 HT_ ?_
          refine pq_ 2 18 HT_ ?_
          refine tk_ 3 19 HT_ HW_ hHeld ?_
          refine pq_ 4 20 HT_ ?_
          refine one_ (i := 5) (N := some 21) #[true, true, true, true, true, true, false, false, false, false, false, false, false, false, false, false, false, false, false, false, false, false, false, false, false, false, false, false, false, false, false, false] rfl rfl (one_of HT_.out (by kernel_rfl)) (by decide) (fun K hK => ?_)
          obtain ⟨v, ps, hrun, hv⟩ := HBd.out.map_.lookup (Maps.int_keyed Try.underlying3) Try.underlying55 (Try.zeroValue50 _) (zd := .held (.pointer none)) (zp := []) rfl (Maps.keyOf_int_mk Try.underlying3 HWI.out)
          have hv2 : DataW.held v = .held (encL y.g) := (congrArg Prod.fst (Option.some.inj hv)).trans (by rw [HBd.out.pl.at_, PlK.on_nat, HL.out, if_pos rfl, Int.toNat_natCast, HIY.out])
          injection hv2 with hv2
          subst hv2
          refine value_ (w1 := w3) (v := .pointer (some ⟨y.g, 0, none⟩)) (by rfl) rfl (by unfold encL at hrun; go_simp) ?_
          refine hK.out _ _ HSS.out (fun hHeld => ?_)
          clear hK K hrun hv
          refine norm_ (a' := ?_) ?_ ?_
          rotate_left
          · show Act.put _ (some 21) _ = _
            simp only [Act.put, List.setIfInBounds_toArray, List.set_cons_zero, List.set_cons_succ, i64_w, i32_w]
            rfl
          refine pq_ 6 22 HT_ ?_
          refine pq_ 7 23 HT_ ?_
          refine pq_ 8 24 HT_ ?_
          refine pq_ 9 25 HT_ ?_
          refine pq_ 10 26 HT_ ?_
          refine pq_ 11 27 HT_ ?_
          refine pq_ 12 28 HT_ ?_
          refine pq_ 13 29 HT_ ?_
          refine tk_ 14 30 HT_ HW_ hHeld ?_
          refine pq_ 15 31 HT_ ?_
          refine tk_ 16 32 HT_ HW_ hHeld ?_
          refine pq_ 17 33 HT_ ?_
          refine pq_ 18 34 HT_ ?_
          refine pq_ 19 35 HT_ ?_
          refine tk_ 20 36 HT_ HW_ hHeld ?_
          refine pq_ 21 37 HT_ ?_
          refine pq_ 22 38 HT_ ?_
          refine tk_ 23 39 HT_ HW_ hHeld ?_
          refine pq_ 24 40 HT_ ?_
          refine pq_ 25 41 HT_ ?_
          refine tk_ 26 42 HT_ HW_ hHeld ?_
          refine pq_ 27 43 HT_ ?_
          refine tk_ 28 44 HT_ HW_ hHeld ?_
          refine one_ (i := 29) (N := some 45) #[true, true, true, true, true, true, true, true, true, true, true, true, true, true, true, true, true, true, true, true, true, true, true, true, true, true, true, true, true, true, false, false] rfl rfl (one_of HT_.out (by kernel_rfl)) (by decide) (fun K hK => ?_)
          refine goes_ Try.func39 (by kernel_rfl) rfl #[.agg #[.int .i64 t.f0, .int .i64 t.f1, .int .i64 t.f2, .int .i64 t.f3, .int .i64 t.f4, .string t.f5], .agg #[.int .i64 u.f0, .int .i64 u.f1, .int .i64 u.f2, .int .i64 u.f3, .int .i64 u.f4, .string u.f5]] (by rfl) rfl rfl (by (try simp only [m0_, m1_, m2_]); first | done | rfl) ?_
          refine (txn_Better.calls 5 t.f0 t.f1 t.f2 t.f3 t.f4 t.f5 u.f0 u.f1 u.f2 u.f3 u.f4 u.f5 bb w3 HBB.out).mono ?_
          rintro e w4 ⟨rfl, hb⟩
          refine ⟨_, rfl, ?_⟩
          have BW4 := Aside0.mk (below_step BWd.out hb)
          obtain ⟨s0_, s1_, s2_, s3_, s4_, s5_, s6_, s7_, s8_, s9_, s10_, s11_, s12_, s13_, s14_, s15_, s16_⟩ := HSS.out
          refine hK.out _ _ ⟨on_ hb s0_, on_ hb s1_, on_ hb s2_, on_ hb s3_, on_ hb s4_, on_ hb s5_, on_ hb s6_, on_ hb s7_, on_ hb s8_, on_ hb s9_, on_ hb s10_, on_ hb s11_, on_ hb s12_, on_ hb s13_, on_ hb s14_, on_ hb s15_, on_ hb s16_⟩ (fun hHeld => ?_)
          clear hK K hb s0_ s1_ s2_ s3_ s4_ s5_ s6_ s7_ s8_ s9_ s10_ s11_ s12_ s13_ s14_ s15_ s16_
          refine norm_ (a' := ?_) ?_ ?_
          rotate_left
          · show Act.put _ (some 45) _ = _
            simp only [Act.put, List.setIfInBounds_toArray, List.set_cons_zero, List.set_cons_succ, i64_w, i32_w]
            rfl
          refine pq_ 30 46 HT_ ?_
          refine pq_ 31 47 HT_ ?_
          refine done_ (done_of HT_.out (by kernel_rfl)) ?_
          clear HSS hHeld HT_ HW_
          cases bb with
          | true =>
            rw [if_pos rfl] at HRE
            go_wp2
            have hk3 : (i : Int) = -1 ∨ (0 ≤ (i : Int) ∧ (i : Int) < ((i + 1 : Nat) : Int) ∧ L.getD (i : Int).toNat false = true) := Or.inr ⟨by omega, by omega, HL.out⟩
            have HK3 := Aside0.mk hk3
            clear hk3
            go_roundg (Y.length - (i + 1))
            case measure => omega
            case rel => exact ⟨i + 1, (i : Int), by omega, by omega, by first | rfl | rw [hwi] | go_num, rfl, HK3.out, BW4, HRE⟩
          | false =>
            rw [if_neg (by decide)] at HRE
            have hk3 : k = -1 ∨ (0 ≤ k ∧ k < ((i + 1 : Nat) : Int) ∧ L.getD k.toNat false = true) := Or.inr ⟨hk0, by omega, hkl⟩
            have HK3 := Aside0.mk hk3
            clear hk3 hkl
            go_wp2
            go_roundg (Y.length - (i + 1))
            case measure => omega
            case rel => exact ⟨i + 1, k, by omega, by omega, by first | rfl | rw [hwi] | go_num, rfl, HK3.out, BW4, HRE⟩
    · have hltz : ¬ (i : Int) < (Y.length : Int) := by omega
      have HK := Aside0.mk hk
      clear hk
      go_wp2
      go_ret
      have h1 := EQ.out
      rw [show Y.length - i = 0 by omega] at h1
      exact ⟨by rw [Option.some.inj h1]; rfl, BW.out⟩

/-! ### greedy_block_take: function 30, by hand -/
-- HAND rounds=0 making=0 opaque
-- IMPORT Derived.Test.YtahopljippfadaaPlK
-- IMPORT Derived.Maps.OwnSet
-- NEEDS (*hopper/greedy.block).best
/-- A block in memory, with what is taken (v: the row; vT: what the block's cell tells). -/
structure Bt (base : Nat) (F : Nat → Prop) (W : World) (gB : Nat) (gas : Int) (A : Option Addr) (c bM n : Nat) (vT v : Value) (D : DataW Value) (Y : List LineW) (L : List Bool) (U : List S38) : Prop where
  box : W.heap[gB]? = some (.cells #[.int .i64 gas, .slice A Y.length c, .map (some bM), vT] 57 (0, 0))
  row : Kd.R (Kd.scalar encL encL1) 50 W base (fun _ => True) (.slice A Y.length c) (Y.map LineW.g)
  lines : Lines base F W Y
  map_ : W.ownsMap Try.prog 3 MapK.Rh bM n D
  pl : PlK.Pl D (fun i => encL ((Y.map LineW.g).getD i 0)) L
  tak : Kd.R k38 38 W base (fun k => ¬ F k) v U
  fg : ¬ F gB
  fm : ¬ F bM
  lo : base ≤ gB ∧ base ≤ bM
section
variable {base : Nat} {F : Nat → Prop} {W W' : World} {gB : Nat} {gas : Int} {A : Option Addr} {c bM n : Nat} {vT v : Value} {D : DataW Value} {Y : List LineW} {L : List Bool} {U : List S38}
theorem Bt.bk (h : Bt base F W gB gas A c bM n vT v D Y L U) (hn : L.length = Y.length) (hs : ∀ i y, Y[i]? = some y → L.getD i false = true → y.xs ≠ []) : Bk base F W gB gas A c bM n vT D Y L := ⟨h.box, h.row, h.lines, h.map_, h.pl, hn, hs⟩
theorem ne_of {α : Type} {d : Kd α} {e : TypeId} {ok : Nat → Prop} {xs : List α} (h : Kd.R d e W base ok v xs) {b : Nat} {o : Obj} (hb : W.heap[b]? = some o) (ho : ∀ cs, o ≠ .cells cs e (0, 0)) : some b ≠ v.ownBlock := fun q => by
  obtain ⟨cs, h2⟩ := Kd.R_typed h b q.symm
  rw [hb] at h2
  exact ho cs (Option.some.inj h2)
theorem gs_ (W : World) (p : Addr) (u : Value) : W.grownBy (W.setCell p u) (some p.block) := ⟨rfl, rfl, rfl, (KeepsWalks.setCell W _ u).size, fun k _ hk => Below.heap_setCell _ _ _ k (fun e => hk (by rw [e]))⟩
theorem Bt.below (h : Bt base F W gB gas A c bM n vT v D Y L U) (hb : Below W.heap.size W W') : Bt base F W' gB gas A c bM n vT v D Y L U :=
  ⟨blk_below h.box hb, Kd.R_below h.row hb, h.lines.below hb, own_block h.map_ (hb.block bM h.map_.lt), h.pl, Kd.R_below h.tak hb, h.fg, h.fm, h.lo⟩
theorem Bt.map_at (h : Bt base F W gB gas A c bM n vT v D Y L U) : ∃ es ck, W.heap[bM]? = some (.map es ck) := by
  obtain ⟨es, ck, h2, _⟩ := h.map_
  exact ⟨es, ck, h2⟩
theorem Bt.map_ne (h : Bt base F W gB gas A c bM n vT v D Y L U) : bM ≠ gB := fun q => by
  obtain ⟨es, ck, h2⟩ := h.map_at
  rw [q, h.box] at h2
  cases h2
theorem Bt.line_ne (h : Bt base F W gB gas A c bM n vT v D Y L U) : ∀ y ∈ Y, gB ≠ y.g ∧ bM ≠ y.g := fun y hy => by
  refine ⟨fun q => ?_, fun q => ?_⟩
  · have h1 := h.box
    rw [q, (h.lines.at_ y hy).2.1] at h1
    cases h1
  · obtain ⟨es, ck, h2⟩ := h.map_at
    rw [q, (h.lines.at_ y hy).2.1] at h2
    cases h2
theorem Bt.own_ne (h : Bt base F W gB gas A c bM n vT v D Y L U) (b : Nat) (hb : b = gB ∨ b = bM ∨ ∃ y ∈ Y, b = y.g) : some b ≠ (Value.slice A Y.length c).ownBlock ∧ some b ≠ v.ownBlock := by
  rcases hb with rfl | rfl | ⟨y, hy, rfl⟩
  · exact ⟨ne_of h.row h.box (fun cs q => by injection q with _ q; exact absurd q (by decide)), ne_of h.tak h.box (fun cs q => by injection q with _ q; exact absurd q (by decide))⟩
  · obtain ⟨es, ck, h2⟩ := h.map_at
    exact ⟨ne_of h.row h2 (fun cs q => by cases q), ne_of h.tak h2 (fun cs q => by cases q)⟩
  · have h2 := (h.lines.at_ y hy).2.1
    exact ⟨ne_of h.row h2 (fun cs q => by injection q with _ q; exact absurd q (by decide)), ne_of h.tak h2 (fun cs q => by injection q with _ q; exact absurd q (by decide))⟩
theorem Bt.del (h : Bt base F W gB gas A c bM n vT v D Y L U) (k : Nat) (hg : W.grownBy W' (some bM)) (hm : W'.ownsMap Try.prog 3 MapK.Rh bM n (D.del (.int .i64 (k : Int)))) : Bt base F W' gB gas A c bM n vT v (D.del (.int .i64 (k : Int))) Y (L.set k false) U := by
  obtain ⟨n1, n2⟩ := h.own_ne bM (.inr (.inl rfl))
  exact ⟨blk_grown h.box hg (fun q => h.map_ne (Option.some.inj q).symm), Kd.R_grown2 h.row rfl hg (fun k hk => by cases hk; exact n1), h.lines.grown hg (fun k hk => by cases hk; exact ⟨h.fm, fun y hy => (h.line_ne y hy).2⟩), hm, h.pl.del k, Kd.R_grown2 h.tak rfl hg (fun k hk => by cases hk; exact n2), h.fg, h.fm, h.lo⟩
theorem Bt.put (h : Bt base F W gB gas A c bM n vT v D Y L U) (hg : W.grownBy W' (some bM)) (hm : W'.ownsMap Try.prog 3 MapK.Rh bM (n + 1) (D.put (.int .i64 (L.length : Int)) (.held (encL ((Y.map LineW.g).getD L.length 0))))) : Bt base F W' gB gas A c bM (n + 1) vT v (D.put (.int .i64 (L.length : Int)) (.held (encL ((Y.map LineW.g).getD L.length 0)))) Y (L ++ [true]) U := by
  obtain ⟨n1, n2⟩ := h.own_ne bM (.inr (.inl rfl))
  exact ⟨blk_grown h.box hg (fun q => h.map_ne (Option.some.inj q).symm), Kd.R_grown2 h.row rfl hg (fun k hk => by cases hk; exact n1), h.lines.grown hg (fun k hk => by cases hk; exact ⟨h.fm, fun y hy => (h.line_ne y hy).2⟩), hm, h.pl.put, Kd.R_grown2 h.tak rfl hg (fun k hk => by cases hk; exact n2), h.fg, h.fm, h.lo⟩
theorem Bt.skip (h : Bt base F W gB gas A c bM n vT v D Y L U) : Bt base F W gB gas A c bM n vT v D Y (L ++ [false]) U := ⟨h.box, h.row, h.lines, h.map_, h.pl.skip, h.tak, h.fg, h.fm, h.lo⟩
theorem Bt.atB {gas' : Int} {vT' : Value} (h : Bt base F W gB gas A c bM n vT v D Y L U) (hg : W.grownBy W' (some gB)) (hb : W'.heap[gB]? = some (.cells #[.int .i64 gas', .slice A Y.length c, .map (some bM), vT'] 57 (0, 0))) : Bt base F W' gB gas' A c bM n vT' v D Y L U := by
  obtain ⟨n1, n2⟩ := h.own_ne gB (.inl rfl)
  exact ⟨hb, Kd.R_grown2 h.row rfl hg (fun k hk => by cases hk; exact n1), h.lines.grown hg (fun k hk => by cases hk; exact ⟨h.fg, fun y hy => (h.line_ne y hy).1⟩), own_block h.map_ (hg.block bM h.map_.lt (fun q => h.map_ne (Option.some.inj q))), h.pl, Kd.R_grown2 h.tak rfl hg (fun k hk => by cases hk; exact n2), h.fg, h.fm, h.lo⟩
theorem Bt.gasTo (h : Bt base F W gB gas A c bM n vT v D Y L U) (gas' : Int) : Bt base F (W.setCell ⟨gB, 0, none⟩ (.int .i64 gas')) gB gas' A c bM n vT v D Y L U := h.atB (gs_ W ⟨gB, 0, none⟩ _) (blk_put h.box 0 _ rfl)
theorem Bt.kept (h : Bt base F W gB gas A c bM n vT v D Y L U) : Bt base F (W.setCell ⟨gB, 3, none⟩ v) gB gas A c bM n v v D Y L U := h.atB (gs_ W ⟨gB, 3, none⟩ _) (blk_put h.box 3 _ rfl)
theorem Bt.grow {v1 : Value} {U1 : List S38} (h : Bt base F W gB gas A c bM n vT v D Y L U) (hg : W.grownBy W' v.ownBlock) (hR : Kd.R k38 38 W' base (fun k => ¬ F k) v1 U1) : Bt base F W' gB gas A c bM n vT v1 D Y L U1 := by
  have n1 := (h.own_ne gB (.inl rfl)).2
  have n2 := (h.own_ne bM (.inr (.inl rfl))).2
  refine ⟨blk_grown h.box hg n1, Kd.R_grown2 h.row rfl hg (fun k hk => ?_), h.lines.grown hg (fun k hk => ⟨h.tak.1 k hk, fun y hy q => ?_⟩), own_block h.map_ (hg.block bM h.map_.lt n2), h.pl, hR, h.fg, h.fm, h.lo⟩
  · obtain ⟨cs, h2⟩ := Kd.R_typed h.tak k hk
    exact ne_of h.row h2 (fun cs q => by injection q with _ q; exact absurd q (by decide))
  · exact (h.own_ne y.g (.inr (.inr ⟨y, hy, rfl⟩))).2 (by rw [← q]; exact hk.symm)
theorem set_g {Y : List LineW} {k : Nat} {y y' : LineW} (hy : Y[k]? = some y) (hg : y'.g = y.g) : (Y.set k y').map LineW.g = Y.map LineW.g := by
  rw [List.map_set, hg]
  apply List.ext_getElem?
  intro i
  by_cases e : k = i
  · subst e
    have hk : k < (Y.map LineW.g).length := by rw [List.length_map]; exact (List.getElem?_eq_some_iff.1 hy).1
    rw [List.getElem?_set_self hk, List.getElem?_map, hy]
    rfl
  · rw [List.getElem?_set_ne e]
theorem Lines.set {k : Nat} {y : LineW} {A' : Option Addr} {c' : Nat} {xs' : List S38} (h : Lines base F W Y) (hy : Y[k]? = some y) (hV : Kd.V k38 38 W 0 F (.slice A' xs'.length c') xs') : Lines base F (W.setCell ⟨y.g, 0, none⟩ (.slice A' xs'.length c')) (Y.set k ⟨y.g, A', c', xs'⟩) := by
  have hg := gs_ W ⟨y.g, 0, none⟩ (.slice A' xs'.length c')
  have hyY := List.mem_of_getElem? hy
  have hff : ∀ q, F q → some q ≠ some y.g := fun q hF e => (h.ff q hF).2.2 y hyY (Option.some.inj e)
  have hm := set_g (y' := ⟨y.g, A', c', xs'⟩) hy rfl
  refine ⟨by rw [hm]; exact h.nd, fun z hz => ?_, fun q hq => ⟨(h.ff q hq).1, Nat.lt_of_lt_of_le (h.ff q hq).2.1 hg.size, fun z hz => ?_⟩⟩
  · obtain ⟨j, hj⟩ := List.getElem?_of_mem hz
    by_cases e : k = j
    · subst e
      rw [List.getElem?_set_self (List.getElem?_eq_some_iff.1 hy).1] at hj
      obtain rfl := Option.some.inj hj
      exact ⟨(h.at_ y hyY).1, blk_put (h.at_ y hyY).2.1 0 _ rfl, Kd.V_grown hV hg hff⟩
    · rw [List.getElem?_set_ne e] at hj
      have hzY := List.mem_of_getElem? hj
      have hne : z.g ≠ y.g := fun q => by
        have h1 : (Y.map LineW.g)[k]? = some y.g := by rw [List.getElem?_map, hy]; rfl
        have h2 : (Y.map LineW.g)[j]? = some y.g := by rw [List.getElem?_map, hj, ← q]; rfl
        obtain ⟨l1, l2⟩ := List.getElem?_eq_some_iff.1 h1
        obtain ⟨l3, l4⟩ := List.getElem?_eq_some_iff.1 h2
        exact e ((List.getElem_inj h.nd).1 (l2.trans l4.symm))
      exact ⟨(h.at_ z hzY).1, blk_grown (h.at_ z hzY).2.1 hg (fun q => hne (Option.some.inj q)), Kd.V_grown (h.at_ z hzY).2.2 hg hff⟩
  · have : z.g ∈ Y.map LineW.g := by rw [← hm]; exact List.mem_map.2 ⟨z, hz, rfl⟩
    obtain ⟨x, hx, e⟩ := List.mem_map.1 this
    rw [← e]
    exact (h.ff q hq).2.2 x hx
theorem Bt.line {k : Nat} {y : LineW} {A' : Option Addr} {c' : Nat} {xs' : List S38} (h : Bt base F W gB gas A c bM n vT v D Y L U) (hy : Y[k]? = some y) (hV : Kd.V k38 38 W 0 F (.slice A' xs'.length c') xs') : Bt base F (W.setCell ⟨y.g, 0, none⟩ (.slice A' xs'.length c')) gB gas A c bM n vT v D (Y.set k ⟨y.g, A', c', xs'⟩) L U := by
  have hg := gs_ W ⟨y.g, 0, none⟩ (.slice A' xs'.length c')
  have hyY := List.mem_of_getElem? hy
  have hm := set_g (y' := ⟨y.g, A', c', xs'⟩) hy rfl
  obtain ⟨n1, n2⟩ := h.own_ne y.g (.inr (.inr ⟨y, hyY, rfl⟩))
  obtain ⟨m1, m2⟩ := h.line_ne y hyY
  refine ⟨by rw [List.length_set]; exact blk_grown h.box hg (fun q => m1 (Option.some.inj q)), by rw [List.length_set, hm]; exact Kd.R_grown2 h.row rfl hg (fun k hk => by cases hk; exact n1), h.lines.set hy hV, own_block h.map_ (hg.block bM h.map_.lt (fun q => m2 (Option.some.inj q))), by rw [hm]; exact h.pl, Kd.R_grown2 h.tak rfl hg (fun k hk => by cases hk; exact n2), h.fg, h.fm, h.lo⟩
end
/-- What taking the one at a place comes to: gas, lines, who has a place, what is taken. -/
def takeP (gas : Int) (X : List (List S38)) (L : List Bool) (U : List S38) (k : Nat) : Int × List (List S38) × List Bool × List S38 :=
  if (headAt X k).f4 > gas then (gas, X, L.set k false, U) else (wrap64 (gas - (headAt X k).f4), X.set k (X.getD k []).tail, (if (X.getD k []).tail.length = 0 then L.set k false else L), U ++ [headAt X k])
def greedy_block_take.T2 : Bool × List (List Nat × List Nat) := (true, [([], []), ([0], [0]), ([], []), ([2], [2]), ([3], [3]), ([4], [4]), ([1, 5], [1, 5])])
def greedy_block_take.B2 : List Nat := [0, 1, 0, 4, 12, 28, 63]
def greedy_block_take.T4 : Bool × List (List Nat × List Nat) := (true, [([], []), ([0], [0]), ([1], [1]), ([2], [2]), ([], []), ([4], [4]), ([3, 5], [3, 5]), ([0, 0, 1, 2, 3, 4, 5, 6], [0]), ([7, 0, 1, 2, 3, 4, 5, 6], [7]), ([8, 6, 0, 1, 2, 3, 4, 5, 6], [6, 8])])
def greedy_block_take.B4 : List Nat := [0, 1, 3, 7, 0, 16, 63, 127, 255, 511]
def greedy_block_take.T5 : Bool × List (List Nat × List Nat) := (true, [([], []), ([], []), ([1], [1]), ([2], [2]), ([3], [3]), ([], []), ([5], [5]), ([4, 6], [4, 6]), ([0, 0, 1, 2, 3, 4, 5, 6, 7], [0]), ([8, 0, 1, 2, 3, 4, 5, 6, 7], [8]), ([9, 7, 7, 0, 1, 2, 3, 4, 5, 6, 7], [7, 9])])
def greedy_block_take.B5 : List Nat := [0, 0, 2, 6, 14, 0, 32, 126, 255, 511, 1023]
theorem greedy_block_take.tab2 : rtab .any (opsOf Try.f30 2) = greedy_block_take.T2 := by kernel_rfl
theorem greedy_block_take.bits2 : waitsOk greedy_block_take.T2.2 greedy_block_take.B2 = true := by kernel_rfl
theorem greedy_block_take.tab4 : rtab .any (opsOf Try.f30 4) = greedy_block_take.T4 := by kernel_rfl
theorem greedy_block_take.bits4 : waitsOk greedy_block_take.T4.2 greedy_block_take.B4 = true := by kernel_rfl
theorem greedy_block_take.tab5 : rtab .any (opsOf Try.f30 5) = greedy_block_take.T5 := by kernel_rfl
theorem greedy_block_take.bits5 : waitsOk greedy_block_take.T5.2 greedy_block_take.B5 = true := by kernel_rfl
set_option maxHeartbeats 8000000 in
set_option maxRecDepth 100000 in
theorem greedy_block_take.calls (base : Nat) (F : Nat → Prop) (gB : Nat) (gas : Int) (A : Option Addr) (c bM n : Nat) (v : Value) (D : DataW Value) (Y : List LineW) (L : List Bool) (U : List S38) (w : World) (k : Nat) (y : LineW) (hB : Bt base F w gB gas A c bM n v v D Y L U) (hl : Y.length < 1000000000000) (hu : U.length < 1000000000000) (hy : Y[k]? = some y) (hx : y.xs ≠ []) :
    Calls Try.prog 30 #[.pointer (some ⟨gB, 0, none⟩), .int .i64 (k : Int)] w fun e w' => e = .returned (.tuple #[]) ∧ Below base w w' ∧ ∃ (v' : Value) (D' : DataW Value) (Y' : List LineW) (gas' : Int) (L' : List Bool) (U' : List S38), Bt base F w' gB gas' A c bM n v' v' D' Y' L' U' ∧ Y'.map LineW.g = Y.map LineW.g ∧ (gas', Y'.map LineW.xs, L', U') = takeP gas (Y.map LineW.xs) L U k := by
  have hk : k < Y.length := (List.getElem?_eq_some_iff.1 hy).1
  have hyY := List.mem_of_getElem? hy
  have hX : (Y.map LineW.xs)[k]? = some y.xs := by rw [List.getElem?_map, hy]; rfl
  have hXd : (Y.map LineW.xs).getD k [] = y.xs := by rw [List.getD_eq_getElem?_getD, hX]; rfl
  obtain ⟨g, cap, hv, _, _, _⟩ := Kd.R_form hB.row (by rw [List.length_map]; omega)
  injection hv with hA hn_ hc
  subst hA hc
  clear hn_
  have b1 : w.cell? ⟨gB, 1, none⟩ = some (.slice (some ⟨g, 0, none⟩) Y.length c) := (blk_cell hB.box 1).trans rfl
  have p0 : w.cell? ⟨g, k, none⟩ = some (.pointer (some ⟨y.g, 0, none⟩)) := by
    have := (Kd.R_celln (d := 0) hB.row (k : Int) (by omega) (by omega)).1
    rw [Int.toNat_natCast] at this
    rw [this]
    have e : rdOf 0 (Y.map LineW.g) (k : Int) = y.g := by
      unfold rdOf
      rw [Int.toNat_natCast, List.getD_eq_getElem?_getD, List.getElem?_map, hy]
      rfl
    rw [e]
    rfl
  obtain ⟨_, hyb, hyV⟩ := hB.lines.at_ y hyY
  have hy0 : (0 : Int) < (y.xs.length : Int) := by have := List.length_pos_iff.2 hx; omega
  have hyn : 0 < y.xs.length := by omega
  obtain ⟨ad, hAy, t0, t1, t2, t3, t4, t5⟩ := at_T38 (Kd.V_reads' hyV).2.2 0 (by decide) hy0
  have q0 : w.cell? ⟨y.g, 0, none⟩ = some (.slice (some ad) y.xs.length y.c) := by
    rw [← hAy]
    exact (blk_cell hyb 0).trans rfl
  have ey : rd_T38 y.xs 0 = headAt (Y.map LineW.xs) k := by
    unfold headAt rd_T38
    rw [hXd]
    show y.xs.getD 0 _ = y.xs.headD _
    cases y.xs <;> rfl
  rw [ey] at t0 t1 t2 t3 t4 t5
  have EQ := Aside0.mk (show takeP gas (Y.map LineW.xs) L U k = (if (headAt (Y.map LineW.xs) k).f4 > gas then (gas, Y.map LineW.xs, L.set k false, U) else (wrap64 (gas - (headAt (Y.map LineW.xs) k).f4), (Y.map LineW.xs).set k y.xs.tail, (if y.xs.tail.length = 0 then L.set k false else L), U ++ [headAt (Y.map LineW.xs) k])) by unfold takeP; rw [hXd])
  generalize headAt (Y.map LineW.xs) k = t at t0 t1 t2 t3 t4 t5 EQ
  simp only [show (0 : Int).toNat * 6 = 0 from rfl, Addr.add_zero'] at t0 t1 t2 t3 t4 t5
  have H0 := Aside0.mk hB
  have HL := Aside0.mk hl
  have HU := Aside0.mk hu
  have HY := Aside0.mk hy
  have HX := Aside0.mk hx
  have HV := Aside0.mk hyV
  have HAy := Aside0.mk hAy
  have HK := Aside0.mk hk
  have hkz : (k : Int) < (Y.length : Int) := by omega
  have hk0 : (0 : Int) ≤ (k : Int) := by omega
  have hwfk : (Lit.int .i64 (k : Int)).wf = true := by
    have e : wrap64 (k : Int) = (k : Int) := by unfold wrap64; omega
    rw [← e]
    exact wrap64_wf _
  have HWK := Aside0.mk hwfk
  have HSZ := Aside0.mk (show base ≤ w.heap.size from Nat.le_trans hB.lo.1 (Nat.le_of_lt (blk_lt hB.box)))
  clear hB hl hu hy hx hyY hX hXd hyb hyV hAy ey hk hwfk
  go_enter Try.func30, Try.ntmps30
  go_upto_region 2 with ((with_reducible refine gate_dst (N := 5) rfl ?_); refine box_event ?hg (N := 5) ?hd (cs := #[.int .i64 0, .int .i64 0, .int .i64 0, .int .i64 0, .int .i64 0, .string (⟨#[]⟩ : ByteArray)]) (t := 38) ?hr ?_; (case hd => rfl); (case hg => rfl); (case hr => first | (go_simp; done) | (go_simp; rfl)); intro g5 hg5 w3 hbox hb3; have KB := Aside0.mk hbox; have KG := Aside0.mk hg5; have HB3 := Aside0.mk hb3; clear hbox hg5 hb3; obtain ⟨z0, z1, z2, z3, z4, z5⟩ := c6_ KB; obtain ⟨f0, f1, f2, f3, f4, f5⟩ := z6_ KB)
  have K6 := Aside0.mk (b6_ (a0 := .int .i64 t.f0) (a1 := .int .i64 t.f1) (a2 := .int .i64 t.f2) (a3 := .int .i64 t.f3) (a4 := .int .i64 t.f4) (a5 := .string t.f5) KB.out)
  have hge : w.heap.size ≤ g5 := Nat.le_of_eq KG.out.symm
  have HB4 := Aside0.mk ((((((HB3.out.setCell (p := ⟨g5, 0, none⟩) hge (.int .i64 t.f0)).setCell (p := ⟨g5, 1, none⟩) hge (.int .i64 t.f1)).setCell (p := ⟨g5, 2, none⟩) hge (.int .i64 t.f2)).setCell (p := ⟨g5, 3, none⟩) hge (.int .i64 t.f3)).setCell (p := ⟨g5, 4, none⟩) hge (.int .i64 t.f4)).setCell (p := ⟨g5, 5, none⟩) hge (.string t.f5))
  have HG5 := Aside0.mk hge
  clear z0 z1 z2 z3 z4 z5 f0 f1 f2 f3 f4 f5 KB HB3 KG t0 t1 t2 t3 t4 t5 b1 p0 q0 hge
  generalize (((((w3.setCell ⟨g5, 0, none⟩ (.int .i64 t.f0)).setCell ⟨g5, 1, none⟩ (.int .i64 t.f1)).setCell ⟨g5, 2, none⟩ (.int .i64 t.f2)).setCell ⟨g5, 3, none⟩ (.int .i64 t.f3)).setCell ⟨g5, 4, none⟩ (.int .i64 t.f4)).setCell ⟨g5, 5, none⟩ (.string t.f5) = w4 at K6 HB4 ⊢
  have HD := Aside0.mk ((H0.out.below HB4.out).below (below_drew (Below.refl _ _)))
  have BW := Aside0.mk (below_drew (Below.mono HB4.out HSZ.out))
  have K7 := Aside0.mk (blk_below K6.out (below_drew (Below.refl _ _)))
  have HS := Aside0.mk (show w4.drew.cell? ⟨gB, 0, none⟩ = some (.int .i64 gas) ∧ w4.drew.cell? ⟨g5, 4, none⟩ = some (.int .i64 t.f4) from ⟨e_ (Aside0.mk HD.out.box) 0, e_ K7 4⟩)
  clear K6 HB4
  refine start_ (n := 7) (S := fun w' => w'.cell? ⟨gB, 0, none⟩ = some (.int .i64 gas) ∧ w'.cell? ⟨g5, 4, none⟩ = some (.int .i64 t.f4)) (ds := []) #[false, false, false, false, false, false, false] (by kernel_rfl) rfl rfl HS.out (fun hHeld => ?_); refine with_tabW greedy_block_take.tab2 greedy_block_take.bits2 (fun HT_ HW_ => ?_)
  clear HS
  generalize w4.drew = w5 at HD BW K7 hHeld ⊢
  refine pq_ 0 19 HT_ ?_
  refine tk_ 1 20 HT_ HW_ hHeld ?_
  refine pq_ 2 21 HT_ ?_
  refine pq_ 3 22 HT_ ?_
  refine pq_ 4 23 HT_ ?_
  refine tk_ 5 24 HT_ HW_ hHeld ?_
  refine pq_ 6 25 HT_ ?_
  refine done_ (done_of HT_.out (by kernel_rfl)) ?_
  clear hHeld HT_ HW_
  by_cases hgt : gas < t.f4
  · rw [if_pos hgt] at EQ
    have b2 := e_ (Aside0.mk HD.out.box) 2
    go_wp2_with (at_delete; refine wpList_delete_own _ rfl _ _ 55 3 rfl 50 (Maps.int_keyed Try.underlying3) Try.underlying55 MapK.Rh bM n _ rfl HD.out.map_ _ _ rfl (Maps.keyOf_int_mk Try.underlying3 HWK.out) ?_; intro w6 hown6 hturn6; have OM6 := Aside0.mk hown6; have HG6 := Aside0.mk hturn6.grown; clear hown6 hturn6)
    first | go_end0 | ((try simp only [Exit.inBlock, Exit.then]); refine bodyPost_ret (results_none rfl _ _ _) rfl ?_)
    have HF := HD.out.del k HG6.out OM6.out
    exact ⟨rfl, BW.out.grown HG6.out (Nat.le_trans HSZ.out BW.out.size) (fun k hk => by cases hk; exact HD.out.lo.2), v, _, Y, gas, _, U, HF, rfl, EQ.out.symm⟩
  · rw [if_neg hgt] at EQ
    go_upto_region 4 with (fail)
    have hz0 := blk_frozen HD.out.box 0
    have HS := Aside0.mk (show w5.drew.cell? ⟨gB, 0, none⟩ = some (.int .i64 gas) ∧ w5.drew.cell? ⟨g5, 4, none⟩ = some (.int .i64 t.f4) from ⟨e_ (Aside0.mk HD.out.box) 0, e_ K7 4⟩)
    have HDd := Aside0.mk (HD.out.below (below_drew (Below.refl _ _)))
    have BWd := Aside0.mk (below_drew BW.out)
    have K7d := Aside0.mk (blk_below K7.out (below_drew (Below.refl _ _)))
    clear HD BW K7
    refine start_ (n := 10) (S := fun w' => w'.cell? ⟨gB, 0, none⟩ = some (.int .i64 gas) ∧ w'.cell? ⟨g5, 4, none⟩ = some (.int .i64 t.f4)) (ds := [9]) #[false, false, false, false, false, false, false, false, false, false] (by kernel_rfl) rfl rfl HS.out (fun hHeld => ?_); refine with_tabW greedy_block_take.tab4 greedy_block_take.bits4 (fun HT_ HW_ => ?_)
    clear HS hz0
    generalize w5.drew = w6 at HDd BWd K7d hHeld ⊢
    have hz0 := blk_frozen HDd.out.box 0
    refine pq_ 0 31 HT_ ?_
    refine pq_ 1 32 HT_ ?_
    refine pq_ 2 33 HT_ ?_
    refine tk_ 3 34 HT_ HW_ hHeld ?_
    refine pq_ 4 35 HT_ ?_
    refine tk_ 5 36 HT_ HW_ hHeld ?_
    refine pq_ 6 37 HT_ ?_
    refine pq_ 7 38 HT_ ?_
    refine pq_ 8 39 HT_ ?_
    refine last_ (i := 9) (N := none) #[true, true, true, true, true, true, true, true, true, true] rfl rfl (one_of HT_.out (by kernel_rfl)) (by decide) (fun K hK => ?_)
    have hc0 := e_ (Aside0.mk HDd.out.box) 0
    refine skip_ (w1 := ?_) (by rfl) rfl ?_ ?_
    rotate_left
    · go_simp
      rfl
    refine hK.out _ _ ?_
    clear hK K hHeld hc0 hz0
    have HD2 := Aside0.mk (HDd.out.gasTo (wrap64 (gas - t.f4)))
    have BW2 := Aside0.mk (BWd.out.setCell (p := ⟨gB, 0, none⟩) HDd.out.lo.1 (.int .i64 (wrap64 (gas - t.f4))))
    have K72 := Aside0.mk (blk_far K7d.out (p := ⟨gB, 0, none⟩) (fun q => by have := HG5.out; have := blk_lt H0.out.box; have q2 : g5 = gB := q; omega) (.int .i64 (wrap64 (gas - t.f4))))
    clear HDd BWd K7d
    generalize w6.setCell ⟨gB, 0, none⟩ (.int .i64 (wrap64 (gas - t.f4))) = w7 at HD2 BW2 K72 ⊢
    refine done_ (done_of HT_.out (by kernel_rfl)) ?_
    clear HT_ HW_
    go_upto_region 5 with (fail)
    have HD3 := Aside0.mk (HD2.out.below (below_drew (Below.refl _ _)))
    have BW3 := Aside0.mk (below_drew BW2.out)
    have K73 := Aside0.mk (blk_below K72.out (below_drew (Below.refl _ _)))
    clear HD2 BW2 K72
    have HS := Aside0.mk (show w7.drew.cell? ⟨gB, 3, none⟩ = some v ∧ w7.drew.cell? ⟨g5, 0, none⟩ = some (.int .i64 t.f0) ∧ w7.drew.cell? ⟨g5, 1, none⟩ = some (.int .i64 t.f1) ∧ w7.drew.cell? ⟨g5, 2, none⟩ = some (.int .i64 t.f2) ∧ w7.drew.cell? ⟨g5, 3, none⟩ = some (.int .i64 t.f3) ∧ w7.drew.cell? ⟨g5, 4, none⟩ = some (.int .i64 t.f4) ∧ w7.drew.cell? ⟨g5, 5, none⟩ = some (.string t.f5) from ⟨e_ (Aside0.mk HD3.out.box) 3, e_ K73 0, e_ K73 1, e_ K73 2, e_ K73 3, e_ K73 4, e_ K73 5⟩)
    refine start_ (n := 11) (S := fun w' => w'.cell? ⟨gB, 3, none⟩ = some v ∧ w'.cell? ⟨g5, 0, none⟩ = some (.int .i64 t.f0) ∧ w'.cell? ⟨g5, 1, none⟩ = some (.int .i64 t.f1) ∧ w'.cell? ⟨g5, 2, none⟩ = some (.int .i64 t.f2) ∧ w'.cell? ⟨g5, 3, none⟩ = some (.int .i64 t.f3) ∧ w'.cell? ⟨g5, 4, none⟩ = some (.int .i64 t.f4) ∧ w'.cell? ⟨g5, 5, none⟩ = some (.string t.f5)) (ds := [10]) #[false, false, false, false, false, false, false, false, false, false, false] (by kernel_rfl) rfl rfl HS.out (fun hHeld => ?_); refine with_tabW greedy_block_take.tab5 greedy_block_take.bits5 (fun HT_ HW_ => ?_)
    generalize w7.drew = w8 at HD3 BW3 K73 HS hHeld ⊢
    refine pq_ 0 40 HT_ ?_
    refine pq_ 1 41 HT_ ?_
    refine pq_ 2 42 HT_ ?_
    refine pq_ 3 43 HT_ ?_
    refine tk_ 4 44 HT_ HW_ hHeld ?_
    refine tk_ 5 45 HT_ HW_ hHeld ?_
    refine one_ (i := 6) (N := some 46) #[true, true, true, true, true, true, true, false, false, false, false] rfl rfl (one_of HT_.out (by kernel_rfl)) (by decide) (fun K hK => ?_)
    refine value_ (w1 := ?_) (v := ?_) (by rfl) rfl ?_ ?_
    rotate_left 2
    · go_simp
      constructor
      · rfl
      · rfl
    obtain ⟨s0_, s1_, s2_, s3_, s4_, s5_, s6_⟩ := HS.out
    have hal := below_alloc (Below.refl w8.heap.size w8) (.cells #[.int .i64 t.f0, .int .i64 t.f1, .int .i64 t.f2, .int .i64 t.f3, .int .i64 t.f4, .string t.f5] 38)
    refine hK.out _ _ ⟨on_ hal s0_, on_ hal s1_, on_ hal s2_, on_ hal s3_, on_ hal s4_, on_ hal s5_, on_ hal s6_⟩ (fun hHeld => ?_)
    clear hK K hal s0_ s1_ s2_ s3_ s4_ s5_ s6_ HS
    refine norm_ (a' := ?_) ?_ ?_
    rotate_left
    · show Act.put _ (some 46) _ = _
      simp only [Act.put, List.setIfInBounds_toArray, List.set_cons_zero, List.set_cons_succ, i64_w, i32_w]
      rfl
    refine one_ (i := 7) (N := some 47) #[true, true, true, true, true, true, true, true, false, false, false] rfl rfl (one_of HT_.out (by kernel_rfl)) (by decide) (fun K hK => ?_)
    refine Kd.R_append_step k38 (w0 := w) base (by rfl) (.tmp 44) (.tmp 46) 23 38 (.agg #[(.int .i64 0), (.int .i64 0), (.int .i64 0), (.int .i64 0), (.int .i64 0), (.string ⟨#[]⟩)]) 56 rfl Try.underlying23 info38 rfl (by decide) (by omega) v U t [.int .i64 t.f0, .int .i64 t.f1, .int .i64 t.f2, .int .i64 t.f3, .int .i64 t.f4, .string t.f5] (fun k => ¬ F k) (fun _ => False) rfl rfl ?aP (fun _ hk => hk.elim) ?aF ?aO ?aB ?aS ?aL ?_
    (case aP => exact k38_mkM _ _ _ t)
    (case aF => exact fun q hq hF => by have := (HD3.out.lines.ff q hF).2.1; omega)
    (case aO => exact HD3.out.tak)
    (case aB => exact BW3.out)
    (case aS => exact Nat.le_trans HSZ.out BW3.out.size)
    (case aL => (have := HU.out; omega))
    intro v1 w9 hr9 hb9 hg9 hat9
    have HD4 := Aside0.mk (HD3.out.grow hg9 hr9)
    have BW4 := Aside0.mk hb9
    have hge5 : some g5 ≠ v.ownBlock := fun q => by
      have h1 := Kd.R_lt H0.out.tak g5 q.symm
      have := HG5.out
      omega
    have hgeB : some gB ≠ v.ownBlock := (HD3.out.own_ne gB (.inl rfl)).2
    have K74 := Aside0.mk (blk_grown K73.out hg9 hge5)
    clear hr9 hb9 hg9 hat9 hge5 hgeB HD3 BW3 K73
    refine hK.out _ _ ⟨e_ (Aside0.mk HD4.out.box) 3, e_ K74 0, e_ K74 1, e_ K74 2, e_ K74 3, e_ K74 4, e_ K74 5⟩ (fun hHeld => ?_)
    clear hK K
    refine norm_ (a' := ?_) ?_ ?_
    rotate_left
    · show Act.put _ (some 47) _ = _
      simp only [Act.put, List.setIfInBounds_toArray, List.set_cons_zero, List.set_cons_succ, i64_w, i32_w]
      rfl
    refine pq_ 8 48 HT_ ?_
    refine pq_ 9 49 HT_ ?_
    refine last_ (i := 10) (N := none) #[true, true, true, true, true, true, true, true, true, true, true] rfl rfl (one_of HT_.out (by kernel_rfl)) (by decide) (fun K hK => ?_)
    have hc3 : w9.cell? ⟨gB, 3, none⟩ = some v := e_ (Aside0.mk HD4.out.box) 3
    have hz3 := blk_frozen HD4.out.box 3
    obtain ⟨A1, c1, hv1⟩ := Kd.R_slice HD4.out.tak
    subst hv1
    have hle : (U ++ [t]).length = U.length + 1 := by rw [List.length_append, List.length_singleton]
    rw [hle] at HD4
    clear hle
    refine skip_ (w1 := ?_) (by rfl) rfl ?_ ?_
    rotate_left
    · go_simp
      rfl
    refine hK.out _ _ ?_
    clear hK K hHeld hc3 hz3
    have HD5 := Aside0.mk HD4.out.kept
    have BW5 := Aside0.mk (BW4.out.setCell (p := ⟨gB, 3, none⟩) HD4.out.lo.1 (.slice A1 (U.length + 1) c1))
    clear HD4 BW4 K74
    generalize w9.setCell ⟨gB, 3, none⟩ (.slice A1 (U.length + 1) c1) = w10 at HD5 BW5 ⊢
    refine done_ (done_of HT_.out (by kernel_rfl)) ?_
    clear HT_ HW_
    obtain ⟨_, hyb, hyV⟩ := HD5.out.lines.at_ y (List.mem_of_getElem? HY.out)
    rw [HAy.out] at hyb
    have hc6 := (blk_cell hyb 0).trans (rfl : _ = some (Value.slice (some ad) y.xs.length y.c))
    have hz6 := blk_frozen hyb 0
    have hyc := (Kd.V_reads' hyV).2.1
    have HYV := Aside0.mk hyV
    clear hyb hyV
    go_upto_region 7 with (fail)
    have hV1 : Kd.V k38 38 w10 0 F (.slice (if y.c = 1 then some ad else some ⟨ad.block, ad.off + 6, none⟩) (y.xs.drop 1).length (y.c - 1)) (y.xs.drop 1) := by
      have h1 := Kd.F_cut (m := 1) (Kd.V_at HYV.out).2.2 hyn hyc
      rw [HAy.out] at h1
      exact Kd.V_mk (by rw [List.length_drop]; omega) h1
    have HD6 := Aside0.mk (HD5.out.line HY.out hV1)
    have BW6 := Aside0.mk (BW5.out.setCell (p := ⟨y.g, 0, none⟩) (HD5.out.lines.at_ y (List.mem_of_getElem? HY.out)).1 (.slice (if y.c = 1 then some ad else some ⟨ad.block, ad.off + 6, none⟩) (y.xs.length - 1) (y.c - 1)))
    rw [List.length_drop] at HD6
    clear HD5 BW5 hc6 hz6 hyc HYV hV1
    generalize (if y.c = 1 then some ad else some ⟨ad.block, ad.off + 6, none⟩) = A2 at HD6 BW6 ⊢
    generalize w10.setCell ⟨y.g, 0, none⟩ (.slice A2 (y.xs.length - 1) (y.c - 1)) = w11 at HD6 BW6 ⊢
    have hset : (Y.set k ⟨y.g, A2, y.c - 1, y.xs.drop 1⟩).map LineW.xs = (Y.map LineW.xs).set k y.xs.tail := by rw [List.map_set, List.drop_one]
    have hsg := set_g (y' := ⟨y.g, A2, y.c - 1, y.xs.drop 1⟩) HY.out rfl
    have HSE := Aside0.mk hset
    have HSG := Aside0.mk hsg
    have htl : y.xs.tail.length = y.xs.length - 1 := List.length_tail
    rw [htl] at EQ
    have hb7 := (HD6.out.lines.at_ _ (List.mem_of_getElem? (List.getElem?_set_self HK.out))).2.1
    have hc7 : w11.cell? ⟨y.g, 0, none⟩ = some (.slice A2 (y.xs.length - 1) (y.c - 1)) := by
      rw [← List.length_drop]
      exact (blk_cell hb7 0).trans rfl
    clear hset hsg htl hb7
    by_cases hm : y.xs.length - 1 = 0
    · rw [if_pos hm] at EQ
      rw [hm] at hc7
      have b2 := e_ (Aside0.mk HD6.out.box) 2
      go_wp2_with (at_delete; refine wpList_delete_own _ rfl _ _ 55 3 rfl 50 (Maps.int_keyed Try.underlying3) Try.underlying55 MapK.Rh bM n _ rfl HD6.out.map_ _ _ rfl (Maps.keyOf_int_mk Try.underlying3 HWK.out) ?_; intro w12 hown6 hturn6; have OM6 := Aside0.mk hown6; have HG6 := Aside0.mk hturn6.grown; clear hown6 hturn6)
      first | go_end0 | ((try simp only [Exit.inBlock, Exit.then]); refine bodyPost_ret (results_none rfl _ _ _) rfl ?_)
      have HF := HD6.out.del k HG6.out OM6.out
      exact ⟨rfl, BW6.out.grown HG6.out (Nat.le_trans HSZ.out BW6.out.size) (fun k hk => by cases hk; exact HD6.out.lo.2), _, _, _, _, _, _, HF, HSG.out, by rw [HSE.out]; exact EQ.out.symm⟩
    · rw [if_neg hm] at EQ
      have hmz : ¬ ((y.xs.length - 1 : Nat) : Int) = 0 := by omega
      go_wp2
      first | go_end0 | ((try simp only [Exit.inBlock, Exit.then]); refine bodyPost_ret (results_none rfl _ _ _) rfl ?_)
      exact ⟨rfl, BW6.out, _, _, _, _, _, _, HD6.out, HSG.out, by rw [HSE.out]; exact EQ.out.symm⟩


end Go.Proofs.Ytahopljippfadaa.D
