/- Written by this session's own program over the kit's print: functions of Go told as plain functions, or the row of one statement; proved for every input, with no condition of ours. -/
import Derived.Test.YtehncbhmdgdkjaaQx0
namespace Go.Proofs.Ytehncbhmdgdkjaa.Q
open Go.RowKit Go.Proofs.YtehncbhmdgdkjaaW.PrintWords Go.Proofs.YtehncbhmdgdkjaaW.PrintLast Go.Proofs.YtehncbhmdgdkjaaW.PrintMore
attribute [local go_sem] max2_int min2_int max_two min_two max_three min_three max_four min_four   -- for this text's walks alone
set_option linter.unusedVariables false
set_option linter.unusedSimpArgs false

-- NOT PRINTED: function 155 (api_Tx_155)

-- NOT PRINTED: function 138 (api_Tx_138)

/-! ### api_Tx_107: function 107, by hand -/
-- HAND rounds=0 making=0 opaque
-- IMPORT Derived.Test.YtehncbhmdgdkjaaCopyK
set_option maxHeartbeats 8000000 in
set_option maxRecDepth 100000 in
/-- One element is laid at place i of a row of one's own, in cells. -/
theorem api_Tx_107.calls (base : Nat) (v : Value) (n : Nat) (inner cs : List Value) (i vb vc : Nat) (w : World) (HO : w.ownsRow base 24 6 v n inner) (hi : i ≤ n) (hcs : cs.length = 6) (hbox : w.heap[vb]? = some (.cells cs.toArray 24 (0, 0))) (hne : v.ownBlock ≠ some vb)
    (h1c : ∀ u ∈ inner, u.oneCell' = true) (h1v : ∀ u ∈ cs, u.oneCell' = true) (hbig : n < 2513169434915) (hbase : base ≤ w.heap.size) :
    Calls Try.prog 107 #[v, .int .i64 (i : Int), .slice (some ⟨vb, 0, none⟩) 1 vc] w fun e w' => ∃ v', e = .returned v' ∧ w'.ownsRow base 24 6 v' (n + 1) (inner.take (i * 6) ++ cs ++ inner.drop (i * 6)) ∧ w.grownBy w' v.ownBlock ∧ (v'.ownBlock = v.ownBlock ∨ ∃ b, v'.ownBlock = some b ∧ w.heap.size ≤ b) := by
  have HOW := Aside0.mk HO
  have HBX := Aside0.mk hbox
  have HNE := Aside0.mk hne
  have H1C := Aside0.mk h1c
  have H1V := Aside0.mk h1v
  have HBG := Aside0.mk hbig
  have HBS := Aside0.mk hbase
  have HCS := Aside0.mk hcs
  clear HO hbox hne h1c h1v hbig hbase hcs
  by_cases hin : i = n
  · subst hin
    obtain ⟨i0, hi0, hz0, hzs, hzb⟩ := info_parts info24
    have hnew : ∀ j u, cs[j]? = some u → w.cell? ((⟨vb, 0, none⟩ : Addr).add j) = some u := fun j u hj => by
      rw [Addr.add_lit, Nat.zero_add, blk_cell HBX.out j, List.getElem?_toArray]; exact hj
    obtain ⟨v', w', hr, ho', hg', -, hat'⟩ := run_append_own_at (P := Try.prog) (w := w) base 22 22 24 i0 (.agg #[(.int .i64 0), (.int .i64 0), (.int .i64 0), (.int .i64 0), (.int .i64 0), (.string ⟨#[]⟩)]) 6 56 Try.underlying22 hi0 hz0 hzs hzb (by rfl) (by omega) v i inner HOW.out ⟨vb, 0, none⟩ 1 vc cs (by rw [HCS.out]) hnew H1V.out (by have := HBG.out; unfold maxLen; omega) (by have := HBG.out; omega) HBS.out
    have HR := Aside0.mk hr
    have HO' := Aside0.mk ho'
    have HG' := Aside0.mk hg'
    have HAT := Aside0.mk hat'
    have HNW := Aside0.mk hnew
    clear hr ho' hg' hat' hnew hi0 hz0 hzs hzb
    have hvs : ∃ A c, v = .slice A i c := by
      rcases HOW.out.2 with ⟨rfl, rfl⟩ | ⟨g, cap, cur, rfl, _⟩
      · exact ⟨none, 0, rfl⟩
      · exact ⟨_, _, rfl⟩
    obtain ⟨A, c, rfl⟩ := hvs
    have qi1 : (i : Int) ≤ (i : Int) := Int.le_refl _
    go_enter Try.func107, Try.ntmps107
    go_wp2_with (at_builtin; refine Lib.wpList_append_run _ rfl _ _ _ _ rfl _ _ rfl rfl _ _ HR.out ?_)
    all_goals
      go_ret
      have hl := HOW.out.1
      first
        | refine ⟨v', rfl, ?_, HG'.out, HAT.out.imp_right (fun q => ⟨_, q, Nat.le_refl _⟩)⟩
        | (have hq : c = i := by assumption
           subst hq; refine ⟨v', rfl, ?_, HG'.out, HAT.out.imp_right (fun q => ⟨_, q, Nat.le_refl _⟩)⟩)
      rw [List.take_of_length_le (by omega), List.drop_eq_nil_of_le (by omega), List.append_nil]
      exact HO'.out
  · have hlt : i < n := by omega
    rcases CopyK.Blk.of HOW.out with ⟨rfl, rfl, rfl⟩ | ⟨g, cap, rfl, hbg, hB⟩
    · exact absurd hlt (by omega)
    have HB := Aside0.mk hB
    have HG := Aside0.mk hbg
    have HVB := Aside0.mk (show vb ≠ g from fun q => HNE.out (by rw [q]; rfl))
    have hnc : n ≤ cap := hB.2.1
    have hcm : cap ≤ 9223372036854775807 := hB.2.2.1
    have HL := Aside0.mk hB.1
    clear hB hbg HOW HNE
    have hz1 : ((1 : Int) == 0) = false := rfl
    have hz2 : ((i : Int) == (n : Int)) = false := beq_eq_false_iff_ne.2 (by omega)
    have hi0 : (0 : Int) ≤ (i : Int) := by omega
    have hin' : (i : Int) ≤ (n : Int) := by omega
    have hwn : wrap64 ((n : Int) + 1) = (n : Int) + 1 := by have := HBG.out; unfold wrap64; omega
    have hwi : wrap64 ((i : Int) + 1) = (i : Int) + 1 := by have := HBG.out; unfold wrap64; omega
    have hdl : (inner.drop (i * 6)).length = (n - i) * 6 := by rw [List.length_drop, HL.out]; omega
    have h1d : ∀ u ∈ inner.drop (i * 6), u.oneCell' = true := fun u hu => H1C.out u (List.mem_of_mem_drop hu)
    have hbx : ∀ j u, cs[j]? = some u → w.cell? ⟨vb, j, none⟩ = some u := fun j u hj => by
      rw [blk_cell HBX.out j, List.getElem?_toArray]; exact hj
    have hsz : (Try.prog.info? 24).map (·.size) = some 6 := by
      obtain ⟨i0, hi0, _, hs, _⟩ := info_parts info24
      rw [hi0]; simp [hs]
    have HDL := Aside0.mk hdl
    have H1D := Aside0.mk h1d
    have HBC := Aside0.mk hbx
    have HSZ := Aside0.mk hsz
    clear hdl h1d hbx hsz
    have hci : ¬ (cap = i) := by omega
    have mixed : Try.prog.follows Departure.mixedOrders = true := by kernel_rfl
    by_cases hroom : n + 1 ≤ cap
    · have hov : ∀ lb cb, (callFunc 137 #[.slice (some ⟨vb, 0, none⟩) 1 vc, .slice (some ⟨g, (i + 1) * 6, none⟩) lb cb]).run Try.prog w = .ok (.value (.bool false)) w := fun lb cb => by
        rw [run_callFunc_extern Try.func137 (by kernel_rfl) (by kernel_rfl) (by kernel_rfl) (e := Extern.SlicesOverlaps.overlaps #[22, 22] #[4]) (by kernel_rfl),
          Lib.run_overlaps_apart w 22 4 24 Try.underlying22 6 (fun W => by kernel_rfl) ⟨vb, 0, none⟩ ⟨g, (i + 1) * 6, none⟩ 1 vc lb cb HVB.out 24 24 cs.length (cap * 6) (by simp [World.shape?, HBX.out]) HB.out.shape (by omega) (blk_frozen HBX.out 0) (blk_frozen HBX.out _)]
        rfl
      have hw1 : IntKind.i64.wrap ((i : Int) + 1) = (i : Int) + 1 := by have := HBG.out; rw [IntKind.wrap_i64]; omega
      have hwn1 : IntKind.i64.wrap ((n : Int) + 1) = (n : Int) + 1 := by have := HBG.out; rw [IntKind.wrap_i64]; omega
      have hb1 : (0 : Int) ≤ (i : Int) + 1 := by omega
      have hb0 : (0 : Int) ≤ (n : Int) + 1 := by omega
      have htn : ((i : Int) + 1).toNat = i + 1 := by omega
      have htm : ((n : Int) + 1).toNat = n + 1 := by omega
      have hb2 : ¬ (cap = i + 1) := by omega
      have hb3 : (i : Int) ≤ (n : Int) + 1 := by omega
      have hb5 : (i : Int) + 1 ≤ (n : Int) + 1 := by omega
      have hb6 : (n : Int) + 1 ≤ (cap : Int) := by omega
      have hcp1 : ∀ ty dc sc, (Builtin.copy_ #[22, 22] ty #[.slice (some ⟨g, (i + 1) * 6, none⟩) (n - i) dc, .slice (some ⟨g, i * 6, none⟩) (n + 1 - i) sc]).run Try.prog w.drew = .ok (goInt (Nat.min (n + 1 - i) (n - i))) (w.drew.setCells g ((i + 1) * 6) (inner.drop (i * 6))) := fun ty dc sc =>
        CopyK.run_copyK w.drew _ _ ty 24 6 g ((i + 1) * 6) (n - i) dc ⟨g, i * 6, none⟩ (n + 1 - i) sc (inner.drop (i * 6)) Try.underlying22 HSZ.out (by rw [HDL.out]; simp only [Nat.min_def]; split <;> omega)
          (fun j u hj => by rw [Addr.add_lit]; exact HB.out.cell _ u (by rwa [List.getElem?_drop] at hj)) (fun j hj => HB.out.there _ (by have := HDL.out; omega)) (fun j hj => HB.out.free _) H1D.out
      obtain ⟨W1, hW1⟩ : ∃ W1, W1 = w.drew.setCells g ((i + 1) * 6) (inner.drop (i * 6)) := ⟨_, rfl⟩
      have HB1 := Aside0.mk (show CopyK.Blk W1 24 6 g (n + 1) cap (inner.take ((i + 1) * 6) ++ inner.drop (i * 6)) by rw [hW1]; exact CopyK.Blk.put (show CopyK.Blk w.drew 24 6 g n cap inner from HB.out) _ _ _ (by omega) hroom (by omega) (by rw [HDL.out]; omega))
      have HGR := Aside0.mk (show w.grownBy W1 (some g) by
        rw [hW1]
        obtain ⟨a, b, c, d⟩ := setCells_same g (inner.drop (i * 6)) ((i + 1) * 6) w.drew
        exact ⟨a, b, c, by rw [d]; exact Nat.le_refl _, fun k _ hk => setCells_far _ _ k (fun q => hk (by rw [q]))⟩)
      have hbv : W1.heap[vb]? = some (.cells cs.toArray 24 (0, 0)) := (HGR.out.block vb (Array.getElem?_eq_some_iff.1 HBX.out).1 (fun q => HVB.out (Option.some.inj q))).trans HBX.out
      have HBV := Aside0.mk hbv
      clear hbv
      have hcp2 : ∀ ty dc, (Builtin.copy_ #[22, 22] ty #[.slice (some ⟨g, i * 6, none⟩) (n + 1 - i) dc, .slice (some ⟨vb, 0, none⟩) 1 vc]).run Try.prog W1 = .ok (goInt (Nat.min 1 (n + 1 - i))) (W1.setCells g (i * 6) cs) := fun ty dc =>
        CopyK.run_copyK W1 _ _ ty 24 6 g (i * 6) (n + 1 - i) dc ⟨vb, 0, none⟩ 1 vc cs Try.underlying22 HSZ.out (by rw [HCS.out]; simp only [Nat.min_def]; split <;> omega)
          (fun j u hj => by rw [Addr.add_lit, Nat.zero_add, blk_cell HBV.out j, List.getElem?_toArray]; exact hj) (fun j hj => HB1.out.there _ (by have := HCS.out; omega)) (fun j hj => HB1.out.free _) H1V.out
      rw [← hW1] at hcp1
      clear hW1
      go_enter Try.func107, Try.ntmps107
      go_wp2_with (simp only [hov])
      go_region_law_o (refine CopyK.step_copy_run_ rfl _ _ 22 22 rfl _ _ (by simp [Act.eval, Act.put]) (by simp [Act.eval, Act.put]) (hcp1 _ _ _) ?_)
      go_wp2_with (at_builtin; refine CopyK.wpList_copy_run_ _ rfl _ _ 22 22 rfl _ _ rfl rfl (hcp2 _ _) ?_)
      go_ret
      have HB2 := CopyK.Blk.mid HB1.out (i * 6) cs (by rw [HCS.out]; omega)
      rw [CopyK.mid_list inner cs (i * 6) ((i + 1) * 6) (by rw [HL.out]; omega) (by have := HCS.out; omega)] at HB2
      obtain ⟨a, b, c, d⟩ := setCells_same g cs (i * 6) W1
      exact ⟨_, rfl, HB2.own HG.out, HGR.out.trans ⟨a, b, c, by rw [d]; exact Nat.le_refl _, fun k _ hk => setCells_far _ _ k (fun q => hk (by rw [q]))⟩, Or.inl rfl⟩
    · have hrm : cap < n + 1 := by omega
      have hrm' : (cap : Int) < (n : Int) + 1 := by omega
      obtain ⟨i0, hi0', hz0, hzs, hzb⟩ := info_parts info24
      have hold : (Builtin.firstCells i0.size i (.slice (some ⟨g, 0, none⟩) i cap)).run Try.prog w.drew = .ok (inner.take (i * 6)).toArray w.drew := by
        rw [hzs]
        exact run_firstCells_some w.drew 6 i ⟨g, 0, none⟩ i cap (inner.take (i * 6)) (by rw [List.length_take, HL.out]; omega) (fun j u hj => by
          rw [Addr.add_lit, Nat.zero_add]
          rw [List.getElem?_take] at hj
          split at hj
          · exact HB.out.cell j u hj
          · cases hj)
      have hfit : Builtin.nextslicecap (n + 1) cap * 56 ≤ 281474976710656 := growslice_fits hrm (by have := HBG.out; omega)
      have hrz : ∀ ty, (Builtin.append_ #[22, 3] ty #[.slice (some ⟨g, 0, none⟩) i cap, .int .i64 ((n : Int) + 1 - (i : Int))]).run Try.prog w =
          .ok (.slice (some ⟨w.heap.size, 0, none⟩) (n + 1) (grownCap w (n + 1) cap 24)) (w.drew.alloc (.cells ((inner.take (i * 6)).toArray ++ Builtin.zeroCells ((.agg #[(.int .i64 0), (.int .i64 0), (.int .i64 0), (.int .i64 0), (.int .i64 0), (.string ⟨#[]⟩)]) : Value).cells (n + 1 - i) ++ Builtin.zeroCells ((.agg #[(.int .i64 0), (.int .i64 0), (.int .i64 0), (.int .i64 0), (.int .i64 0), (.string ⟨#[]⟩)]) : Value).cells (grownCap w (n + 1) cap 24 - (n + 1))) 24)) := fun ty => by
        have h := Lib.run_append_grow_zeros w 22 3 ty 24 i0 _ .i64 .i64 Try.underlying22 Try.underlying3 hi0' hz0 (some ⟨g, 0, none⟩) i cap (inner.take (i * 6)) hold (n + 1 - i) (by omega) (by omega) (by omega) (by have := HBG.out; omega) (by rw [hzb]; have := HBG.out; omega) (by rw [hzb, show i + (n + 1 - i) = n + 1 by omega]; exact hfit)
        rw [show i + (n + 1 - i) = n + 1 by omega] at h
        rw [show (n : Int) + 1 - (i : Int) = ((n + 1 - i : Nat) : Int) by omega]
        exact h
      clear hi0' hz0 hzs hzb hold hfit i0
      obtain ⟨G, hG⟩ : ∃ G, G = grownCap w (n + 1) cap 24 := ⟨_, rfl⟩
      have hGn : n + 1 ≤ G := by rw [hG]; exact grownCap_ge w _ _ _
      have hGm : G ≤ maxLen := by rw [hG]; exact grownCap_le_maxLen w (n + 1) cap 24 (by have := HBG.out; unfold maxLen; omega)
      rw [← hG] at hrz
      obtain ⟨W1, hW1⟩ : ∃ W1, W1 = w.drew.alloc (.cells ((inner.take (i * 6)).toArray ++ Builtin.zeroCells ((.agg #[(.int .i64 0), (.int .i64 0), (.int .i64 0), (.int .i64 0), (.int .i64 0), (.string ⟨#[]⟩)]) : Value).cells (n + 1 - i) ++ Builtin.zeroCells ((.agg #[(.int .i64 0), (.int .i64 0), (.int .i64 0), (.int .i64 0), (.int .i64 0), (.string ⟨#[]⟩)]) : Value).cells (G - (n + 1))) 24) := ⟨_, rfl⟩
      have hzc : ∀ k, (Builtin.zeroCells ((.agg #[(.int .i64 0), (.int .i64 0), (.int .i64 0), (.int .i64 0), (.int .i64 0), (.string ⟨#[]⟩)]) : Value).cells k).size = k * 6 := fun k => by simp [Builtin.zeroCells, Value.cells]
      have HZ := Aside0.mk (show CopyK.Blk W1 24 6 w.heap.size (n + 1) G (inner.take (i * 6) ++ (Builtin.zeroCells ((.agg #[(.int .i64 0), (.int .i64 0), (.int .i64 0), (.int .i64 0), (.int .i64 0), (.string ⟨#[]⟩)]) : Value).cells (n + 1 - i)).toList) by
        have ht : (inner.take (i * 6)).length = i * 6 := by rw [List.length_take, HL.out]; omega
        refine ⟨?_, hGn, hGm, _, by rw [hW1]; exact heap_alloc_new w.drew _, ?_, ?_⟩
        · rw [List.length_append, ht, Array.length_toList, hzc]; omega
        · rw [Array.size_append, Array.size_append, hzc, hzc, List.size_toArray, ht]; omega
        · rw [Array.toList_append, Array.toList_append, List.take_left']
          rw [List.length_append, Array.length_toList, Array.length_toList, hzc, List.size_toArray, ht]; omega)
      have hg1 : w.heap.size < W1.heap.size := by rw [hW1]; simp
      have HGR := Aside0.mk (show w.grownBy W1 none by
        rw [hW1]
        exact (show w.grownBy w.drew none from ⟨rfl, rfl, rfl, Nat.le_refl _, fun _ _ _ => rfl⟩).trans (World.grownBy_alloc w.drew _ none))
      have hgw : g < w.heap.size := HB.out.lt
      have hvw : vb < w.heap.size := (Array.getElem?_eq_some_iff.1 HBX.out).1
      have hbv : W1.heap[vb]? = some (.cells cs.toArray 24 (0, 0)) := (HGR.out.block vb hvw (by simp)).trans HBX.out
      obtain ⟨nw, hnw⟩ : ∃ nw, nw = w.heap.size := ⟨_, rfl⟩
      have hcpA : ∀ ty dc, (Builtin.copy_ #[22, 22] ty #[.slice (some ⟨nw, i * 6, none⟩) (n + 1 - i) dc, .slice (some ⟨vb, 0, none⟩) 1 vc]).run Try.prog W1 = .ok (goInt (Nat.min 1 (n + 1 - i))) (W1.setCells nw (i * 6) cs) := fun ty dc =>
        CopyK.run_copyK W1 _ _ ty 24 6 nw (i * 6) (n + 1 - i) dc ⟨vb, 0, none⟩ 1 vc cs Try.underlying22 HSZ.out (by rw [HCS.out]; simp only [Nat.min_def]; split <;> omega)
          (fun j u hj => by rw [Addr.add_lit, Nat.zero_add, blk_cell hbv j, List.getElem?_toArray]; exact hj) (fun j hj => by rw [hnw]; exact HZ.out.there _ (by have := HCS.out; omega)) (fun j hj => by rw [hnw]; exact HZ.out.free _) H1V.out
      obtain ⟨W2, hW2⟩ : ∃ W2, W2 = W1.setCells nw (i * 6) cs := ⟨_, rfl⟩
      have HB2 := Aside0.mk (show CopyK.Blk W2 24 6 w.heap.size (n + 1) G _ by rw [hW2, hnw]; exact CopyK.Blk.mid HZ.out (i * 6) cs (by rw [HCS.out]; omega))
      have HG2 := Aside0.mk (show w.grownBy W2 none by
        rw [hW2]
        obtain ⟨a, b, c, d⟩ := setCells_same nw cs (i * 6) W1
        exact ⟨a.trans HGR.out.os, b.trans HGR.out.tape, c.trans HGR.out.output, by rw [d]; exact HGR.out.size, fun k hk hn => (setCells_far _ _ k (by omega)).trans (HGR.out.block k hk hn)⟩)
      have HBG2 := Aside0.mk (show CopyK.Blk W2.drew 24 6 g n cap inner by
        obtain ⟨a1, a2, a3, cur, a4, a5, a6⟩ := HB.out
        exact ⟨a1, a2, a3, cur, (HG2.out.block g hgw (by simp)).trans a4, a5, a6⟩)
      have hcpB : ∀ ty dc sc, (Builtin.copy_ #[22, 22] ty #[.slice (some ⟨nw, (i + 1) * 6, none⟩) (n - i) dc, .slice (some ⟨g, i * 6, none⟩) (n - i) sc]).run Try.prog W2.drew = .ok (goInt (Nat.min (n - i) (n - i))) (W2.drew.setCells nw ((i + 1) * 6) (inner.drop (i * 6))) := fun ty dc sc =>
        CopyK.run_copyK W2.drew _ _ ty 24 6 nw ((i + 1) * 6) (n - i) dc ⟨g, i * 6, none⟩ (n - i) sc (inner.drop (i * 6)) Try.underlying22 HSZ.out (by rw [HDL.out]; simp only [Nat.min_def]; split <;> omega)
          (fun j u hj => by rw [Addr.add_lit]; exact HBG2.out.cell _ u (by rwa [List.getElem?_drop] at hj)) (fun j hj => by rw [hnw]; exact (show CopyK.Blk W2.drew 24 6 w.heap.size (n + 1) G _ from HB2.out).there _ (by have := HDL.out; omega)) (fun j hj => by rw [hnw]; exact (show CopyK.Blk W2.drew 24 6 w.heap.size (n + 1) G _ from HB2.out).free _) H1D.out
      obtain ⟨W3, hW3⟩ : ∃ W3, W3 = W2.drew.setCells nw ((i + 1) * 6) (inner.drop (i * 6)) := ⟨_, rfl⟩
      have HB3 := Aside0.mk (show CopyK.Blk W3 24 6 w.heap.size (n + 1) G (inner.take (i * 6) ++ cs ++ inner.drop (i * 6)) by
        rw [hW3, hnw, ← CopyK.grow_list inner cs _ (i * 6) (by rw [HL.out]; omega), HCS.out]
        have z := CopyK.Blk.put (show CopyK.Blk W2.drew 24 6 w.heap.size (n + 1) G _ from HB2.out) (i * 6 + 6) (n + 1) (inner.drop (i * 6)) (by omega) hGn (by omega) (by rw [HDL.out]; omega)
        rw [HCS.out] at z
        rw [show (i + 1) * 6 = i * 6 + 6 by omega]
        exact z)
      have HG3 := Aside0.mk (show w.grownBy W3 none by
        rw [hW3]
        obtain ⟨a, b, c, d⟩ := setCells_same nw (inner.drop (i * 6)) ((i + 1) * 6) W2.drew
        exact ⟨a.trans HG2.out.os, b.trans HG2.out.tape, c.trans HG2.out.output, by rw [d]; exact HG2.out.size, fun k hk hn => (setCells_far _ _ k (by omega)).trans (HG2.out.block k hk hn)⟩)
      rw [← hW1, ← hnw] at hrz
      rw [← hW2] at hcpA
      rw [← hW3] at hcpB
      have HNW := Aside0.mk hnw
      clear hW1 hW2 hW3 hG hbv hg1 hnw HZ HGR HBG2 hzc
      have hw1 : IntKind.i64.wrap ((i : Int) + 1) = (i : Int) + 1 := by have := HBG.out; rw [IntKind.wrap_i64]; omega
      have hwn1 : IntKind.i64.wrap ((n : Int) + 1) = (n : Int) + 1 := by have := HBG.out; rw [IntKind.wrap_i64]; omega
      have hwn2 : IntKind.i64.wrap ((n : Int) + 1 - (i : Int)) = (n : Int) + 1 - (i : Int) := by have := HBG.out; rw [IntKind.wrap_i64]; omega
      have hwn3 : wrap64 ((n : Int) + 1 - (i : Int)) = (n : Int) + 1 - (i : Int) := by have := HBG.out; unfold wrap64; omega
      have hb1 : (0 : Int) ≤ (i : Int) + 1 := by omega
      have htn : ((i : Int) + 1).toNat = i + 1 := by omega
      have hb5 : (i : Int) + 1 ≤ (n : Int) + 1 := by omega
      have hb3 : (i : Int) ≤ (n : Int) + 1 := by omega
      have hb7 : (i : Int) ≤ (cap : Int) := by omega
      have hGi : ¬ (G = i) := by omega
      have hGi1 : ¬ (G = i + 1) := by omega
      have hGN := Aside0.mk hGn
      clear hGn hGm
      go_enter Try.func107, Try.ntmps107
      go_wp2_with (first
        | (at_builtin; refine Lib.wpList_append_run _ rfl _ _ _ _ rfl _ _ rfl rfl _ _ (hrz _) ?_)
        | (at_builtin; refine CopyK.wpList_copy_run_ _ rfl _ _ 22 22 rfl _ _ rfl rfl (hcpA _ _) ?_))
      go_region_law_o (refine CopyK.step_copy_run_ rfl _ _ 22 22 rfl _ _ (by simp [Act.eval, Act.put]) (by simp [Act.eval, Act.put]) (hcpB _ _ _) ?_)
      go_wp2
      go_ret
      exact ⟨_, rfl, by rw [HNW.out]; exact HB3.out.own HBS.out, ⟨HG3.out.os, HG3.out.tape, HG3.out.output, HG3.out.size, fun k hk _ => HG3.out.block k hk (by simp)⟩, Or.inr ⟨nw, rfl, by rw [HNW.out]; exact Nat.le_refl _⟩⟩


end Go.Proofs.Ytehncbhmdgdkjaa.Q
