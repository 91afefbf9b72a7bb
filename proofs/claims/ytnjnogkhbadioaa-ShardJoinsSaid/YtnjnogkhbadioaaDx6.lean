/- Written by this session's own program over the kit's print: functions of Go told as plain functions, or the row of one statement; proved for every input, with no condition of ours. -/
import Derived.Test.YtnjnogkhbadioaaDx0
import Derived.Test.YtnjnogkhbadioaaDx5
import Derived.Test.YtnjnogkhbadioaaDx8
namespace Go.Proofs.Ytnjnogkhbadioaa.D
open Go.RowKit Go.Proofs.YtnjnogkhbadioaaW.PrintWords Go.Proofs.YtnjnogkhbadioaaW.PrintLast Go.Proofs.YtnjnogkhbadioaaW.PrintMore
attribute [local go_sem] max2_int min2_int max_two min_two max_three min_three max_four min_four   -- for this text's walks alone
set_option linter.unusedVariables false
set_option linter.unusedSimpArgs false

/-! ### api_Account_34: function 34, by hand -/
-- HAND rounds=0 making=0 opaque
-- IMPORT Derived.Test.YtnjnogkhbadioaaCopyK
/-- The kinds of an element's cells. -/
def api_Account_34.Shape (r : List Value) : Prop := ∃ (a0 a1 : Int) (A : Option Addr) (m c : Nat), r = [.int .i64 a0, .int .i64 a1, .slice A m c]
theorem api_Account_34.Shape.len {r : List Value} (h : api_Account_34.Shape r) : r.length = 3 := by
  obtain ⟨_, _, _, _, _, rfl⟩ := h
  rfl
set_option maxHeartbeats 8000000 in
set_option maxRecDepth 100000 in
/-- A row of one's own without those of whom a closure says yes. -/
theorem api_Account_34.calls (base n : Nat) (v : Value) (rows : List (List Value)) (p : List Value → Bool) (gf : Nat) (lb : Array Value) (eg : ∀ args w, (callFunc gf args).run Try.prog w = .ok (.enter gf args) w) (w : World) (HO : w.ownsRow base 46 3 v n rows.flatten) (hn : rows.length = n) (hsh : ∀ r ∈ rows, api_Account_34.Shape r) (hbig : n < 2513169434916)
    (hp : ∀ (W : World) (x : List Value), x ∈ rows → w.grownBy W v.ownBlock → Calls Try.prog gf (#[.agg x.toArray] ++ lb) W fun e w' => e = .returned (.bool (p x)) ∧ W.grownBy w' none) :
    Calls Try.prog 34 #[v, .func (.func gf) #[] lb] w fun e w' => ∃ v', e = .returned v' ∧ w'.ownsRow base 46 3 v' (rows.filter fun x => !p x).length (rows.filter fun x => !p x).flatten ∧ w.grownBy w' v.ownBlock ∧ v'.ownBlock = v.ownBlock := by
  have hr : ∀ r ∈ rows, r.length = 3 := fun r h => (hsh r h).len
  have hIF := api_Account_38.calls base n v rows p gf lb eg w HO hn hr hbig (fun W x hx hg => hp W x hx (CopyK.grown_any hg _))
  rcases CopyK.idxC_spec p rows 0 with ⟨e1, hall⟩ | ⟨k0, hk0, e1, ht, hall⟩
  · rw [e1] at hIF
    have hf : (rows.filter fun x => !p x) = rows := List.filter_eq_self.2 (fun x hx => by simp [hall x hx])
    rw [hf, hn]
    have HOW := Aside0.mk HO
    clear HO hp hall e1 hf hr hsh
    have hvs : ∃ A c, v = .slice A n c := by
      rcases HOW.out.2 with ⟨rfl, rfl⟩ | ⟨g, cap, cur, rfl, _⟩
      · exact ⟨none, 0, rfl⟩
      · exact ⟨_, _, rfl⟩
    obtain ⟨A, c, rfl⟩ := hvs
    go_enter Try.func34, Try.ntmps34
    go_wp2_with (go_at_call 38; refine hIF.mono ?_; rintro e w' ⟨rfl, hb⟩)
    go_ret
    refine ⟨_, rfl, ?_, CopyK.grown_any hb _, rfl⟩
    refine HOW.out.kept hb ?_
    cases A with
    | none => exact Or.inl rfl
    | some a => exact Or.inr (by simp [Value.ownBlock])
  · rw [e1, Int.zero_add] at hIF
    rcases CopyK.Blk.of HO with ⟨rfl, rfl, hz⟩ | ⟨g, cap, rfl, hbg, hB⟩
    · exact absurd hk0 (by omega)
    have hk0' : k0 < n := by omega
    have HB := Aside0.mk hB
    have HP := Aside0.mk hp
    have HR := Aside0.mk hr
    have HN := Aside0.mk hn
    have HBG := Aside0.mk hbig
    have HG := Aside0.mk hbg
    have H1 := Aside0.mk hsh
    have HS := Aside0.mk (CopyK.Del.start hn hr hk0 ht hall)
    have hcm := hB.2.2.1
    have hnc := hB.2.1
    have hm1 : ((k0 : Int) == -1) = false := beq_eq_false_iff_ne.2 (by omega)
    have hw0 : wrap64 ((k0 : Int) + 1) = ((k0 + 1 : Nat) : Int) := by unfold wrap64; omega
    clear HO hB hp hr hn hbig hbg hsh ht hall e1
    go_enter Try.func34, Try.ntmps34
    go_wp2_with (go_at_call 38; refine hIF.mono ?_; rintro e w1 ⟨rfl, hb1⟩)
    rw [hw0]
    clear hIF hw0
    have HB1 := Aside0.mk hb1
    clear hb1
    go_loopg [5, 6, 7] n (fun gg s5 s6 _ wr => ∃ (i j : Nat) (D : List (List Value)), s5 = .int .i64 i ∧ s6 = .int .i64 j ∧ j ≤ n ∧ n - j ≤ gg ∧ Aside0 (w.grownBy wr (some g)) ∧ Aside0 (CopyK.Blk wr 46 3 g n cap D.flatten) ∧ Aside0 (CopyK.Del p 3 n rows D i j))
    case atStart => exact ⟨k0, k0 + 1, rows, rfl, rfl, by omega, by omega, ⟨CopyK.grown_any HB1.out _⟩, ⟨HB.out.grown HB1.out (by simp)⟩, HS⟩
    case round =>
      clear HB1
      obtain ⟨i, j, D, rfl, rfl, hjn, hgg, BW, BB, DD⟩ := hrel
      have hij : i < j := DD.out.2.2.2.2.1
      by_cases hlt : j < n
      · have hltz : (j : Int) < (n : Int) := by omega
        have hj0 : (0 : Int) ≤ (j : Int) := by omega
        obtain ⟨x, hx, hxD, hxm, hxl⟩ := DD.out.at HN.out hlt
        have HX := Aside0.mk hx
        have HXL := Aside0.mk hxl
        have h1x := H1.out x hxm
        have hcs : ∀ q u, x[q]? = some u → wr.cell? ⟨g, j * 3 + q, none⟩ = some u := fun q u hq => BB.out.cell _ u (by rw [CopyK.flat_at 3 D DD.out.2.1 j q x hxD (by have := (List.getElem?_eq_some_iff.1 hq).1; omega)]; exact hq)
        obtain ⟨a0, a1, A_, m_, c_, rfl⟩ := h1x
        have l0 : wr.cell? ⟨g, j * 3, none⟩ = some (.int .i64 a0) := hcs 0 _ rfl
        have l1 : wr.cell? ⟨g, j * 3 + 1, none⟩ = some (.int .i64 a1) := hcs 1 _ rfl
        have l2 : wr.cell? ⟨g, j * 3 + 2, none⟩ = some (.slice A_ m_ c_) := hcs 2 _ rfl
        have HXM := Aside0.mk hxm
        clear hcs hx hxD hxl hxm
        go_upto_region 8 with (fail)
        have n0_ := heap_alloc_new wr (.cells #[.int .i64 a0, .int .i64 a1, .slice A_ m_ c_] 46)
        have n1_ := BW.out.trans (World.grownBy_alloc wr (.cells #[.int .i64 a0, .int .i64 a1, .slice A_ m_ c_] 46) (some g))
        have n2_ := BB.out.grown (World.grownBy_alloc wr (.cells #[.int .i64 a0, .int .i64 a1, .slice A_ m_ c_] 46) none) (by simp)
        have n3_ : g ≠ wr.heap.size := Nat.ne_of_lt BB.out.lt
        generalize World.alloc wr _ = w7 at n0_ n1_ n2_ ⊢
        generalize wr.heap.size = bx at n0_ n3_ ⊢
        have BK := Aside0.mk n0_
        have BW7 := Aside0.mk n1_
        have BB7 := Aside0.mk n2_
        have NX := Aside0.mk n3_
        clear n0_ n1_ n2_ n3_ l0 l1 l2
        have hcall := HP.out w7 _ HXM.out BW7.out
        have c0 : w7.cell? ⟨bx, 0, none⟩ = some (.int .i64 a0) := (blk_cell BK.out 0).trans rfl
        have c1 : w7.cell? ⟨bx, 1, none⟩ = some (.int .i64 a1) := (blk_cell BK.out 1).trans rfl
        have c2 : w7.cell? ⟨bx, 2, none⟩ = some (.slice A_ m_ c_) := (blk_cell BK.out 2).trans rfl
        have hi0 : (0 : Int) ≤ (i : Int) := by omega
        have hin : (i : Int) < (n : Int) := by omega
        have hwj := CopyK.wrap_next j (Nat.lt_trans hlt HBG.out)
        have hwi := CopyK.wrap_next i (Nat.lt_trans (Nat.lt_trans hij hlt) HBG.out)
        cases hq : p [.int .i64 a0, .int .i64 a1, .slice A_ m_ c_] with
        | true =>
          rw [hq] at hcall
          go_wp2_with (go_at_fn gf; refine hcall.mono ?_; rintro e w8 ⟨rfl, hb8⟩)
          go_roundg (n - (j + 1))
          case measure => omega
          case rel => exact ⟨i, j + 1, D, rfl, congrArg (Value.int .i64) hwj, by omega, Nat.le_refl _, ⟨BW7.out.trans (CopyK.grown_any hb8 _)⟩, ⟨BB7.out.grown hb8 (by simp)⟩, ⟨DD.out.skip HX.out hq hlt⟩⟩
        | false =>
          rw [hq] at hcall
          obtain ⟨y, hy⟩ : ∃ y, D[i]? = some y := ⟨_, List.getElem?_eq_getElem (by rw [DD.out.1]; exact Nat.lt_trans hij hlt)⟩
          have hyl := DD.out.2.1 y (List.mem_of_getElem? hy)
          have hys : ∀ q u, y[q]? = some u → w7.cell? ⟨g, i * 3 + q, none⟩ = some u := fun q u hu => BB7.out.cell _ u (by rw [CopyK.flat_at 3 D DD.out.2.1 i q y hy (by rw [← hyl]; exact (List.getElem?_eq_some_iff.1 hu).1)]; exact hu)
          obtain ⟨y0, y1, y2, rfl⟩ := api_Account_38.split y hyl
          have HYS := Aside0.mk hys
          clear hys hy hyl
          go_wp2_with (go_at_fn gf; refine hcall.mono ?_; rintro e w8 ⟨rfl, hb8⟩; have BK8 := Aside0.mk ((CopyK.grown_none hb8 bx (Array.getElem?_eq_some_iff.1 BK.out).1).trans BK.out); have BB8 := Aside0.mk (BB7.out.grown hb8 (by simp)); have BW8 := Aside0.mk (BW7.out.trans (CopyK.grown_any hb8 (some g))); have HYS8 := Aside0.mk (fun q u hu => CopyK.grown_cell hb8 (HYS.out q u hu)); clear hb8; have d0 : w8.cell? ⟨bx, 0, none⟩ = some (.int .i64 a0) := (blk_cell BK8.out 0).trans rfl; have d1 : w8.cell? ⟨bx, 1, none⟩ = some (.int .i64 a1) := (blk_cell BK8.out 1).trans rfl; have d2 : w8.cell? ⟨bx, 2, none⟩ = some (.slice A_ m_ c_) := (blk_cell BK8.out 2).trans rfl; have y0_ : w8.cell? ⟨g, i * 3, none⟩ = some y0 := HYS8.out 0 _ rfl; have z0_ := BB8.out.free (i * 3); have y1_ : w8.cell? ⟨g, i * 3 + 1, none⟩ = some y1 := HYS8.out 1 _ rfl; have z1_ := BB8.out.free (i * 3 + 1); have y2_ : w8.cell? ⟨g, i * 3 + 2, none⟩ = some y2 := HYS8.out 2 _ rfl; have z2_ := BB8.out.free (i * 3 + 2))
          clear hwj hwi hcall y0_ z0_ c0 d0 y1_ z1_ c1 d1 y2_ z2_ c2 d2
          go_roundg (n - (j + 1))
          case measure => omega
          case rel =>
            have hlen : i * 3 + 3 ≤ n * 3 := by omega
            have hwj := CopyK.wrap_next j (Nat.lt_trans hlt HBG.out)
            have hwi := CopyK.wrap_next i (Nat.lt_trans (Nat.lt_trans hij hlt) HBG.out)
            have hs := setCells_same g [.int .i64 a0, .int .i64 a1, .slice A_ m_ c_] (i * 3) w8
            have HK := DD.out.keep HX.out HXL.out hq hlt
            refine ⟨i + 1, j + 1, D.set i [.int .i64 a0, .int .i64 a1, .slice A_ m_ c_], congrArg (Value.int .i64) hwi, congrArg (Value.int .i64) hwj, hlt, Nat.le_refl _, ⟨BW8.out.trans ?_⟩, ⟨?_⟩, ⟨HK⟩⟩
            · exact (⟨hs.1, hs.2.1, hs.2.2.1, Nat.le_of_eq hs.2.2.2.symm, fun k _ hk => setCells_far _ _ k (fun q => hk (by rw [q]))⟩ : w8.grownBy (w8.setCells g (i * 3) [.int .i64 a0, .int .i64 a1, .slice A_ m_ c_]) (some g))
            · have z := CopyK.Blk.mid BB8.out (i * 3) [.int .i64 a0, .int .i64 a1, .slice A_ m_ c_] hlen
              rw [CopyK.flat_set 3 [.int .i64 a0, .int .i64 a1, .slice A_ m_ c_] rfl D DD.out.2.1 i (by rw [DD.out.1]; exact Nat.lt_trans hij hlt)]
              exact z
      · obtain rfl : j = n := by omega
        have hltz : ¬ (j : Int) < (j : Int) := by omega
        have hi0 : (0 : Int) ≤ (i : Int) := by omega
        have hin : (i : Int) ≤ (j : Int) := by omega
        have hci : ¬ (cap = i) := by omega
        obtain ⟨W9, hW9⟩ : ∃ W9, W9 = wr.setCells g (i * 3) (Builtin.zeroCells ((.agg #[(.int .i64 0), (.int .i64 0), (.slice none 0 0)]) : Value).cells (j - i)).toList := ⟨_, rfl⟩
        have hcl : ∀ ty, (Builtin.clear_ #[24] ty #[.slice (some ⟨g, i * 3, none⟩) (j - i) (cap - i)]).run Try.prog wr = .ok (.tuple #[]) W9 := fun ty => by
          rw [hW9]
          exact CopyK.run_clearK wr 24 46 ty (.agg #[(.int .i64 0), (.int .i64 0), (.slice none 0 0)]) Try.underlying24 (fun W => by kernel_rfl) (by simp [Value.cells, Value.oneCell']) (by decide) g (i * 3) (j - i) (cap - i) (by omega)
            (fun k hk => BB.out.there _ (by have : k < (j - i) * 3 := hk; have : j * 3 ≤ cap * 3 := Nat.mul_le_mul_right _ hnc; omega)) (fun k hk => BB.out.free _)
        have hdone := DD.out.done HN.out
        have hs := setCells_same g (Builtin.zeroCells ((.agg #[(.int .i64 0), (.int .i64 0), (.slice none 0 0)]) : Value).cells (j - i)).toList (i * 3) wr
        have hzl : (Builtin.zeroCells ((.agg #[(.int .i64 0), (.int .i64 0), (.slice none 0 0)]) : Value).cells (j - i)).toList.length = (j - i) * 3 := by simp [Builtin.zeroCells, Value.cells]
        have hz := CopyK.Blk.cut (CopyK.Blk.mid BB.out (i * 3) (Builtin.zeroCells ((.agg #[(.int .i64 0), (.int .i64 0), (.slice none 0 0)]) : Value).cells (j - i)).toList (by rw [hzl]; omega)) i (by omega)
        have hfl : D.flatten.length = j * 3 := by rw [CopyK.flat_length 3 D DD.out.2.1, DD.out.1]
        rw [← hW9, List.append_assoc, List.take_left' (by rw [List.length_take]; omega), hdone.2] at hz
        have HZ := Aside0.mk hz
        have HE := Aside0.mk hdone.1
        have HGW := Aside0.mk (show w.grownBy W9 (some g) from BW.out.trans (by rw [hW9]; exact ⟨hs.1, hs.2.1, hs.2.2.1, Nat.le_of_eq hs.2.2.2.symm, fun k _ hk => setCells_far _ _ k (fun q => hk (by rw [q]))⟩))
        clear hW9 hdone hs hzl hz hfl
        go_wp2
        go_ret
        exact ⟨_, rfl, by rw [← HE.out]; exact HZ.out.own HG.out, HGW.out, rfl⟩


/-! ### api_Account_35: function 35, by hand -/
-- HAND rounds=0 making=0 opaque
-- IMPORT Derived.WalkSpells
-- IMPORT Derived.Lib.SliceRun
-- IMPORT Derived.Deep.LoopGhost
theorem api_Account_35.info_ : (Try.prog.info? 46).map (fun i => (i.zero, i.size, i.bytes)) = some (some (.agg #[(.int .i64 0), (.int .i64 0), (.slice none 0 0)]), 3, 40) := by kernel_rfl
/-- The same cells, in memory of the call's own. -/
def api_Account_35.f (n : Nat) : Option Nat := some n
set_option maxHeartbeats 4000000 in
set_option maxRecDepth 100000 in
theorem api_Account_35.calls (ad : Addr) (n c : Nat) (news : List Value) (w : World) (hl : news.length = n * 3) (hn : n < 2513169434916) (hc : ∀ j u, news[j]? = some u → w.cell? (ad.add j) = some u) (h1 : ∀ u ∈ news, u.oneCell' = true) :
    Calls Try.prog 35 #[.slice (some ad) n c] w fun e w' => ∃ v', e = .returned v' ∧ w'.ownsRow w.heap.size 46 3 v' n news ∧ Below w.heap.size w w' := by
  obtain ⟨i0, hi, hz0, hz1, hz2⟩ := info_parts api_Account_35.info_
  have he : ∀ W : World, (binOp .eql 24 (.slice (some ad) n c) (.slice none 0 0)).run Try.prog W = .ok (.bool false) W := fun W => Lib.run_eql_slice_nil W 24 46 (some ad) n c 0 0 Try.underlying24
  have A := Aside0.mk hc
  clear hc
  go_enter Try.func35, Try.ntmps35
  go_wp2_with (at_builtin; refine wpList_append_own _ rfl _ _ 24 rfl w.heap.size 46 i0 _ 3 40 Try.underlying24 hi hz0 hz1 hz2 rfl (by decide) _ _ _ rfl (World.ownsRow_made w #[] 0 (Nat.le_refl _) (Nat.zero_le _) (by simp)) ad n c news rfl ?qc1 ?qc2 ?qc3 ?qc4 ?qc5 ?qc6 ?_)
  case qc1 => exact hl
  case qc2 =>
    intro j u hj
    exact Lib.cell?_alloc_some _ (A.out j u hj)
  case qc3 => exact h1
  case qc4 => rw [Nat.zero_add]; show n ≤ maxLen; unfold maxLen; omega
  case qc5 => rw [Nat.zero_add]; omega
  case qc6 => simp
  intro v' w1 hown hgrow hnil
  go_wp2
  go_ret
  refine ⟨v', rfl, by simpa using hown, ?_⟩
  exact ((Below.refl _ w).alloc (Nat.le_refl _) _).grown hgrow (by simp) (by intro k hk; simp [Value.ownBlock] at hk; omega)
set_option maxHeartbeats 1000000 in
theorem api_Account_35.nil (n c : Nat) (w : World) : Calls Try.prog 35 #[.slice none n c] w fun e w' => e = .returned (.slice none 0 0) ∧ w' = w := by
  have he : ∀ W : World, (binOp .eql 24 (.slice none n c) (.slice none 0 0)).run Try.prog W = .ok (.bool true) W := fun W => Lib.run_eql_slice_nil W 24 46 none n c 0 0 Try.underlying24
  go_enter Try.func35, Try.ntmps35
  go_wp2
  go_ret
  exact ⟨rfl, rfl⟩


/-! ### shard_empty: function 37 -/
def shard_empty.f (a0_0 : Int) (a0_1 : Int) (l0_2 : List (S32)) : Option (Bool) := if a0_1 = 0 then (some ((l0_2.length : Int) == 0)) else (some false)
set_option maxHeartbeats 8000000 in
set_option maxRecDepth 100000 in
theorem shard_empty.calls (a0_0 : Int) (a0_1 : Int) (A0_2 : Option Addr) (c0_2 : Nat) (l0_2 : List (S32)) (r : Bool) (w : World) (hr0_2 : Kd.C k32 w A0_2 l0_2.length l0_2) (hc0_2 : l0_2.length ≤ c0_2) (h : shard_empty.f a0_0 a0_1 l0_2 = some r) :
    Calls Try.prog 37 #[.agg #[.int .i64 a0_0, .int .i64 a0_1, .slice A0_2 l0_2.length c0_2]] w fun e w' => e = .returned (.bool r) ∧ Below w.heap.size w w' := by
  have hu46 := Try.underlying46
  have HR0_2 := Aside0.mk hr0_2
  have HC0_2 := Aside0.mk hc0_2
  clear hr0_2 hc0_2
  have HB := Aside0.mk (Below.refl w.heap.size w)
  have H : (if a0_1 = 0 then (some ((l0_2.length : Int) == 0)) else (some false)) = some r := h
  clear h
  by_cases c2 : a0_1 = 0
  · rw [if_pos c2] at H
    have c2b0 : (a0_1 == 0) = true := beq_iff_eq.mpr c2
    have c2b1 : (a0_1 != 0) = false := bne_eq_false_iff_eq.mpr c2
    clear c2
    obtain rfl := Option.some.inj H
    go_enter Try.func37, Try.ntmps37
    go_wp2_with (first | ((with_reducible refine gate_dst (N := 1) rfl ?_); (try (refine gate_guard (by rfl) ?_; dsimp only)); refine box_event ?hg (N := 1) ?hd (cs := #[.int .i64 a0_0, .int .i64 a0_1, .slice A0_2 l0_2.length c0_2]) (t := 46) ?hr ?_; (case hd => rfl); (case hg => rfl); (case hr => first | (go_simp; done) | (go_simp; rfl)); intro gb152 hg w3 hbox hb; have n0_ := Aside0.mk (below_step (by repeat (first | (with_reducible first | exact HB.out | apply below_alloc | apply pw_below_drewN | apply below_drew1) | exact HB.out)) hb); have n1_ := Aside0.mk (hbox); have n2_ := Aside0.mk ((by rw [hg]; exact (below_size (by repeat (first | (with_reducible first | exact HB.out | apply below_alloc | apply pw_below_drewN | apply below_drew1) | exact HB.out))) : w.heap.size ≤ gb152)); have n3_ := Aside0.mk ((by rw [hg]; exact (below_size (by repeat (first | (with_reducible first | exact HB.out | apply below_alloc | apply pw_below_drewN | apply below_drew1) | exact HB.out))) : w.heap.size ≤ gb152)); clear HB; have HB := n0_; have BK152 := n1_; have GW152 := n2_; have GE152 := n3_; clear n0_ n1_ n2_ n3_; clear hb hbox hg; have hcz4_0 : w3.cell? ⟨gb152, 0, none⟩ = some (.int .i64 a0_0) := (blk_cell BK152.out 0).trans rfl; have hcz4_1 : w3.cell? ⟨gb152, 1, none⟩ = some (.int .i64 a0_1) := (blk_cell BK152.out 1).trans rfl; have hcz4_2 : w3.cell? ⟨gb152, 2, none⟩ = some (.slice A0_2 l0_2.length c0_2) := (blk_cell BK152.out 2).trans rfl; have hfz4_0 := blk_frozen BK152.out 0; have hfz4_1 := blk_frozen BK152.out 1; have hfz4_2 := blk_frozen BK152.out 2))
    go_ret
    exact ⟨by first | rfl | (simp [errW_none, errW_some] <;> rfl) | (simp [*, errW_none, errW_some] <;> rfl), by repeat (first | (with_reducible first | exact HB.out | apply below_alloc | apply pw_below_drewN | apply below_drew1 | refine below_set ?_ GE152.out) | exact HB.out)⟩
  · rw [if_neg c2] at H
    have c2b0 : (a0_1 == 0) = false := beq_eq_false_iff_ne.mpr c2
    have c2b1 : (a0_1 != 0) = true := bne_iff_ne.mpr c2
    obtain rfl := Option.some.inj H
    go_enter Try.func37, Try.ntmps37
    go_wp2_with (first | ((with_reducible refine gate_dst (N := 1) rfl ?_); (try (refine gate_guard (by rfl) ?_; dsimp only)); refine box_event ?hg (N := 1) ?hd (cs := #[.int .i64 a0_0, .int .i64 a0_1, .slice A0_2 l0_2.length c0_2]) (t := 46) ?hr ?_; (case hd => rfl); (case hg => rfl); (case hr => first | (go_simp; done) | (go_simp; rfl)); intro gb152 hg w5 hbox hb; have n0_ := Aside0.mk (below_step (by repeat (first | (with_reducible first | exact HB.out | apply below_alloc | apply pw_below_drewN | apply below_drew1) | exact HB.out)) hb); have n1_ := Aside0.mk (hbox); have n2_ := Aside0.mk ((by rw [hg]; exact (below_size (by repeat (first | (with_reducible first | exact HB.out | apply below_alloc | apply pw_below_drewN | apply below_drew1) | exact HB.out))) : w.heap.size ≤ gb152)); have n3_ := Aside0.mk ((by rw [hg]; exact (below_size (by repeat (first | (with_reducible first | exact HB.out | apply below_alloc | apply pw_below_drewN | apply below_drew1) | exact HB.out))) : w.heap.size ≤ gb152)); clear HB; have HB := n0_; have BK152 := n1_; have GW152 := n2_; have GE152 := n3_; clear n0_ n1_ n2_ n3_; clear hb hbox hg; have hcz6_0 : w5.cell? ⟨gb152, 0, none⟩ = some (.int .i64 a0_0) := (blk_cell BK152.out 0).trans rfl; have hcz6_1 : w5.cell? ⟨gb152, 1, none⟩ = some (.int .i64 a0_1) := (blk_cell BK152.out 1).trans rfl; have hcz6_2 : w5.cell? ⟨gb152, 2, none⟩ = some (.slice A0_2 l0_2.length c0_2) := (blk_cell BK152.out 2).trans rfl; have hfz6_0 := blk_frozen BK152.out 0; have hfz6_1 := blk_frozen BK152.out 1; have hfz6_2 := blk_frozen BK152.out 2))
    go_ret
    exact ⟨by first | rfl | (simp [errW_none, errW_some] <;> rfl) | (simp [*, errW_none, errW_some] <;> rfl), by repeat (first | (with_reducible first | exact HB.out | apply below_alloc | apply pw_below_drewN | apply below_drew1 | refine below_set ?_ GE152.out) | exact HB.out)⟩

-- NOT PRINTED: function 52 (api_Account_52)

-- NOT PRINTED: function 78 (api_Account_78)

-- NOT PRINTED: function 68 (api_Account_68)

-- NOT PRINTED: function 53 (api_Account_53)

/-! ### api_Account_40: function 40, by hand -/
-- HAND rounds=0 making=0 opaque
-- IMPORT Derived.Test.YtnjnogkhbadioaaCopyK
theorem api_Account_40.info_ : (Try.prog.info? 46).map (fun i => (i.zero, i.size, i.bytes)) = some (some (.agg #[(.int .i64 0), (.int .i64 0), (.slice none 0 0)]), 3, 40) := by kernel_rfl
set_option maxHeartbeats 8000000 in
set_option maxRecDepth 100000 in
/-- One element is laid at place i of a row of one's own, in cells. -/
theorem api_Account_40.calls (base : Nat) (v : Value) (n : Nat) (inner cs : List Value) (i vb vc : Nat) (w : World) (HO : w.ownsRow base 46 3 v n inner) (hi : i ≤ n) (hcs : cs.length = 3) (hbox : w.heap[vb]? = some (.cells cs.toArray 46 (0, 0))) (hne : v.ownBlock ≠ some vb)
    (h1c : ∀ u ∈ inner, u.oneCell' = true) (h1v : ∀ u ∈ cs, u.oneCell' = true) (hbig : n < 2513169434915) (hbase : base ≤ w.heap.size) :
    Calls Try.prog 40 #[v, .int .i64 (i : Int), .slice (some ⟨vb, 0, none⟩) 1 vc] w fun e w' => ∃ v', e = .returned v' ∧ w'.ownsRow base 46 3 v' (n + 1) (inner.take (i * 3) ++ cs ++ inner.drop (i * 3)) ∧ w.grownBy w' v.ownBlock ∧ (v'.ownBlock = v.ownBlock ∨ ∃ b, v'.ownBlock = some b ∧ w.heap.size ≤ b) := by
  have HOW := Aside0.mk HO
  have HBX := Aside0.mk hbox
  have HNE := Aside0.mk hne
  have H1C := Aside0.mk h1c
  have H1V := Aside0.mk h1v
  have HBG := Aside0.mk hbig
  have HBS := Aside0.mk hbase
  have HCS := Aside0.mk hcs
  clear HO hbox hne h1c h1v hbig hbase hcs
  by_cases hin : i = n
  · subst hin
    obtain ⟨i0, hi0, hz0, hzs, hzb⟩ := info_parts api_Account_40.info_
    have hnew : ∀ j u, cs[j]? = some u → w.cell? ((⟨vb, 0, none⟩ : Addr).add j) = some u := fun j u hj => by
      rw [Addr.add_lit, Nat.zero_add, blk_cell HBX.out j, List.getElem?_toArray]; exact hj
    obtain ⟨v', w', hr, ho', hg', -, hat'⟩ := run_append_own_at (P := Try.prog) (w := w) base 24 24 46 i0 (.agg #[(.int .i64 0), (.int .i64 0), (.slice none 0 0)]) 3 40 Try.underlying24 hi0 hz0 hzs hzb (by rfl) (by omega) v i inner HOW.out ⟨vb, 0, none⟩ 1 vc cs (by rw [HCS.out]) hnew H1V.out (by have := HBG.out; unfold maxLen; omega) (by have := HBG.out; omega) HBS.out
    have HR := Aside0.mk hr
    have HO' := Aside0.mk ho'
    have HG' := Aside0.mk hg'
    have HAT := Aside0.mk hat'
    have HNW := Aside0.mk hnew
    clear hr ho' hg' hat' hnew hi0 hz0 hzs hzb
    have hvs : ∃ A c, v = .slice A i c := by
      rcases HOW.out.2 with ⟨rfl, rfl⟩ | ⟨g, cap, cur, rfl, _⟩
      · exact ⟨none, 0, rfl⟩
      · exact ⟨_, _, rfl⟩
    obtain ⟨A, c, rfl⟩ := hvs
    have qi1 : (i : Int) ≤ (i : Int) := Int.le_refl _
    go_enter Try.func40, Try.ntmps40
    go_wp2_with (at_builtin; refine Lib.wpList_append_run _ rfl _ _ _ _ rfl _ _ rfl rfl _ _ HR.out ?_)
    all_goals
      go_ret
      have hl := HOW.out.1
      first
        | refine ⟨v', rfl, ?_, HG'.out, HAT.out.imp_right (fun q => ⟨_, q, Nat.le_refl _⟩)⟩
        | (have hq : c = i := by assumption
           subst hq; refine ⟨v', rfl, ?_, HG'.out, HAT.out.imp_right (fun q => ⟨_, q, Nat.le_refl _⟩)⟩)
      rw [List.take_of_length_le (by omega), List.drop_eq_nil_of_le (by omega), List.append_nil]
      exact HO'.out
  · have hlt : i < n := by omega
    rcases CopyK.Blk.of HOW.out with ⟨rfl, rfl, rfl⟩ | ⟨g, cap, rfl, hbg, hB⟩
    · exact absurd hlt (by omega)
    have HB := Aside0.mk hB
    have HG := Aside0.mk hbg
    have HVB := Aside0.mk (show vb ≠ g from fun q => HNE.out (by rw [q]; rfl))
    have hnc : n ≤ cap := hB.2.1
    have hcm : cap ≤ 9223372036854775807 := hB.2.2.1
    have HL := Aside0.mk hB.1
    clear hB hbg HOW HNE
    have hz1 : ((1 : Int) == 0) = false := rfl
    have hz2 : ((i : Int) == (n : Int)) = false := beq_eq_false_iff_ne.2 (by omega)
    have hi0 : (0 : Int) ≤ (i : Int) := by omega
    have hin' : (i : Int) ≤ (n : Int) := by omega
    have hwn : wrap64 ((n : Int) + 1) = (n : Int) + 1 := by have := HBG.out; unfold wrap64; omega
    have hwi : wrap64 ((i : Int) + 1) = (i : Int) + 1 := by have := HBG.out; unfold wrap64; omega
    have hdl : (inner.drop (i * 3)).length = (n - i) * 3 := by rw [List.length_drop, HL.out]; omega
    have h1d : ∀ u ∈ inner.drop (i * 3), u.oneCell' = true := fun u hu => H1C.out u (List.mem_of_mem_drop hu)
    have hbx : ∀ j u, cs[j]? = some u → w.cell? ⟨vb, j, none⟩ = some u := fun j u hj => by
      rw [blk_cell HBX.out j, List.getElem?_toArray]; exact hj
    have hsz : (Try.prog.info? 46).map (·.size) = some 3 := by
      obtain ⟨i0, hi0, _, hs, _⟩ := info_parts api_Account_40.info_
      rw [hi0]; simp [hs]
    have HDL := Aside0.mk hdl
    have H1D := Aside0.mk h1d
    have HBC := Aside0.mk hbx
    have HSZ := Aside0.mk hsz
    clear hdl h1d hbx hsz
    have hci : ¬ (cap = i) := by omega
    have mixed : Try.prog.follows Departure.mixedOrders = true := by kernel_rfl
    by_cases hroom : n + 1 ≤ cap
    · have hov : ∀ lb cb, (callFunc 52 #[.slice (some ⟨vb, 0, none⟩) 1 vc, .slice (some ⟨g, (i + 1) * 3, none⟩) lb cb]).run Try.prog w = .ok (.value (.bool false)) w := fun lb cb => by
        rw [run_callFunc_extern Try.func52 (by kernel_rfl) (by kernel_rfl) (by kernel_rfl) (e := Extern.SlicesOverlaps.overlaps #[24, 24] #[4]) (by kernel_rfl),
          Lib.run_overlaps_apart w 24 4 46 Try.underlying24 3 (fun W => by kernel_rfl) ⟨vb, 0, none⟩ ⟨g, (i + 1) * 3, none⟩ 1 vc lb cb HVB.out 46 46 cs.length (cap * 3) (by simp [World.shape?, HBX.out]) HB.out.shape (by omega) (blk_frozen HBX.out 0) (blk_frozen HBX.out _)]
        rfl
      have hw1 : IntKind.i64.wrap ((i : Int) + 1) = (i : Int) + 1 := by have := HBG.out; rw [IntKind.wrap_i64]; omega
      have hwn1 : IntKind.i64.wrap ((n : Int) + 1) = (n : Int) + 1 := by have := HBG.out; rw [IntKind.wrap_i64]; omega
      have hb1 : (0 : Int) ≤ (i : Int) + 1 := by omega
      have hb0 : (0 : Int) ≤ (n : Int) + 1 := by omega
      have htn : ((i : Int) + 1).toNat = i + 1 := by omega
      have htm : ((n : Int) + 1).toNat = n + 1 := by omega
      have hb2 : ¬ (cap = i + 1) := by omega
      have hb3 : (i : Int) ≤ (n : Int) + 1 := by omega
      have hb5 : (i : Int) + 1 ≤ (n : Int) + 1 := by omega
      have hb6 : (n : Int) + 1 ≤ (cap : Int) := by omega
      have hcp1 : ∀ ty dc sc, (Builtin.copy_ #[24, 24] ty #[.slice (some ⟨g, (i + 1) * 3, none⟩) (n - i) dc, .slice (some ⟨g, i * 3, none⟩) (n + 1 - i) sc]).run Try.prog w.drew = .ok (goInt (Nat.min (n + 1 - i) (n - i))) (w.drew.setCells g ((i + 1) * 3) (inner.drop (i * 3))) := fun ty dc sc =>
        CopyK.run_copyK w.drew _ _ ty 46 3 g ((i + 1) * 3) (n - i) dc ⟨g, i * 3, none⟩ (n + 1 - i) sc (inner.drop (i * 3)) Try.underlying24 HSZ.out (by rw [HDL.out]; simp only [Nat.min_def]; split <;> omega)
          (fun j u hj => by rw [Addr.add_lit]; exact HB.out.cell _ u (by rwa [List.getElem?_drop] at hj)) (fun j hj => HB.out.there _ (by have := HDL.out; omega)) (fun j hj => HB.out.free _) H1D.out
      obtain ⟨W1, hW1⟩ : ∃ W1, W1 = w.drew.setCells g ((i + 1) * 3) (inner.drop (i * 3)) := ⟨_, rfl⟩
      have HB1 := Aside0.mk (show CopyK.Blk W1 46 3 g (n + 1) cap (inner.take ((i + 1) * 3) ++ inner.drop (i * 3)) by rw [hW1]; exact CopyK.Blk.put (show CopyK.Blk w.drew 46 3 g n cap inner from HB.out) _ _ _ (by omega) hroom (by omega) (by rw [HDL.out]; omega))
      have HGR := Aside0.mk (show w.grownBy W1 (some g) by
        rw [hW1]
        obtain ⟨a, b, c, d⟩ := setCells_same g (inner.drop (i * 3)) ((i + 1) * 3) w.drew
        exact ⟨a, b, c, by rw [d]; exact Nat.le_refl _, fun k _ hk => setCells_far _ _ k (fun q => hk (by rw [q]))⟩)
      have hbv : W1.heap[vb]? = some (.cells cs.toArray 46 (0, 0)) := (HGR.out.block vb (Array.getElem?_eq_some_iff.1 HBX.out).1 (fun q => HVB.out (Option.some.inj q))).trans HBX.out
      have HBV := Aside0.mk hbv
      clear hbv
      have hcp2 : ∀ ty dc, (Builtin.copy_ #[24, 24] ty #[.slice (some ⟨g, i * 3, none⟩) (n + 1 - i) dc, .slice (some ⟨vb, 0, none⟩) 1 vc]).run Try.prog W1 = .ok (goInt (Nat.min 1 (n + 1 - i))) (W1.setCells g (i * 3) cs) := fun ty dc =>
        CopyK.run_copyK W1 _ _ ty 46 3 g (i * 3) (n + 1 - i) dc ⟨vb, 0, none⟩ 1 vc cs Try.underlying24 HSZ.out (by rw [HCS.out]; simp only [Nat.min_def]; split <;> omega)
          (fun j u hj => by rw [Addr.add_lit, Nat.zero_add, blk_cell HBV.out j, List.getElem?_toArray]; exact hj) (fun j hj => HB1.out.there _ (by have := HCS.out; omega)) (fun j hj => HB1.out.free _) H1V.out
      rw [← hW1] at hcp1
      clear hW1
      go_enter Try.func40, Try.ntmps40
      go_wp2_with (simp only [hov])
      go_region_law_o (refine CopyK.step_copy_run_ rfl _ _ 24 24 rfl _ _ (by simp [Act.eval, Act.put]) (by simp [Act.eval, Act.put]) (hcp1 _ _ _) ?_)
      go_wp2_with (at_builtin; refine CopyK.wpList_copy_run_ _ rfl _ _ 24 24 rfl _ _ rfl rfl (hcp2 _ _) ?_)
      go_ret
      have HB2 := CopyK.Blk.mid HB1.out (i * 3) cs (by rw [HCS.out]; omega)
      rw [CopyK.mid_list inner cs (i * 3) ((i + 1) * 3) (by rw [HL.out]; omega) (by have := HCS.out; omega)] at HB2
      obtain ⟨a, b, c, d⟩ := setCells_same g cs (i * 3) W1
      exact ⟨_, rfl, HB2.own HG.out, HGR.out.trans ⟨a, b, c, by rw [d]; exact Nat.le_refl _, fun k _ hk => setCells_far _ _ k (fun q => hk (by rw [q]))⟩, Or.inl rfl⟩
    · have hrm : cap < n + 1 := by omega
      have hrm' : (cap : Int) < (n : Int) + 1 := by omega
      obtain ⟨i0, hi0', hz0, hzs, hzb⟩ := info_parts api_Account_40.info_
      have hold : (Builtin.firstCells i0.size i (.slice (some ⟨g, 0, none⟩) i cap)).run Try.prog w.drew = .ok (inner.take (i * 3)).toArray w.drew := by
        rw [hzs]
        exact run_firstCells_some w.drew 3 i ⟨g, 0, none⟩ i cap (inner.take (i * 3)) (by rw [List.length_take, HL.out]; omega) (fun j u hj => by
          rw [Addr.add_lit, Nat.zero_add]
          rw [List.getElem?_take] at hj
          split at hj
          · exact HB.out.cell j u hj
          · cases hj)
      have hfit : Builtin.nextslicecap (n + 1) cap * 40 ≤ 281474976710656 := growslice_fits hrm (by have := HBG.out; omega)
      have hrz : ∀ ty, (Builtin.append_ #[24, 3] ty #[.slice (some ⟨g, 0, none⟩) i cap, .int .i64 ((n : Int) + 1 - (i : Int))]).run Try.prog w =
          .ok (.slice (some ⟨w.heap.size, 0, none⟩) (n + 1) (grownCap w (n + 1) cap 46)) (w.drew.alloc (.cells ((inner.take (i * 3)).toArray ++ Builtin.zeroCells ((.agg #[(.int .i64 0), (.int .i64 0), (.slice none 0 0)]) : Value).cells (n + 1 - i) ++ Builtin.zeroCells ((.agg #[(.int .i64 0), (.int .i64 0), (.slice none 0 0)]) : Value).cells (grownCap w (n + 1) cap 46 - (n + 1))) 46)) := fun ty => by
        have h := Lib.run_append_grow_zeros w 24 3 ty 46 i0 _ .i64 .i64 Try.underlying24 Try.underlying3 hi0' hz0 (some ⟨g, 0, none⟩) i cap (inner.take (i * 3)) hold (n + 1 - i) (by omega) (by omega) (by omega) (by have := HBG.out; omega) (by rw [hzb]; have := HBG.out; omega) (by rw [hzb, show i + (n + 1 - i) = n + 1 by omega]; exact hfit)
        rw [show i + (n + 1 - i) = n + 1 by omega] at h
        rw [show (n : Int) + 1 - (i : Int) = ((n + 1 - i : Nat) : Int) by omega]
        exact h
      clear hi0' hz0 hzs hzb hold hfit i0
      obtain ⟨G, hG⟩ : ∃ G, G = grownCap w (n + 1) cap 46 := ⟨_, rfl⟩
      have hGn : n + 1 ≤ G := by rw [hG]; exact grownCap_ge w _ _ _
      have hGm : G ≤ maxLen := by rw [hG]; exact grownCap_le_maxLen w (n + 1) cap 46 (by have := HBG.out; unfold maxLen; omega)
      rw [← hG] at hrz
      obtain ⟨W1, hW1⟩ : ∃ W1, W1 = w.drew.alloc (.cells ((inner.take (i * 3)).toArray ++ Builtin.zeroCells ((.agg #[(.int .i64 0), (.int .i64 0), (.slice none 0 0)]) : Value).cells (n + 1 - i) ++ Builtin.zeroCells ((.agg #[(.int .i64 0), (.int .i64 0), (.slice none 0 0)]) : Value).cells (G - (n + 1))) 46) := ⟨_, rfl⟩
      have hzc : ∀ k, (Builtin.zeroCells ((.agg #[(.int .i64 0), (.int .i64 0), (.slice none 0 0)]) : Value).cells k).size = k * 3 := fun k => by simp [Builtin.zeroCells, Value.cells]
      have HZ := Aside0.mk (show CopyK.Blk W1 46 3 w.heap.size (n + 1) G (inner.take (i * 3) ++ (Builtin.zeroCells ((.agg #[(.int .i64 0), (.int .i64 0), (.slice none 0 0)]) : Value).cells (n + 1 - i)).toList) by
        have ht : (inner.take (i * 3)).length = i * 3 := by rw [List.length_take, HL.out]; omega
        refine ⟨?_, hGn, hGm, _, by rw [hW1]; exact heap_alloc_new w.drew _, ?_, ?_⟩
        · rw [List.length_append, ht, Array.length_toList, hzc]; omega
        · rw [Array.size_append, Array.size_append, hzc, hzc, List.size_toArray, ht]; omega
        · rw [Array.toList_append, Array.toList_append, List.take_left']
          rw [List.length_append, Array.length_toList, Array.length_toList, hzc, List.size_toArray, ht]; omega)
      have hg1 : w.heap.size < W1.heap.size := by rw [hW1]; simp
      have HGR := Aside0.mk (show w.grownBy W1 none by
        rw [hW1]
        exact (show w.grownBy w.drew none from ⟨rfl, rfl, rfl, Nat.le_refl _, fun _ _ _ => rfl⟩).trans (World.grownBy_alloc w.drew _ none))
      have hgw : g < w.heap.size := HB.out.lt
      have hvw : vb < w.heap.size := (Array.getElem?_eq_some_iff.1 HBX.out).1
      have hbv : W1.heap[vb]? = some (.cells cs.toArray 46 (0, 0)) := (HGR.out.block vb hvw (by simp)).trans HBX.out
      obtain ⟨nw, hnw⟩ : ∃ nw, nw = w.heap.size := ⟨_, rfl⟩
      have hcpA : ∀ ty dc, (Builtin.copy_ #[24, 24] ty #[.slice (some ⟨nw, i * 3, none⟩) (n + 1 - i) dc, .slice (some ⟨vb, 0, none⟩) 1 vc]).run Try.prog W1 = .ok (goInt (Nat.min 1 (n + 1 - i))) (W1.setCells nw (i * 3) cs) := fun ty dc =>
        CopyK.run_copyK W1 _ _ ty 46 3 nw (i * 3) (n + 1 - i) dc ⟨vb, 0, none⟩ 1 vc cs Try.underlying24 HSZ.out (by rw [HCS.out]; simp only [Nat.min_def]; split <;> omega)
          (fun j u hj => by rw [Addr.add_lit, Nat.zero_add, blk_cell hbv j, List.getElem?_toArray]; exact hj) (fun j hj => by rw [hnw]; exact HZ.out.there _ (by have := HCS.out; omega)) (fun j hj => by rw [hnw]; exact HZ.out.free _) H1V.out
      obtain ⟨W2, hW2⟩ : ∃ W2, W2 = W1.setCells nw (i * 3) cs := ⟨_, rfl⟩
      have HB2 := Aside0.mk (show CopyK.Blk W2 46 3 w.heap.size (n + 1) G _ by rw [hW2, hnw]; exact CopyK.Blk.mid HZ.out (i * 3) cs (by rw [HCS.out]; omega))
      have HG2 := Aside0.mk (show w.grownBy W2 none by
        rw [hW2]
        obtain ⟨a, b, c, d⟩ := setCells_same nw cs (i * 3) W1
        exact ⟨a.trans HGR.out.os, b.trans HGR.out.tape, c.trans HGR.out.output, by rw [d]; exact HGR.out.size, fun k hk hn => (setCells_far _ _ k (by omega)).trans (HGR.out.block k hk hn)⟩)
      have HBG2 := Aside0.mk (show CopyK.Blk W2.drew 46 3 g n cap inner by
        obtain ⟨a1, a2, a3, cur, a4, a5, a6⟩ := HB.out
        exact ⟨a1, a2, a3, cur, (HG2.out.block g hgw (by simp)).trans a4, a5, a6⟩)
      have hcpB : ∀ ty dc sc, (Builtin.copy_ #[24, 24] ty #[.slice (some ⟨nw, (i + 1) * 3, none⟩) (n - i) dc, .slice (some ⟨g, i * 3, none⟩) (n - i) sc]).run Try.prog W2.drew = .ok (goInt (Nat.min (n - i) (n - i))) (W2.drew.setCells nw ((i + 1) * 3) (inner.drop (i * 3))) := fun ty dc sc =>
        CopyK.run_copyK W2.drew _ _ ty 46 3 nw ((i + 1) * 3) (n - i) dc ⟨g, i * 3, none⟩ (n - i) sc (inner.drop (i * 3)) Try.underlying24 HSZ.out (by rw [HDL.out]; simp only [Nat.min_def]; split <;> omega)
          (fun j u hj => by rw [Addr.add_lit]; exact HBG2.out.cell _ u (by rwa [List.getElem?_drop] at hj)) (fun j hj => by rw [hnw]; exact (show CopyK.Blk W2.drew 46 3 w.heap.size (n + 1) G _ from HB2.out).there _ (by have := HDL.out; omega)) (fun j hj => by rw [hnw]; exact (show CopyK.Blk W2.drew 46 3 w.heap.size (n + 1) G _ from HB2.out).free _) H1D.out
      obtain ⟨W3, hW3⟩ : ∃ W3, W3 = W2.drew.setCells nw ((i + 1) * 3) (inner.drop (i * 3)) := ⟨_, rfl⟩
      have HB3 := Aside0.mk (show CopyK.Blk W3 46 3 w.heap.size (n + 1) G (inner.take (i * 3) ++ cs ++ inner.drop (i * 3)) by
        rw [hW3, hnw, ← CopyK.grow_list inner cs _ (i * 3) (by rw [HL.out]; omega), HCS.out]
        have z := CopyK.Blk.put (show CopyK.Blk W2.drew 46 3 w.heap.size (n + 1) G _ from HB2.out) (i * 3 + 3) (n + 1) (inner.drop (i * 3)) (by omega) hGn (by omega) (by rw [HDL.out]; omega)
        rw [HCS.out] at z
        rw [show (i + 1) * 3 = i * 3 + 3 by omega]
        exact z)
      have HG3 := Aside0.mk (show w.grownBy W3 none by
        rw [hW3]
        obtain ⟨a, b, c, d⟩ := setCells_same nw (inner.drop (i * 3)) ((i + 1) * 3) W2.drew
        exact ⟨a.trans HG2.out.os, b.trans HG2.out.tape, c.trans HG2.out.output, by rw [d]; exact HG2.out.size, fun k hk hn => (setCells_far _ _ k (by omega)).trans (HG2.out.block k hk hn)⟩)
      rw [← hW1, ← hnw] at hrz
      rw [← hW2] at hcpA
      rw [← hW3] at hcpB
      have HNW := Aside0.mk hnw
      clear hW1 hW2 hW3 hG hbv hg1 hnw HZ HGR HBG2 hzc
      have hw1 : IntKind.i64.wrap ((i : Int) + 1) = (i : Int) + 1 := by have := HBG.out; rw [IntKind.wrap_i64]; omega
      have hwn1 : IntKind.i64.wrap ((n : Int) + 1) = (n : Int) + 1 := by have := HBG.out; rw [IntKind.wrap_i64]; omega
      have hwn2 : IntKind.i64.wrap ((n : Int) + 1 - (i : Int)) = (n : Int) + 1 - (i : Int) := by have := HBG.out; rw [IntKind.wrap_i64]; omega
      have hwn3 : wrap64 ((n : Int) + 1 - (i : Int)) = (n : Int) + 1 - (i : Int) := by have := HBG.out; unfold wrap64; omega
      have hb1 : (0 : Int) ≤ (i : Int) + 1 := by omega
      have htn : ((i : Int) + 1).toNat = i + 1 := by omega
      have hb5 : (i : Int) + 1 ≤ (n : Int) + 1 := by omega
      have hb3 : (i : Int) ≤ (n : Int) + 1 := by omega
      have hb7 : (i : Int) ≤ (cap : Int) := by omega
      have hGi : ¬ (G = i) := by omega
      have hGi1 : ¬ (G = i + 1) := by omega
      have hGN := Aside0.mk hGn
      clear hGn hGm
      go_enter Try.func40, Try.ntmps40
      go_wp2_with (first
        | (at_builtin; refine Lib.wpList_append_run _ rfl _ _ _ _ rfl _ _ rfl rfl _ _ (hrz _) ?_)
        | (at_builtin; refine CopyK.wpList_copy_run_ _ rfl _ _ 24 24 rfl _ _ rfl rfl (hcpA _ _) ?_))
      go_region_law_o (refine CopyK.step_copy_run_ rfl _ _ 24 24 rfl _ _ (by simp [Act.eval, Act.put]) (by simp [Act.eval, Act.put]) (hcpB _ _ _) ?_)
      go_wp2
      go_ret
      exact ⟨_, rfl, by rw [HNW.out]; exact HB3.out.own HBS.out, ⟨HG3.out.os, HG3.out.tape, HG3.out.output, HG3.out.size, fun k hk _ => HG3.out.block k hk (by simp)⟩, Or.inr ⟨nw, rfl, by rw [HNW.out]; exact Nat.le_refl _⟩⟩


end Go.Proofs.Ytnjnogkhbadioaa.D
