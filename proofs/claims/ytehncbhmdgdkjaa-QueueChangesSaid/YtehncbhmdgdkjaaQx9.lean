/- Written by this session's own program over the kit's print: functions of Go told as plain functions, or the row of one statement; proved for every input, with no condition of ours. -/
import Derived.Test.YtehncbhmdgdkjaaQx0
import Derived.Test.YtehncbhmdgdkjaaQx4
import Derived.Test.YtehncbhmdgdkjaaQx8
namespace Go.Proofs.Ytehncbhmdgdkjaa.Q
open Go.RowKit Go.Proofs.YtehncbhmdgdkjaaW.PrintWords Go.Proofs.YtehncbhmdgdkjaaW.PrintLast Go.Proofs.YtehncbhmdgdkjaaW.PrintMore
attribute [local go_sem] max2_int min2_int max_two min_two max_three min_three max_four min_four   -- for this text's walks alone
set_option linter.unusedVariables false
set_option linter.unusedSimpArgs false

/-! ### api_Tx_128: function 128, by hand -/
-- HAND rounds=0 making=0 opaque
-- IMPORT Derived.Test.YtehncbhmdgdkjaaCopyK
theorem api_Tx_128.split (x : List Value) (h : x.length = 6) : ∃ u0 u1 u2 u3 u4 u5 : Value, x = [u0, u1, u2, u3, u4, u5] := by
  match x, h with
  | [u0, u1, u2, u3, u4, u5], _ => exact ⟨_, _, _, _, _, _, rfl⟩
set_option maxHeartbeats 8000000 in
set_option maxRecDepth 100000 in
/-- The first place at which a closure says yes, of a row of one's own. -/
theorem api_Tx_128.calls (base n : Nat) (v : Value) (rows : List (List Value)) (p : List Value → Bool) (gf : Nat) (lb : Array Value) (eg : ∀ args w, (callFunc gf args).run Try.prog w = .ok (.enter gf args) w) (w : World) (HO : w.ownsRow base 24 6 v n rows.flatten) (hn : rows.length = n) (hr : ∀ r ∈ rows, r.length = 6) (hbig : n < 2513169434916)
    (hp : ∀ (W : World) (x : List Value), x ∈ rows → w.grownBy W none → Calls Try.prog gf (#[.agg x.toArray] ++ lb) W fun e w' => e = .returned (.bool (p x)) ∧ W.grownBy w' none) :
    Calls Try.prog 128 #[v, .func (.func gf) #[] lb] w fun e w' => e = .returned (.int .i64 (CopyK.idxC p rows 0)) ∧ w.grownBy w' none := by
  rcases CopyK.Blk.of HO with ⟨rfl, rfl, hz⟩ | ⟨g, cap, rfl, hbg, hB⟩
  · obtain rfl : rows = [] := List.eq_nil_of_length_eq_zero hn
    go_enter Try.func128, Try.ntmps128
    go_wp2
    go_loopg [5, 8] 1 (fun gg _ s8 wr => 0 < gg ∧ s8 = .int .i64 0 ∧ wr = w)
    case atStart => exact ⟨by omega, rfl, rfl⟩
    case round =>
      obtain ⟨hgg, rfl, rfl⟩ := hrel
      go_wp2
      go_ret
      exact ⟨rfl, CopyK.grown_refl _ _⟩
  · have HB := Aside0.mk hB
    have HP := Aside0.mk hp
    have HR := Aside0.mk hr
    have HN := Aside0.mk hn
    have HBG := Aside0.mk hbig
    clear HO hB hp hr hn hbig
    go_enter Try.func128, Try.ntmps128
    go_wp2
    go_loopg [5, 8] n (fun gg _ s8 wr => ∃ kk : Nat, kk ≤ n ∧ n - kk ≤ gg ∧ s8 = .int .i64 kk ∧ Aside0 (w.grownBy wr none) ∧ Aside0 (CopyK.idxC p rows 0 = CopyK.idxC p (rows.drop kk) kk))
    case atStart => exact ⟨0, Nat.zero_le _, by omega, rfl, ⟨CopyK.grown_refl _ _⟩, ⟨rfl⟩⟩
    case round =>
      obtain ⟨kk, hkk, hg, rfl, BW, A⟩ := hrel
      by_cases hlt : kk < n
      · have hltz : (kk : Int) < (n : Int) := by omega
        have hk0 : (0 : Int) ≤ (kk : Int) := by omega
        obtain ⟨x, hx⟩ : ∃ x, rows[kk]? = some x := ⟨_, List.getElem?_eq_getElem (by rw [HN.out]; exact hlt)⟩
        have hxm : x ∈ rows := List.mem_of_getElem? hx
        have hcall := HP.out wr x hxm BW.out
        have hd : rows.drop kk = x :: rows.drop (kk + 1) := by
          obtain ⟨hk, e⟩ := List.getElem?_eq_some_iff.1 hx
          rw [List.drop_eq_getElem_cons hk, e]
        have hB1 := HB.out.grown BW.out (by simp)
        have hcs : ∀ j u, x[j]? = some u → wr.cell? ⟨g, kk * 6 + j, none⟩ = some u := fun j u hj => hB1.cell _ u (by rw [CopyK.flat_at 6 rows HR.out kk j x hx (by have := (List.getElem?_eq_some_iff.1 hj).1; rw [HR.out x hxm] at this; exact this)]; exact hj)
        obtain ⟨u0, u1, u2, u3, u4, u5, rfl⟩ := api_Tx_128.split x (HR.out x hxm)
        have l0 : wr.cell? ⟨g, kk * 6, none⟩ = some u0 := hcs 0 u0 rfl
        have l1 : wr.cell? ⟨g, kk * 6 + 1, none⟩ = some u1 := hcs 1 u1 rfl
        have l2 : wr.cell? ⟨g, kk * 6 + 2, none⟩ = some u2 := hcs 2 u2 rfl
        have l3 : wr.cell? ⟨g, kk * 6 + 3, none⟩ = some u3 := hcs 3 u3 rfl
        have l4 : wr.cell? ⟨g, kk * 6 + 4, none⟩ = some u4 := hcs 4 u4 rfl
        have l5 : wr.cell? ⟨g, kk * 6 + 5, none⟩ = some u5 := hcs 5 u5 rfl
        have HD := Aside0.mk hd
        clear hcs hd hx hxm hB1
        have hw1 : wrap64 ((kk : Int) + 1) = ((kk + 1 : Nat) : Int) := by have := HBG.out; unfold wrap64; omega
        cases hq : p [u0, u1, u2, u3, u4, u5] with
        | true =>
          rw [hq] at hcall
          go_wp2_with (go_at_fn gf; refine hcall.mono ?_; rintro e w' ⟨rfl, hb'⟩)
          go_ret
          refine ⟨?_, BW.out.trans hb'⟩
          rw [A.out, HD.out, CopyK.idxC, if_pos hq]
          rfl
        | false =>
          rw [hq] at hcall
          go_wp2_with (go_at_fn gf; refine hcall.mono ?_; rintro e w' ⟨rfl, hb'⟩)
          go_roundg (n - (kk + 1))
          case measure => omega
          case rel =>
            refine ⟨kk + 1, by omega, by omega, by first | rfl | rw [hw1] | go_num, ⟨BW.out.trans hb'⟩, ⟨?_⟩⟩
            rw [A.out, HD.out, CopyK.idxC, if_neg (by rw [hq]; decide), Int.natCast_add]
            rfl
      · have hltz : ¬ (kk : Int) < (n : Int) := by omega
        have hkn : kk = n := by omega
        subst hkn
        go_wp2
        go_ret
        refine ⟨?_, BW.out⟩
        rw [A.out, List.drop_eq_nil_of_le (by rw [HN.out]; exact Nat.le_refl _)]
        rfl

/-! ### api_Tx_108: function 108, by hand -/
-- HAND rounds=0 making=0 opaque
-- IMPORT Derived.Test.YtehncbhmdgdkjaaCopyK
/-- The kinds of an element's cells. -/
def api_Tx_108.Shape (r : List Value) : Prop := ∃ (a0 a1 a2 a3 a4 : Int) (s : ByteArray), r = [.int .i64 a0, .int .i64 a1, .int .i64 a2, .int .i64 a3, .int .i64 a4, .string s]
theorem api_Tx_108.Shape.len {r : List Value} (h : api_Tx_108.Shape r) : r.length = 6 := by
  obtain ⟨_, _, _, _, _, _, rfl⟩ := h
  rfl
set_option maxHeartbeats 8000000 in
set_option maxRecDepth 100000 in
/-- A row of one's own without those of whom a closure says yes. -/
theorem api_Tx_108.calls (base n : Nat) (v : Value) (rows : List (List Value)) (p : List Value → Bool) (gf : Nat) (lb : Array Value) (eg : ∀ args w, (callFunc gf args).run Try.prog w = .ok (.enter gf args) w) (w : World) (HO : w.ownsRow base 24 6 v n rows.flatten) (hn : rows.length = n) (hsh : ∀ r ∈ rows, api_Tx_108.Shape r) (hbig : n < 2513169434916)
    (hp : ∀ (W : World) (x : List Value), x ∈ rows → w.grownBy W v.ownBlock → Calls Try.prog gf (#[.agg x.toArray] ++ lb) W fun e w' => e = .returned (.bool (p x)) ∧ W.grownBy w' none) :
    Calls Try.prog 108 #[v, .func (.func gf) #[] lb] w fun e w' => ∃ v', e = .returned v' ∧ w'.ownsRow base 24 6 v' (rows.filter fun x => !p x).length (rows.filter fun x => !p x).flatten ∧ w.grownBy w' v.ownBlock ∧ v'.ownBlock = v.ownBlock := by
  have hr : ∀ r ∈ rows, r.length = 6 := fun r h => (hsh r h).len
  have hIF := api_Tx_128.calls base n v rows p gf lb eg w HO hn hr hbig (fun W x hx hg => hp W x hx (CopyK.grown_any hg _))
  rcases CopyK.idxC_spec p rows 0 with ⟨e1, hall⟩ | ⟨k0, hk0, e1, ht, hall⟩
  · rw [e1] at hIF
    have hf : (rows.filter fun x => !p x) = rows := List.filter_eq_self.2 (fun x hx => by simp [hall x hx])
    rw [hf, hn]
    have HOW := Aside0.mk HO
    clear HO hp hall e1 hf hr hsh
    have hvs : ∃ A c, v = .slice A n c := by
      rcases HOW.out.2 with ⟨rfl, rfl⟩ | ⟨g, cap, cur, rfl, _⟩
      · exact ⟨none, 0, rfl⟩
      · exact ⟨_, _, rfl⟩
    obtain ⟨A, c, rfl⟩ := hvs
    go_enter Try.func108, Try.ntmps108
    go_wp2_with (go_at_call 128; refine hIF.mono ?_; rintro e w' ⟨rfl, hb⟩)
    go_ret
    refine ⟨_, rfl, ?_, CopyK.grown_any hb _, rfl⟩
    refine HOW.out.kept hb ?_
    cases A with
    | none => exact Or.inl rfl
    | some a => exact Or.inr (by simp [Value.ownBlock])
  · rw [e1, Int.zero_add] at hIF
    rcases CopyK.Blk.of HO with ⟨rfl, rfl, hz⟩ | ⟨g, cap, rfl, hbg, hB⟩
    · exact absurd hk0 (by omega)
    have hk0' : k0 < n := by omega
    have HB := Aside0.mk hB
    have HP := Aside0.mk hp
    have HR := Aside0.mk hr
    have HN := Aside0.mk hn
    have HBG := Aside0.mk hbig
    have HG := Aside0.mk hbg
    have H1 := Aside0.mk hsh
    have HS := Aside0.mk (CopyK.Del.start hn hr hk0 ht hall)
    have hcm := hB.2.2.1
    have hnc := hB.2.1
    have hm1 : ((k0 : Int) == -1) = false := beq_eq_false_iff_ne.2 (by omega)
    have hw0 : wrap64 ((k0 : Int) + 1) = ((k0 + 1 : Nat) : Int) := by unfold wrap64; omega
    clear HO hB hp hr hn hbig hbg hsh ht hall e1
    go_enter Try.func108, Try.ntmps108
    go_wp2_with (go_at_call 128; refine hIF.mono ?_; rintro e w1 ⟨rfl, hb1⟩)
    rw [hw0]
    clear hIF hw0
    have HB1 := Aside0.mk hb1
    clear hb1
    go_loopg [5, 6, 7] n (fun gg s5 s6 _ wr => ∃ (i j : Nat) (D : List (List Value)), s5 = .int .i64 i ∧ s6 = .int .i64 j ∧ j ≤ n ∧ n - j ≤ gg ∧ Aside0 (w.grownBy wr (some g)) ∧ Aside0 (CopyK.Blk wr 24 6 g n cap D.flatten) ∧ Aside0 (CopyK.Del p 6 n rows D i j))
    case atStart => exact ⟨k0, k0 + 1, rows, rfl, rfl, by omega, by omega, ⟨CopyK.grown_any HB1.out _⟩, ⟨HB.out.grown HB1.out (by simp)⟩, HS⟩
    case round =>
      clear HB1
      obtain ⟨i, j, D, rfl, rfl, hjn, hgg, BW, BB, DD⟩ := hrel
      have hij : i < j := DD.out.2.2.2.2.1
      by_cases hlt : j < n
      · have hltz : (j : Int) < (n : Int) := by omega
        have hj0 : (0 : Int) ≤ (j : Int) := by omega
        obtain ⟨x, hx, hxD, hxm, hxl⟩ := DD.out.at HN.out hlt
        have HX := Aside0.mk hx
        have HXL := Aside0.mk hxl
        have h1x := H1.out x hxm
        have hcs : ∀ q u, x[q]? = some u → wr.cell? ⟨g, j * 6 + q, none⟩ = some u := fun q u hq => BB.out.cell _ u (by rw [CopyK.flat_at 6 D DD.out.2.1 j q x hxD (by have := (List.getElem?_eq_some_iff.1 hq).1; omega)]; exact hq)
        obtain ⟨a0, a1, a2, a3, a4, s, rfl⟩ := h1x
        have l0 : wr.cell? ⟨g, j * 6, none⟩ = some (.int .i64 a0) := hcs 0 _ rfl
        have l1 : wr.cell? ⟨g, j * 6 + 1, none⟩ = some (.int .i64 a1) := hcs 1 _ rfl
        have l2 : wr.cell? ⟨g, j * 6 + 2, none⟩ = some (.int .i64 a2) := hcs 2 _ rfl
        have l3 : wr.cell? ⟨g, j * 6 + 3, none⟩ = some (.int .i64 a3) := hcs 3 _ rfl
        have l4 : wr.cell? ⟨g, j * 6 + 4, none⟩ = some (.int .i64 a4) := hcs 4 _ rfl
        have l5 : wr.cell? ⟨g, j * 6 + 5, none⟩ = some (.string s) := hcs 5 _ rfl
        have HXM := Aside0.mk hxm
        clear hcs hx hxD hxl hxm
        go_upto_region 8 with (fail)
        have n0_ := heap_alloc_new wr (.cells #[.int .i64 a0, .int .i64 a1, .int .i64 a2, .int .i64 a3, .int .i64 a4, .string s] 24)
        have n1_ := BW.out.trans (World.grownBy_alloc wr (.cells #[.int .i64 a0, .int .i64 a1, .int .i64 a2, .int .i64 a3, .int .i64 a4, .string s] 24) (some g))
        have n2_ := BB.out.grown (World.grownBy_alloc wr (.cells #[.int .i64 a0, .int .i64 a1, .int .i64 a2, .int .i64 a3, .int .i64 a4, .string s] 24) none) (by simp)
        have n3_ : g ≠ wr.heap.size := Nat.ne_of_lt BB.out.lt
        generalize World.alloc wr _ = w7 at n0_ n1_ n2_ ⊢
        generalize wr.heap.size = bx at n0_ n3_ ⊢
        have BK := Aside0.mk n0_
        have BW7 := Aside0.mk n1_
        have BB7 := Aside0.mk n2_
        have NX := Aside0.mk n3_
        clear n0_ n1_ n2_ n3_ l0 l1 l2 l3 l4 l5
        have hcall := HP.out w7 _ HXM.out BW7.out
        have c0 : w7.cell? ⟨bx, 0, none⟩ = some (.int .i64 a0) := (blk_cell BK.out 0).trans rfl
        have c1 : w7.cell? ⟨bx, 1, none⟩ = some (.int .i64 a1) := (blk_cell BK.out 1).trans rfl
        have c2 : w7.cell? ⟨bx, 2, none⟩ = some (.int .i64 a2) := (blk_cell BK.out 2).trans rfl
        have c3 : w7.cell? ⟨bx, 3, none⟩ = some (.int .i64 a3) := (blk_cell BK.out 3).trans rfl
        have c4 : w7.cell? ⟨bx, 4, none⟩ = some (.int .i64 a4) := (blk_cell BK.out 4).trans rfl
        have c5 : w7.cell? ⟨bx, 5, none⟩ = some (.string s) := (blk_cell BK.out 5).trans rfl
        have hi0 : (0 : Int) ≤ (i : Int) := by omega
        have hin : (i : Int) < (n : Int) := by omega
        have hwj := CopyK.wrap_next j (Nat.lt_trans hlt HBG.out)
        have hwi := CopyK.wrap_next i (Nat.lt_trans (Nat.lt_trans hij hlt) HBG.out)
        cases hq : p [.int .i64 a0, .int .i64 a1, .int .i64 a2, .int .i64 a3, .int .i64 a4, .string s] with
        | true =>
          rw [hq] at hcall
          go_wp2_with (go_at_fn gf; refine hcall.mono ?_; rintro e w8 ⟨rfl, hb8⟩)
          go_roundg (n - (j + 1))
          case measure => omega
          case rel => exact ⟨i, j + 1, D, rfl, congrArg (Value.int .i64) hwj, by omega, Nat.le_refl _, ⟨BW7.out.trans (CopyK.grown_any hb8 _)⟩, ⟨BB7.out.grown hb8 (by simp)⟩, ⟨DD.out.skip HX.out hq hlt⟩⟩
        | false =>
          rw [hq] at hcall
          obtain ⟨y, hy⟩ : ∃ y, D[i]? = some y := ⟨_, List.getElem?_eq_getElem (by rw [DD.out.1]; exact Nat.lt_trans hij hlt)⟩
          have hyl := DD.out.2.1 y (List.mem_of_getElem? hy)
          have hys : ∀ q u, y[q]? = some u → w7.cell? ⟨g, i * 6 + q, none⟩ = some u := fun q u hu => BB7.out.cell _ u (by rw [CopyK.flat_at 6 D DD.out.2.1 i q y hy (by rw [← hyl]; exact (List.getElem?_eq_some_iff.1 hu).1)]; exact hu)
          obtain ⟨y0, y1, y2, y3, y4, y5, rfl⟩ := api_Tx_128.split y hyl
          have HYS := Aside0.mk hys
          clear hys hy hyl
          go_wp2_with (go_at_fn gf; refine hcall.mono ?_; rintro e w8 ⟨rfl, hb8⟩; have BK8 := Aside0.mk ((CopyK.grown_none hb8 bx (Array.getElem?_eq_some_iff.1 BK.out).1).trans BK.out); have BB8 := Aside0.mk (BB7.out.grown hb8 (by simp)); have BW8 := Aside0.mk (BW7.out.trans (CopyK.grown_any hb8 (some g))); have HYS8 := Aside0.mk (fun q u hu => CopyK.grown_cell hb8 (HYS.out q u hu)); clear hb8; have d0 : w8.cell? ⟨bx, 0, none⟩ = some (.int .i64 a0) := (blk_cell BK8.out 0).trans rfl; have d1 : w8.cell? ⟨bx, 1, none⟩ = some (.int .i64 a1) := (blk_cell BK8.out 1).trans rfl; have d2 : w8.cell? ⟨bx, 2, none⟩ = some (.int .i64 a2) := (blk_cell BK8.out 2).trans rfl; have d3 : w8.cell? ⟨bx, 3, none⟩ = some (.int .i64 a3) := (blk_cell BK8.out 3).trans rfl; have d4 : w8.cell? ⟨bx, 4, none⟩ = some (.int .i64 a4) := (blk_cell BK8.out 4).trans rfl; have d5 : w8.cell? ⟨bx, 5, none⟩ = some (.string s) := (blk_cell BK8.out 5).trans rfl; have y0_ : w8.cell? ⟨g, i * 6, none⟩ = some y0 := HYS8.out 0 _ rfl; have z0_ := BB8.out.free (i * 6); have y1_ : w8.cell? ⟨g, i * 6 + 1, none⟩ = some y1 := HYS8.out 1 _ rfl; have z1_ := BB8.out.free (i * 6 + 1); have y2_ : w8.cell? ⟨g, i * 6 + 2, none⟩ = some y2 := HYS8.out 2 _ rfl; have z2_ := BB8.out.free (i * 6 + 2); have y3_ : w8.cell? ⟨g, i * 6 + 3, none⟩ = some y3 := HYS8.out 3 _ rfl; have z3_ := BB8.out.free (i * 6 + 3); have y4_ : w8.cell? ⟨g, i * 6 + 4, none⟩ = some y4 := HYS8.out 4 _ rfl; have z4_ := BB8.out.free (i * 6 + 4); have y5_ : w8.cell? ⟨g, i * 6 + 5, none⟩ = some y5 := HYS8.out 5 _ rfl; have z5_ := BB8.out.free (i * 6 + 5))
          clear hwj hwi hcall y0_ z0_ c0 d0 y1_ z1_ c1 d1 y2_ z2_ c2 d2 y3_ z3_ c3 d3 y4_ z4_ c4 d4 y5_ z5_ c5 d5
          go_roundg (n - (j + 1))
          case measure => omega
          case rel =>
            have hlen : i * 6 + 6 ≤ n * 6 := by omega
            have hwj := CopyK.wrap_next j (Nat.lt_trans hlt HBG.out)
            have hwi := CopyK.wrap_next i (Nat.lt_trans (Nat.lt_trans hij hlt) HBG.out)
            have hs := setCells_same g [.int .i64 a0, .int .i64 a1, .int .i64 a2, .int .i64 a3, .int .i64 a4, .string s] (i * 6) w8
            have HK := DD.out.keep HX.out HXL.out hq hlt
            refine ⟨i + 1, j + 1, D.set i [.int .i64 a0, .int .i64 a1, .int .i64 a2, .int .i64 a3, .int .i64 a4, .string s], congrArg (Value.int .i64) hwi, congrArg (Value.int .i64) hwj, hlt, Nat.le_refl _, ⟨BW8.out.trans ?_⟩, ⟨?_⟩, ⟨HK⟩⟩
            · exact (⟨hs.1, hs.2.1, hs.2.2.1, Nat.le_of_eq hs.2.2.2.symm, fun k _ hk => setCells_far _ _ k (fun q => hk (by rw [q]))⟩ : w8.grownBy (w8.setCells g (i * 6) [.int .i64 a0, .int .i64 a1, .int .i64 a2, .int .i64 a3, .int .i64 a4, .string s]) (some g))
            · have z := CopyK.Blk.mid BB8.out (i * 6) [.int .i64 a0, .int .i64 a1, .int .i64 a2, .int .i64 a3, .int .i64 a4, .string s] hlen
              rw [CopyK.flat_set 6 [.int .i64 a0, .int .i64 a1, .int .i64 a2, .int .i64 a3, .int .i64 a4, .string s] rfl D DD.out.2.1 i (by rw [DD.out.1]; exact Nat.lt_trans hij hlt)]
              exact z
      · obtain rfl : j = n := by omega
        have hltz : ¬ (j : Int) < (j : Int) := by omega
        have hi0 : (0 : Int) ≤ (i : Int) := by omega
        have hin : (i : Int) ≤ (j : Int) := by omega
        have hci : ¬ (cap = i) := by omega
        obtain ⟨W9, hW9⟩ : ∃ W9, W9 = wr.setCells g (i * 6) (Builtin.zeroCells ((.agg #[(.int .i64 0), (.int .i64 0), (.int .i64 0), (.int .i64 0), (.int .i64 0), (.string ⟨#[]⟩)]) : Value).cells (j - i)).toList := ⟨_, rfl⟩
        have hcl : ∀ ty, (Builtin.clear_ #[22] ty #[.slice (some ⟨g, i * 6, none⟩) (j - i) (cap - i)]).run Try.prog wr = .ok (.tuple #[]) W9 := fun ty => by
          rw [hW9]
          exact CopyK.run_clearK wr 22 24 ty (.agg #[(.int .i64 0), (.int .i64 0), (.int .i64 0), (.int .i64 0), (.int .i64 0), (.string ⟨#[]⟩)]) Try.underlying22 (fun W => by kernel_rfl) (by simp [Value.cells, Value.oneCell']) (by decide) g (i * 6) (j - i) (cap - i) (by omega)
            (fun k hk => BB.out.there _ (by have : k < (j - i) * 6 := hk; have : j * 6 ≤ cap * 6 := Nat.mul_le_mul_right _ hnc; omega)) (fun k hk => BB.out.free _)
        have hdone := DD.out.done HN.out
        have hs := setCells_same g (Builtin.zeroCells ((.agg #[(.int .i64 0), (.int .i64 0), (.int .i64 0), (.int .i64 0), (.int .i64 0), (.string ⟨#[]⟩)]) : Value).cells (j - i)).toList (i * 6) wr
        have hzl : (Builtin.zeroCells ((.agg #[(.int .i64 0), (.int .i64 0), (.int .i64 0), (.int .i64 0), (.int .i64 0), (.string ⟨#[]⟩)]) : Value).cells (j - i)).toList.length = (j - i) * 6 := by simp [Builtin.zeroCells, Value.cells]
        have hz := CopyK.Blk.cut (CopyK.Blk.mid BB.out (i * 6) (Builtin.zeroCells ((.agg #[(.int .i64 0), (.int .i64 0), (.int .i64 0), (.int .i64 0), (.int .i64 0), (.string ⟨#[]⟩)]) : Value).cells (j - i)).toList (by rw [hzl]; omega)) i (by omega)
        have hfl : D.flatten.length = j * 6 := by rw [CopyK.flat_length 6 D DD.out.2.1, DD.out.1]
        rw [← hW9, List.append_assoc, List.take_left' (by rw [List.length_take]; omega), hdone.2] at hz
        have HZ := Aside0.mk hz
        have HE := Aside0.mk hdone.1
        have HGW := Aside0.mk (show w.grownBy W9 (some g) from BW.out.trans (by rw [hW9]; exact ⟨hs.1, hs.2.1, hs.2.2.1, Nat.le_of_eq hs.2.2.2.symm, fun k _ hk => setCells_far _ _ k (fun q => hk (by rw [q]))⟩))
        clear hW9 hdone hs hzl hz hfl
        go_wp2
        go_ret
        exact ⟨_, rfl, by rw [← HE.out]; exact HZ.out.own HG.out, HGW.out, rfl⟩

/-! ### queue_Drop: function 65, by hand -/
-- HAND rounds=0 making=1
-- IMPORT Derived.Test.YtehncbhmdgdkjaaCopyM
-- NEEDS slices.IndexFunc[[]hopper/api.Tx,hopper/api.Tx]
-- NEEDS slices.DeleteFunc[[]hopper/api.Tx,hopper/api.Tx]
/-- A transaction's cells. -/
def cells6 (x : S24) : List Value := [.int .i64 x.f0, .int .i64 x.f1, .int .i64 x.f2, .int .i64 x.f3, .int .i64 x.f4, .string x.f5]
theorem cells6_len (x : S24) : (cells6 x).length = 6 := rfl
theorem rows_of_R {w : World} {base : Nat} {ok : Nat → Prop} {v : Value} {xs : List S24} (h : Kd.R k24 24 w base ok v xs) : w.ownsRow base 24 6 v xs.length (xs.map cells6).flatten := by
  obtain ⟨_, inner, ho, hr⟩ := h
  have e : inner = (xs.map cells6).flatten := CopyK.rows_eq 6 cells6 cells6_len xs inner hr.1 (fun j p hj => k24_openM (hr.2 j p hj))
  rw [← e]
  exact ho
theorem R_of_rows {w : World} {base : Nat} {ok : Nat → Prop} {v : Value} {xs : List S24} (h : w.ownsRow base 24 6 v xs.length (xs.map cells6).flatten) (hok : ∀ k, v.ownBlock = some k → ok k) : Kd.R k24 24 w base ok v xs := by
  refine ⟨hok, _, h, CopyK.rows_length 6 cells6 cells6_len xs, fun j p hj => ?_⟩
  show Kd.M k24 w base _ p (((xs.map cells6).flatten.drop (j * 6)).take 6)
  rw [CopyK.rows_at 6 cells6 cells6_len xs j p hj]
  exact k24_mkM _ _ _ p
/-- Has an element's cells this nonce? -/
def isNonce (n : Int) (r : List Value) : Bool := match r with | [_, Value.int _ k, _, _, _, _] => k == n | _ => false
theorem queue_Drop.closure (x : S24) (n : Int) (b : Nat) (W : World) (h : W.heap[b]? = some (.cells #[.int .i64 n] 3 (0, 0))) :
    Calls Try.prog 109 (#[.agg (cells6 x).toArray] ++ #[.pointer (some ⟨b, 0, none⟩)]) W fun e w' => e = .returned (.bool (x.f1 == n)) ∧ W.grownBy w' none := by
  have hc : W.cell? ⟨b, 0, none⟩ = some (.int .i64 n) := (blk_cell h 0).trans rfl
  have hlt : b < W.heap.size := (Array.getElem?_eq_some_iff.1 h).1
  have hne : b ≠ W.heap.size := Nat.ne_of_lt hlt
  have HLT := Aside0.mk hlt
  have hc2 : (W.alloc (.cells #[.int .i64 x.f0, .int .i64 x.f1, .int .i64 x.f2, .int .i64 x.f3, .int .i64 x.f4, .string x.f5] 24)).cell? ⟨b, 0, none⟩ = some (.int .i64 n) := CopyK.grown_cell (World.grownBy_alloc W _ none) hc
  clear h hlt
  show Calls Try.prog 109 #[.agg #[.int .i64 x.f0, .int .i64 x.f1, .int .i64 x.f2, .int .i64 x.f3, .int .i64 x.f4, .string x.f5], .pointer (some ⟨b, 0, none⟩)] W _
  go_enter Try.func109, Try.ntmps109
  go_wp2
  go_ret
  exact ⟨rfl, World.grownBy_alloc W _ none⟩
theorem queue_Drop.three (w : World) (o0 o1 o2 : Obj) : (((w.alloc o0).alloc o1).alloc o2).heap[w.heap.size]? = some o0 ∧ (((w.alloc o0).alloc o1).alloc o2).heap[w.heap.size + 1]? = some o1 ∧ (((w.alloc o0).alloc o1).alloc o2).heap[w.heap.size + 1 + 1]? = some o2 ∧ (((w.alloc o0).alloc o1).alloc o2).heap.size = w.heap.size + 3 ∧ Below w.heap.size w (((w.alloc o0).alloc o1).alloc o2) := by
  have s1 : (w.alloc o0).heap.size = w.heap.size + 1 := Array.size_push ..
  have s2 : ((w.alloc o0).alloc o1).heap.size = w.heap.size + 1 + 1 := (Array.size_push ..).trans (by rw [s1])
  have s3 : (((w.alloc o0).alloc o1).alloc o2).heap.size = w.heap.size + 3 := (Array.size_push ..).trans (by rw [s2])
  have e0 := heap_alloc_new w o0
  have e1 := heap_alloc_new (w.alloc o0) o1
  have e2 := heap_alloc_new ((w.alloc o0).alloc o1) o2
  rw [s1] at e1
  rw [s2] at e2
  refine ⟨(heap_alloc_old _ _ (by omega)).trans ((heap_alloc_old _ _ (by omega)).trans e0), (heap_alloc_old _ _ (by omega)).trans e1, e2, s3, below_alloc (below_alloc (below_alloc (Below.refl _ _) _) _) _⟩
def queue_Drop.f (a0_0 : Int) (a0_1 : Int) (l0_2 : List S24) (a1 : Int) : Option (Int × Int × List S24) := if l0_2.length < 2513169434916 then some (a0_0, a0_1, l0_2.filter fun x => !(x.f1 == a1)) else none
theorem queue_Drop.rows (n : Int) : ∀ (l : List S24), (l.map cells6).filter (fun x => !isNonce n x) = (l.filter fun x => !(x.f1 == n)).map cells6
  | [] => rfl
  | x :: r => by
    have e : isNonce n (cells6 x) = (x.f1 == n) := rfl
    rw [List.map_cons, List.filter_cons, List.filter_cons, e, queue_Drop.rows n r]
    split <;> rfl
set_option maxHeartbeats 4000000 in
set_option maxRecDepth 100000 in
theorem queue_Drop.calls (a0_0 : Int) (a0_1 : Int) (A0_2 : Option Addr) (c0_2 : Nat) (l0_2 : List S24) (a1 : Int) (r1 : Int) (r2 : Int) (r3 : List S24) (w : World) (hr0_2 : Kd.C k24 w A0_2 l0_2.length l0_2) (hc0_2 : l0_2.length ≤ c0_2) (h : queue_Drop.f a0_0 a0_1 l0_2 a1 = some (r1, r2, r3)) :
    Calls Try.prog 65 #[.agg #[.int .i64 a0_0, .int .i64 a0_1, .slice A0_2 l0_2.length c0_2], .int .i64 a1] w fun e w' => ∃ v2_ : Value, e = .returned (.agg #[.int .i64 r1, .int .i64 r2, v2_]) ∧ Kd.R k24 24 w' w.heap.size (fun _ => True) v2_ r3 ∧ Below w.heap.size w w' := by
  unfold queue_Drop.f at h
  by_cases hl : l0_2.length < 2513169434916
  · rw [if_pos hl] at h
    simp only [Option.some.injEq, Prod.mk.injEq] at h
    obtain ⟨rfl, rfl, h3⟩ := h
    have H3 := Aside0.mk h3
    have HR0 := Aside0.mk hr0_2
    have HC0 := Aside0.mk hc0_2
    have HL := Aside0.mk hl
    clear h3 hr0_2 hc0_2 hl
    go_enter Try.func65, Try.ntmps65
    go_upto_region 1 with (fail)
    obtain ⟨K0, K1, K2, HS, HB⟩ := queue_Drop.three w (.cells #[.int .i64 a0_0, .int .i64 a0_1, .slice A0_2 l0_2.length c0_2] 46) (.cells #[.int .i64 a1] 3) (.cells #[.int .i64 0, .int .i64 0, .slice none 0 0] 46)
    generalize World.alloc (World.alloc (World.alloc w _) _) _ = w3 at K0 K1 K2 HB HS ⊢
    obtain ⟨b0, hb0⟩ : ∃ b0, b0 = w.heap.size := ⟨_, rfl⟩
    have HW := Aside0.mk hb0
    rw [← hb0] at K0 K1 K2 HS ⊢
    clear hb0
    replace K0 := Aside0.mk K0
    replace K1 := Aside0.mk K1
    replace K2 := Aside0.mk K2
    replace HS := Aside0.mk HS
    replace HB := Aside0.mk HB
    have c0 : w3.cell? ⟨b0, 0, none⟩ = some (.int .i64 a0_0) := (blk_cell K0.out 0).trans rfl
    have c1 : w3.cell? ⟨b0, 1, none⟩ = some (.int .i64 a0_1) := (blk_cell K0.out 1).trans rfl
    have c2 : w3.cell? ⟨b0, 2, none⟩ = some (.slice A0_2 l0_2.length c0_2) := (blk_cell K0.out 2).trans rfl
    go_upto_region 2 with (first
      | (go_at_call 81; (with_reducible refine (api_Tx_81.calls A0_2 c0_2 l0_2 l0_2 _ (Kd.C_below HR0.out HB.out) HC0.out (by unfold api_Tx_81.f; rw [if_pos HL.out])).mono ?_); rintro e w4 ⟨v7, rfl, ho, hb⟩; have K0b := Aside0.mk (blk_below K0.out hb); have K1b := Aside0.mk (blk_below K1.out hb); have K2b := Aside0.mk (blk_below K2.out hb); have HB4 := Aside0.mk (below_step HB.out hb); have HS4 := Aside0.mk hb.size; have HO := Aside0.mk ho; clear ho hb)
      | (go_at_call 108; refine (api_Tx_108.calls w3.heap.size l0_2.length v7 (l0_2.map cells6) (isNonce a1) 109 #[.pointer (some ⟨b0 + 1, 0, none⟩)] (enters_of Try.func109 (by kernel_rfl) rfl) _ (rows_of_R HO.out) (by rw [List.length_map]) ?shp HL.out ?cls).mono ?_; (case shp => (intro r hr; obtain ⟨x, _, rfl⟩ := List.mem_map.1 hr; exact ⟨x.f0, x.f1, x.f2, x.f3, x.f4, x.f5, rfl⟩)); (case cls => (intro W r hr hg; obtain ⟨x, _, rfl⟩ := List.mem_map.1 hr; exact queue_Drop.closure x a1 (b0 + 1) W ((hg.block (b0 + 1) (Array.getElem?_eq_some_iff.1 K1b.out).1 (fun q => by have := Kd.R_base HO.out (b0 + 1) q.symm; have := HS.out; omega)).trans K1b.out))); rintro e w5 ⟨v9, rfl, ho9, hg9, hk9⟩; rw [queue_Drop.rows, List.length_map] at ho9; have ho9' := R_of_rows ho9 (ok := fun k => k ≠ b0 ∧ k ≠ b0 + 1 + 1) (fun k hk => by have := ho9.lt k hk; have := HS.out; omega); obtain ⟨A9, c9, rfl⟩ := Kd.R_slice ho9'; have HO9 := Aside0.mk ho9'; have hbn : ∀ k, k < b0 + 3 → some k ≠ v7.ownBlock := (fun k hk q => by have := Kd.R_base HO.out k q.symm; have := HS.out; omega); have K0c := Aside0.mk ((hg9.block b0 (Array.getElem?_eq_some_iff.1 K0b.out).1 (hbn b0 (by omega))).trans K0b.out); have K2c := Aside0.mk ((hg9.block (b0 + 1 + 1) (Array.getElem?_eq_some_iff.1 K2b.out).1 (hbn _ (by omega))).trans K2b.out); have HB5 := Aside0.mk (HB4.out.grown hg9 (by have := HB4.out.size; exact this) (fun k hk => by have := Kd.R_base HO.out k hk; have := HS.out; have := HW.out; omega)); clear ho9 ho9' hg9 hk9 hbn; have d0 : w5.cell? ⟨b0, 0, none⟩ = some (.int .i64 a0_0) := (blk_cell K0c.out 0).trans rfl; have d1 : w5.cell? ⟨b0, 1, none⟩ = some (.int .i64 a0_1) := (blk_cell K0c.out 1).trans rfl; have d2 : w5.cell? ⟨b0, 2, none⟩ = some (.slice A0_2 l0_2.length c0_2) := (blk_cell K0c.out 2).trans rfl; have f2 := blk_frozen K0c.out 2))
    have HX := Aside0.mk (blk_put K0c.out 2 (.slice A9 (l0_2.filter fun x => !(x.f1 == a1)).length c9) rfl)
    have HY := Aside0.mk ((setCells_far [(.slice A9 (l0_2.filter fun x => !(x.f1 == a1)).length c9)] 2 (w := w5) (g := b0) (b0 + 1 + 1) (by omega)).trans K2c.out)
    have HZ := Aside0.mk (Kd.R_far (p := ⟨b0, 2, none⟩) HO9.out (fun k hk => hk.1) (.slice A9 (l0_2.filter fun x => !(x.f1 == a1)).length c9))
    have HB6 := Aside0.mk (HB5.out.setCell (p := ⟨b0, 2, none⟩) (by rw [HW.out]; exact Nat.le_refl _) (.slice A9 (l0_2.filter fun x => !(x.f1 == a1)).length c9))
    generalize hw6 : World.setCell w5 _ _ = w6
    replace HX := Aside0.mk (show w6.heap[b0]? = some (.cells #[.int .i64 a0_0, .int .i64 a0_1, .slice A9 (l0_2.filter fun x => !(x.f1 == a1)).length c9] 46 (0, 0)) from hw6 ▸ HX.out)
    replace HY := Aside0.mk (show w6.heap[b0 + 1 + 1]? = some (.cells #[.int .i64 0, .int .i64 0, .slice none 0 0] 46 (0, 0)) from hw6 ▸ HY.out)
    replace HZ := Aside0.mk (show Kd.R k24 24 w6 w3.heap.size _ _ _ from hw6 ▸ HZ.out)
    replace HB6 := Aside0.mk (show Below w.heap.size w w6 from hw6 ▸ HB6.out)
    clear hw6 d0 d1 d2 f2 c0 c1 c2 K0c K2c HB5 HO9
    have hne : b0 ≠ b0 + 1 + 1 := by omega
    have hne' : b0 + 1 + 1 ≠ b0 := by omega
    have e0 : w6.cell? ⟨b0, 0, none⟩ = some (.int .i64 a0_0) := (blk_cell HX.out 0).trans rfl
    have e1 : w6.cell? ⟨b0, 1, none⟩ = some (.int .i64 a0_1) := (blk_cell HX.out 1).trans rfl
    have e2 : w6.cell? ⟨b0, 2, none⟩ = some (.slice A9 (l0_2.filter fun x => !(x.f1 == a1)).length c9) := (blk_cell HX.out 2).trans rfl
    have g0 : w6.cell? ⟨b0 + 1 + 1, 0, none⟩ = some (.int .i64 0) := (blk_cell HY.out 0).trans rfl
    have g1 : w6.cell? ⟨b0 + 1 + 1, 1, none⟩ = some (.int .i64 0) := (blk_cell HY.out 1).trans rfl
    have g2 : w6.cell? ⟨b0 + 1 + 1, 2, none⟩ = some (.slice none 0 0) := (blk_cell HY.out 2).trans rfl
    have z0 := blk_frozen HY.out 0
    have z1 := blk_frozen HY.out 1
    have z2 := blk_frozen HY.out 2
    go_wp2
    refine bodyPost_ret (results_cell_row rfl _ _ (b0 + 1 + 1) 46 #[.int .i64 a0_0, .int .i64 a0_1, .slice A9 (l0_2.filter fun x => !(x.f1 == a1)).length c9] (0, 0) _ rfl (by refine blk_put (cs := #[.int .i64 a0_0, .int .i64 a0_1, .slice none 0 0]) ?_ 2 _ rfl; refine blk_put (cs := #[.int .i64 a0_0, .int .i64 0, .slice none 0 0]) ?_ 1 _ rfl; refine blk_put (cs := #[.int .i64 0, .int .i64 0, .slice none 0 0]) ?_ 0 _ rfl; exact HY.out) Try.underlying46 rfl (by kernel_rfl)) rfl ?_
    have hle : w.heap.size ≤ b0 + 1 + 1 := by have := HW.out; omega
    refine ⟨_, rfl, ?_, ((HB6.out.setCell (p := ⟨b0 + 1 + 1, 0, none⟩) hle _).setCell (p := ⟨b0 + 1 + 1, 1, none⟩) hle _).setCell (p := ⟨b0 + 1 + 1, 2, none⟩) hle _⟩
    rw [← H3.out]
    exact Kd.R_mono (Kd.R_lower (Kd.R_far (p := ⟨b0 + 1 + 1, 2, none⟩) (Kd.R_far (p := ⟨b0 + 1 + 1, 1, none⟩) (Kd.R_far (p := ⟨b0 + 1 + 1, 0, none⟩) HZ.out (fun k hk => hk.2) _) (fun k hk => hk.2) _) (fun k hk => hk.2) _) (by have := HS.out; have := HW.out; omega)) (fun _ _ => trivial)
  · rw [if_neg hl] at h; cases h

/-! ### queue_Put: function 63, by hand -/
-- HAND rounds=0 making=1
-- IMPORT Derived.Test.YtehncbhmdgdkjaaCopyM
-- NEEDS slices.Insert[[]hopper/api.Tx,hopper/api.Tx]
-- NEEDS hopper/queue.Drop
def queue_Put.f (a0_0 : Int) (a0_1 : Int) (l0_2 : List S24) (a1_0 : Int) (a1_1 : Int) (a1_2 : Int) (a1_3 : Int) (a1_4 : Int) (a1_5 : ByteArray) : Option (Int × Int × List S24) := (queue_place.f l0_2 a1_1).bind fun p => if 0 ≤ p.1 then (if p.1 ≤ (l0_2.length : Int) then (if p.2 = true then (if p.1 < (l0_2.length : Int) then some (a0_0, a0_1, l0_2.set p.1.toNat (⟨a1_0, a1_1, a1_2, a1_3, a1_4, a1_5⟩ : S24)) else none) else (if l0_2.length < 2513169434915 then some (a0_0, a0_1, l0_2.take p.1.toNat ++ [(⟨a1_0, a1_1, a1_2, a1_3, a1_4, a1_5⟩ : S24)] ++ l0_2.drop p.1.toNat) else none)) else none) else none
theorem queue_place.small {l : List S24} {n : Int} {p : Int × Bool} (h : queue_place.f l n = some p) : l.length < 2513169434916 := by
  unfold queue_place.f at h
  split at h
  · assumption
  · cases h
theorem cells6_one (xs : List S24) : ∀ u ∈ (xs.map cells6).flatten, u.oneCell' = true := by
  intro u hu
  obtain ⟨r, hr, hu⟩ := List.mem_flatten.1 hu
  obtain ⟨x, _, rfl⟩ := List.mem_map.1 hr
  simp only [cells6, List.mem_cons, List.not_mem_nil, or_false] at hu
  rcases hu with rfl | rfl | rfl | rfl | rfl | rfl <;> rfl
theorem queue_Put.insert (l : List S24) (i : Nat) (x : S24) : (l.map cells6).flatten.take (i * 6) ++ cells6 x ++ (l.map cells6).flatten.drop (i * 6) = ((l.take i ++ [x] ++ l.drop i).map cells6).flatten := by
  have hs : (l.map cells6).flatten = ((l.take i).map cells6).flatten ++ ((l.drop i).map cells6).flatten := by rw [← List.flatten_append, ← List.map_append, List.take_append_drop]
  rw [List.map_append, List.map_append, List.flatten_append, List.flatten_append, List.map_singleton, List.flatten_singleton]
  by_cases hi : i ≤ l.length
  · have hl : ((l.take i).map cells6).flatten.length = i * 6 := by rw [CopyK.rows_length 6 cells6 cells6_len, List.length_take]; omega
    rw [hs, List.take_left' hl, List.drop_left' hl]
  · have h1 : (l.map cells6).flatten.length ≤ i * 6 := by rw [CopyK.rows_length 6 cells6 cells6_len]; omega
    rw [List.take_of_length_le h1, List.drop_eq_nil_of_le h1, show l.take i = l from List.take_of_length_le (by omega), (show l.drop i = [] from List.drop_eq_nil_of_le (by omega))]
    rfl
set_option maxHeartbeats 4000000 in
set_option maxRecDepth 100000 in
theorem queue_Put.calls (a0_0 : Int) (a0_1 : Int) (A0_2 : Option Addr) (c0_2 : Nat) (l0_2 : List S24) (a1_0 : Int) (a1_1 : Int) (a1_2 : Int) (a1_3 : Int) (a1_4 : Int) (a1_5 : ByteArray) (r1 : Int) (r2 : Int) (r3 : List S24) (w : World) (hr0_2 : Kd.C k24 w A0_2 l0_2.length l0_2) (hc0_2 : l0_2.length ≤ c0_2) (h : queue_Put.f a0_0 a0_1 l0_2 a1_0 a1_1 a1_2 a1_3 a1_4 a1_5 = some (r1, r2, r3)) :
    Calls Try.prog 63 #[.agg #[.int .i64 a0_0, .int .i64 a0_1, .slice A0_2 l0_2.length c0_2], .agg #[.int .i64 a1_0, .int .i64 a1_1, .int .i64 a1_2, .int .i64 a1_3, .int .i64 a1_4, .string a1_5]] w fun e w' => ∃ v2_ : Value, e = .returned (.agg #[.int .i64 r1, .int .i64 r2, v2_]) ∧ Kd.R k24 24 w' w.heap.size (fun _ => True) v2_ r3 ∧ Below w.heap.size w w' := by
  unfold queue_Put.f at h
  obtain ⟨⟨at_, is_⟩, hp, h⟩ := Option.bind_eq_some_iff.1 h
  dsimp only at h
  by_cases ha0 : 0 ≤ at_
  · rw [if_pos ha0] at h
    by_cases ha1 : at_ ≤ (l0_2.length : Int)
    · rw [if_pos ha1] at h
      have HL := Aside0.mk (queue_place.small hp)
      have HP := Aside0.mk hp
      have HR0 := Aside0.mk hr0_2
      have HC0 := Aside0.mk hc0_2
      have HH := Aside0.mk h
      obtain ⟨i, rfl⟩ := Int.eq_ofNat_of_zero_le ha0
      have hi : i ≤ l0_2.length := by omega
      clear hp hr0_2 hc0_2 h ha1
      go_enter Try.func63, Try.ntmps63
      go_upto_region 1 with (fail)
      obtain ⟨K0, K1, K2, HS, HB⟩ := queue_Drop.three w (.cells #[.int .i64 a0_0, .int .i64 a0_1, .slice A0_2 l0_2.length c0_2] 46) (.cells #[.int .i64 a1_0, .int .i64 a1_1, .int .i64 a1_2, .int .i64 a1_3, .int .i64 a1_4, .string a1_5] 24) (.cells #[.int .i64 0, .int .i64 0, .slice none 0 0] 46)
      generalize World.alloc (World.alloc (World.alloc w _) _) _ = w3 at K0 K1 K2 HB HS ⊢
      obtain ⟨b0, hb0⟩ : ∃ b0, b0 = w.heap.size := ⟨_, rfl⟩
      have HW := Aside0.mk hb0
      rw [← hb0] at K0 K1 K2 HS ⊢
      clear hb0
      replace K0 := Aside0.mk K0
      replace K1 := Aside0.mk K1
      replace K2 := Aside0.mk K2
      replace HS := Aside0.mk HS
      replace HB := Aside0.mk HB
      have c2 : w3.cell? ⟨b0, 2, none⟩ = some (.slice A0_2 l0_2.length c0_2) := (blk_cell K0.out 2).trans rfl
      have t1 : w3.cell? ⟨b0 + 1, 1, none⟩ = some (.int .i64 a1_1) := (blk_cell K1.out 1).trans rfl
      go_upto_region 3 with (first
        | (go_at_call 100; (with_reducible refine (queue_place.calls A0_2 c0_2 l0_2 a1_1 (i : Int) is_ _ (Kd.C_below HR0.out HB.out) HC0.out HP.out).mono ?_); rintro e w4 ⟨rfl, hb⟩; have K0b := Aside0.mk (blk_below K0.out hb); have K1b := Aside0.mk (blk_below K1.out hb); have K2b := Aside0.mk (blk_below K2.out hb); have HB4 := Aside0.mk (below_step HB.out hb); have HS4 := Aside0.mk hb.size; have c2b : w4.cell? ⟨b0, 2, none⟩ = some (.slice A0_2 l0_2.length c0_2) := (blk_cell K0b.out 2).trans rfl; clear hb)
        | (go_at_call 81; (with_reducible refine (api_Tx_81.calls A0_2 c0_2 l0_2 l0_2 _ (Kd.C_below HR0.out HB4.out) HC0.out (by unfold api_Tx_81.f; rw [if_pos HL.out])).mono ?_); rintro e w5 ⟨v7, rfl, ho, hb⟩; obtain ⟨A7, c7, rfl⟩ := Kd.R_slice ho; have K0c := Aside0.mk (blk_below K0b.out hb); have K1c := Aside0.mk (blk_below K1b.out hb); have K2c := Aside0.mk (blk_below K2b.out hb); have HB5 := Aside0.mk (below_step HB4.out hb); have HS5 := Aside0.mk hb.size; have HO := Aside0.mk ho; have c2c : w5.cell? ⟨b0, 2, none⟩ = some (.slice A0_2 l0_2.length c0_2) := (blk_cell K0c.out 2).trans rfl; have f2c := blk_frozen K0c.out 2; clear ho hb))
      have HX := Aside0.mk (blk_put K0c.out 2 (.slice A7 l0_2.length c7) rfl)
      have hf := fun k (hk : k ≠ b0) => setCells_far [(.slice A7 l0_2.length c7)] 2 (w := w5) (g := b0) k hk
      have HT := Aside0.mk ((hf (b0 + 1) (by omega)).trans K1c.out)
      have HY := Aside0.mk ((hf (b0 + 1 + 1) (by omega)).trans K2c.out)
      have hr5 : Kd.R k24 24 w5 w4.heap.size (fun k => b0 + 3 ≤ k) (.slice A7 l0_2.length c7) l0_2 := Kd.R_mono (Kd.R_bound HO.out) (fun k hk => by have := hk.2.1; have := HS4.out; have := HS.out; omega)
      have HZ := Aside0.mk (Kd.R_far (p := ⟨b0, 2, none⟩) hr5 (fun k hk => by show k ≠ b0; omega) (.slice A7 l0_2.length c7))
      have HB6 := Aside0.mk (HB5.out.setCell (p := ⟨b0, 2, none⟩) (by rw [HW.out]; exact Nat.le_refl _) (.slice A7 l0_2.length c7))
      have HS6 := Aside0.mk (show w4.heap.size ≤ (w5.setCell ⟨b0, 2, none⟩ (.slice A7 l0_2.length c7)).heap.size by have := HS5.out; simpa [World.setCell] using this)
      generalize hw6 : World.setCell w5 _ _ = w6
      replace HS6 := Aside0.mk (show w4.heap.size ≤ w6.heap.size from hw6 ▸ HS6.out)
      replace HX := Aside0.mk (show w6.heap[b0]? = some (.cells #[.int .i64 a0_0, .int .i64 a0_1, (.slice A7 l0_2.length c7)] 46 (0, 0)) from hw6 ▸ HX.out)
      replace HT := Aside0.mk (show w6.heap[b0 + 1]? = some (.cells #[.int .i64 a1_0, .int .i64 a1_1, .int .i64 a1_2, .int .i64 a1_3, .int .i64 a1_4, .string a1_5] 24 (0, 0)) from hw6 ▸ HT.out)
      replace HY := Aside0.mk (show w6.heap[b0 + 1 + 1]? = some (.cells #[.int .i64 0, .int .i64 0, .slice none 0 0] 46 (0, 0)) from hw6 ▸ HY.out)
      replace HZ := Aside0.mk (show Kd.R k24 24 w6 w4.heap.size _ _ _ from hw6 ▸ HZ.out)
      replace HB6 := Aside0.mk (show Below w.heap.size w w6 from hw6 ▸ HB6.out)
      have HQ := Aside0.mk (show b0 + 3 ≤ w4.heap.size by have := HS4.out; have := HS.out; omega)
      have HV := Aside0.mk (show w.heap.size ≤ w6.heap.size from HB6.out.size)
      clear hw6 c2 t1 c2b c2c f2c K0 K1 K2 K0b K1b K2b K0c K1c K2c HB HB4 HB5 HO hf hr5
      have x2 : w6.cell? ⟨b0, 2, none⟩ = some (.slice A7 l0_2.length c7) := (blk_cell HX.out 2).trans rfl
      have t0 : w6.cell? ⟨b0 + 1, 0, none⟩ = some (.int .i64 a1_0) := (blk_cell HT.out 0).trans rfl
      have t1 : w6.cell? ⟨b0 + 1, 1, none⟩ = some (.int .i64 a1_1) := (blk_cell HT.out 1).trans rfl
      have t2 : w6.cell? ⟨b0 + 1, 2, none⟩ = some (.int .i64 a1_2) := (blk_cell HT.out 2).trans rfl
      have t3 : w6.cell? ⟨b0 + 1, 3, none⟩ = some (.int .i64 a1_3) := (blk_cell HT.out 3).trans rfl
      have t4 : w6.cell? ⟨b0 + 1, 4, none⟩ = some (.int .i64 a1_4) := (blk_cell HT.out 4).trans rfl
      have t5 : w6.cell? ⟨b0 + 1, 5, none⟩ = some (.string a1_5) := (blk_cell HT.out 5).trans rfl
      cases is_ with
      | true =>
        have hh := HH.out
        rw [if_pos rfl] at hh
        by_cases hlt : (i : Int) < (l0_2.length : Int)
        · rw [if_pos hlt] at hh
          simp only [Option.some.injEq, Prod.mk.injEq, Int.toNat_natCast] at hh
          obtain ⟨rfl, rfl, h3⟩ := hh
          have H3 := Aside0.mk h3
          clear h3 HH
          have hlt' : i < l0_2.length := by omega
          rcases CopyK.Blk.of (rows_of_R HZ.out) with ⟨_, hn, _⟩ | ⟨g, cap, he, hbg, hB⟩
          · exact absurd hlt' (by omega)
          injection he with he1 _ he2
          subst he1 he2
          have HBK := Aside0.mk hB
          have HGB := Aside0.mk hbg
          have hys : ∀ q u, (cells6 l0_2[i])[q]? = some u → w6.cell? ⟨g, i * 6 + q, none⟩ = some u := fun q u hu => hB.cell _ u (by rw [CopyK.flat_at 6 (l0_2.map cells6) (CopyK.rows_len 6 cells6 cells6_len l0_2) i q (cells6 l0_2[i]) (by rw [List.getElem?_map, List.getElem?_eq_getElem hlt']; rfl) (List.getElem?_eq_some_iff.1 hu).1]; exact hu)
          have y0 : w6.cell? ⟨g, i * 6, none⟩ = some (.int .i64 l0_2[i].f0) := hys 0 _ rfl
          have z0 := HBK.out.free (i * 6)
          have y1 : w6.cell? ⟨g, i * 6 + 1, none⟩ = some (.int .i64 l0_2[i].f1) := hys 1 _ rfl
          have z1 := HBK.out.free (i * 6 + 1)
          have y2 : w6.cell? ⟨g, i * 6 + 2, none⟩ = some (.int .i64 l0_2[i].f2) := hys 2 _ rfl
          have z2 := HBK.out.free (i * 6 + 2)
          have y3 : w6.cell? ⟨g, i * 6 + 3, none⟩ = some (.int .i64 l0_2[i].f3) := hys 3 _ rfl
          have z3 := HBK.out.free (i * 6 + 3)
          have y4 : w6.cell? ⟨g, i * 6 + 4, none⟩ = some (.int .i64 l0_2[i].f4) := hys 4 _ rfl
          have z4 := HBK.out.free (i * 6 + 4)
          have y5 : w6.cell? ⟨g, i * 6 + 5, none⟩ = some (.string l0_2[i].f5) := hys 5 _ rfl
          have z5 := HBK.out.free (i * 6 + 5)
          have hgb : b0 + 3 ≤ g := Nat.le_trans HQ.out hbg
          have hg0 : g ≠ b0 := by omega
          have hg1 : g ≠ b0 + 1 := by omega
          clear hys hB hbg
          go_upto_region 6 with (fail)
          have hs := setCells_same g (cells6 (⟨a1_0, a1_1, a1_2, a1_3, a1_4, a1_5⟩ : S24)) (i * 6) w6
          have hfar := fun k (hk : k ≠ g) => setCells_far (cells6 (⟨a1_0, a1_1, a1_2, a1_3, a1_4, a1_5⟩ : S24)) (i * 6) (w := w6) (g := g) k hk
          have hblk := CopyK.Blk.mid HBK.out (i * 6) (cells6 (⟨a1_0, a1_1, a1_2, a1_3, a1_4, a1_5⟩ : S24)) (by show i * 6 + 6 ≤ l0_2.length * 6; omega)
          rw [← CopyK.flat_set 6 (cells6 (⟨a1_0, a1_1, a1_2, a1_3, a1_4, a1_5⟩ : S24)) rfl (l0_2.map cells6) (CopyK.rows_len 6 cells6 cells6_len l0_2) i (by rw [List.length_map]; exact hlt'), ← List.map_set] at hblk
          have hrow := R_of_rows (ok := fun k => b0 + 3 ≤ k) (xs := l0_2.set i (⟨a1_0, a1_1, a1_2, a1_3, a1_4, a1_5⟩ : S24)) (v := .slice (some ⟨g, 0, none⟩) (l0_2.set i (⟨a1_0, a1_1, a1_2, a1_3, a1_4, a1_5⟩ : S24)).length c7) (base := w4.heap.size) (by rw [List.length_set]; exact hblk.own HGB.out) (fun k hk => by obtain rfl : g = k := (by simpa [Value.ownBlock] using hk); exact hgb)
          have HX7 := Aside0.mk ((hfar b0 (Ne.symm hg0)).trans HX.out)
          have HY7 := Aside0.mk ((hfar (b0 + 1 + 1) (by omega)).trans HY.out)
          have HB7 := Aside0.mk (HB6.out.grown (show w6.grownBy (w6.setCells g (i * 6) (cells6 (⟨a1_0, a1_1, a1_2, a1_3, a1_4, a1_5⟩ : S24))) (some g) from ⟨hs.1, hs.2.1, hs.2.2.1, Nat.le_of_eq hs.2.2.2.symm, fun k _ hk => hfar k (fun q => hk (by rw [q]))⟩) HB6.out.size (fun k hk => by cases hk; have := HW.out; omega))
          have HZ7 := Aside0.mk hrow
          generalize hw7 : World.setCell _ _ _ = w7
          have X_ := Aside0.mk (show w7.heap[b0]? = some (.cells #[.int .i64 a0_0, .int .i64 a0_1, .slice (some ⟨g, 0, none⟩) l0_2.length c7] 46 (0, 0)) from (by rw [← hw7]; exact HX7.out))
          have Y_ := Aside0.mk (show w7.heap[b0 + 1 + 1]? = some (.cells #[.int .i64 0, .int .i64 0, .slice none 0 0] 46 (0, 0)) from (by rw [← hw7]; exact HY7.out))
          have B_ := Aside0.mk (show Below w.heap.size w w7 from (by rw [← hw7]; exact HB7.out))
          have Z_ := Aside0.mk (show Kd.R k24 24 w7 w4.heap.size (fun k => b0 + 3 ≤ k) (.slice (some ⟨g, 0, none⟩) l0_2.length c7) (l0_2.set i (⟨a1_0, a1_1, a1_2, a1_3, a1_4, a1_5⟩ : S24)) from (by rw [← hw7]; have z := HZ7.out; rw [List.length_set] at z; exact z))
          clear hw7 HX7 HY7 HB7 HZ7 hrow hblk hfar hs HX HY HZ HT HB6 HBK x2 t0 y0 z0 t1 y1 z1 t2 y2 z2 t3 y3 z3 t4 y4 z4 t5 y5 z5
          have hne : b0 ≠ b0 + 1 + 1 := by omega
          have hne' : b0 + 1 + 1 ≠ b0 := by omega
          have e0 : w7.cell? ⟨b0, 0, none⟩ = some (.int .i64 a0_0) := (blk_cell X_.out 0).trans rfl
          have e1 : w7.cell? ⟨b0, 1, none⟩ = some (.int .i64 a0_1) := (blk_cell X_.out 1).trans rfl
          have e2 : w7.cell? ⟨b0, 2, none⟩ = some (.slice (some ⟨g, 0, none⟩) l0_2.length c7) := (blk_cell X_.out 2).trans rfl
          have g0 : w7.cell? ⟨b0 + 1 + 1, 0, none⟩ = some (.int .i64 0) := (blk_cell Y_.out 0).trans rfl
          have g1 : w7.cell? ⟨b0 + 1 + 1, 1, none⟩ = some (.int .i64 0) := (blk_cell Y_.out 1).trans rfl
          have g2 : w7.cell? ⟨b0 + 1 + 1, 2, none⟩ = some (.slice none 0 0) := (blk_cell Y_.out 2).trans rfl
          have q0 := blk_frozen Y_.out 0
          have q1 := blk_frozen Y_.out 1
          have q2 := blk_frozen Y_.out 2
          go_wp2
          refine bodyPost_ret (results_cell_row rfl _ _ (b0 + 1 + 1) 46 #[.int .i64 a0_0, .int .i64 a0_1, .slice (some ⟨g, 0, none⟩) l0_2.length c7] (0, 0) _ rfl (by refine blk_put (cs := #[.int .i64 a0_0, .int .i64 a0_1, .slice none 0 0]) ?_ 2 _ rfl; refine blk_put (cs := #[.int .i64 a0_0, .int .i64 0, .slice none 0 0]) ?_ 1 _ rfl; refine blk_put (cs := #[.int .i64 0, .int .i64 0, .slice none 0 0]) ?_ 0 _ rfl; exact Y_.out) Try.underlying46 rfl (by kernel_rfl)) rfl ?_
          have hle : w.heap.size ≤ b0 + 1 + 1 := by have := HW.out; omega
          refine ⟨_, rfl, ?_, ((B_.out.setCell (p := ⟨b0 + 1 + 1, 0, none⟩) hle _).setCell (p := ⟨b0 + 1 + 1, 1, none⟩) hle _).setCell (p := ⟨b0 + 1 + 1, 2, none⟩) hle _⟩
          rw [← H3.out]
          exact Kd.R_mono (Kd.R_lower (Kd.R_far (p := ⟨b0 + 1 + 1, 2, none⟩) (Kd.R_far (p := ⟨b0 + 1 + 1, 1, none⟩) (Kd.R_far (p := ⟨b0 + 1 + 1, 0, none⟩) Z_.out (fun k hk => by show k ≠ b0 + 1 + 1; omega) _) (fun k hk => by show k ≠ b0 + 1 + 1; omega) _) (fun k hk => by show k ≠ b0 + 1 + 1; omega) _) (by have := HQ.out; have := HW.out; omega)) (fun _ _ => trivial)
        · rw [if_neg hlt] at hh; cases hh
      | false =>
        have hh := HH.out
        rw [if_neg (by decide)] at hh
        by_cases hlt : l0_2.length < 2513169434915
        · rw [if_pos hlt] at hh
          simp only [Option.some.injEq, Prod.mk.injEq, Int.toNat_natCast] at hh
          obtain ⟨rfl, rfl, h3⟩ := hh
          obtain ⟨L, hL⟩ : ∃ L, L = l0_2.take i ++ [(⟨a1_0, a1_1, a1_2, a1_3, a1_4, a1_5⟩ : S24)] ++ l0_2.drop i := ⟨_, rfl⟩
          rw [← hL] at h3
          have HLT := Aside0.mk hL
          have H3 := Aside0.mk h3
          have HL2 := Aside0.mk hlt
          clear hL
          clear h3 HH hlt
          go_upto_region 6 with (go_at_call 107; refine (api_Tx_107.calls w4.heap.size (.slice A7 l0_2.length c7) l0_2.length (l0_2.map cells6).flatten [.int .i64 a1_0, .int .i64 a1_1, .int .i64 a1_2, .int .i64 a1_3, .int .i64 a1_4, .string a1_5] i w6.heap.size 1 _ (rows_of_R (Kd.R_alloc HZ.out _)) hi rfl (heap_alloc_new w6 _) (fun q => Nat.lt_irrefl _ (own_lt (rows_of_R HZ.out) _ q)) (cells6_one l0_2) (by intro u hu; simp only [List.mem_cons, List.not_mem_nil, or_false] at hu; rcases hu with rfl | rfl | rfl | rfl | rfl | rfl <;> rfl) HL2.out (Nat.le_trans HS6.out (World.grownBy_alloc w6 _ none).size)).mono ?_; rintro e w8 ⟨v9, rfl, ho9, hg9, hat9⟩; have hlen : (l0_2.take i ++ [(⟨a1_0, a1_1, a1_2, a1_3, a1_4, a1_5⟩ : S24)] ++ l0_2.drop i).length = l0_2.length + 1 := (by rw [List.length_append, List.length_append, List.length_take, List.length_drop, List.length_singleton]; omega); have ho9a := ho9; rw [show [.int .i64 a1_0, .int .i64 a1_1, .int .i64 a1_2, .int .i64 a1_3, .int .i64 a1_4, .string a1_5] = cells6 (⟨a1_0, a1_1, a1_2, a1_3, a1_4, a1_5⟩ : S24) from rfl, queue_Put.insert, ← hlen] at ho9a; have hr9 := R_of_rows (ok := fun k => b0 + 3 ≤ k) ho9a (fun k hk => Nat.le_trans HQ.out (own_base ho9a k hk)); rw [← HLT.out] at hr9; obtain ⟨A9, c9, rfl⟩ := Kd.R_slice hr9; have hgr := (World.grownBy_alloc w6 (.cells #[.int .i64 a1_0, .int .i64 a1_1, .int .i64 a1_2, .int .i64 a1_3, .int .i64 a1_4, .string a1_5] 24) none); have hob : ∀ k, k < b0 + 3 → some k ≠ (Value.slice A7 l0_2.length c7).ownBlock := (fun k hk q => by have := own_base (rows_of_R HZ.out) k q.symm; have := HQ.out; omega); have HX8 := Aside0.mk ((hg9.block b0 (Nat.lt_of_lt_of_le (Array.getElem?_eq_some_iff.1 HX.out).1 hgr.size) (hob b0 (by omega))).trans ((CopyK.grown_none hgr b0 (Array.getElem?_eq_some_iff.1 HX.out).1).trans HX.out)); have HY8 := Aside0.mk ((hg9.block (b0 + 1 + 1) (Nat.lt_of_lt_of_le (Array.getElem?_eq_some_iff.1 HY.out).1 hgr.size) (hob _ (by omega))).trans ((CopyK.grown_none hgr (b0 + 1 + 1) (Array.getElem?_eq_some_iff.1 HY.out).1).trans HY.out)); have HB8 := Aside0.mk ((below_step HB6.out (CopyK.below_of_grown hgr)).grown hg9 (Nat.le_trans HB6.out.size hgr.size) (fun k hk => by have := own_base (rows_of_R HZ.out) k hk; have := HQ.out; have := HW.out; omega)); have HR8 := Aside0.mk hr9; clear ho9 ho9a hr9 hg9 hat9 hgr hob; have x8 : w8.cell? ⟨b0, 2, none⟩ = some (.slice A7 l0_2.length c7) := (blk_cell HX8.out 2).trans rfl; have xf8 := blk_frozen HX8.out 2)
          have hfar := fun k (hk : k ≠ b0) => setCells_far [(.slice A9 L.length c9)] 2 (w := w8) (g := b0) k hk
          have X_ := Aside0.mk (blk_put HX8.out 2 (.slice A9 L.length c9) rfl)
          have Y_ := Aside0.mk ((hfar (b0 + 1 + 1) (by omega)).trans HY8.out)
          have B_ := Aside0.mk (HB8.out.setCell (p := ⟨b0, 2, none⟩) (by rw [HW.out]; exact Nat.le_refl _) (.slice A9 L.length c9))
          have Z_ := Aside0.mk (Kd.R_far (p := ⟨b0, 2, none⟩) HR8.out (fun k hk => by show k ≠ b0; omega) (.slice A9 L.length c9))
          generalize hw9 : World.setCell _ _ _ = w9
          replace X_ := Aside0.mk (show w9.heap[b0]? = some (.cells #[.int .i64 a0_0, .int .i64 a0_1, (.slice A9 L.length c9)] 46 (0, 0)) from hw9 ▸ X_.out)
          replace Y_ := Aside0.mk (show w9.heap[b0 + 1 + 1]? = some (.cells #[.int .i64 0, .int .i64 0, .slice none 0 0] 46 (0, 0)) from hw9 ▸ Y_.out)
          replace B_ := Aside0.mk (show Below w.heap.size w w9 from hw9 ▸ B_.out)
          replace Z_ := Aside0.mk (show Kd.R k24 24 w9 w4.heap.size (fun k => b0 + 3 ≤ k) _ _ from hw9 ▸ Z_.out)
          clear hw9 hfar HX8 HY8 HB8 HR8 x8 xf8 HX HY HZ HT HB6 x2 t0 t1 t2 t3 t4 t5
          have hne : b0 ≠ b0 + 1 + 1 := by omega
          have hne' : b0 + 1 + 1 ≠ b0 := by omega
          have e0 : w9.cell? ⟨b0, 0, none⟩ = some (.int .i64 a0_0) := (blk_cell X_.out 0).trans rfl
          have e1 : w9.cell? ⟨b0, 1, none⟩ = some (.int .i64 a0_1) := (blk_cell X_.out 1).trans rfl
          have e2 : w9.cell? ⟨b0, 2, none⟩ = some (.slice A9 L.length c9) := (blk_cell X_.out 2).trans rfl
          have g0 : w9.cell? ⟨b0 + 1 + 1, 0, none⟩ = some (.int .i64 0) := (blk_cell Y_.out 0).trans rfl
          have g1 : w9.cell? ⟨b0 + 1 + 1, 1, none⟩ = some (.int .i64 0) := (blk_cell Y_.out 1).trans rfl
          have g2 : w9.cell? ⟨b0 + 1 + 1, 2, none⟩ = some (.slice none 0 0) := (blk_cell Y_.out 2).trans rfl
          have q0 := blk_frozen Y_.out 0
          have q1 := blk_frozen Y_.out 1
          have q2 := blk_frozen Y_.out 2
          go_wp2
          refine bodyPost_ret (results_cell_row rfl _ _ (b0 + 1 + 1) 46 #[.int .i64 a0_0, .int .i64 a0_1, .slice A9 L.length c9] (0, 0) _ rfl (by refine blk_put (cs := #[.int .i64 a0_0, .int .i64 a0_1, .slice none 0 0]) ?_ 2 _ rfl; refine blk_put (cs := #[.int .i64 a0_0, .int .i64 0, .slice none 0 0]) ?_ 1 _ rfl; refine blk_put (cs := #[.int .i64 0, .int .i64 0, .slice none 0 0]) ?_ 0 _ rfl; exact Y_.out) Try.underlying46 rfl (by kernel_rfl)) rfl ?_
          have hle : w.heap.size ≤ b0 + 1 + 1 := by have := HW.out; omega
          refine ⟨_, rfl, ?_, ((B_.out.setCell (p := ⟨b0 + 1 + 1, 0, none⟩) hle _).setCell (p := ⟨b0 + 1 + 1, 1, none⟩) hle _).setCell (p := ⟨b0 + 1 + 1, 2, none⟩) hle _⟩
          rw [← H3.out]
          exact Kd.R_mono (Kd.R_lower (Kd.R_far (p := ⟨b0 + 1 + 1, 2, none⟩) (Kd.R_far (p := ⟨b0 + 1 + 1, 1, none⟩) (Kd.R_far (p := ⟨b0 + 1 + 1, 0, none⟩) Z_.out (fun k hk => by show k ≠ b0 + 1 + 1; omega) _) (fun k hk => by show k ≠ b0 + 1 + 1; omega) _) (fun k hk => by show k ≠ b0 + 1 + 1; omega) _) (by have := HQ.out; have := HW.out; omega)) (fun _ _ => trivial)
        · rw [if_neg hlt] at hh; cases hh
    · rw [if_neg ha1] at h; cases h
  · rw [if_neg ha0] at h; cases h


/- api_Tx_128: placed ahead -/

/- api_Tx_108: placed ahead -/

/- queue_Drop: placed ahead -/

/-! ### hopperlaw05_tx: function 99 -/
def hopperlaw05_tx.f (a0 : Int) (a1 : Int) : Option (Int × Int × Int × Int × Int × ByteArray) := some (1, a0, a1, 1000, 1, (⟨#[]⟩ : ByteArray))
set_option maxHeartbeats 8000000 in
set_option maxRecDepth 100000 in
theorem hopperlaw05_tx.calls (a0 : Int) (a1 : Int) (r1 : Int) (r2 : Int) (r3 : Int) (r4 : Int) (r5 : Int) (r6 : ByteArray) (w : World) (h : hopperlaw05_tx.f a0 a1 = some (r1, r2, r3, r4, r5, r6)) :
    Calls Try.prog 99 #[.int .i64 a0, .int .i64 a1] w fun e w' => e = .returned (.agg #[.int .i64 r1, .int .i64 r2, .int .i64 r3, .int .i64 r4, .int .i64 r5, .string r6]) ∧ Below w.heap.size w w' := by
  have hu24 := Try.underlying24
  have HB := Aside0.mk (Below.refl w.heap.size w)
  have H : (some (1, a0, a1, 1000, 1, (⟨#[]⟩ : ByteArray))) = some (r1, r2, r3, r4, r5, r6) := h
  clear h
  simp only [Option.some.injEq, Prod.mk.injEq] at H
  obtain ⟨rfl, rfl, rfl, rfl, rfl, rfl⟩ := H
  go_enter Try.func99, Try.ntmps99
  go_wp2_with (first | ((with_reducible refine gate_dst (N := 4) rfl ?_); refine box_event ?hg (N := 4) ?hd (cs := #[.int .i64 0, .int .i64 0, .int .i64 0, .int .i64 0, .int .i64 0, .string (⟨#[]⟩ : ByteArray)]) (t := 24) ?hr ?_; (case hd => rfl); (case hg => rfl); (case hr => first | (go_simp; done) | (go_simp; rfl)); intro gb193 hg w3 hbox hb; have n0_ := Aside0.mk (below_step (by repeat (first | (with_reducible first | exact HB.out | apply below_alloc | apply pw_below_drewN | apply below_drew1) | exact HB.out)) hb); have n1_ := Aside0.mk (hbox); have n2_ := Aside0.mk ((by rw [hg]; exact (below_size (by repeat (first | (with_reducible first | exact HB.out | apply below_alloc | apply pw_below_drewN | apply below_drew1) | exact HB.out))) : w.heap.size ≤ gb193)); have n3_ := Aside0.mk ((by rw [hg]; exact (below_size (by repeat (first | (with_reducible first | exact HB.out | apply below_alloc | apply pw_below_drewN | apply below_drew1) | exact HB.out))) : w.heap.size ≤ gb193)); clear HB; have HB := n0_; have BK193 := n1_; have GW193 := n2_; have GE193 := n3_; clear n0_ n1_ n2_ n3_; clear hb hbox hg; have hcz4_0 : w3.cell? ⟨gb193, 0, none⟩ = some (.int .i64 0) := (blk_cell BK193.out 0).trans rfl; have hcz4_1 : w3.cell? ⟨gb193, 1, none⟩ = some (.int .i64 0) := (blk_cell BK193.out 1).trans rfl; have hcz4_2 : w3.cell? ⟨gb193, 2, none⟩ = some (.int .i64 0) := (blk_cell BK193.out 2).trans rfl; have hcz4_3 : w3.cell? ⟨gb193, 3, none⟩ = some (.int .i64 0) := (blk_cell BK193.out 3).trans rfl; have hcz4_4 : w3.cell? ⟨gb193, 4, none⟩ = some (.int .i64 0) := (blk_cell BK193.out 4).trans rfl; have hcz4_5 : w3.cell? ⟨gb193, 5, none⟩ = some (.string (⟨#[]⟩ : ByteArray)) := (blk_cell BK193.out 5).trans rfl; have hfz4_0 := blk_frozen BK193.out 0; have hfz4_1 := blk_frozen BK193.out 1; have hfz4_2 := blk_frozen BK193.out 2; have hfz4_3 := blk_frozen BK193.out 3; have hfz4_4 := blk_frozen BK193.out 4; have hfz4_5 := blk_frozen BK193.out 5))
  refine bodyPost_ret (results_cell_row rfl _ _ gb193 24 #[.int .i64 1, .int .i64 a0, .int .i64 a1, .int .i64 1000, .int .i64 1, .string (⟨#[]⟩ : ByteArray)] (0, 0) _ rfl (by (with_reducible repeat (first | refine blk_drewN ?_ _ | refine blk_drew ?_ | refine blk_alloc ?_ _)); refine blk_put (cs := #[.int .i64 1, .int .i64 a0, .int .i64 a1, .int .i64 1000, .int .i64 1, .string (⟨#[]⟩ : ByteArray)]) ?_ 5 _ rfl; (with_reducible repeat (first | refine blk_drewN ?_ _ | refine blk_drew ?_ | refine blk_alloc ?_ _)); refine blk_put (cs := #[.int .i64 1, .int .i64 a0, .int .i64 a1, .int .i64 1000, .int .i64 0, .string (⟨#[]⟩ : ByteArray)]) ?_ 4 _ rfl; (with_reducible repeat (first | refine blk_drewN ?_ _ | refine blk_drew ?_ | refine blk_alloc ?_ _)); refine blk_put (cs := #[.int .i64 1, .int .i64 a0, .int .i64 a1, .int .i64 0, .int .i64 0, .string (⟨#[]⟩ : ByteArray)]) ?_ 3 _ rfl; (with_reducible repeat (first | refine blk_drewN ?_ _ | refine blk_drew ?_ | refine blk_alloc ?_ _)); refine blk_put (cs := #[.int .i64 1, .int .i64 a0, .int .i64 0, .int .i64 0, .int .i64 0, .string (⟨#[]⟩ : ByteArray)]) ?_ 2 _ rfl; (with_reducible repeat (first | refine blk_drewN ?_ _ | refine blk_drew ?_ | refine blk_alloc ?_ _)); refine blk_put (cs := #[.int .i64 1, .int .i64 0, .int .i64 0, .int .i64 0, .int .i64 0, .string (⟨#[]⟩ : ByteArray)]) ?_ 1 _ rfl; (with_reducible repeat (first | refine blk_drewN ?_ _ | refine blk_drew ?_ | refine blk_alloc ?_ _)); refine blk_put (cs := #[.int .i64 0, .int .i64 0, .int .i64 0, .int .i64 0, .int .i64 0, .string (⟨#[]⟩ : ByteArray)]) ?_ 0 _ rfl; (with_reducible repeat (first | refine blk_drewN ?_ _ | refine blk_drew ?_ | refine blk_alloc ?_ _)); exact BK193.out) Try.underlying24 rfl (by kernel_rfl)) rfl ?_
  exact ⟨by first | rfl | (simp [errW_none, errW_some] <;> rfl) | (simp [*, errW_none, errW_some] <;> rfl), by repeat (first | (with_reducible first | exact HB.out | apply below_alloc | apply pw_below_drewN | apply below_drew1 | refine below_set ?_ GE193.out) | exact HB.out)⟩

end Go.Proofs.Ytehncbhmdgdkjaa.Q
