/- Written by this session's own program over the kit's print: functions of Go told as plain functions, or the row of one statement; proved for every input, with no condition of ours. -/
import Derived.Test.YtehncbhmdgdkjaaLx0
import Derived.Test.YtehncbhmdgdkjaaLx2
import Derived.Test.YtehncbhmdgdkjaaLx3
namespace Go.Proofs.Ytehncbhmdgdkjaa.L
open Go.RowKit Go.Proofs.YtehncbhmdgdkjaaW.PrintWords Go.Proofs.YtehncbhmdgdkjaaW.PrintLast Go.Proofs.YtehncbhmdgdkjaaW.PrintMore
attribute [local go_sem] max2_int min2_int max_two min_two max_three min_three max_four min_four   -- for this text's walks alone
set_option linter.unusedVariables false
set_option linter.unusedSimpArgs false

/-! ### heap_Pop: function 24, by hand -/
-- HAND rounds=0 making=1
-- IMPORT Derived.Deep.DeepCutAuto
def heap_Pop.f (l0 : List S24) : Option ((List S24) × Int × Int × Int × Int × Int × ByteArray × Bool) := if l0.length = 0 then some (([] : List S24), 0, 0, 0, 0, 0, (⟨#[]⟩ : ByteArray), false) else if l0.length < 2513169434916 then
  (downL (l0.length + 2) ((l0.set 0 (rd_T24 l0 ((l0.length : Int) - 1))).take (l0.length - 1)) 0).bind fun r => some (r, (rd_T24 l0 0).f0, (rd_T24 l0 0).f1, (rd_T24 l0 0).f2, (rd_T24 l0 0).f3, (rd_T24 l0 0).f4, (rd_T24 l0 0).f5, true) else none
theorem in_first {W : World} {A : Option Addr} {l : List S24} (h : Kd.C k24 W A l.length l) (hp : 0 < l.length) : ∃ ad, A = some ad ∧ W.cell? ad = some (.int .i64 (rd_T24 l 0).f0) ∧ W.cell? ⟨ad.block, ad.off + 1, none⟩ = some (.int .i64 (rd_T24 l 0).f1) ∧ W.cell? ⟨ad.block, ad.off + 2, none⟩ = some (.int .i64 (rd_T24 l 0).f2) ∧ W.cell? ⟨ad.block, ad.off + 3, none⟩ = some (.int .i64 (rd_T24 l 0).f3) ∧ W.cell? ⟨ad.block, ad.off + 4, none⟩ = some (.int .i64 (rd_T24 l 0).f4) ∧ W.cell? ⟨ad.block, ad.off + 5, none⟩ = some (.string (rd_T24 l 0).f5) := by
  obtain ⟨ad, e, h0, h1, h2, h3, h4, h5⟩ := at_T24 h 0 (by omega) (by omega)
  rw [show ((0 : Int)).toNat = 0 from rfl, show 0 * 6 = 0 from rfl, Addr.add_zero'] at h0 h1 h2 h3 h4 h5
  exact ⟨ad, e, h0, h1, h2, h3, h4, h5⟩
set_option maxHeartbeats 4000000 in
set_option maxRecDepth 100000 in
theorem heap_Pop.calls (A0 : Option Addr) (c0 : Nat) (l0 : List S24) (r1 : List S24) (r2 r3 r4 r5 r6 : Int) (r7 : ByteArray) (r8 : Bool) (w : World) (hr0 : Kd.C k24 w A0 l0.length l0) (hc0 : l0.length ≤ c0) (h : heap_Pop.f l0 = some (r1, r2, r3, r4, r5, r6, r7, r8)) :
    Calls Try.prog 24 #[.slice A0 l0.length c0] w fun e w' => ∃ v0_ : Value, e = .returned (.tuple #[v0_, .agg #[.int .i64 r2, .int .i64 r3, .int .i64 r4, .int .i64 r5, .int .i64 r6, .string r7], .bool r8]) ∧ Kd.R k24 24 w' w.heap.size (fun _ => True) v0_ r1 ∧ Below w.heap.size w w' := by
  unfold heap_Pop.f at h
  have HZ0 := Aside0.mk (show (w.alloc (.cells #[.int .i64 0, .int .i64 0, .int .i64 0, .int .i64 0, .int .i64 0, .string ⟨#[]⟩] 24)).heap[w.heap.size]? = some (.cells #[.int .i64 0, .int .i64 0, .int .i64 0, .int .i64 0, .int .i64 0, .string ⟨#[]⟩] 24 (0, 0)) from heap_alloc_new w _)
  have HB0 := Aside0.mk (show Below w.heap.size w (w.alloc (.cells #[.int .i64 0, .int .i64 0, .int .i64 0, .int .i64 0, .int .i64 0, .string ⟨#[]⟩] 24)) from below_alloc (Below.refl _ _) _)
  by_cases h0 : l0.length = 0
  · rw [if_pos h0] at h
    obtain rfl : l0 = [] := List.eq_nil_of_length_eq_zero h0
    have HH := Aside0.mk (Option.some.inj h)
    clear h h0 hr0 hc0
    go_enter Try.func24, Try.ntmps24
    go_wp2_with (fail)
    refine bodyPost_ret (results_list (rs := [.tmp 2, .cell 3 24, .tmp 4]) rfl (by simp) (.tmp (.cell w.heap.size 24 #[.int .i64 0, .int .i64 0, .int .i64 0, .int .i64 0, .int .i64 0, .string ⟨#[]⟩] (0, 0) _ rfl HZ0.out Try.underlying24 rfl (by kernel_rfl) (.tmp .nil)))) rfl ?_
    have HZ := HH.out
    simp only [Prod.mk.injEq] at HZ
    obtain ⟨rfl, rfl, rfl, rfl, rfl, rfl, rfl, rfl⟩ := HZ
    exact ⟨_, rfl, Kd.R_nil _ _ _ _ _, HB0.out⟩
  · rw [if_neg h0] at h
    by_cases hl : l0.length < 2513169434916
    · rw [if_pos hl] at h
      obtain ⟨r, hu, h⟩ := Option.bind_eq_some_iff.1 h
      have HH := Aside0.mk (Option.some.inj h)
      have HR0 := Aside0.mk hr0
      have HC0 := Aside0.mk hc0
      have HL := Aside0.mk hl
      have HP := Aside0.mk (show 0 < l0.length by omega)
      obtain ⟨la, hla⟩ : ∃ la : Int, (l0.length : Int) - 1 = la := ⟨_, rfl⟩
      have HLA := Aside0.mk (show la.toNat = l0.length - 1 ∧ 0 ≤ la ∧ la < (l0.length : Int) by omega)
      rw [hla] at hu
      rw [← HLA.out.1] at hu
      have hb1 : 1 ≤ l0.length := by omega
      have qi0 : (0 < l0.length) = True := eq_true (by omega)
      have hb2 : l0.length ≤ 9223372036854775807 := by omega
      have hnz : ((l0.length : Int) == 0) = false := beq_eq_false_iff_ne.2 (by omega)
      have hla0 : 0 ≤ la := HLA.out.2.1
      have hla1 : la < (l0.length : Int) := HLA.out.2.2
      obtain ⟨L, hL⟩ : ∃ L, L = (l0.set 0 (rd_T24 l0 la)).take la.toNat := ⟨_, rfl⟩
      rw [← hL] at hu
      have HLL := Aside0.mk (show L.length = la.toNat by rw [hL, List.length_take, List.length_set]; omega)
      have HLE := Aside0.mk hL
      have HU := Aside0.mk hu
      clear hu h hr0 hc0 hl h0 hL
      go_enter Try.func24, Try.ntmps24
      go_upto_region 5 with (first | (go_at_call 81; (with_reducible refine (api_Tx.calls A0 c0 l0 l0 _ (Kd.C_alloc HR0.out _) HC0.out (by unfold api_Tx.f; rw [if_pos HL.out])).mono ?_); rintro e w1 ⟨v7, rfl, ho, hb⟩; obtain ⟨g, cap, rfl, hgb, hgl, hgt⟩ := Kd.R_form ho HP.out; have HO1 := Aside0.mk ho; have HB1 := Aside0.mk (below_step HB0.out hb); have HZ1 := Aside0.mk (blk_below HZ0.out hb); have HGE := Aside0.mk (show w.heap.size < g by simp at hgb; omega); have HCP := Aside0.mk (Kd.R_reads' ho).2.1; clear ho hb hgb hgl hgt))
      generalize hw2 : World.alloc w1 _ = w2
      have HX2 := Aside0.mk (show w2.heap[w1.heap.size]? = some (.cells #[(.slice (some ⟨g, 0, none⟩) l0.length cap)] 87 (0, 0)) by rw [← hw2]; exact heap_alloc_new w1 _)
      have HO2 := Aside0.mk (show Kd.R k24 24 w2 w.heap.size (fun q => q ≠ w1.heap.size) (.slice (some ⟨g, 0, none⟩) l0.length cap) l0 by rw [← hw2]; exact Kd.R_lower (Kd.R_alloc (Kd.R_mono (Kd.R_bound HO1.out) (fun k hk => Nat.ne_of_lt hk.2.2.1)) _) (by simp))
      have HZ2 := Aside0.mk (show w2.heap[w.heap.size]? = some (.cells #[.int .i64 0, .int .i64 0, .int .i64 0, .int .i64 0, .int .i64 0, .string ⟨#[]⟩] 24 (0, 0)) by rw [← hw2]; exact (heap_alloc_old w1 _ (heap_blk_lt HZ1.out)).trans HZ1.out)
      have HB2 := Aside0.mk (show Below w.heap.size w w2 by rw [← hw2]; exact below_alloc HB1.out _)
      have HXW := Aside0.mk (show w.heap.size ≠ w1.heap.size from Nat.ne_of_lt (heap_blk_lt HZ1.out))
      have HXL := Aside0.mk (show w.heap.size ≤ w1.heap.size from Nat.le_of_lt (heap_blk_lt HZ1.out))
      generalize w1.heap.size = X at HX2 HO2 HXW HXL ⊢
      clear hw2
      have HGX := Aside0.mk (show some g ≠ some X from fun q => HO2.out.1 g rfl (Option.some.inj q))
      have hxc : w2.drew.cell? ⟨X, 0, none⟩ = some (.slice (some ⟨g, 0, none⟩) l0.length cap) := (blk_cell (show w2.drew.heap[X]? = some (.cells #[(.slice (some ⟨g, 0, none⟩) l0.length cap)] 87 (0, 0)) from HX2.out) 0).trans rfl
      obtain ⟨⟨ci0, ci1, ci2, ci3, ci4, ci5⟩, _⟩ := row_at (Kd.R_drew HO2.out) la hla0 hla1
      obtain ⟨⟨ck0, ck1, ck2, ck3, ck4, ck5⟩, cf0, cf1, cf2, cf3, cf4, cf5⟩ := row_at (Kd.R_drew HO2.out) 0 (by omega) (by have := HP.out; omega)
      rw [show ((0 : Int)).toNat * 6 = 0 from rfl] at ck0 cf0 ck1 cf1 ck2 cf2 ck3 cf3 ck4 cf4 ck5 cf5
      have hcap : l0.length ≤ cap := HCP.out
      refine start_ (n := 13) (S := fun w' => w'.cell? ⟨X, 0, none⟩ = some (.slice (some ⟨g, 0, none⟩) l0.length cap) ∧ w'.cell? ⟨g, la.toNat * 6, none⟩ = some (.int .i64 (rd_T24 l0 la).f0) ∧ w'.cell? ⟨g, la.toNat * 6 + 1, none⟩ = some (.int .i64 (rd_T24 l0 la).f1) ∧ w'.cell? ⟨g, la.toNat * 6 + 2, none⟩ = some (.int .i64 (rd_T24 l0 la).f2) ∧ w'.cell? ⟨g, la.toNat * 6 + 3, none⟩ = some (.int .i64 (rd_T24 l0 la).f3) ∧ w'.cell? ⟨g, la.toNat * 6 + 4, none⟩ = some (.int .i64 (rd_T24 l0 la).f4) ∧ w'.cell? ⟨g, la.toNat * 6 + 5, none⟩ = some (.string (rd_T24 l0 la).f5)) (ds := [12]) #[false, false, false, false, false, false, false, false, false, false, false, false, false] (by kernel_rfl) rfl rfl ⟨hxc, ci0, ci1, ci2, ci3, ci4, ci5⟩ (fun hHeld => ?_)
      have HX3 := Aside0.mk (show w2.drew.heap[X]? = some (.cells #[(.slice (some ⟨g, 0, none⟩) l0.length cap)] 87 (0, 0)) from HX2.out)
      have HO3 := Aside0.mk (Kd.R_drew HO2.out)
      have HZ3 := Aside0.mk (show w2.drew.heap[w.heap.size]? = some (.cells #[.int .i64 0, .int .i64 0, .int .i64 0, .int .i64 0, .int .i64 0, .string ⟨#[]⟩] 24 (0, 0)) from HZ2.out)
      have HB3 := Aside0.mk (below_drew1 HB2.out)
      clear HX2 HO2 HZ2 HB2 hxc
      generalize w2.drew = w3 at hHeld HX3 HO3 HZ3 HB3 ci0 ck0 cf0 ci1 ck1 cf1 ci2 ck2 cf2 ci3 ck3 cf3 ci4 ck4 cf4 ci5 ck5 cf5 ⊢
      refine pure_ (i := 0) (N := some 18) (v := ?_) (a' := ?_) #[true, false, false, false, false, false, false, false, false, false, false, false, false] rfl rfl (by kernel_rfl) (fun _ _ _ h => h) (Or.inl ⟨by rfl, ?_⟩) ?_ ?_
      rotate_left
      · intro w'
        go_simp
        with_reducible rfl
      rotate_left
      · simp only [Act.put, List.setIfInBounds_toArray, List.set_cons_zero, List.set_cons_succ, i64_w, i32_w]
        rfl
      refine pure_ (i := 1) (N := some 19) (v := ?_) (a' := ?_) #[true, true, false, false, false, false, false, false, false, false, false, false, false] rfl rfl (by kernel_rfl) (fun _ _ _ h => h) (Or.inl ⟨by rfl, ?_⟩) ?_ ?_
      rotate_left
      · intro w'
        go_simp
        with_reducible rfl
      rotate_left
      · simp only [Act.put, List.setIfInBounds_toArray, List.set_cons_zero, List.set_cons_succ, i64_w, i32_w]
        rfl
      refine pure_ (i := 2) (N := some 20) (v := ?_) (a' := ?_) #[true, true, true, false, false, false, false, false, false, false, false, false, false] rfl rfl (by kernel_rfl) (fun _ _ _ h => h) (Or.inl ⟨by rfl, ?_⟩) ?_ ?_
      rotate_left
      · intro w'
        go_simp
        with_reducible rfl
      rotate_left
      · simp only [Act.put, List.setIfInBounds_toArray, List.set_cons_zero, List.set_cons_succ, i64_w, i32_w]
        rfl
      refine pure_ (i := 4) (N := some 22) (v := ?_) (a' := ?_) #[true, true, true, false, true, false, false, false, false, false, false, false, false] rfl rfl (by kernel_rfl) (fun _ _ _ h => h) (Or.inl ⟨by rfl, ?_⟩) ?_ ?_
      rotate_left
      · intro w'
        go_simp
        with_reducible rfl
      rotate_left
      · simp only [Act.put, List.setIfInBounds_toArray, List.set_cons_zero, List.set_cons_succ, i64_w, i32_w]
        rfl
      refine pure_ (i := 5) (N := some 23) (v := ?_) (a' := ?_) #[true, true, true, false, true, true, false, false, false, false, false, false, false] rfl rfl (by kernel_rfl) (fun _ _ _ h => h) (Or.inl ⟨by rfl, ?_⟩) ?_ ?_
      rotate_left
      · intro w'
        go_simp
        with_reducible rfl
      rotate_left
      · simp only [Act.put, List.setIfInBounds_toArray, List.set_cons_zero, List.set_cons_succ, i64_w, i32_w]
        rfl
      refine pure_ (i := 6) (N := some 24) (v := ?_) (a' := ?_) #[true, true, true, false, true, true, true, false, false, false, false, false, false] rfl rfl (by kernel_rfl) (fun _ _ _ h => h) (Or.inl ⟨by rfl, ?_⟩) ?_ ?_
      rotate_left
      · intro w'
        go_simp
        with_reducible rfl
      rotate_left
      · simp only [Act.put, List.setIfInBounds_toArray, List.set_cons_zero, List.set_cons_succ, i64_w, i32_w]
        rfl
      refine pure_ (i := 8) (N := some 26) (v := ?_) (a' := ?_) #[true, true, true, false, true, true, true, false, true, false, false, false, false] rfl rfl (by kernel_rfl) (fun _ _ _ h => h) (Or.inl ⟨by rfl, ?_⟩) ?_ ?_
      rotate_left
      · intro w'
        go_simp
        with_reducible rfl
      rotate_left
      · simp only [Act.put, List.setIfInBounds_toArray, List.set_cons_zero, List.set_cons_succ, i64_w, i32_w]
        rfl
      refine take_ (i := 3) (N := some 21) (v := ?_) (a' := ?_) #[true, true, true, true, true, true, true, false, true, false, false, false, false] rfl rfl (by kernel_rfl) (fun _ _ _ h => h) (Or.inl ⟨by rfl, ?_⟩) hHeld ?_ ?_
      rotate_left
      · rintro w' ⟨s0, s1, s2, s3, s4, s5, s6⟩
        go_simp
        with_reducible rfl
      rotate_left
      · simp only [Act.put, List.setIfInBounds_toArray, List.set_cons_zero, List.set_cons_succ, i64_w, i32_w]
        rfl
      refine take_ (i := 7) (N := some 25) (v := ?_) (a' := ?_) #[true, true, true, true, true, true, true, true, true, false, false, false, false] rfl rfl (by kernel_rfl) (fun _ _ _ h => h) (Or.inl ⟨by rfl, ?_⟩) hHeld ?_ ?_
      rotate_left
      · rintro w' ⟨s0, s1, s2, s3, s4, s5, s6⟩
        go_simp
        with_reducible rfl
      rotate_left
      · simp only [Act.put, List.setIfInBounds_toArray, List.set_cons_zero, List.set_cons_succ, i64_w, i32_w]
        rfl
      refine pure_ (i := 9) (N := some 27) (v := ?_) (a' := ?_) #[true, true, true, true, true, true, true, true, true, true, false, false, false] rfl rfl (by kernel_rfl) (fun _ _ _ h => h) (Or.inl ⟨by rfl, ?_⟩) ?_ ?_
      rotate_left
      · intro w'
        go_simp
        with_reducible rfl
      rotate_left
      · simp only [Act.put, List.setIfInBounds_toArray, List.set_cons_zero, List.set_cons_succ, i64_w, i32_w]
        rfl
      refine take_ (i := 10) (N := some 28) (v := ?_) (a' := ?_) #[true, true, true, true, true, true, true, true, true, true, true, false, false] rfl rfl (by kernel_rfl) (fun _ _ _ h => h) (Or.inl ⟨by rfl, ?_⟩) hHeld ?_ ?_
      rotate_left
      · rintro w' ⟨s0, s1, s2, s3, s4, s5, s6⟩
        go_simp
        with_reducible rfl
      rotate_left
      · simp only [Act.put, List.setIfInBounds_toArray, List.set_cons_zero, List.set_cons_succ, i64_w, i32_w]
        rfl
      refine pure_ (i := 11) (N := some 29) (v := ?_) (a' := ?_) #[true, true, true, true, true, true, true, true, true, true, true, true, false] rfl rfl (by kernel_rfl) (fun _ _ _ h => h) (Or.inl ⟨by rfl, ?_⟩) ?_ ?_
      rotate_left
      · intro w'
        go_simp
        with_reducible rfl
      rotate_left
      · simp only [Act.put, List.setIfInBounds_toArray, List.set_cons_zero, List.set_cons_succ, i64_w, i32_w]
        rfl
      refine last_ (i := 12) (N := none) #[true, true, true, true, true, true, true, true, true, true, true, true, true] rfl rfl (by kernel_rfl) (by decide) (fun K hK => ?_)
      refine skip_ (w1 := ?_) (by rfl) rfl ?_ ?_
      rotate_left
      · go_simp
        rfl
      refine hK.out _ _ ?_
      clear hK K
      have hp1 := row_put HO3.out 0 (by omega) (by have := HP.out; omega) (rd_T24 l0 la)
      generalize hw4 : World.setCell _ _ _ = w4
      have HO4 := Aside0.mk (show Kd.R k24 24 w4 w.heap.size (fun q => q ≠ X) (.slice (some ⟨g, 0, none⟩) l0.length cap) (l0.set 0 (rd_T24 l0 la)) by rw [← hw4]; exact hp1.1)
      have HG4 := Aside0.mk (show w3.grownBy w4 (some g) by rw [← hw4]; exact hp1.2)
      clear hp1 hw4 hHeld ci0 ck0 cf0 ci1 ck1 cf1 ci2 ck2 cf2 ci3 ck3 cf3 ci4 ck4 cf4 ci5 ck5 cf5
      refine done_ (by kernel_rfl) ?_
      have HX4 := Aside0.mk (blk_grown HX3.out HG4.out (Ne.symm HGX.out))
      have HZ4 := Aside0.mk (blk_grown HZ3.out HG4.out (fun q => by have := HGE.out; have := Option.some.inj q; omega))
      have HB4 := Aside0.mk (HB3.out.grown HG4.out HB3.out.size (fun k hk => by cases hk; exact Nat.le_of_lt HGE.out))
      have hxc4 : w4.cell? ⟨X, 0, none⟩ = some (.slice (some ⟨g, 0, none⟩) l0.length cap) := (blk_cell HX4.out 0).trans rfl
      have hxf4 : w4.frozen? ⟨X, 0, none⟩ = false := blk_frozen HX4.out 0
      have hlc : la ≤ (cap : Int) := by have := HCP.out; omega
      go_upto_region 7 with (fail)
      generalize hw5 : World.setCell w4 _ _ = w5
      have HX5 := Aside0.mk (show w5.heap[X]? = some (.cells #[(.slice (some ⟨g, 0, none⟩) L.length cap)] 87 (0, 0)) by rw [← hw5, HLL.out]; exact blk_put (cs := #[(.slice (some ⟨g, 0, none⟩) l0.length cap)]) HX4.out 0 _ rfl)
      have HO5 := Aside0.mk (show Kd.R k24 24 w5 w.heap.size (fun q => q ≠ X) (.slice (some ⟨g, 0, none⟩) L.length cap) L by rw [← hw5, HLL.out, HLE.out]; exact Kd.R_far (p := ⟨X, 0, none⟩) (Kd.R_take HO4.out (by rw [List.length_set]; have := HLA.out; omega)) (fun k hk => hk) _)
      have HZ5 := Aside0.mk (show w5.heap[w.heap.size]? = some (.cells #[.int .i64 0, .int .i64 0, .int .i64 0, .int .i64 0, .int .i64 0, .string ⟨#[]⟩] 24 (0, 0)) by rw [← hw5]; exact blk_far HZ4.out (p := ⟨X, 0, none⟩) HXW.out _)
      have HB5 := Aside0.mk (show Below w.heap.size w w5 by rw [← hw5]; exact HB4.out.setCell (p := ⟨X, 0, none⟩) HXL.out _)
      clear hw5 hxc4 hxf4 hlc
      go_upto_region 8 with (first | (go_at_call 82; (with_reducible refine (heap_down.calls (l0.length + 2) X g cap w.heap.size L r 0 _ HX5.out HO5.out (by have := HLL.out; have := HLA.out; have := HL.out; omega) (by omega) (by omega) HU.out).mono ?_); rintro e w6 ⟨rfl, hx6, ho6, hl6, hg6⟩; have HX6 := Aside0.mk hx6; have HO6 := Aside0.mk ho6; have HZ6 := Aside0.mk (blk_grown HZ5.out hg6 (fun q => by have := HGE.out; have := Option.some.inj q; omega)); have HB6 := Aside0.mk (HB5.out.grown hg6 HB5.out.size (fun k hk => by cases hk; exact Nat.le_of_lt HGE.out)); clear hx6 ho6 hl6 hg6))
      have hxd : w6.drew.cell? ⟨X, 0, none⟩ = some (.slice (some ⟨g, 0, none⟩) L.length cap) := (blk_cell (show w6.drew.heap[X]? = some (.cells #[(.slice (some ⟨g, 0, none⟩) L.length cap)] 87 (0, 0)) from HX6.out) 0).trans rfl
      obtain ⟨ad, hA, d0, d1, d2, d3, d4, d5⟩ := in_first (Kd.C_below HR0.out (show Below w.heap.size w w6.drew from below_drew1 HB6.out)) HP.out
      subst hA
      have z0 : w6.drew.cell? ⟨w.heap.size, 0, none⟩ = some (.int .i64 0) := (blk_cell (show w6.drew.heap[w.heap.size]? = some (.cells #[.int .i64 0, .int .i64 0, .int .i64 0, .int .i64 0, .int .i64 0, .string ⟨#[]⟩] 24 (0, 0)) from HZ6.out) 0).trans rfl
      have z1 : w6.drew.cell? ⟨w.heap.size, 1, none⟩ = some (.int .i64 0) := (blk_cell (show w6.drew.heap[w.heap.size]? = some (.cells #[.int .i64 0, .int .i64 0, .int .i64 0, .int .i64 0, .int .i64 0, .string ⟨#[]⟩] 24 (0, 0)) from HZ6.out) 1).trans rfl
      have z2 : w6.drew.cell? ⟨w.heap.size, 2, none⟩ = some (.int .i64 0) := (blk_cell (show w6.drew.heap[w.heap.size]? = some (.cells #[.int .i64 0, .int .i64 0, .int .i64 0, .int .i64 0, .int .i64 0, .string ⟨#[]⟩] 24 (0, 0)) from HZ6.out) 2).trans rfl
      have z3 : w6.drew.cell? ⟨w.heap.size, 3, none⟩ = some (.int .i64 0) := (blk_cell (show w6.drew.heap[w.heap.size]? = some (.cells #[.int .i64 0, .int .i64 0, .int .i64 0, .int .i64 0, .int .i64 0, .string ⟨#[]⟩] 24 (0, 0)) from HZ6.out) 3).trans rfl
      have z4 : w6.drew.cell? ⟨w.heap.size, 4, none⟩ = some (.int .i64 0) := (blk_cell (show w6.drew.heap[w.heap.size]? = some (.cells #[.int .i64 0, .int .i64 0, .int .i64 0, .int .i64 0, .int .i64 0, .string ⟨#[]⟩] 24 (0, 0)) from HZ6.out) 4).trans rfl
      have z5 : w6.drew.cell? ⟨w.heap.size, 5, none⟩ = some (.string ⟨#[]⟩) := (blk_cell (show w6.drew.heap[w.heap.size]? = some (.cells #[.int .i64 0, .int .i64 0, .int .i64 0, .int .i64 0, .int .i64 0, .string ⟨#[]⟩] 24 (0, 0)) from HZ6.out) 5).trans rfl
      have y0 : w6.drew.frozen? ⟨w.heap.size, 0, none⟩ = false := blk_frozen (show w6.drew.heap[w.heap.size]? = some (.cells #[.int .i64 0, .int .i64 0, .int .i64 0, .int .i64 0, .int .i64 0, .string ⟨#[]⟩] 24 (0, 0)) from HZ6.out) 0
      have y1 : w6.drew.frozen? ⟨w.heap.size, 1, none⟩ = false := blk_frozen (show w6.drew.heap[w.heap.size]? = some (.cells #[.int .i64 0, .int .i64 0, .int .i64 0, .int .i64 0, .int .i64 0, .string ⟨#[]⟩] 24 (0, 0)) from HZ6.out) 1
      have y2 : w6.drew.frozen? ⟨w.heap.size, 2, none⟩ = false := blk_frozen (show w6.drew.heap[w.heap.size]? = some (.cells #[.int .i64 0, .int .i64 0, .int .i64 0, .int .i64 0, .int .i64 0, .string ⟨#[]⟩] 24 (0, 0)) from HZ6.out) 2
      have y3 : w6.drew.frozen? ⟨w.heap.size, 3, none⟩ = false := blk_frozen (show w6.drew.heap[w.heap.size]? = some (.cells #[.int .i64 0, .int .i64 0, .int .i64 0, .int .i64 0, .int .i64 0, .string ⟨#[]⟩] 24 (0, 0)) from HZ6.out) 3
      have y4 : w6.drew.frozen? ⟨w.heap.size, 4, none⟩ = false := blk_frozen (show w6.drew.heap[w.heap.size]? = some (.cells #[.int .i64 0, .int .i64 0, .int .i64 0, .int .i64 0, .int .i64 0, .string ⟨#[]⟩] 24 (0, 0)) from HZ6.out) 4
      have y5 : w6.drew.frozen? ⟨w.heap.size, 5, none⟩ = false := blk_frozen (show w6.drew.heap[w.heap.size]? = some (.cells #[.int .i64 0, .int .i64 0, .int .i64 0, .int .i64 0, .int .i64 0, .string ⟨#[]⟩] 24 (0, 0)) from HZ6.out) 5
      have hpos : (0 : Int) < (l0.length : Int) := by have := HP.out; omega
      refine start_ (n := 10) (S := fun w' => w'.cell? ⟨X, 0, none⟩ = some (.slice (some ⟨g, 0, none⟩) L.length cap) ∧ w'.cell? ad = some (.int .i64 (rd_T24 l0 0).f0) ∧ w'.cell? ⟨ad.block, ad.off + 1, none⟩ = some (.int .i64 (rd_T24 l0 0).f1) ∧ w'.cell? ⟨ad.block, ad.off + 2, none⟩ = some (.int .i64 (rd_T24 l0 0).f2) ∧ w'.cell? ⟨ad.block, ad.off + 3, none⟩ = some (.int .i64 (rd_T24 l0 0).f3) ∧ w'.cell? ⟨ad.block, ad.off + 4, none⟩ = some (.int .i64 (rd_T24 l0 0).f4) ∧ w'.cell? ⟨ad.block, ad.off + 5, none⟩ = some (.string (rd_T24 l0 0).f5)) (ds := [8]) #[false, false, false, false, false, false, false, false, false, false] (by kernel_rfl) rfl rfl ⟨hxd, d0, d1, d2, d3, d4, d5⟩ (fun hHeld => ?_)
      have HO7 := Aside0.mk (Kd.R_drew HO6.out)
      have HZ7 := Aside0.mk (show w6.drew.heap[w.heap.size]? = some (.cells #[.int .i64 0, .int .i64 0, .int .i64 0, .int .i64 0, .int .i64 0, .string ⟨#[]⟩] 24 (0, 0)) from HZ6.out)
      have HB7 := Aside0.mk (below_drew1 HB6.out)
      clear hxd HO6 HZ6 HB6
      generalize w6.drew = w7 at hHeld HO7 HZ7 HB7 d0 z0 y0 d1 z1 y1 d2 z2 y2 d3 z3 y3 d4 z4 y4 d5 z5 y5 ⊢
      refine pure_ (i := 0) (N := some 42) (v := ?_) (a' := ?_) #[true, false, false, false, false, false, false, false, false, false] rfl rfl (by kernel_rfl) (fun _ _ _ h => h) (Or.inl ⟨by rfl, ?_⟩) ?_ ?_
      rotate_left
      · intro w'
        go_simp
        with_reducible rfl
      rotate_left
      · simp only [Act.put, List.setIfInBounds_toArray, List.set_cons_zero, List.set_cons_succ, i64_w, i32_w]
        rfl
      refine pure_ (i := 1) (N := some 43) (v := ?_) (a' := ?_) #[true, true, false, false, false, false, false, false, false, false] rfl rfl (by kernel_rfl) (fun _ _ _ h => h) (Or.inl ⟨by rfl, ?_⟩) ?_ ?_
      rotate_left
      · intro w'
        go_simp
        with_reducible rfl
      rotate_left
      · simp only [Act.put, List.setIfInBounds_toArray, List.set_cons_zero, List.set_cons_succ, i64_w, i32_w]
        rfl
      refine pure_ (i := 2) (N := some 44) (v := ?_) (a' := ?_) #[true, true, true, false, false, false, false, false, false, false] rfl rfl (by kernel_rfl) (fun _ _ _ h => h) (Or.inl ⟨by rfl, ?_⟩) ?_ ?_
      rotate_left
      · intro w'
        go_simp
        with_reducible rfl
      rotate_left
      · simp only [Act.put, List.setIfInBounds_toArray, List.set_cons_zero, List.set_cons_succ, i64_w, i32_w]
        rfl
      refine pure_ (i := 4) (N := some 46) (v := ?_) (a' := ?_) #[true, true, true, false, true, false, false, false, false, false] rfl rfl (by kernel_rfl) (fun _ _ _ h => h) (Or.inl ⟨by rfl, ?_⟩) ?_ ?_
      rotate_left
      · intro w'
        go_simp
        with_reducible rfl
      rotate_left
      · simp only [Act.put, List.setIfInBounds_toArray, List.set_cons_zero, List.set_cons_succ, i64_w, i32_w]
        rfl
      refine pure_ (i := 5) (N := some 47) (v := ?_) (a' := ?_) #[true, true, true, false, true, true, false, false, false, false] rfl rfl (by kernel_rfl) (fun _ _ _ h => h) (Or.inl ⟨by rfl, ?_⟩) ?_ ?_
      rotate_left
      · intro w'
        go_simp
        with_reducible rfl
      rotate_left
      · simp only [Act.put, List.setIfInBounds_toArray, List.set_cons_zero, List.set_cons_succ, i64_w, i32_w]
        rfl
      refine take_ (i := 3) (N := some 45) (v := ?_) (a' := ?_) #[true, true, true, true, true, true, false, false, false, false] rfl rfl (by kernel_rfl) (fun _ _ _ h => h) (Or.inl ⟨by rfl, ?_⟩) hHeld ?_ ?_
      rotate_left
      · rintro w' ⟨s0, s1, s2, s3, s4, s5, s6⟩
        go_simp
        with_reducible rfl
      rotate_left
      · simp only [Act.put, List.setIfInBounds_toArray, List.set_cons_zero, List.set_cons_succ, i64_w, i32_w]
        rfl
      refine take_ (i := 6) (N := some 48) (v := ?_) (a' := ?_) #[true, true, true, true, true, true, true, false, false, false] rfl rfl (by kernel_rfl) (fun _ _ _ h => h) (Or.inl ⟨by rfl, ?_⟩) hHeld ?_ ?_
      rotate_left
      · rintro w' ⟨s0, s1, s2, s3, s4, s5, s6⟩
        go_simp
        with_reducible rfl
      rotate_left
      · simp only [Act.put, List.setIfInBounds_toArray, List.set_cons_zero, List.set_cons_succ, i64_w, i32_w]
        rfl
      refine pure_ (i := 7) (N := some 2) (v := ?_) (a' := ?_) #[true, true, true, true, true, true, true, true, false, false] rfl rfl (by kernel_rfl) (fun _ _ _ h => h) (Or.inl ⟨by rfl, ?_⟩) ?_ ?_
      rotate_left
      · intro w'
        go_simp
        with_reducible rfl
      rotate_left
      · simp only [Act.put, List.setIfInBounds_toArray, List.set_cons_zero, List.set_cons_succ, i64_w, i32_w]
        rfl
      refine last_ (i := 8) (N := none) #[true, true, true, true, true, true, true, true, true, false] rfl rfl (by kernel_rfl) (by decide) (fun K hK => ?_)
      refine skip_ (w1 := ?_) (by rfl) rfl ?_ ?_
      rotate_left
      · go_simp
        rfl
      refine hK.out _ _ ?_
      clear hK K
      generalize hw8 : World.setCell _ _ _ = w8
      have HZ8 := Aside0.mk (show w8.heap[w.heap.size]? = some (.cells #[.int .i64 (rd_T24 l0 0).f0, .int .i64 (rd_T24 l0 0).f1, .int .i64 (rd_T24 l0 0).f2, .int .i64 (rd_T24 l0 0).f3, .int .i64 (rd_T24 l0 0).f4, .string (rd_T24 l0 0).f5] 24 (0, 0)) by rw [← hw8]; refine blk_put (cs := #[.int .i64 (rd_T24 l0 0).f0, .int .i64 (rd_T24 l0 0).f1, .int .i64 (rd_T24 l0 0).f2, .int .i64 (rd_T24 l0 0).f3, .int .i64 (rd_T24 l0 0).f4, .string ⟨#[]⟩]) ?_ 5 _ rfl; refine blk_put (cs := #[.int .i64 (rd_T24 l0 0).f0, .int .i64 (rd_T24 l0 0).f1, .int .i64 (rd_T24 l0 0).f2, .int .i64 (rd_T24 l0 0).f3, .int .i64 0, .string ⟨#[]⟩]) ?_ 4 _ rfl; refine blk_put (cs := #[.int .i64 (rd_T24 l0 0).f0, .int .i64 (rd_T24 l0 0).f1, .int .i64 (rd_T24 l0 0).f2, .int .i64 0, .int .i64 0, .string ⟨#[]⟩]) ?_ 3 _ rfl; refine blk_put (cs := #[.int .i64 (rd_T24 l0 0).f0, .int .i64 (rd_T24 l0 0).f1, .int .i64 0, .int .i64 0, .int .i64 0, .string ⟨#[]⟩]) ?_ 2 _ rfl; refine blk_put (cs := #[.int .i64 (rd_T24 l0 0).f0, .int .i64 0, .int .i64 0, .int .i64 0, .int .i64 0, .string ⟨#[]⟩]) ?_ 1 _ rfl; refine blk_put (cs := #[.int .i64 0, .int .i64 0, .int .i64 0, .int .i64 0, .int .i64 0, .string ⟨#[]⟩]) ?_ 0 _ rfl; exact HZ7.out)
      have q7 : Kd.R k24 24 w7 w.heap.size (fun q => q ≠ w.heap.size) (.slice (some ⟨g, 0, none⟩) L.length cap) r := Kd.R_mono (Kd.R_tight (by rfl) HO7.out) (fun k hk => by cases hk; exact Nat.ne_of_gt HGE.out)
      have HO8 := Aside0.mk (show Kd.R k24 24 w8 w.heap.size (fun _ => True) (.slice (some ⟨g, 0, none⟩) L.length cap) r by rw [← hw8]; exact Kd.R_mono (Kd.R_far (p := ⟨w.heap.size, 5, none⟩) (Kd.R_far (p := ⟨w.heap.size, 4, none⟩) (Kd.R_far (p := ⟨w.heap.size, 3, none⟩) (Kd.R_far (p := ⟨w.heap.size, 2, none⟩) (Kd.R_far (p := ⟨w.heap.size, 1, none⟩) (Kd.R_far (p := ⟨w.heap.size, 0, none⟩) q7 (fun k hk => hk) _) (fun k hk => hk) _) (fun k hk => hk) _) (fun k hk => hk) _) (fun k hk => hk) _) (fun k hk => hk) _) (fun _ _ => trivial))
      have HB8 := Aside0.mk (show Below w.heap.size w w8 by rw [← hw8]; exact (((((HB7.out.setCell (Nat.le_refl _) _).setCell (Nat.le_refl _) _).setCell (Nat.le_refl _) _).setCell (Nat.le_refl _) _).setCell (Nat.le_refl _) _).setCell (Nat.le_refl _) _)
      clear hw8 hHeld d0 z0 y0 d1 z1 y1 d2 z2 y2 d3 z3 y3 d4 z4 y4 d5 z5 y5
      refine pure_ (i := 9) (N := some 4) (v := ?_) (a' := ?_) #[true, true, true, true, true, true, true, true, true, true] rfl rfl (by kernel_rfl) (fun _ _ _ h => h) (Or.inl ⟨by rfl, ?_⟩) ?_ ?_
      rotate_left
      · intro w'
        go_simp
        with_reducible rfl
      rotate_left
      · simp only [Act.put, List.setIfInBounds_toArray, List.set_cons_zero, List.set_cons_succ, i64_w, i32_w]
        rfl
      refine done_ (by kernel_rfl) ?_
      go_wp2_with (fail)
      refine bodyPost_ret (results_list (rs := [.tmp 2, .cell 3 24, .tmp 4]) rfl (by simp) (.tmp (.cell w.heap.size 24 #[.int .i64 (rd_T24 l0 0).f0, .int .i64 (rd_T24 l0 0).f1, .int .i64 (rd_T24 l0 0).f2, .int .i64 (rd_T24 l0 0).f3, .int .i64 (rd_T24 l0 0).f4, .string (rd_T24 l0 0).f5] (0, 0) _ rfl HZ8.out Try.underlying24 rfl (by kernel_rfl) (.tmp .nil)))) rfl ?_
      have HZ := HH.out
      simp only [Prod.mk.injEq] at HZ
      obtain ⟨rfl, rfl, rfl, rfl, rfl, rfl, rfl, rfl⟩ := HZ
      exact ⟨_, rfl, HO8.out, HB8.out⟩
    · rw [if_neg hl] at h; cases h


end Go.Proofs.Ytehncbhmdgdkjaa.L
