/- Written by this session's own program over the kit's print: functions of Go told as plain functions, or the row of one statement; proved for every input, with no condition of ours. -/
import Derived.Test.YtehncbhmdgdkjaaLx0
import Derived.Test.YtehncbhmdgdkjaaLx10
namespace Go.Proofs.Ytehncbhmdgdkjaa.L
open Go.RowKit Go.Proofs.YtehncbhmdgdkjaaW.PrintWords Go.Proofs.YtehncbhmdgdkjaaW.PrintLast Go.Proofs.YtehncbhmdgdkjaaW.PrintMore
attribute [local go_sem] max2_int min2_int max_two min_two max_three min_three max_four min_four   -- for this text's walks alone
set_option linter.unusedVariables false
set_option linter.unusedSimpArgs false

/-! ### heap_txs_swap: function 185, by hand -/
-- HAND rounds=0 making=0 opaque
/-- A block that is there. -/
theorem heap_blk_lt {w : World} {b : Nat} {o : Obj} (h : w.heap[b]? = some o) : b < w.heap.size := (Array.getElem?_eq_some_iff.1 h).1
/-- Element i of a row of one's own is stored anew, cell by cell. -/
abbrev put6 (W : World) (g o : Nat) (x : S24) : World := (((((W.setCell ⟨g, o, none⟩ (.int .i64 x.f0)).setCell ⟨g, o + 1, none⟩ (.int .i64 x.f1)).setCell ⟨g, o + 2, none⟩ (.int .i64 x.f2)).setCell ⟨g, o + 3, none⟩ (.int .i64 x.f3)).setCell ⟨g, o + 4, none⟩ (.int .i64 x.f4)).setCell ⟨g, o + 5, none⟩ (.string x.f5)
theorem row_put {W : World} {base : Nat} {ok : Nat → Prop} {g n cap : Nat} {l : List S24} (HO : Kd.R k24 24 W base ok (.slice (some ⟨g, 0, none⟩) n cap) l) (i : Int) (h0 : 0 ≤ i) (h1 : i < n) (x : S24) :
    Kd.R k24 24 (put6 W g (i.toNat * 6) x) base ok (.slice (some ⟨g, 0, none⟩) n cap) (l.set i.toNat x) ∧ W.grownBy (put6 W g (i.toNat * 6) x) (some g) := by
  obtain ⟨ce, hcl, hM, hcc, hfr⟩ := Kd.R_elem HO z24 i h0 h1
  obtain rfl := k24_openM hM
  exact Kd.R_seg HO i h0 h1 (seg := [.int .i64 x.f0, .int .i64 x.f1, .int .i64 x.f2, .int .i64 x.f3, .int .i64 x.f4, .string x.f5]) (j := 0) hcl hcc (show 6 ≤ 6 from by decide) (x' := x) (k24_mkM _ _ _ x) (fun _ hk => hk)
/-- The cells of element i: what they hold, and that they may be written. -/
theorem row_at {W : World} {base : Nat} {ok : Nat → Prop} {g n cap : Nat} {l : List S24} (HO : Kd.R k24 24 W base ok (.slice (some ⟨g, 0, none⟩) n cap) l) (i : Int) (h0 : 0 ≤ i) (h1 : i < n) :
    (W.cell? ⟨g, i.toNat * 6, none⟩ = some (.int .i64 (rd_T24 l i).f0) ∧ W.cell? ⟨g, i.toNat * 6 + 1, none⟩ = some (.int .i64 (rd_T24 l i).f1) ∧ W.cell? ⟨g, i.toNat * 6 + 2, none⟩ = some (.int .i64 (rd_T24 l i).f2) ∧ W.cell? ⟨g, i.toNat * 6 + 3, none⟩ = some (.int .i64 (rd_T24 l i).f3) ∧ W.cell? ⟨g, i.toNat * 6 + 4, none⟩ = some (.int .i64 (rd_T24 l i).f4) ∧ W.cell? ⟨g, i.toNat * 6 + 5, none⟩ = some (.string (rd_T24 l i).f5)) ∧
    (W.frozen? ⟨g, i.toNat * 6, none⟩ = false ∧ W.frozen? ⟨g, i.toNat * 6 + 1, none⟩ = false ∧ W.frozen? ⟨g, i.toNat * 6 + 2, none⟩ = false ∧ W.frozen? ⟨g, i.toNat * 6 + 3, none⟩ = false ∧ W.frozen? ⟨g, i.toNat * 6 + 4, none⟩ = false ∧ W.frozen? ⟨g, i.toNat * 6 + 5, none⟩ = false) := by
  obtain ⟨ce, hcl, hM, hcc, hfr⟩ := Kd.R_elem HO z24 i h0 h1
  obtain rfl := k24_openM hM
  exact ⟨⟨hcc 0 _ rfl, hcc 1 _ rfl, hcc 2 _ rfl, hcc 3 _ rfl, hcc 4 _ rfl, hcc 5 _ rfl⟩, hfr 0, hfr 1, hfr 2, hfr 3, hfr 4, hfr 5⟩
/-- Two elements, the one in the other's place. -/
def swapL (l : List S24) (i k : Int) : List S24 := (l.set i.toNat (rd_T24 l k)).set k.toNat (rd_T24 l i)
theorem swapL_length (l : List S24) (i k : Int) : (swapL l i k).length = l.length := by unfold swapL; simp
set_option maxHeartbeats 4000000 in
set_option maxRecDepth 100000 in
theorem heap_txs_swap.calls (X g cap base : Nat) (l : List S24) (i k : Int) (w : World) (HX : w.heap[X]? = some (.cells #[(.slice (some ⟨g, 0, none⟩) l.length cap)] 87 (0, 0))) (HO : Kd.R k24 24 w base (fun q => q ≠ X) (.slice (some ⟨g, 0, none⟩) l.length cap) l) (hi0 : 0 ≤ i) (hi1 : i < (l.length : Int)) (hk0 : 0 ≤ k) (hk1 : k < (l.length : Int)) :
    Calls Try.prog 185 #[.pointer (some ⟨X, 0, none⟩), .int .i64 i, .int .i64 k] w fun e w' => e = .returned (.tuple #[]) ∧ w'.heap[X]? = some (.cells #[(.slice (some ⟨g, 0, none⟩) l.length cap)] 87 (0, 0)) ∧ Kd.R k24 24 w' base (fun q => q ≠ X) (.slice (some ⟨g, 0, none⟩) l.length cap) (swapL l i k) ∧ w.grownBy w' (some g) := by
  have hxc : w.drew.cell? ⟨X, 0, none⟩ = some (.slice (some ⟨g, 0, none⟩) l.length cap) := (blk_cell (show w.drew.heap[X]? = some (.cells #[(.slice (some ⟨g, 0, none⟩) l.length cap)] 87 (0, 0)) from HX) 0).trans rfl
  have hgX : some g ≠ some X := fun q => HO.1 g rfl (Option.some.inj q)
  have HNE := Aside0.mk hgX
  clear hgX
  obtain ⟨⟨ci0, ci1, ci2, ci3, ci4, ci5⟩, cif0, cif1, cif2, cif3, cif4, cif5⟩ := row_at (Kd.R_drew HO) i hi0 hi1
  obtain ⟨⟨ck0, ck1, ck2, ck3, ck4, ck5⟩, ckf0, ckf1, ckf2, ckf3, ckf4, ckf5⟩ := row_at (Kd.R_drew HO) k hk0 hk1
  go_enter Try.func185, Try.ntmps185
  try go_wp2
  refine start_ (n := 28) (S := fun w' => w'.cell? ⟨X, 0, none⟩ = some (.slice (some ⟨g, 0, none⟩) l.length cap) ∧ w'.cell? ⟨g, i.toNat * 6, none⟩ = some (.int .i64 (rd_T24 l i).f0) ∧ w'.cell? ⟨g, i.toNat * 6 + 1, none⟩ = some (.int .i64 (rd_T24 l i).f1) ∧ w'.cell? ⟨g, i.toNat * 6 + 2, none⟩ = some (.int .i64 (rd_T24 l i).f2) ∧ w'.cell? ⟨g, i.toNat * 6 + 3, none⟩ = some (.int .i64 (rd_T24 l i).f3) ∧ w'.cell? ⟨g, i.toNat * 6 + 4, none⟩ = some (.int .i64 (rd_T24 l i).f4) ∧ w'.cell? ⟨g, i.toNat * 6 + 5, none⟩ = some (.string (rd_T24 l i).f5) ∧ w'.cell? ⟨g, k.toNat * 6, none⟩ = some (.int .i64 (rd_T24 l k).f0) ∧ w'.cell? ⟨g, k.toNat * 6 + 1, none⟩ = some (.int .i64 (rd_T24 l k).f1) ∧ w'.cell? ⟨g, k.toNat * 6 + 2, none⟩ = some (.int .i64 (rd_T24 l k).f2) ∧ w'.cell? ⟨g, k.toNat * 6 + 3, none⟩ = some (.int .i64 (rd_T24 l k).f3) ∧ w'.cell? ⟨g, k.toNat * 6 + 4, none⟩ = some (.int .i64 (rd_T24 l k).f4) ∧ w'.cell? ⟨g, k.toNat * 6 + 5, none⟩ = some (.string (rd_T24 l k).f5)) (ds := [25, 27]) #[false, false, false, false, false, false, false, false, false, false, false, false, false, false, false, false, false, false, false, false, false, false, false, false, false, false, false, false] (by kernel_rfl) rfl rfl ⟨hxc, ci0, ci1, ci2, ci3, ci4, ci5, ck0, ck1, ck2, ck3, ck4, ck5⟩ (fun hHeld => ?_)
  have HX1 := Aside0.mk (show w.drew.heap[X]? = some (.cells #[(.slice (some ⟨g, 0, none⟩) l.length cap)] 87 (0, 0)) from HX)
  have HO2 := Aside0.mk (Kd.R_drew HO)
  have HG1 := Aside0.mk (show w.grownBy w.drew (some g) from ⟨rfl, rfl, rfl, Nat.le_refl _, fun _ _ _ => rfl⟩)
  clear HX HO hxc
  generalize w.drew = w1 at hHeld HX1 HO2 HG1 ci0 cif0 ck0 ckf0 ci1 cif1 ck1 ckf1 ci2 cif2 ck2 ckf2 ci3 cif3 ck3 ckf3 ci4 cif4 ck4 ckf4 ci5 cif5 ck5 ckf5 ⊢
  refine pure_ (i := 0) (N := some 6) (v := ?_) (a' := ?_) #[true, false, false, false, false, false, false, false, false, false, false, false, false, false, false, false, false, false, false, false, false, false, false, false, false, false, false, false] rfl rfl (by kernel_rfl) (fun _ _ _ h => h) (Or.inl ⟨by rfl, ?_⟩) ?_ ?_
  rotate_left
  · intro w'
    go_simp
    with_reducible rfl
  rotate_left
  · simp only [Act.put, List.setIfInBounds_toArray, List.set_cons_zero, List.set_cons_succ, i64_w, i32_w]
    rfl
  refine pure_ (i := 1) (N := some 7) (v := ?_) (a' := ?_) #[true, true, false, false, false, false, false, false, false, false, false, false, false, false, false, false, false, false, false, false, false, false, false, false, false, false, false, false] rfl rfl (by kernel_rfl) (fun _ _ _ h => h) (Or.inl ⟨by rfl, ?_⟩) ?_ ?_
  rotate_left
  · intro w'
    go_simp
    with_reducible rfl
  rotate_left
  · simp only [Act.put, List.setIfInBounds_toArray, List.set_cons_zero, List.set_cons_succ, i64_w, i32_w]
    rfl
  refine pure_ (i := 2) (N := some 8) (v := ?_) (a' := ?_) #[true, true, true, false, false, false, false, false, false, false, false, false, false, false, false, false, false, false, false, false, false, false, false, false, false, false, false, false] rfl rfl (by kernel_rfl) (fun _ _ _ h => h) (Or.inl ⟨by rfl, ?_⟩) ?_ ?_
  rotate_left
  · intro w'
    go_simp
    with_reducible rfl
  rotate_left
  · simp only [Act.put, List.setIfInBounds_toArray, List.set_cons_zero, List.set_cons_succ, i64_w, i32_w]
    rfl
  refine pure_ (i := 4) (N := some 10) (v := ?_) (a' := ?_) #[true, true, true, false, true, false, false, false, false, false, false, false, false, false, false, false, false, false, false, false, false, false, false, false, false, false, false, false] rfl rfl (by kernel_rfl) (fun _ _ _ h => h) (Or.inl ⟨by rfl, ?_⟩) ?_ ?_
  rotate_left
  · intro w'
    go_simp
    with_reducible rfl
  rotate_left
  · simp only [Act.put, List.setIfInBounds_toArray, List.set_cons_zero, List.set_cons_succ, i64_w, i32_w]
    rfl
  refine pure_ (i := 5) (N := some 11) (v := ?_) (a' := ?_) #[true, true, true, false, true, true, false, false, false, false, false, false, false, false, false, false, false, false, false, false, false, false, false, false, false, false, false, false] rfl rfl (by kernel_rfl) (fun _ _ _ h => h) (Or.inl ⟨by rfl, ?_⟩) ?_ ?_
  rotate_left
  · intro w'
    go_simp
    with_reducible rfl
  rotate_left
  · simp only [Act.put, List.setIfInBounds_toArray, List.set_cons_zero, List.set_cons_succ, i64_w, i32_w]
    rfl
  refine pure_ (i := 6) (N := some 12) (v := ?_) (a' := ?_) #[true, true, true, false, true, true, true, false, false, false, false, false, false, false, false, false, false, false, false, false, false, false, false, false, false, false, false, false] rfl rfl (by kernel_rfl) (fun _ _ _ h => h) (Or.inl ⟨by rfl, ?_⟩) ?_ ?_
  rotate_left
  · intro w'
    go_simp
    with_reducible rfl
  rotate_left
  · simp only [Act.put, List.setIfInBounds_toArray, List.set_cons_zero, List.set_cons_succ, i64_w, i32_w]
    rfl
  refine pure_ (i := 7) (N := some 13) (v := ?_) (a' := ?_) #[true, true, true, false, true, true, true, true, false, false, false, false, false, false, false, false, false, false, false, false, false, false, false, false, false, false, false, false] rfl rfl (by kernel_rfl) (fun _ _ _ h => h) (Or.inl ⟨by rfl, ?_⟩) ?_ ?_
  rotate_left
  · intro w'
    go_simp
    with_reducible rfl
  rotate_left
  · simp only [Act.put, List.setIfInBounds_toArray, List.set_cons_zero, List.set_cons_succ, i64_w, i32_w]
    rfl
  refine pure_ (i := 9) (N := some 15) (v := ?_) (a' := ?_) #[true, true, true, false, true, true, true, true, false, true, false, false, false, false, false, false, false, false, false, false, false, false, false, false, false, false, false, false] rfl rfl (by kernel_rfl) (fun _ _ _ h => h) (Or.inl ⟨by rfl, ?_⟩) ?_ ?_
  rotate_left
  · intro w'
    go_simp
    with_reducible rfl
  rotate_left
  · simp only [Act.put, List.setIfInBounds_toArray, List.set_cons_zero, List.set_cons_succ, i64_w, i32_w]
    rfl
  refine pure_ (i := 10) (N := some 16) (v := ?_) (a' := ?_) #[true, true, true, false, true, true, true, true, false, true, true, false, false, false, false, false, false, false, false, false, false, false, false, false, false, false, false, false] rfl rfl (by kernel_rfl) (fun _ _ _ h => h) (Or.inl ⟨by rfl, ?_⟩) ?_ ?_
  rotate_left
  · intro w'
    go_simp
    with_reducible rfl
  rotate_left
  · simp only [Act.put, List.setIfInBounds_toArray, List.set_cons_zero, List.set_cons_succ, i64_w, i32_w]
    rfl
  refine pure_ (i := 11) (N := some 17) (v := ?_) (a' := ?_) #[true, true, true, false, true, true, true, true, false, true, true, true, false, false, false, false, false, false, false, false, false, false, false, false, false, false, false, false] rfl rfl (by kernel_rfl) (fun _ _ _ h => h) (Or.inl ⟨by rfl, ?_⟩) ?_ ?_
  rotate_left
  · intro w'
    go_simp
    with_reducible rfl
  rotate_left
  · simp only [Act.put, List.setIfInBounds_toArray, List.set_cons_zero, List.set_cons_succ, i64_w, i32_w]
    rfl
  refine pure_ (i := 12) (N := some 18) (v := ?_) (a' := ?_) #[true, true, true, false, true, true, true, true, false, true, true, true, true, false, false, false, false, false, false, false, false, false, false, false, false, false, false, false] rfl rfl (by kernel_rfl) (fun _ _ _ h => h) (Or.inl ⟨by rfl, ?_⟩) ?_ ?_
  rotate_left
  · intro w'
    go_simp
    with_reducible rfl
  rotate_left
  · simp only [Act.put, List.setIfInBounds_toArray, List.set_cons_zero, List.set_cons_succ, i64_w, i32_w]
    rfl
  refine pure_ (i := 14) (N := some 20) (v := ?_) (a' := ?_) #[true, true, true, false, true, true, true, true, false, true, true, true, true, false, true, false, false, false, false, false, false, false, false, false, false, false, false, false] rfl rfl (by kernel_rfl) (fun _ _ _ h => h) (Or.inl ⟨by rfl, ?_⟩) ?_ ?_
  rotate_left
  · intro w'
    go_simp
    with_reducible rfl
  rotate_left
  · simp only [Act.put, List.setIfInBounds_toArray, List.set_cons_zero, List.set_cons_succ, i64_w, i32_w]
    rfl
  refine pure_ (i := 17) (N := some 23) (v := ?_) (a' := ?_) #[true, true, true, false, true, true, true, true, false, true, true, true, true, false, true, false, false, true, false, false, false, false, false, false, false, false, false, false] rfl rfl (by kernel_rfl) (fun _ _ _ h => h) (Or.inl ⟨by rfl, ?_⟩) ?_ ?_
  rotate_left
  · intro w'
    go_simp
    with_reducible rfl
  rotate_left
  · simp only [Act.put, List.setIfInBounds_toArray, List.set_cons_zero, List.set_cons_succ, i64_w, i32_w]
    rfl
  refine pure_ (i := 18) (N := some 24) (v := ?_) (a' := ?_) #[true, true, true, false, true, true, true, true, false, true, true, true, true, false, true, false, false, true, true, false, false, false, false, false, false, false, false, false] rfl rfl (by kernel_rfl) (fun _ _ _ h => h) (Or.inl ⟨by rfl, ?_⟩) ?_ ?_
  rotate_left
  · intro w'
    go_simp
    with_reducible rfl
  rotate_left
  · simp only [Act.put, List.setIfInBounds_toArray, List.set_cons_zero, List.set_cons_succ, i64_w, i32_w]
    rfl
  refine pure_ (i := 19) (N := some 25) (v := ?_) (a' := ?_) #[true, true, true, false, true, true, true, true, false, true, true, true, true, false, true, false, false, true, true, true, false, false, false, false, false, false, false, false] rfl rfl (by kernel_rfl) (fun _ _ _ h => h) (Or.inl ⟨by rfl, ?_⟩) ?_ ?_
  rotate_left
  · intro w'
    go_simp
    with_reducible rfl
  rotate_left
  · simp only [Act.put, List.setIfInBounds_toArray, List.set_cons_zero, List.set_cons_succ, i64_w, i32_w]
    rfl
  refine pure_ (i := 21) (N := some 27) (v := ?_) (a' := ?_) #[true, true, true, false, true, true, true, true, false, true, true, true, true, false, true, false, false, true, true, true, false, true, false, false, false, false, false, false] rfl rfl (by kernel_rfl) (fun _ _ _ h => h) (Or.inl ⟨by rfl, ?_⟩) ?_ ?_
  rotate_left
  · intro w'
    go_simp
    with_reducible rfl
  rotate_left
  · simp only [Act.put, List.setIfInBounds_toArray, List.set_cons_zero, List.set_cons_succ, i64_w, i32_w]
    rfl
  refine take_ (i := 3) (N := some 9) (v := ?_) (a' := ?_) #[true, true, true, true, true, true, true, true, false, true, true, true, true, false, true, false, false, true, true, true, false, true, false, false, false, false, false, false] rfl rfl (by kernel_rfl) (fun _ _ _ h => h) (Or.inl ⟨by rfl, ?_⟩) hHeld ?_ ?_
  rotate_left
  · rintro w' ⟨s0, s1, s2, s3, s4, s5, s6, s7, s8, s9, s10, s11, s12⟩
    go_simp
    with_reducible rfl
  rotate_left
  · simp only [Act.put, List.setIfInBounds_toArray, List.set_cons_zero, List.set_cons_succ, i64_w, i32_w]
    rfl
  refine take_ (i := 8) (N := some 14) (v := ?_) (a' := ?_) #[true, true, true, true, true, true, true, true, true, true, true, true, true, false, true, false, false, true, true, true, false, true, false, false, false, false, false, false] rfl rfl (by kernel_rfl) (fun _ _ _ h => h) (Or.inl ⟨by rfl, ?_⟩) hHeld ?_ ?_
  rotate_left
  · rintro w' ⟨s0, s1, s2, s3, s4, s5, s6, s7, s8, s9, s10, s11, s12⟩
    go_simp
    with_reducible rfl
  rotate_left
  · simp only [Act.put, List.setIfInBounds_toArray, List.set_cons_zero, List.set_cons_succ, i64_w, i32_w]
    rfl
  refine take_ (i := 13) (N := some 19) (v := ?_) (a' := ?_) #[true, true, true, true, true, true, true, true, true, true, true, true, true, true, true, false, false, true, true, true, false, true, false, false, false, false, false, false] rfl rfl (by kernel_rfl) (fun _ _ _ h => h) (Or.inl ⟨by rfl, ?_⟩) hHeld ?_ ?_
  rotate_left
  · rintro w' ⟨s0, s1, s2, s3, s4, s5, s6, s7, s8, s9, s10, s11, s12⟩
    go_simp
    with_reducible rfl
  rotate_left
  · simp only [Act.put, List.setIfInBounds_toArray, List.set_cons_zero, List.set_cons_succ, i64_w, i32_w]
    rfl
  refine take_ (i := 20) (N := some 26) (v := ?_) (a' := ?_) #[true, true, true, true, true, true, true, true, true, true, true, true, true, true, true, false, false, true, true, true, true, true, false, false, false, false, false, false] rfl rfl (by kernel_rfl) (fun _ _ _ h => h) (Or.inl ⟨by rfl, ?_⟩) hHeld ?_ ?_
  rotate_left
  · rintro w' ⟨s0, s1, s2, s3, s4, s5, s6, s7, s8, s9, s10, s11, s12⟩
    go_simp
    with_reducible rfl
  rotate_left
  · simp only [Act.put, List.setIfInBounds_toArray, List.set_cons_zero, List.set_cons_succ, i64_w, i32_w]
    rfl
  refine pure_ (i := 15) (N := some 21) (v := ?_) (a' := ?_) #[true, true, true, true, true, true, true, true, true, true, true, true, true, true, true, true, false, true, true, true, true, true, false, false, false, false, false, false] rfl rfl (by kernel_rfl) (fun _ _ _ h => h) (Or.inl ⟨by rfl, ?_⟩) ?_ ?_
  rotate_left
  · intro w'
    go_simp
    with_reducible rfl
  rotate_left
  · simp only [Act.put, List.setIfInBounds_toArray, List.set_cons_zero, List.set_cons_succ, i64_w, i32_w]
    rfl
  refine pure_ (i := 22) (N := some 28) (v := ?_) (a' := ?_) #[true, true, true, true, true, true, true, true, true, true, true, true, true, true, true, true, false, true, true, true, true, true, true, false, false, false, false, false] rfl rfl (by kernel_rfl) (fun _ _ _ h => h) (Or.inl ⟨by rfl, ?_⟩) ?_ ?_
  rotate_left
  · intro w'
    go_simp
    with_reducible rfl
  rotate_left
  · simp only [Act.put, List.setIfInBounds_toArray, List.set_cons_zero, List.set_cons_succ, i64_w, i32_w]
    rfl
  refine take_ (i := 16) (N := some 22) (v := ?_) (a' := ?_) #[true, true, true, true, true, true, true, true, true, true, true, true, true, true, true, true, true, true, true, true, true, true, true, false, false, false, false, false] rfl rfl (by kernel_rfl) (fun _ _ _ h => h) (Or.inl ⟨by rfl, ?_⟩) hHeld ?_ ?_
  rotate_left
  · rintro w' ⟨s0, s1, s2, s3, s4, s5, s6, s7, s8, s9, s10, s11, s12⟩
    go_simp
    with_reducible rfl
  rotate_left
  · simp only [Act.put, List.setIfInBounds_toArray, List.set_cons_zero, List.set_cons_succ, i64_w, i32_w]
    rfl
  refine take_ (i := 23) (N := some 29) (v := ?_) (a' := ?_) #[true, true, true, true, true, true, true, true, true, true, true, true, true, true, true, true, true, true, true, true, true, true, true, true, false, false, false, false] rfl rfl (by kernel_rfl) (fun _ _ _ h => h) (Or.inl ⟨by rfl, ?_⟩) hHeld ?_ ?_
  rotate_left
  · rintro w' ⟨s0, s1, s2, s3, s4, s5, s6, s7, s8, s9, s10, s11, s12⟩
    go_simp
    with_reducible rfl
  rotate_left
  · simp only [Act.put, List.setIfInBounds_toArray, List.set_cons_zero, List.set_cons_succ, i64_w, i32_w]
    rfl
  refine pure_ (i := 24) (N := some 30) (v := ?_) (a' := ?_) #[true, true, true, true, true, true, true, true, true, true, true, true, true, true, true, true, true, true, true, true, true, true, true, true, true, false, false, false] rfl rfl (by kernel_rfl) (fun _ _ _ h => h) (Or.inl ⟨by rfl, ?_⟩) ?_ ?_
  rotate_left
  · intro w'
    go_simp
    with_reducible rfl
  rotate_left
  · simp only [Act.put, List.setIfInBounds_toArray, List.set_cons_zero, List.set_cons_succ, i64_w, i32_w]
    rfl
  refine last_ (i := 25) (N := none) #[true, true, true, true, true, true, true, true, true, true, true, true, true, true, true, true, true, true, true, true, true, true, true, true, true, true, false, false] rfl rfl (by kernel_rfl) (by decide) (fun K hK => ?_)
  refine skip_ (w1 := ?_) (by rfl) rfl ?_ ?_
  rotate_left
  · go_simp
    rfl
  refine hK.out _ _ ?_
  clear hK K
  have hp1 := row_put HO2.out i hi0 hi1 (rd_T24 l k)
  generalize hw2 : World.setCell _ _ _ = w2
  have HR2 := Aside0.mk (show Kd.R k24 24 w2 base (fun q => q ≠ X) (.slice (some ⟨g, 0, none⟩) l.length cap) (l.set i.toNat (rd_T24 l k)) from hw2 ▸ hp1.1)
  have HG2 := Aside0.mk (show w1.grownBy w2 (some g) from hw2 ▸ hp1.2)
  clear hp1 hw2 hHeld
  clear ci0 cif0 ck0 ckf0 ci1 cif1 ck1 ckf1 ci2 cif2 ck2 ckf2 ci3 cif3 ck3 ckf3 ci4 cif4 ck4 ckf4 ci5 cif5 ck5 ckf5
  obtain ⟨⟨d0, d1, d2, d3, d4, d5⟩, df0, df1, df2, df3, df4, df5⟩ := row_at HR2.out k hk0 hk1
  refine pure_ (i := 26) (N := some 31) (v := ?_) (a' := ?_) #[true, true, true, true, true, true, true, true, true, true, true, true, true, true, true, true, true, true, true, true, true, true, true, true, true, true, true, false] rfl rfl (by kernel_rfl) (fun _ _ _ h => h) (Or.inl ⟨by rfl, ?_⟩) ?_ ?_
  rotate_left
  · intro w'
    go_simp
    with_reducible rfl
  rotate_left
  · simp only [Act.put, List.setIfInBounds_toArray, List.set_cons_zero, List.set_cons_succ, i64_w, i32_w]
    rfl
  refine last_ (i := 27) (N := none) #[true, true, true, true, true, true, true, true, true, true, true, true, true, true, true, true, true, true, true, true, true, true, true, true, true, true, true, true] rfl rfl (by kernel_rfl) (by decide) (fun K hK => ?_)
  refine skip_ (w1 := ?_) (by rfl) rfl ?_ ?_
  rotate_left
  · go_simp
    rfl
  refine hK.out _ _ ?_
  clear hK K
  have hp2 := row_put HR2.out k hk0 hk1 (rd_T24 l i)
  generalize hw3 : World.setCell _ _ _ = w3
  have HR3 := Aside0.mk (show Kd.R k24 24 w3 base (fun q => q ≠ X) (.slice (some ⟨g, 0, none⟩) l.length cap) (swapL l i k) from hw3 ▸ hp2.1)
  have HG3 := Aside0.mk (show w2.grownBy w3 (some g) from hw3 ▸ hp2.2)
  clear hp2 hw3
  refine done_ (by kernel_rfl) ?_
  try go_wp2
  first | go_end0 | ((try simp only [Exit.inBlock, Exit.then]); refine bodyPost_ret (results_none rfl _ _ _) rfl ?_)
  have hX2 := blk_grown HX1.out HG2.out (Ne.symm HNE.out)
  exact ⟨rfl, blk_grown hX2 HG3.out (Ne.symm HNE.out), HR3.out, (HG1.out.trans HG2.out).trans HG3.out⟩

/-! ### heap_txs_better: function 183, by hand -/
-- HAND rounds=0 making=0 opaque
-- NEEDS (*hopper/heap.txs).swap
/-- Is the one better than the other? -/
def bt_ (x y : S24) : Option Bool := txn_Better.f 5 x.f0 x.f1 x.f2 x.f3 x.f4 x.f5 y.f0 y.f1 y.f2 y.f3 y.f4 y.f5
set_option maxHeartbeats 4000000 in
set_option maxRecDepth 100000 in
theorem heap_txs_better.calls (X g cap base : Nat) (l : List S24) (i k : Int) (b : Bool) (w : World) (HX : w.heap[X]? = some (.cells #[(.slice (some ⟨g, 0, none⟩) l.length cap)] 87 (0, 0))) (HO : Kd.R k24 24 w base (fun q => q ≠ X) (.slice (some ⟨g, 0, none⟩) l.length cap) l) (hi0 : 0 ≤ i) (hi1 : i < (l.length : Int)) (hk0 : 0 ≤ k) (hk1 : k < (l.length : Int)) (hbt : bt_ (rd_T24 l i) (rd_T24 l k) = some b) :
    Calls Try.prog 183 #[.pointer (some ⟨X, 0, none⟩), .int .i64 i, .int .i64 k] w fun e w' => e = .returned (.bool b) ∧ Below w.heap.size w w' := by
  unfold bt_ at hbt
  have HBT := Aside0.mk hbt
  clear hbt
  have hxc : w.drew.cell? ⟨X, 0, none⟩ = some (.slice (some ⟨g, 0, none⟩) l.length cap) := (blk_cell (show w.drew.heap[X]? = some (.cells #[(.slice (some ⟨g, 0, none⟩) l.length cap)] 87 (0, 0)) from HX) 0).trans rfl
  obtain ⟨⟨ci0, ci1, ci2, ci3, ci4, ci5⟩, cif0, cif1, cif2, cif3, cif4, cif5⟩ := row_at (Kd.R_drew HO) i hi0 hi1
  obtain ⟨⟨ck0, ck1, ck2, ck3, ck4, ck5⟩, ckf0, ckf1, ckf2, ckf3, ckf4, ckf5⟩ := row_at (Kd.R_drew HO) k hk0 hk1
  go_enter Try.func183, Try.ntmps183
  try go_wp2
  refine start_ (n := 16) (S := fun w' => w'.cell? ⟨X, 0, none⟩ = some (.slice (some ⟨g, 0, none⟩) l.length cap) ∧ w'.cell? ⟨g, i.toNat * 6, none⟩ = some (.int .i64 (rd_T24 l i).f0) ∧ w'.cell? ⟨g, i.toNat * 6 + 1, none⟩ = some (.int .i64 (rd_T24 l i).f1) ∧ w'.cell? ⟨g, i.toNat * 6 + 2, none⟩ = some (.int .i64 (rd_T24 l i).f2) ∧ w'.cell? ⟨g, i.toNat * 6 + 3, none⟩ = some (.int .i64 (rd_T24 l i).f3) ∧ w'.cell? ⟨g, i.toNat * 6 + 4, none⟩ = some (.int .i64 (rd_T24 l i).f4) ∧ w'.cell? ⟨g, i.toNat * 6 + 5, none⟩ = some (.string (rd_T24 l i).f5) ∧ w'.cell? ⟨g, k.toNat * 6, none⟩ = some (.int .i64 (rd_T24 l k).f0) ∧ w'.cell? ⟨g, k.toNat * 6 + 1, none⟩ = some (.int .i64 (rd_T24 l k).f1) ∧ w'.cell? ⟨g, k.toNat * 6 + 2, none⟩ = some (.int .i64 (rd_T24 l k).f2) ∧ w'.cell? ⟨g, k.toNat * 6 + 3, none⟩ = some (.int .i64 (rd_T24 l k).f3) ∧ w'.cell? ⟨g, k.toNat * 6 + 4, none⟩ = some (.int .i64 (rd_T24 l k).f4) ∧ w'.cell? ⟨g, k.toNat * 6 + 5, none⟩ = some (.string (rd_T24 l k).f5)) (ds := [14]) #[false, false, false, false, false, false, false, false, false, false, false, false, false, false, false, false] (by kernel_rfl) rfl rfl ⟨hxc, ci0, ci1, ci2, ci3, ci4, ci5, ck0, ck1, ck2, ck3, ck4, ck5⟩ (fun hHeld => ?_)
  have HB1 := Aside0.mk (show Below w.heap.size w w.drew from below_drew1 (Below.refl _ _))
  clear HX HO hxc
  generalize w.drew = w1 at hHeld HB1 ci0 cif0 ck0 ckf0 ci1 cif1 ck1 ckf1 ci2 cif2 ck2 ckf2 ci3 cif3 ck3 ckf3 ci4 cif4 ck4 ckf4 ci5 cif5 ck5 ckf5 ⊢
  refine pure_ (i := 0) (N := some 7) (v := ?_) (a' := ?_) #[true, false, false, false, false, false, false, false, false, false, false, false, false, false, false, false] rfl rfl (by kernel_rfl) (fun _ _ _ h => h) (Or.inl ⟨by rfl, ?_⟩) ?_ ?_
  rotate_left
  · intro w'
    go_simp
    with_reducible rfl
  rotate_left
  · simp only [Act.put, List.setIfInBounds_toArray, List.set_cons_zero, List.set_cons_succ, i64_w, i32_w]
    rfl
  refine pure_ (i := 1) (N := some 8) (v := ?_) (a' := ?_) #[true, true, false, false, false, false, false, false, false, false, false, false, false, false, false, false] rfl rfl (by kernel_rfl) (fun _ _ _ h => h) (Or.inl ⟨by rfl, ?_⟩) ?_ ?_
  rotate_left
  · intro w'
    go_simp
    with_reducible rfl
  rotate_left
  · simp only [Act.put, List.setIfInBounds_toArray, List.set_cons_zero, List.set_cons_succ, i64_w, i32_w]
    rfl
  refine pure_ (i := 2) (N := some 9) (v := ?_) (a' := ?_) #[true, true, true, false, false, false, false, false, false, false, false, false, false, false, false, false] rfl rfl (by kernel_rfl) (fun _ _ _ h => h) (Or.inl ⟨by rfl, ?_⟩) ?_ ?_
  rotate_left
  · intro w'
    go_simp
    with_reducible rfl
  rotate_left
  · simp only [Act.put, List.setIfInBounds_toArray, List.set_cons_zero, List.set_cons_succ, i64_w, i32_w]
    rfl
  refine pure_ (i := 4) (N := some 11) (v := ?_) (a' := ?_) #[true, true, true, false, true, false, false, false, false, false, false, false, false, false, false, false] rfl rfl (by kernel_rfl) (fun _ _ _ h => h) (Or.inl ⟨by rfl, ?_⟩) ?_ ?_
  rotate_left
  · intro w'
    go_simp
    with_reducible rfl
  rotate_left
  · simp only [Act.put, List.setIfInBounds_toArray, List.set_cons_zero, List.set_cons_succ, i64_w, i32_w]
    rfl
  refine pure_ (i := 7) (N := some 14) (v := ?_) (a' := ?_) #[true, true, true, false, true, false, false, true, false, false, false, false, false, false, false, false] rfl rfl (by kernel_rfl) (fun _ _ _ h => h) (Or.inl ⟨by rfl, ?_⟩) ?_ ?_
  rotate_left
  · intro w'
    go_simp
    with_reducible rfl
  rotate_left
  · simp only [Act.put, List.setIfInBounds_toArray, List.set_cons_zero, List.set_cons_succ, i64_w, i32_w]
    rfl
  refine pure_ (i := 8) (N := some 15) (v := ?_) (a' := ?_) #[true, true, true, false, true, false, false, true, true, false, false, false, false, false, false, false] rfl rfl (by kernel_rfl) (fun _ _ _ h => h) (Or.inl ⟨by rfl, ?_⟩) ?_ ?_
  rotate_left
  · intro w'
    go_simp
    with_reducible rfl
  rotate_left
  · simp only [Act.put, List.setIfInBounds_toArray, List.set_cons_zero, List.set_cons_succ, i64_w, i32_w]
    rfl
  refine pure_ (i := 9) (N := some 16) (v := ?_) (a' := ?_) #[true, true, true, false, true, false, false, true, true, true, false, false, false, false, false, false] rfl rfl (by kernel_rfl) (fun _ _ _ h => h) (Or.inl ⟨by rfl, ?_⟩) ?_ ?_
  rotate_left
  · intro w'
    go_simp
    with_reducible rfl
  rotate_left
  · simp only [Act.put, List.setIfInBounds_toArray, List.set_cons_zero, List.set_cons_succ, i64_w, i32_w]
    rfl
  refine pure_ (i := 11) (N := some 18) (v := ?_) (a' := ?_) #[true, true, true, false, true, false, false, true, true, true, false, true, false, false, false, false] rfl rfl (by kernel_rfl) (fun _ _ _ h => h) (Or.inl ⟨by rfl, ?_⟩) ?_ ?_
  rotate_left
  · intro w'
    go_simp
    with_reducible rfl
  rotate_left
  · simp only [Act.put, List.setIfInBounds_toArray, List.set_cons_zero, List.set_cons_succ, i64_w, i32_w]
    rfl
  refine take_ (i := 3) (N := some 10) (v := ?_) (a' := ?_) #[true, true, true, true, true, false, false, true, true, true, false, true, false, false, false, false] rfl rfl (by kernel_rfl) (fun _ _ _ h => h) (Or.inl ⟨by rfl, ?_⟩) hHeld ?_ ?_
  rotate_left
  · rintro w' ⟨s0, s1, s2, s3, s4, s5, s6, s7, s8, s9, s10, s11, s12⟩
    go_simp
    with_reducible rfl
  rotate_left
  · simp only [Act.put, List.setIfInBounds_toArray, List.set_cons_zero, List.set_cons_succ, i64_w, i32_w]
    rfl
  refine take_ (i := 10) (N := some 17) (v := ?_) (a' := ?_) #[true, true, true, true, true, false, false, true, true, true, true, true, false, false, false, false] rfl rfl (by kernel_rfl) (fun _ _ _ h => h) (Or.inl ⟨by rfl, ?_⟩) hHeld ?_ ?_
  rotate_left
  · rintro w' ⟨s0, s1, s2, s3, s4, s5, s6, s7, s8, s9, s10, s11, s12⟩
    go_simp
    with_reducible rfl
  rotate_left
  · simp only [Act.put, List.setIfInBounds_toArray, List.set_cons_zero, List.set_cons_succ, i64_w, i32_w]
    rfl
  refine pure_ (i := 5) (N := some 12) (v := ?_) (a' := ?_) #[true, true, true, true, true, true, false, true, true, true, true, true, false, false, false, false] rfl rfl (by kernel_rfl) (fun _ _ _ h => h) (Or.inl ⟨by rfl, ?_⟩) ?_ ?_
  rotate_left
  · intro w'
    go_simp
    with_reducible rfl
  rotate_left
  · simp only [Act.put, List.setIfInBounds_toArray, List.set_cons_zero, List.set_cons_succ, i64_w, i32_w]
    rfl
  refine pure_ (i := 12) (N := some 19) (v := ?_) (a' := ?_) #[true, true, true, true, true, true, false, true, true, true, true, true, true, false, false, false] rfl rfl (by kernel_rfl) (fun _ _ _ h => h) (Or.inl ⟨by rfl, ?_⟩) ?_ ?_
  rotate_left
  · intro w'
    go_simp
    with_reducible rfl
  rotate_left
  · simp only [Act.put, List.setIfInBounds_toArray, List.set_cons_zero, List.set_cons_succ, i64_w, i32_w]
    rfl
  refine take_ (i := 6) (N := some 13) (v := ?_) (a' := ?_) #[true, true, true, true, true, true, true, true, true, true, true, true, true, false, false, false] rfl rfl (by kernel_rfl) (fun _ _ _ h => h) (Or.inl ⟨by rfl, ?_⟩) hHeld ?_ ?_
  rotate_left
  · rintro w' ⟨s0, s1, s2, s3, s4, s5, s6, s7, s8, s9, s10, s11, s12⟩
    go_simp
    with_reducible rfl
  rotate_left
  · simp only [Act.put, List.setIfInBounds_toArray, List.set_cons_zero, List.set_cons_succ, i64_w, i32_w]
    rfl
  refine take_ (i := 13) (N := some 20) (v := ?_) (a' := ?_) #[true, true, true, true, true, true, true, true, true, true, true, true, true, true, false, false] rfl rfl (by kernel_rfl) (fun _ _ _ h => h) (Or.inl ⟨by rfl, ?_⟩) hHeld ?_ ?_
  rotate_left
  · rintro w' ⟨s0, s1, s2, s3, s4, s5, s6, s7, s8, s9, s10, s11, s12⟩
    go_simp
    with_reducible rfl
  rotate_left
  · simp only [Act.put, List.setIfInBounds_toArray, List.set_cons_zero, List.set_cons_succ, i64_w, i32_w]
    rfl
  refine last_ (i := 14) (N := some 21) #[true, true, true, true, true, true, true, true, true, true, true, true, true, true, true, false] rfl rfl (by kernel_rfl) (by decide) (fun K hK => ?_)
  refine goes_ Try.func84 (by kernel_rfl) rfl #[.agg #[.int .i64 (rd_T24 l i).f0, .int .i64 (rd_T24 l i).f1, .int .i64 (rd_T24 l i).f2, .int .i64 (rd_T24 l i).f3, .int .i64 (rd_T24 l i).f4, .string (rd_T24 l i).f5], .agg #[.int .i64 (rd_T24 l k).f0, .int .i64 (rd_T24 l k).f1, .int .i64 (rd_T24 l k).f2, .int .i64 (rd_T24 l k).f3, .int .i64 (rd_T24 l k).f4, .string (rd_T24 l k).f5]] (by rfl) rfl rfl (by (try simp only [List.map_toArray, List.map_cons, List.map_nil]); first | done | rfl) ?_
  with_reducible refine (txn_Better.calls 5 _ _ _ _ _ _ _ _ _ _ _ _ b _ HBT.out).mono ?_
  rintro e w4 ⟨rfl, hb4⟩
  refine ⟨_, rfl, ?_⟩
  have HB4 := Aside0.mk (below_step HB1.out hb4)
  clear hb4 hHeld
  refine hK.out _ _ ?_
  clear hK K
  refine norm_ (a' := ?_) ?_ ?_
  rotate_left
  · show Act.put _ (some 21) _ = _
    simp only [Act.put, List.setIfInBounds_toArray, List.set_cons_zero, List.set_cons_succ, i64_w, i32_w]
    rfl
  refine pure_ (i := 15) (N := some 6) (v := ?_) (a' := ?_) #[true, true, true, true, true, true, true, true, true, true, true, true, true, true, true, true] rfl rfl (by kernel_rfl) (fun _ _ _ h => h) (Or.inl ⟨by rfl, ?_⟩) ?_ ?_
  rotate_left
  · intro w'
    go_simp
    with_reducible rfl
  rotate_left
  · simp only [Act.put, List.setIfInBounds_toArray, List.set_cons_zero, List.set_cons_succ, i64_w, i32_w]
    rfl
  refine done_ (by kernel_rfl) ?_
  go_wp2
  go_ret
  exact ⟨rfl, HB4.out⟩

/-! ### heap_txs_size: function 184, by hand -/
-- HAND rounds=0 making=0 opaque
set_option maxRecDepth 100000 in
theorem heap_txs_size.calls (X : Nat) (A : Option Addr) (n c : Nat) (w : World) (hc : w.cell? ⟨X, 0, none⟩ = some (.slice A n c)) :
    Calls Try.prog 184 #[.pointer (some ⟨X, 0, none⟩)] w fun e w' => e = .returned (.int .i64 n) ∧ w' = w := by
  go_enter Try.func184, Try.ntmps184
  go_wp2
  go_ret
  exact ⟨rfl, rfl⟩

/-! ### heap_down: function 82, by hand -/
-- HAND rounds=0 making=0 opaque
-- NEEDS (*hopper/heap.txs).swap
-- NEEDS (*hopper/heap.txs).better
-- NEEDS (*hopper/heap.txs).size
-- IMPORT Derived.Test.YtehncbhmdgdkjaaGoto
def downL : Nat → List S24 → Int → Option (List S24)
  | 0, _, _ => none
  | m + 1, l, i => (if 2 * i + 1 + 1 < (l.length : Int) then bt_ (rd_T24 l (2 * i + 1 + 1)) (rd_T24 l (2 * i + 1)) else some false).bind fun c =>
    if c = true then (bt_ (rd_T24 l (2 * i + 1 + 1)) (rd_T24 l i)).bind fun b => if b = true then downL m (swapL l i (2 * i + 1 + 1)) (2 * i + 1 + 1) else some l
    else if 2 * i + 1 < (l.length : Int) then (bt_ (rd_T24 l (2 * i + 1)) (rd_T24 l i)).bind fun b => if b = true then downL m (swapL l i (2 * i + 1)) (2 * i + 1) else some l else some l
/-- What holds at each arrival at the label. -/
def DownJ (X g cap base : Nat) (n : Nat) (r : List S24) (w w' : World) (a : Act) : Prop := ∃ (m : Nat) (l : List S24) (i : Int), downL m l i = some r ∧ 0 ≤ i ∧ i ≤ (n : Int) ∧ l.length = n ∧ w'.heap[X]? = some (.cells #[(.slice (some ⟨g, 0, none⟩) l.length cap)] 87 (0, 0)) ∧ Kd.R k24 24 w' base (fun q => q ≠ X) (.slice (some ⟨g, 0, none⟩) l.length cap) l ∧ w.grownBy w' (some g) ∧
  ∃ u2 u3 u4 u5 u6 u7 u8 u9 u10 u11 u12 u13 u14 u15 u16 u17 u18 u19 u20 u21 u22 u23 u24 u25 u26 u27 u28 u29 u30 u31 u32 u33 u34 u35 u36 : Value, a = { tmps := #[.iface 85 (.pointer (some ⟨X, 0, none⟩)), .int .i64 i, u2, u3, u4, u5, u6, u7, u8, u9, u10, u11, u12, u13, u14, u15, u16, u17, u18, u19, u20, u21, u22, u23, u24, u25, u26, u27, u28, u29, u30, u31, u32, u33, u34, u35, u36], defers := [] }
set_option maxHeartbeats 4000000 in
set_option maxRecDepth 100000 in
theorem heap_down.calls (m X g cap base : Nat) (l r : List S24) (i : Int) (w : World) (HX : w.heap[X]? = some (.cells #[(.slice (some ⟨g, 0, none⟩) l.length cap)] 87 (0, 0))) (HO : Kd.R k24 24 w base (fun q => q ≠ X) (.slice (some ⟨g, 0, none⟩) l.length cap) l) (hn : l.length ≤ 140737488355328) (hi0 : 0 ≤ i) (hi1 : i ≤ (l.length : Int)) (h : downL m l i = some r) :
    Calls Try.prog 82 #[.iface 85 (.pointer (some ⟨X, 0, none⟩)), .int .i64 i] w fun e w' => e = .returned (.tuple #[]) ∧ w'.heap[X]? = some (.cells #[(.slice (some ⟨g, 0, none⟩) l.length cap)] 87 (0, 0)) ∧ Kd.R k24 24 w' base (fun q => q ≠ X) (.slice (some ⟨g, 0, none⟩) l.length cap) r ∧ r.length = l.length ∧ w.grownBy w' (some g) := by
  obtain ⟨n, hl⟩ : ∃ n, n = l.length := ⟨_, rfl⟩
  rw [← hl] at hn hi1 ⊢
  have HSt := Aside0.mk (show DownJ X g cap base n r w w { tmps := #[.iface 85 (.pointer (some ⟨X, 0, none⟩)), .int .i64 i, undef, undef, undef, undef, undef, undef, undef, undef, undef, undef, undef, undef, undef, undef, undef, undef, undef, undef, undef, undef, undef, undef, undef, undef, undef, undef, undef, undef, undef, undef, undef, undef, undef, undef, undef], defers := [] } from
    ⟨m, l, i, h, hi0, hi1, hl.symm, HX, HO, World.grownBy.refl _ _, _, _, _, _, _, _, _, _, _, _, _, _, _, _, _, _, _, _, _, _, _, _, _, _, _, _, _, _, _, _, _, _, _, _, _, rfl⟩)
  have HN := Aside0.mk hn
  clear h HX HO hl hi0 hi1 hn
  go_enter Try.func82, Try.ntmps82
  go_wp2
  refine Goto.scope_label 0 (fun a' w' => DownJ X g cap base n r w w' a') (fun a' _ => n + 1 - (intOf (a'.tmps.getD 1 undef)).toNat) rfl ?_ ?_
  · rintro a' w' ⟨m, l, i, h, hi0, hi1, hl, HX, HO, HG, u2, u3, u4, u5, u6, u7, u8, u9, u10, u11, u12, u13, u14, u15, u16, u17, u18, u19, u20, u21, u22, u23, u24, u25, u26, u27, u28, u29, u30, u31, u32, u33, u34, u35, u36, rfl⟩
    have HX := Aside0.mk HX
    have HO := Aside0.mk HO
    have HG := Aside0.mk HG
    have HLn := Aside0.mk hl
    cases m with
    | zero => exact absurd h (by simp [downL])
    | succ m =>
      have hi2 : i ≤ 140737488355328 := by have := HN.out; omega
      have hn2 : l.length ≤ 140737488355328 := by have := HN.out; omega
      have HI := Aside0.mk (show 0 ≤ i ∧ i ≤ (l.length : Int) by omega)
      clear hi1 hl
      have hm_size : ∀ W : World, (method 294 85 (.pointer (some ⟨X, 0, none⟩)) "hopper/heap.size").run Try.prog W = .ok (184, .pointer (some ⟨X, 0, none⟩)) W := fun _ => by kernel_rfl
      have hm_better : ∀ W : World, (method 294 85 (.pointer (some ⟨X, 0, none⟩)) "hopper/heap.better").run Try.prog W = .ok (183, .pointer (some ⟨X, 0, none⟩)) W := fun _ => by kernel_rfl
      have hm_swap : ∀ W : World, (method 294 85 (.pointer (some ⟨X, 0, none⟩)) "hopper/heap.swap").run Try.prog W = .ok (185, .pointer (some ⟨X, 0, none⟩)) W := fun _ => by kernel_rfl
      simp only [downL] at h
      by_cases hc1 : 2 * i + 1 + 1 < (l.length : Int)
      · have HC1 := Aside0.mk hc1
        have hd1 : decide (2 * i + 1 + 1 < (l.length : Int)) = true := decide_eq_true hc1
        have hd2 : decide (2 * i + 1 < (l.length : Int)) = true := decide_eq_true (by omega)
        rw [if_pos hc1] at h
        clear hc1
        obtain ⟨b1, hb1, h⟩ := Option.bind_eq_some_iff.1 h
        have HB1 := Aside0.mk hb1
        clear hb1
        cases b1 with
        | true =>
          rw [if_pos rfl] at h
          obtain ⟨b2, hb2, h⟩ := Option.bind_eq_some_iff.1 h
          have HB2 := Aside0.mk hb2
          clear hb2
          cases b2 with
          | false =>
            have HR := Aside0.mk (show some l = some r from h)
            clear h
            go_wp2_with (first | (go_at_call 184; (with_reducible refine (heap_txs_size.calls X _ _ _ _ ((blk_cell HX.out 0).trans rfl)).mono ?_); rintro e w9 ⟨rfl, rfl⟩) | (go_at_call 184; (with_reducible refine (heap_txs_size.calls X _ _ _ _ ((blk_cell HX1.out 0).trans rfl)).mono ?_); rintro e w9 ⟨rfl, rfl⟩) | (go_at_call 183; (with_reducible refine (heap_txs_better.calls X g cap base l (2 * i + 1 + 1) (2 * i + 1) true _ HX.out HO.out (by have := HI.out; omega) (by have := HC1.out; omega) (by have := HI.out; omega) (by have := HC1.out; omega) HB1.out).mono ?_); rintro e v1 ⟨rfl, hb1⟩; have HX1 := Aside0.mk (blk_below HX.out hb1); have HO1 := Aside0.mk (Kd.R_below HO.out hb1); have HG1 := Aside0.mk (HG.out.trans (grown_of_below hb1 (some g))); clear hb1) | (go_at_call 183; (with_reducible refine (heap_txs_better.calls X g cap base l (2 * i + 1 + 1) (i) false _ HX1.out HO1.out (by have := HI.out; omega) (by have := HC1.out; omega) (by have := HI.out; omega) (by have := HC1.out; have := HI.out; omega) HB2.out).mono ?_); rintro e v6 ⟨rfl, hb1⟩; have HX6 := Aside0.mk (blk_below HX1.out hb1); have HO6 := Aside0.mk (Kd.R_below HO1.out hb1); have HG6 := Aside0.mk (HG1.out.trans (grown_of_below hb1 (some g))); clear hb1))
            try simp only [Exit.jump]
            first | go_end0 | ((try simp only [Exit.inBlock, Exit.then]); refine bodyPost_ret (results_none rfl _ _ _) rfl ?_)
            obtain rfl := Option.some.inj HR.out
            have hx := HX6.out
            have ho := HO6.out
            rw [HLn.out] at hx ho
            exact ⟨rfl, hx, ho, HLn.out, HG6.out⟩
          | true =>
            have HR := Aside0.mk (show downL m (swapL l i (2 * i + 1 + 1)) (2 * i + 1 + 1) = some r from h)
            clear h
            go_wp2_with (first | (go_at_call 184; (with_reducible refine (heap_txs_size.calls X _ _ _ _ ((blk_cell HX.out 0).trans rfl)).mono ?_); rintro e w9 ⟨rfl, rfl⟩) | (go_at_call 184; (with_reducible refine (heap_txs_size.calls X _ _ _ _ ((blk_cell HX1.out 0).trans rfl)).mono ?_); rintro e w9 ⟨rfl, rfl⟩) | (go_at_call 183; (with_reducible refine (heap_txs_better.calls X g cap base l (2 * i + 1 + 1) (2 * i + 1) true _ HX.out HO.out (by have := HI.out; omega) (by have := HC1.out; omega) (by have := HI.out; omega) (by have := HC1.out; omega) HB1.out).mono ?_); rintro e v1 ⟨rfl, hb1⟩; have HX1 := Aside0.mk (blk_below HX.out hb1); have HO1 := Aside0.mk (Kd.R_below HO.out hb1); have HG1 := Aside0.mk (HG.out.trans (grown_of_below hb1 (some g))); clear hb1) | (go_at_call 183; (with_reducible refine (heap_txs_better.calls X g cap base l (2 * i + 1 + 1) (i) true _ HX1.out HO1.out (by have := HI.out; omega) (by have := HC1.out; omega) (by have := HI.out; omega) (by have := HC1.out; have := HI.out; omega) HB2.out).mono ?_); rintro e v6 ⟨rfl, hb1⟩; have HX6 := Aside0.mk (blk_below HX1.out hb1); have HO6 := Aside0.mk (Kd.R_below HO1.out hb1); have HG6 := Aside0.mk (HG1.out.trans (grown_of_below hb1 (some g))); clear hb1) | (go_at_call 185; (with_reducible refine (heap_txs_swap.calls X g cap base l i (2 * i + 1 + 1) _ HX6.out HO6.out (by have := HI.out; omega) (by have := HC1.out; have := HI.out; omega) (by have := HI.out; omega) (by have := HC1.out; omega)).mono ?_); rintro e v7 ⟨rfl, hx2, ho2, hg2⟩; have HX7 := Aside0.mk hx2; have HO7 := Aside0.mk ho2; have HG7 := Aside0.mk (HG6.out.trans hg2); clear hx2 ho2 hg2))
            go_step3
            have hw := swapL_length l i (2 * i + 1 + 1)
            refine ⟨rfl, ⟨m, swapL l i (2 * i + 1 + 1), 2 * i + 1 + 1, HR.out, by have := HI.out; omega, by have := HI.out; have := HC1.out; have := HLn.out; omega, hw.trans HLn.out, by rw [hw]; exact HX7.out, by rw [hw]; exact HO7.out, HG7.out, _, _, _, _, _, _, _, _, _, _, _, _, _, _, _, _, _, _, _, _, _, _, _, _, _, _, _, _, _, _, _, _, _, _, _, rfl⟩, ?_⟩
            have := HI.out
            have := HLn.out
            have := HC1.out
            simp [intOf]
            omega
        | false =>
          rw [if_neg (by decide), if_pos (by have := HC1.out; omega)] at h
          obtain ⟨b2, hb2, h⟩ := Option.bind_eq_some_iff.1 h
          have HB2 := Aside0.mk hb2
          clear hb2
          cases b2 with
          | false =>
            have HR := Aside0.mk (show some l = some r from h)
            clear h
            go_wp2_with (first | (go_at_call 184; (with_reducible refine (heap_txs_size.calls X _ _ _ _ ((blk_cell HX.out 0).trans rfl)).mono ?_); rintro e w9 ⟨rfl, rfl⟩) | (go_at_call 184; (with_reducible refine (heap_txs_size.calls X _ _ _ _ ((blk_cell HX1.out 0).trans rfl)).mono ?_); rintro e w9 ⟨rfl, rfl⟩) | (go_at_call 183; (with_reducible refine (heap_txs_better.calls X g cap base l (2 * i + 1 + 1) (2 * i + 1) false _ HX.out HO.out (by have := HI.out; omega) (by have := HC1.out; omega) (by have := HI.out; omega) (by have := HC1.out; omega) HB1.out).mono ?_); rintro e v1 ⟨rfl, hb1⟩; have HX1 := Aside0.mk (blk_below HX.out hb1); have HO1 := Aside0.mk (Kd.R_below HO.out hb1); have HG1 := Aside0.mk (HG.out.trans (grown_of_below hb1 (some g))); clear hb1) | (go_at_call 183; (with_reducible refine (heap_txs_better.calls X g cap base l (2 * i + 1) (i) false _ HX1.out HO1.out (by have := HI.out; omega) (by have := HC1.out; omega) (by have := HI.out; omega) (by have := HC1.out; have := HI.out; omega) HB2.out).mono ?_); rintro e v6 ⟨rfl, hb1⟩; have HX6 := Aside0.mk (blk_below HX1.out hb1); have HO6 := Aside0.mk (Kd.R_below HO1.out hb1); have HG6 := Aside0.mk (HG1.out.trans (grown_of_below hb1 (some g))); clear hb1))
            try simp only [Exit.jump]
            first | go_end0 | ((try simp only [Exit.inBlock, Exit.then]); refine bodyPost_ret (results_none rfl _ _ _) rfl ?_)
            obtain rfl := Option.some.inj HR.out
            have hx := HX6.out
            have ho := HO6.out
            rw [HLn.out] at hx ho
            exact ⟨rfl, hx, ho, HLn.out, HG6.out⟩
          | true =>
            have HR := Aside0.mk (show downL m (swapL l i (2 * i + 1)) (2 * i + 1) = some r from h)
            clear h
            go_wp2_with (first | (go_at_call 184; (with_reducible refine (heap_txs_size.calls X _ _ _ _ ((blk_cell HX.out 0).trans rfl)).mono ?_); rintro e w9 ⟨rfl, rfl⟩) | (go_at_call 184; (with_reducible refine (heap_txs_size.calls X _ _ _ _ ((blk_cell HX1.out 0).trans rfl)).mono ?_); rintro e w9 ⟨rfl, rfl⟩) | (go_at_call 183; (with_reducible refine (heap_txs_better.calls X g cap base l (2 * i + 1 + 1) (2 * i + 1) false _ HX.out HO.out (by have := HI.out; omega) (by have := HC1.out; omega) (by have := HI.out; omega) (by have := HC1.out; omega) HB1.out).mono ?_); rintro e v1 ⟨rfl, hb1⟩; have HX1 := Aside0.mk (blk_below HX.out hb1); have HO1 := Aside0.mk (Kd.R_below HO.out hb1); have HG1 := Aside0.mk (HG.out.trans (grown_of_below hb1 (some g))); clear hb1) | (go_at_call 183; (with_reducible refine (heap_txs_better.calls X g cap base l (2 * i + 1) (i) true _ HX1.out HO1.out (by have := HI.out; omega) (by have := HC1.out; omega) (by have := HI.out; omega) (by have := HC1.out; have := HI.out; omega) HB2.out).mono ?_); rintro e v6 ⟨rfl, hb1⟩; have HX6 := Aside0.mk (blk_below HX1.out hb1); have HO6 := Aside0.mk (Kd.R_below HO1.out hb1); have HG6 := Aside0.mk (HG1.out.trans (grown_of_below hb1 (some g))); clear hb1) | (go_at_call 185; (with_reducible refine (heap_txs_swap.calls X g cap base l i (2 * i + 1) _ HX6.out HO6.out (by have := HI.out; omega) (by have := HC1.out; have := HI.out; omega) (by have := HI.out; omega) (by have := HC1.out; omega)).mono ?_); rintro e v7 ⟨rfl, hx2, ho2, hg2⟩; have HX7 := Aside0.mk hx2; have HO7 := Aside0.mk ho2; have HG7 := Aside0.mk (HG6.out.trans hg2); clear hx2 ho2 hg2))
            go_step3
            have hw := swapL_length l i (2 * i + 1)
            refine ⟨rfl, ⟨m, swapL l i (2 * i + 1), 2 * i + 1, HR.out, by have := HI.out; omega, by have := HI.out; have := HC1.out; have := HLn.out; omega, hw.trans HLn.out, by rw [hw]; exact HX7.out, by rw [hw]; exact HO7.out, HG7.out, _, _, _, _, _, _, _, _, _, _, _, _, _, _, _, _, _, _, _, _, _, _, _, _, _, _, _, _, _, _, _, _, _, _, _, rfl⟩, ?_⟩
            have := HI.out
            have := HLn.out
            have := HC1.out
            simp [intOf]
            omega
      · have hd1 : decide (2 * i + 1 + 1 < (l.length : Int)) = false := decide_eq_false hc1
        rw [if_neg hc1, Option.bind_some, if_neg (by decide)] at h
        by_cases hc2 : 2 * i + 1 < (l.length : Int)
        · have HC1 := Aside0.mk hc2
          have hd2 : decide (2 * i + 1 < (l.length : Int)) = true := decide_eq_true hc2
          rw [if_pos hc2] at h
          clear hc1 hc2
          obtain ⟨b2, hb2, h⟩ := Option.bind_eq_some_iff.1 h
          have HB2 := Aside0.mk hb2
          clear hb2
          cases b2 with
          | false =>
            have HR := Aside0.mk (show some l = some r from h)
            clear h
            go_wp2_with (first | (go_at_call 184; (with_reducible refine (heap_txs_size.calls X _ _ _ _ ((blk_cell HX.out 0).trans rfl)).mono ?_); rintro e w9 ⟨rfl, rfl⟩) | (go_at_call 183; (with_reducible refine (heap_txs_better.calls X g cap base l (2 * i + 1) (i) false _ HX.out HO.out (by have := HI.out; omega) (by have := HC1.out; omega) (by have := HI.out; omega) (by have := HC1.out; have := HI.out; omega) HB2.out).mono ?_); rintro e v5 ⟨rfl, hb1⟩; have HX5 := Aside0.mk (blk_below HX.out hb1); have HO5 := Aside0.mk (Kd.R_below HO.out hb1); have HG5 := Aside0.mk (HG.out.trans (grown_of_below hb1 (some g))); clear hb1))
            try simp only [Exit.jump]
            first | go_end0 | ((try simp only [Exit.inBlock, Exit.then]); refine bodyPost_ret (results_none rfl _ _ _) rfl ?_)
            obtain rfl := Option.some.inj HR.out
            have hx := HX5.out
            have ho := HO5.out
            rw [HLn.out] at hx ho
            exact ⟨rfl, hx, ho, HLn.out, HG5.out⟩
          | true =>
            have HR := Aside0.mk (show downL m (swapL l i (2 * i + 1)) (2 * i + 1) = some r from h)
            clear h
            go_wp2_with (first | (go_at_call 184; (with_reducible refine (heap_txs_size.calls X _ _ _ _ ((blk_cell HX.out 0).trans rfl)).mono ?_); rintro e w9 ⟨rfl, rfl⟩) | (go_at_call 183; (with_reducible refine (heap_txs_better.calls X g cap base l (2 * i + 1) (i) true _ HX.out HO.out (by have := HI.out; omega) (by have := HC1.out; omega) (by have := HI.out; omega) (by have := HC1.out; have := HI.out; omega) HB2.out).mono ?_); rintro e v5 ⟨rfl, hb1⟩; have HX5 := Aside0.mk (blk_below HX.out hb1); have HO5 := Aside0.mk (Kd.R_below HO.out hb1); have HG5 := Aside0.mk (HG.out.trans (grown_of_below hb1 (some g))); clear hb1) | (go_at_call 185; (with_reducible refine (heap_txs_swap.calls X g cap base l i (2 * i + 1) _ HX5.out HO5.out (by have := HI.out; omega) (by have := HC1.out; have := HI.out; omega) (by have := HI.out; omega) (by have := HC1.out; omega)).mono ?_); rintro e v6 ⟨rfl, hx2, ho2, hg2⟩; have HX6 := Aside0.mk hx2; have HO6 := Aside0.mk ho2; have HG6 := Aside0.mk (HG5.out.trans hg2); clear hx2 ho2 hg2))
            go_step3
            have hw := swapL_length l i (2 * i + 1)
            refine ⟨rfl, ⟨m, swapL l i (2 * i + 1), 2 * i + 1, HR.out, by have := HI.out; omega, by have := HI.out; have := HC1.out; have := HLn.out; omega, hw.trans HLn.out, by rw [hw]; exact HX6.out, by rw [hw]; exact HO6.out, HG6.out, _, _, _, _, _, _, _, _, _, _, _, _, _, _, _, _, _, _, _, _, _, _, _, _, _, _, _, _, _, _, _, _, _, _, _, rfl⟩, ?_⟩
            have := HI.out
            have := HLn.out
            have := HC1.out
            simp [intOf]
            omega
        · have hd2 : decide (2 * i + 1 < (l.length : Int)) = false := decide_eq_false hc2
          rw [if_neg hc2] at h
          have HR := Aside0.mk h
          clear hc1 hc2 h
          go_wp2_with (first | (go_at_call 184; (with_reducible refine (heap_txs_size.calls X _ _ _ _ ((blk_cell HX.out 0).trans rfl)).mono ?_); rintro e w9 ⟨rfl, rfl⟩))
          try simp only [Exit.jump]
          first | go_end0 | ((try simp only [Exit.inBlock, Exit.then]); refine bodyPost_ret (results_none rfl _ _ _) rfl ?_)
          obtain rfl := Option.some.inj HR.out
          have hx := HX.out
          have ho := HO.out
          rw [HLn.out] at hx ho
          exact ⟨rfl, hx, ho, HLn.out, HG.out⟩
  · intro L hL hLr
    have HL := Aside0.mk hL
    have HLr := Aside0.mk hLr
    clear hL hLr
    go_wp2
    go_step3
    rename_i K hK
    exact hK _ _ (HLr.out _ _ (HL.out _ _ HSt.out))


end Go.Proofs.Ytehncbhmdgdkjaa.L
