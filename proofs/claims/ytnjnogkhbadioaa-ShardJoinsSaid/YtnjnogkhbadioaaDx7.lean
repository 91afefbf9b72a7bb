/- Written by this session's own program over the kit's print: functions of Go told as plain functions, or the row of one statement; proved for every input, with no condition of ours. -/
import Derived.Test.YtnjnogkhbadioaaDx0
import Derived.Test.YtnjnogkhbadioaaDx4
import Derived.Test.YtnjnogkhbadioaaDx5
import Derived.Test.YtnjnogkhbadioaaDx6
namespace Go.Proofs.Ytnjnogkhbadioaa.D
open Go.RowKit Go.Proofs.YtnjnogkhbadioaaW.PrintWords Go.Proofs.YtnjnogkhbadioaaW.PrintLast Go.Proofs.YtnjnogkhbadioaaW.PrintMore
attribute [local go_sem] max2_int min2_int max_two min_two max_three min_three max_four min_four   -- for this text's walks alone
set_option linter.unusedVariables false
set_option linter.unusedSimpArgs false

/-! ### shard_Set: function 21, by hand -/
-- HAND rounds=0 making=1 share=0.0,1.2 rsh=0:N
-- IMPORT Derived.Test.YtnjnogkhbadioaaRowN
-- NEEDS slices.Clone[[]hopper/api.Account,hopper/api.Account]
-- NEEDS slices.IndexFunc[[]hopper/api.Account,hopper/api.Account]
-- NEEDS slices.DeleteFunc[[]hopper/api.Account,hopper/api.Account]
-- NEEDS slices.Insert[[]hopper/api.Account,hopper/api.Account]
/-- Have an element's cells this sender? -/
def isSender (n : Int) (r : List Value) : Bool := match r with | [Value.int _ k, _, _] => k == n | _ => false
/-- Have an element's cells a greater sender? -/
def isAbove (n : Int) (r : List Value) : Bool := match r with | [Value.int _ k, _, _] => decide (k > n) | _ => false
theorem shard_Set.closure1 (s b : Int) (A : Option Addr) (m c : Nat) (n : Int) (g : Nat) (W : World) (hc : W.cell? ⟨g, 0, none⟩ = some (.int .i64 n)) :
    Calls Try.prog 36 (#[.agg #[.int .i64 s, .int .i64 b, .slice A m c]] ++ #[.pointer (some ⟨g, 0, none⟩)]) W fun e w' => e = .returned (.bool (s == n)) ∧ W.grownBy w' none := by
  have hc2 : (W.alloc (.cells #[.int .i64 s, .int .i64 b, .slice A m c] 46)).cell? ⟨g, 0, none⟩ = some (.int .i64 n) := CopyK.grown_cell (World.grownBy_alloc W _ none) hc
  have hne : g ≠ W.heap.size := Nat.ne_of_lt (World.block_lt_of_cell? W _ hc)
  show Calls Try.prog 36 #[.agg #[.int .i64 s, .int .i64 b, .slice A m c], .pointer (some ⟨g, 0, none⟩)] W _
  go_enter Try.func36, Try.ntmps36
  go_wp2
  go_ret
  exact ⟨rfl, World.grownBy_alloc W _ none⟩
theorem shard_Set.closure2 (s b : Int) (A : Option Addr) (m c : Nat) (n : Int) (g : Nat) (W : World) (hc : W.cell? ⟨g, 0, none⟩ = some (.int .i64 n)) :
    Calls Try.prog 39 (#[.agg #[.int .i64 s, .int .i64 b, .slice A m c]] ++ #[.pointer (some ⟨g, 0, none⟩)]) W fun e w' => e = .returned (.bool (decide (s > n))) ∧ W.grownBy w' none := by
  have hc2 : (W.alloc (.cells #[.int .i64 s, .int .i64 b, .slice A m c] 46)).cell? ⟨g, 0, none⟩ = some (.int .i64 n) := CopyK.grown_cell (World.grownBy_alloc W _ none) hc
  have hne : g ≠ W.heap.size := Nat.ne_of_lt (World.block_lt_of_cell? W _ hc)
  show Calls Try.prog 39 #[.agg #[.int .i64 s, .int .i64 b, .slice A m c], .pointer (some ⟨g, 0, none⟩)] W _
  go_enter Try.func39, Try.ntmps39
  go_wp2
  go_ret
  exact ⟨rfl, World.grownBy_alloc W _ none⟩
theorem shard_Set.three (w : World) (o0 o1 o2 : Obj) : (((w.alloc o0).alloc o1).alloc o2).heap[w.heap.size]? = some o0 ∧ (((w.alloc o0).alloc o1).alloc o2).heap[w.heap.size + 1]? = some o1 ∧ (((w.alloc o0).alloc o1).alloc o2).heap[w.heap.size + 1 + 1]? = some o2 ∧ (((w.alloc o0).alloc o1).alloc o2).heap.size = w.heap.size + 3 ∧ Below w.heap.size w (((w.alloc o0).alloc o1).alloc o2) := by
  have s1 : (w.alloc o0).heap.size = w.heap.size + 1 := Array.size_push ..
  have s2 : ((w.alloc o0).alloc o1).heap.size = w.heap.size + 1 + 1 := (Array.size_push ..).trans (by rw [s1])
  have s3 : (((w.alloc o0).alloc o1).alloc o2).heap.size = w.heap.size + 3 := (Array.size_push ..).trans (by rw [s2])
  have e0 := heap_alloc_new w o0
  have e1 := heap_alloc_new (w.alloc o0) o1
  have e2 := heap_alloc_new ((w.alloc o0).alloc o1) o2
  rw [s1] at e1
  rw [s2] at e2
  refine ⟨(heap_alloc_old _ _ (by omega)).trans ((heap_alloc_old _ _ (by omega)).trans e0), (heap_alloc_old _ _ (by omega)).trans e1, e2, s3, below_alloc (below_alloc (below_alloc (Below.refl _ _) _) _) _⟩
theorem shard_Set.clone (A : Option Addr) (n c : Nat) (news : List Value) (w : World) (hl : news.length = n * 3) (hn : n < 2513169434915) (ha : 0 < n → ∃ ad, A = some ad) (hc : ∀ ad, A = some ad → ∀ j u, news[j]? = some u → w.cell? (ad.add j) = some u) (h1 : ∀ u ∈ news, u.oneCell' = true) :
    Calls Try.prog 35 #[.slice A n c] w fun e w' => ∃ v', e = .returned v' ∧ w'.ownsRow w.heap.size 46 3 v' n news ∧ Below w.heap.size w w' := by
  cases A with
  | some ad => exact api_Account_35.calls ad n c news w hl (by omega) (hc ad rfl) h1
  | none =>
    have h0 : n = 0 := by
      rcases Nat.eq_zero_or_pos n with q | q
      · exact q
      · obtain ⟨ad, h⟩ := ha q; cases h
    subst h0
    refine (api_Account_35.nil 0 c w).mono ?_
    rintro e w' ⟨rfl, rfl⟩
    exact ⟨_, rfl, ⟨by simpa using hl, Or.inl ⟨rfl, rfl⟩⟩, Below.refl _ _⟩
/-- The end: the row, and what lies behind. -/
theorem shard_Set.out {w W : World} {b0 base : Nat} {v : Value} {Zf : List (S46 × List Value)} {r1 : List S46} {P Q : Nat → Prop} (hw : b0 = w.heap.size) (hba : w.heap.size ≤ base) (HT : W.ownsRow base 46 3 v Zf.length (Zf.map Prod.snd).flatten) (hok : ∀ k, v.ownBlock = some k → k ≠ b0 + 1 + 1 ∧ w.heap.size ≤ k) (HPZ : RowN.Prs k46 W (fun k => (P k ∨ Q k) ∧ k < w.heap.size) Zf) (hz : Zf.map Prod.fst = r1) (u1 u2 : Value) :
    Kd.N k46 46 ((W.setCell ⟨b0 + 1 + 1, 0, none⟩ u1).setCell ⟨b0 + 1 + 1, 1, none⟩ u2) w.heap.size (fun k_ => ((P k_ ∨ Q k_) ∨ w.heap.size ≤ k_)) v r1 := by
  have hm : ∀ k, k ≠ b0 + 1 + 1 → ((W.setCell ⟨b0 + 1 + 1, 0, none⟩ u1).setCell ⟨b0 + 1 + 1, 1, none⟩ u2).heap[k]? = W.heap[k]? := fun k hk => (Below.heap_setCell _ _ u2 k hk).trans (Below.heap_setCell _ _ u1 k hk)
  subst hz
  refine RowN.to_N (own_weaken (own_move HT (fun k hk => hm k (hok k hk).1)) hba) (fun z hz => ⟨(HPZ z hz).1, Kd.FK_mono (Kd.FK_step (HPZ z hz).2 (fun k hk _ => hm k (by have := hk.2; omega))) (fun k hk => ⟨Or.inl hk.1, fun e => by have := (hok k e.symm).2; have := hk.2; omega⟩)⟩) (fun k hk => Or.inr (hok k hk).2)
theorem shard_Set.outB {w W : World} {b0 : Nat} (hw : b0 = w.heap.size) (hb : Below w.heap.size w W) (u1 u2 : Value) : Below w.heap.size w ((W.setCell ⟨b0 + 1 + 1, 0, none⟩ u1).setCell ⟨b0 + 1 + 1, 1, none⟩ u2) :=
  (hb.setCell (p := ⟨b0 + 1 + 1, 0, none⟩) (by show w.heap.size ≤ b0 + 1 + 1; omega) u1).setCell (p := ⟨b0 + 1 + 1, 1, none⟩) (by show w.heap.size ≤ b0 + 1 + 1; omega) u2
/-- The row with an account laid at its place. -/
def shard_Set.laid (l : List S46) (a : S46) : List S46 := l.take (l.findIdx fun x => decide (x.f0 > a.f0)) ++ a :: l.drop (l.findIdx fun x => decide (x.f0 > a.f0))
def shard_Set.f (l0_0 : List S46) (a0_1 : Int) (a1_0 : Int) (a1_1 : Int) (l1_2 : List S32) : Option (List S46 × Int) :=
  if l0_0.length < 2513169434914 then some (if a1_1 = 0 ∧ l1_2.length = 0 then l0_0.filter fun x => !(x.f0 == a1_0) else shard_Set.laid (l0_0.filter fun x => !(x.f0 == a1_0)) ⟨a1_0, a1_1, l1_2⟩, if a0_1 < 0 ∨ 1099511627776 ≤ a0_1 then 0 else a0_1 + 1) else none
set_option maxHeartbeats 8000000 in
set_option maxRecDepth 100000 in
theorem shard_Set.calls (P0_0_ : Nat → Prop) (A0_0 : Option Addr) (c0_0 : Nat) (l0_0 : List S46) (a0_1 : Int) (a1_0 : Int) (a1_1 : Int) (P1_2_ : Nat → Prop) (A1_2 : Option Addr) (c1_2 : Nat) (l1_2 : List S32) (r1 : List S46) (r2 : Int) (w : World) (hs0_0 : Kd.V k46 46 w w.heap.size (fun k_ => P0_0_ k_) (.slice A0_0 l0_0.length c0_0) l0_0) (hs1_2 : Kd.V k32 32 w w.heap.size (fun k_ => P1_2_ k_) (.slice A1_2 l1_2.length c1_2) l1_2) (h : shard_Set.f l0_0 a0_1 a1_0 a1_1 l1_2 = some (r1, r2)) :
    Calls Try.prog 21 #[.agg #[.slice A0_0 l0_0.length c0_0, .int .i64 a0_1], .agg #[.int .i64 a1_0, .int .i64 a1_1, .slice A1_2 l1_2.length c1_2]] w fun e w' => ∃ v0_ : Value, e = .returned (.agg #[v0_, .int .i64 r2]) ∧ Kd.N k46 46 w' w.heap.size (fun k_ => ((P0_0_ k_ ∨ P1_2_ k_) ∨ w.heap.size ≤ k_)) v0_ r1 ∧ Below w.heap.size w w' := by
  unfold shard_Set.f at h
  by_cases hl : l0_0.length < 2513169434914
  · rw [if_pos hl] at h
    simp only [Option.some.injEq, Prod.mk.injEq] at h
    obtain ⟨h1, h2⟩ := h
    obtain ⟨Z, hZx, hZn, hZ, hZs, hZc⟩ := RowN.of_V hs0_0
    obtain ⟨_, hc1, hF1⟩ := Kd.V_at hs1_2
    have hshape : ∀ z ∈ Z, ∃ A m c, z.2 = [.int .i64 z.1.f0, .int .i64 z.1.f1, .slice A m c] := fun z hz => by
      obtain ⟨A, c, e, _⟩ := k46_open (Kd.FK_now (hZ z hz).2)
      exact ⟨A, _, c, e⟩
    have hrl : ∀ r ∈ Z.map Prod.snd, r.length = 3 := hZ.len
    have hnl : (Z.map Prod.snd).flatten.length = l0_0.length * 3 := by rw [CopyK.flat_length 3 _ hrl, List.length_map, hZn]
    have hsend : ∀ z ∈ Z, isSender a1_0 z.2 = (z.1.f0 == a1_0) := fun z hz => by
      obtain ⟨A, m, c, e⟩ := hshape z hz
      rw [e]; rfl
    obtain ⟨hfil, hfst⟩ := RowN.filter_map (isSender a1_0) (fun x : S46 => x.f0 == a1_0) hsend
    have hclo : ∀ (W : World) (g : Nat) (x : List Value), x ∈ Z.map Prod.snd → W.cell? ⟨g, 0, none⟩ = some (.int .i64 a1_0) → Calls Try.prog 36 (#[.agg x.toArray] ++ #[.pointer (some ⟨g, 0, none⟩)]) W fun e w' => e = .returned (.bool (isSender a1_0 x)) ∧ W.grownBy w' none := fun W g x hx hg => by
      obtain ⟨z, hz, rfl⟩ := List.mem_map.1 hx
      obtain ⟨A, m, c, e⟩ := hshape z hz
      rw [e]
      exact shard_Set.closure1 z.1.f0 z.1.f1 A m c a1_0 g W hg
    have hclo2 : ∀ (W : World) (g : Nat) (x : List Value), x ∈ Z.map Prod.snd → W.cell? ⟨g, 0, none⟩ = some (.int .i64 a1_0) → Calls Try.prog 39 (#[.agg x.toArray] ++ #[.pointer (some ⟨g, 0, none⟩)]) W fun e w' => e = .returned (.bool (isAbove a1_0 x)) ∧ W.grownBy w' none := fun W g x hx hg => by
      obtain ⟨z, hz, rfl⟩ := List.mem_map.1 hx
      obtain ⟨A, m, c, e⟩ := hshape z hz
      rw [e]
      exact shard_Set.closure2 z.1.f0 z.1.f1 A m c a1_0 g W hg
    have habv : ∀ z ∈ Z, isAbove a1_0 z.2 = decide (z.1.f0 > a1_0) := fun z hz => by
      obtain ⟨A, m, c, e⟩ := hshape z hz
      rw [e]; rfl
    have hsh : ∀ r ∈ Z.map Prod.snd, api_Account_34.Shape r := fun r hr => by
      obtain ⟨z, hz, rfl⟩ := List.mem_map.1 hr
      obtain ⟨A, m, c, e⟩ := hshape z hz
      exact ⟨_, _, A, m, c, e⟩
    have hone : ∀ u ∈ (Z.map Prod.snd).flatten, u.oneCell' = true := hZ.one
    obtain ⟨E, hE⟩ : ∃ E, shard_empty.f a1_0 a1_1 l1_2 = some E := by
      unfold shard_empty.f
      split <;> exact ⟨_, rfl⟩
    have HZB := Aside0.mk hZ.bound
    have H1 := Aside0.mk h1
    have H2 := Aside0.mk h2
    have HZS := Aside0.mk hZs
    have HZC := Aside0.mk hZc
    have HC1 := Aside0.mk hc1
    have HF1 := Aside0.mk (Kd.F_bound hF1)
    have HSH := Aside0.mk hsh
    have HRL := Aside0.mk hrl
    have HNL := Aside0.mk hnl
    have HFIL := Aside0.mk hfil
    have HFST := Aside0.mk hfst
    have HCLO := Aside0.mk hclo
    have HCLO2 := Aside0.mk hclo2
    have HABV := Aside0.mk habv
    have HONE := Aside0.mk hone
    have HE := Aside0.mk hE
    have HL := Aside0.mk hl
    have HZX := Aside0.mk hZx
    have HZN := Aside0.mk hZn
    clear h1 h2 hZs hZc hc1 hF1 hsh hrl hnl hfil hfst hclo hclo2 habv hone hE hl hZx hZn hshape hsend hZ hs0_0 hs1_2
    go_enter Try.func21, Try.ntmps21
    go_upto_region 1 with (fail)
    obtain ⟨K0, K1, K2, HS, HB⟩ := shard_Set.three w (.cells #[.slice A0_0 l0_0.length c0_0, .int .i64 a0_1] 48) (.cells #[.int .i64 a1_0, .int .i64 a1_1, .slice A1_2 l1_2.length c1_2] 46) (.cells #[.slice none 0 0, .int .i64 0] 48)
    generalize World.alloc (World.alloc (World.alloc w _) _) _ = w3 at K0 K1 K2 HB HS ⊢
    obtain ⟨b0, hb0⟩ : ∃ b0, b0 = w.heap.size := ⟨_, rfl⟩
    have HW := Aside0.mk hb0
    rw [← hb0] at K0 K1 K2 HS ⊢
    clear hb0
    replace K0 := Aside0.mk K0
    replace K1 := Aside0.mk K1
    replace K2 := Aside0.mk K2
    replace HS := Aside0.mk HS
    replace HB := Aside0.mk HB
    have c0 : w3.cell? ⟨b0, 0, none⟩ = some (.slice A0_0 l0_0.length c0_0) := (blk_cell K0.out 0).trans rfl
    go_upto_region 2 with (first
      | (go_at_call 35; (with_reducible refine (shard_Set.clone A0_0 l0_0.length c0_0 (Z.map Prod.snd).flatten w3 HNL.out (by have := HL.out; omega) HZS.out (fun ad ha j u hu => (HB.out.cell (World.block_lt_of_cell? w _ (HZC.out ad ha j u hu))).trans (HZC.out ad ha j u hu)) HONE.out).mono ?_); rintro e w4 ⟨v7, rfl, ho, hb⟩; have K0b := Aside0.mk (blk_below K0.out hb); have K1b := Aside0.mk (blk_below K1.out hb); have K2b := Aside0.mk (blk_below K2.out hb); have HB4 := Aside0.mk (below_step HB.out hb); have HS4 := Aside0.mk hb.size; have HO := Aside0.mk ho; clear ho hb)
      | (go_at_call 34; refine (api_Account_34.calls w3.heap.size l0_0.length v7 (Z.map Prod.snd) (isSender a1_0) 36 #[.pointer (some ⟨b0 + 1, 0, none⟩)] (enters_of Try.func36 (by kernel_rfl) rfl) _ HO.out (by rw [List.length_map, HZN.out]) HSH.out (by have := HL.out; omega) ?cls).mono ?_; (case cls => (intro W r hr hg; exact HCLO.out W (b0 + 1) r hr ((blk_cell ((hg.block (b0 + 1) (Array.getElem?_eq_some_iff.1 K1b.out).1 (fun q => by have := own_base HO.out (b0 + 1) q.symm; have := HS.out; omega)).trans K1b.out) 0).trans rfl))); rintro e w5 ⟨v9, rfl, ho9, hg9, hk9⟩; rw [HFIL.out, List.length_map] at ho9; have HO9 := Aside0.mk ho9; have hbn : ∀ k, k < b0 + 3 → some k ≠ v7.ownBlock := (fun k hk q => by have := own_base HO.out k q.symm; have := HS.out; omega); have K0c := Aside0.mk ((hg9.block b0 (Array.getElem?_eq_some_iff.1 K0b.out).1 (hbn b0 (by omega))).trans K0b.out); have K1c := Aside0.mk ((hg9.block (b0 + 1) (Array.getElem?_eq_some_iff.1 K1b.out).1 (hbn _ (by omega))).trans K1b.out); have K2c := Aside0.mk ((hg9.block (b0 + 1 + 1) (Array.getElem?_eq_some_iff.1 K2b.out).1 (hbn _ (by omega))).trans K2b.out); have HB5 := Aside0.mk (HB4.out.grown hg9 (by have := HB4.out.size; exact this) (fun k hk => by have := own_base HO.out k hk; have := HS.out; have := HW.out; omega)); have HS5 := Aside0.mk (Nat.le_trans HS4.out hg9.size); clear ho9 hg9 hk9 hbn; have d0 : w5.cell? ⟨b0 + 1, 0, none⟩ = some (.int .i64 a1_0) := (blk_cell K1c.out 0).trans rfl; have d1 : w5.cell? ⟨b0 + 1, 1, none⟩ = some (.int .i64 a1_1) := (blk_cell K1c.out 1).trans rfl; have d2 : w5.cell? ⟨b0 + 1, 2, none⟩ = some (.slice A1_2 l1_2.length c1_2) := (blk_cell K1c.out 2).trans rfl))
    clear HO K0b K1b K2b c0
    have HEM : Aside0 (E = true ↔ a1_1 = 0 ∧ l1_2.length = 0) := ⟨by
      have := HE.out
      unfold shard_empty.f at this
      split at this
      · rename_i q
        rw [← Option.some.inj this]
        simp [q]
      · rename_i q
        rw [← Option.some.inj this]
        simp [q]⟩
    cases E with
    | true =>
      replace HEM := Aside0.mk (HEM.out.1 rfl)
      go_upto_region 7 with (go_at_call 37; (with_reducible refine (shard_empty.calls a1_0 a1_1 A1_2 c1_2 l1_2 true w5 (Kd.F_now (Kd.F_below HF1.out HB5.out)) HC1.out HE.out).mono ?_); rintro e w6 ⟨rfl, hb6⟩; have HO6 := Aside0.mk (own_move HO9.out (fun k hk => hb6.block k (own_lt HO9.out k hk))); have K0d := Aside0.mk (blk_below K0c.out hb6); have K1d := Aside0.mk (blk_below K1c.out hb6); have K2d := Aside0.mk (blk_below K2c.out hb6); have HB6 := Aside0.mk (below_step HB5.out hb6); have HS6 := Aside0.mk (Nat.le_trans HS5.out hb6.size); clear hb6)
      clear HO9 K0c K1c K2c d0 d1 d2 HB5
      have HT := HO6
      have HKa := K0d
      have HKc := K2d
      have HBW := HB6
      have HZF := Aside0.mk (show (Z.filter fun z => !(z.1.f0 == a1_0)).map Prod.fst = r1 by rw [← H1.out, if_pos HEM.out, HFST.out, HZX.out])
      have HPZ := Aside0.mk (((HZB.out.below HBW.out).sub (Y := Z.filter fun z => !(z.1.f0 == a1_0)) (fun z hz => (List.mem_filter.1 hz).1)).mono (ok' := fun k => (P0_0_ k ∨ P1_2_ k) ∧ k < w.heap.size) (fun k hk => ⟨Or.inl hk.1, hk.2⟩))
      clear HO6 K0d K1d K2d HB6
      generalize (Z.filter fun z => !(z.1.f0 == a1_0)) = Zf at HT HZF HPZ
      obtain ⟨v, hv_⟩ : ∃ v, v = v9 := ⟨_, rfl⟩
      rw [← hv_] at HT ⊢
      clear hv_
      generalize w6 = W at HT HKa HKc HBW HPZ ⊢
      have HOK := Aside0.mk (fun k (hk : v.ownBlock = some k) => (⟨by have := own_base HT.out k hk; have := HS.out; omega, by have := own_base HT.out k hk; have := HS.out; have := HW.out; omega⟩ : k ≠ b0 + 1 + 1 ∧ w.heap.size ≤ k))
      have g0 : W.cell? ⟨b0, 1, none⟩ = some (.int .i64 a0_1) := (blk_cell HKa.out 1).trans rfl
      have g2 : W.cell? ⟨b0 + 1 + 1, 0, none⟩ = some (.slice none 0 0) := (blk_cell HKc.out 0).trans rfl
      have g3 : W.cell? ⟨b0 + 1 + 1, 1, none⟩ = some (.int .i64 0) := (blk_cell HKc.out 1).trans rfl
      have z2 := blk_frozen HKc.out 0
      have z3 := blk_frozen HKc.out 1
      obtain ⟨A9, n9, c9, rfl⟩ : ∃ A9 n9 c9, v = .slice A9 n9 c9 := by
        rcases HT.out.2 with ⟨rfl, _⟩ | ⟨g, cap, cur, rfl, _⟩
        · exact ⟨_, _, _, rfl⟩
        · exact ⟨_, _, _, rfl⟩
      have hne : b0 ≠ b0 + 1 + 1 := by omega
      by_cases hv : a0_1 < 0
      · go_wp2
        refine bodyPost_ret (results_cell_row rfl _ _ (b0 + 1 + 1) 48 #[.slice A9 n9 c9, .int .i64 0] (0, 0) _ rfl (by refine blk_put (cs := #[.slice A9 n9 c9, .int .i64 0]) ?_ 1 _ rfl; refine blk_put (cs := #[.slice none 0 0, .int .i64 0]) ?_ 0 _ rfl; exact HKc.out) Try.underlying48 rfl (by kernel_rfl)) rfl ?_
        rw [if_pos (Or.inl hv)] at H2
        exact ⟨_, by rw [← H2.out], shard_Set.out HW.out (by have := HS.out; have := HW.out; omega) HT.out HOK.out HPZ.out HZF.out _ _, shard_Set.outB HW.out HBW.out _ _⟩
      · by_cases hv2 : 1099511627776 ≤ a0_1
        · go_wp2
          refine bodyPost_ret (results_cell_row rfl _ _ (b0 + 1 + 1) 48 #[.slice A9 n9 c9, .int .i64 0] (0, 0) _ rfl (by refine blk_put (cs := #[.slice A9 n9 c9, .int .i64 0]) ?_ 1 _ rfl; refine blk_put (cs := #[.slice none 0 0, .int .i64 0]) ?_ 0 _ rfl; exact HKc.out) Try.underlying48 rfl (by kernel_rfl)) rfl ?_
          rw [if_pos (Or.inr hv2)] at H2
          exact ⟨_, by rw [← H2.out], shard_Set.out HW.out (by have := HS.out; have := HW.out; omega) HT.out HOK.out HPZ.out HZF.out _ _, shard_Set.outB HW.out HBW.out _ _⟩
        · have hwv : wrap64 (a0_1 + 1) = a0_1 + 1 := by unfold wrap64; omega
          go_wp2
          refine bodyPost_ret (results_cell_row rfl _ _ (b0 + 1 + 1) 48 #[.slice A9 n9 c9, .int .i64 (a0_1 + 1)] (0, 0) _ rfl (by first | (refine blk_put (cs := #[.slice A9 n9 c9, .int .i64 0]) ?_ 1 _ rfl; refine blk_put (cs := #[.slice none 0 0, .int .i64 0]) ?_ 0 _ rfl; exact HKc.out) | (rw [hwv]; refine blk_put (cs := #[.slice A9 n9 c9, .int .i64 0]) ?_ 1 _ rfl; refine blk_put (cs := #[.slice none 0 0, .int .i64 0]) ?_ 0 _ rfl; exact HKc.out)) Try.underlying48 rfl (by kernel_rfl)) rfl ?_
          rw [if_neg (by omega)] at H2
          exact ⟨_, by rw [← H2.out], shard_Set.out HW.out (by have := HS.out; have := HW.out; omega) HT.out HOK.out HPZ.out HZF.out _ _, shard_Set.outB HW.out HBW.out _ _⟩
    | false =>
      replace HEM := Aside0.mk (fun q => Bool.noConfusion (HEM.out.2 q) : ¬ (a1_1 = 0 ∧ l1_2.length = 0))
      go_upto_region 4 with (first
        | (go_at_call 37; (with_reducible refine (shard_empty.calls a1_0 a1_1 A1_2 c1_2 l1_2 false w5 (Kd.F_now (Kd.F_below HF1.out HB5.out)) HC1.out HE.out).mono ?_); rintro e w6 ⟨rfl, hb6⟩; have HO6 := Aside0.mk (own_move HO9.out (fun k hk => hb6.block k (own_lt HO9.out k hk))); have K0d := Aside0.mk (blk_below K0c.out hb6); have K1d := Aside0.mk (blk_below K1c.out hb6); have K2d := Aside0.mk (blk_below K2c.out hb6); have HB6 := Aside0.mk (below_step HB5.out hb6); have HS6 := Aside0.mk (Nat.le_trans HS5.out hb6.size); clear hb6)
        | (go_at_call 38; refine (api_Account_38.calls w3.heap.size (Z.filter fun z => !(z.1.f0 == a1_0)).length v9 ((Z.filter fun z => !(z.1.f0 == a1_0)).map Prod.snd) (isAbove a1_0) 39 #[.pointer (some ⟨b0 + 1, 0, none⟩)] (enters_of Try.func39 (by kernel_rfl) rfl) _ HO6.out (by rw [List.length_map]) (fun r hr => by obtain ⟨z, hz, rfl⟩ := List.mem_map.1 hr; exact HRL.out _ (List.mem_map_of_mem (List.mem_filter.1 hz).1)) (by have := HL.out; have := HZN.out; have := List.length_filter_le (fun z : S46 × List Value => !(z.1.f0 == a1_0)) Z; omega) ?cls).mono ?_; (case cls => (intro W r hr hg; exact HCLO2.out W (b0 + 1) r (by obtain ⟨z, hz, rfl⟩ := List.mem_map.1 hr; exact List.mem_map_of_mem (List.mem_filter.1 hz).1) ((blk_cell ((CopyK.grown_none hg (b0 + 1) (Array.getElem?_eq_some_iff.1 K1d.out).1).trans K1d.out) 0).trans rfl))); rintro e w7 ⟨rfl, hg7⟩; have hb7 := CopyK.below_of_grown hg7; have HO7 := Aside0.mk (own_move HO6.out (fun k hk => hb7.block k (own_lt HO6.out k hk))); have K0e := Aside0.mk (blk_below K0d.out hb7); have K1e := Aside0.mk (blk_below K1d.out hb7); have K2e := Aside0.mk (blk_below K2d.out hb7); have HB7 := Aside0.mk (below_step HB6.out hb7); have HS7 := Aside0.mk (Nat.le_trans HS6.out hb7.size); clear hg7 hb7))
      have HPF := Aside0.mk (HZB.out.sub (Y := Z.filter fun z => !(z.1.f0 == a1_0)) (fun z hz => (List.mem_filter.1 hz).1))
      have HFX := Aside0.mk (show (Z.filter fun z => !(z.1.f0 == a1_0)).map Prod.fst = l0_0.filter fun x => !(x.f0 == a1_0) by rw [HFST.out, HZX.out])
      have HAF := Aside0.mk (fun z (hz : z ∈ Z.filter fun z => !(z.1.f0 == a1_0)) => HABV.out z (List.mem_filter.1 hz).1)
      have HLF := Aside0.mk (show (Z.filter fun z => !(z.1.f0 == a1_0)).length < 2513169434914 by have := HL.out; have := HZN.out; have := List.length_filter_le (fun z : S46 × List Value => !(z.1.f0 == a1_0)) Z; omega)
      clear HO9 HO6 K0c K1c K2c K0d K1d K2d HB5 HB6 d0 d1 d2 HFST HFIL
      generalize (Z.filter fun z => !(z.1.f0 == a1_0)) = Zf at HO7 HPF HFX HAF HLF ⊢
      obtain ⟨A9, c9, rfl⟩ := own_slice HO7.out
      have HIX := Aside0.mk (RowN.idx_map (isAbove a1_0) (fun x : S46 => decide (x.f0 > a1_0)) HAF.out 0)
      have HFI := Aside0.mk (RowN.idx_none (Z := Zf) (fun x : S46 => decide (x.f0 > a1_0)))
      have HLD := Aside0.mk (show shard_Set.laid (Zf.map Prod.fst) ⟨a1_0, a1_1, l1_2⟩ = r1 by rw [← H1.out, if_neg HEM.out, HFX.out])
      unfold shard_Set.laid at HLD
      generalize (Zf.map Prod.fst).findIdx (fun x : S46 => decide (x.f0 > a1_0)) = fi at HIX HFI HLD
      have hle : fi ≤ Zf.length := by
        by_cases hk : fi < Zf.length
        · omega
        · have := HFI.out hk; omega
      rw [HIX.out]
      have d0 : w7.cell? ⟨b0 + 1, 0, none⟩ = some (.int .i64 a1_0) := (blk_cell K1e.out 0).trans rfl
      have d1 : w7.cell? ⟨b0 + 1, 1, none⟩ = some (.int .i64 a1_1) := (blk_cell K1e.out 1).trans rfl
      have d2 : w7.cell? ⟨b0 + 1, 2, none⟩ = some (.slice A1_2 l1_2.length c1_2) := (blk_cell K1e.out 2).trans rfl
      by_cases hk : fi < Zf.length
      · rw [if_pos hk, Int.zero_add]
        have hk0 : ¬ ((fi : Nat) : Int) < 0 := by omega
        go_upto_region 6 with (fail)
        have HO8 := Aside0.mk (own_alloc HO7.out (.cells #[.int .i64 a1_0, .int .i64 a1_1, .slice A1_2 l1_2.length c1_2] 46))
        have HX8 := Aside0.mk (heap_alloc_new w7 (.cells #[.int .i64 a1_0, .int .i64 a1_1, .slice A1_2 l1_2.length c1_2] 46))
        have HB8 := Aside0.mk (below_alloc (Below.refl w7.heap.size w7) (.cells #[.int .i64 a1_0, .int .i64 a1_1, .slice A1_2 l1_2.length c1_2] 46))
        have HNE8 := Aside0.mk (fun q : (Value.slice A9 Zf.length c9).ownBlock = some w7.heap.size => Nat.lt_irrefl _ (own_lt HO7.out _ q))
        have HONE8 : Aside0 (∀ u ∈ (Zf.map Prod.snd).flatten, u.oneCell' = true) := ⟨HPF.out.one⟩
        have HOC8 : Aside0 (∀ u ∈ ([.int .i64 a1_0, .int .i64 a1_1, .slice A1_2 l1_2.length c1_2] : List Value), u.oneCell' = true) := ⟨by intro u hu; simp only [List.mem_cons, List.not_mem_nil, or_false] at hu; rcases hu with rfl | rfl | rfl <;> rfl⟩
        have HBG8 : Aside0 (Zf.length < 2513169434915) := ⟨by have := HLF.out; omega⟩
        have HBS8 : Aside0 (w3.heap.size ≤ (w7.alloc (.cells #[.int .i64 a1_0, .int .i64 a1_1, .slice A1_2 l1_2.length c1_2] 46)).heap.size) := ⟨by have := HS7.out; have := HB8.out.size; omega⟩
        have HI8 := Aside0.mk (fun vc => api_Account_40.calls w3.heap.size (.slice A9 Zf.length c9) Zf.length (Zf.map Prod.snd).flatten [.int .i64 a1_0, .int .i64 a1_1, .slice A1_2 l1_2.length c1_2] fi w7.heap.size vc (w7.alloc (.cells #[.int .i64 a1_0, .int .i64 a1_1, .slice A1_2 l1_2.length c1_2] 46)) HO8.out hle rfl HX8.out HNE8.out HONE8.out HOC8.out HBG8.out HBS8.out)
        go_upto_region 7 with (go_at_call 40; refine (HI8.out _).mono ?_; rintro e w9 ⟨v, rfl, ho9, hg9, hat9⟩)
        have HT := Aside0.mk (show w9.ownsRow w3.heap.size 46 3 v (Zf.take fi ++ ((⟨a1_0, a1_1, l1_2⟩ : S46), [.int .i64 a1_0, .int .i64 a1_1, .slice A1_2 l1_2.length c1_2]) :: Zf.drop fi).length ((Zf.take fi ++ ((⟨a1_0, a1_1, l1_2⟩ : S46), [.int .i64 a1_0, .int .i64 a1_1, .slice A1_2 l1_2.length c1_2]) :: Zf.drop fi).map Prod.snd).flatten by
          rw [← RowN.put_at (sz := 3) HPF.out.len fi hle, show (Zf.take fi ++ ((⟨a1_0, a1_1, l1_2⟩ : S46), [.int .i64 a1_0, .int .i64 a1_1, .slice A1_2 l1_2.length c1_2]) :: Zf.drop fi).length = Zf.length + 1 by rw [List.length_append, List.length_cons, List.length_take, List.length_drop]; omega]
          exact ho9)
        have hbn : ∀ k, k < b0 + 3 → some k ≠ (Value.slice A9 Zf.length c9).ownBlock := fun k hk q => by have := own_base HO7.out k q.symm; have := HS.out; omega
        have hk0_ := Array.getElem?_eq_some_iff.1 K0e.out
        have hk2_ := Array.getElem?_eq_some_iff.1 K2e.out
        have HKa := Aside0.mk ((hg9.block b0 (by have := HB8.out.size; have := hk0_.1; omega) (hbn b0 (by omega))).trans (blk_below K0e.out HB8.out))
        have HKc := Aside0.mk ((hg9.block (b0 + 1 + 1) (by have := HB8.out.size; have := hk2_.1; omega) (hbn _ (by omega))).trans (blk_below K2e.out HB8.out))
        clear hk0_ hk2_
        have HBW := Aside0.mk ((below_step HB7.out HB8.out).grown hg9 (below_step HB7.out HB8.out).size (fun k hk => by have := own_base HO7.out k hk; have := HS.out; have := HW.out; omega))
        have HZF := Aside0.mk (show (Zf.take fi ++ ((⟨a1_0, a1_1, l1_2⟩ : S46), [.int .i64 a1_0, .int .i64 a1_1, .slice A1_2 l1_2.length c1_2]) :: Zf.drop fi).map Prod.fst = r1 by
          rw [← HLD.out, List.map_append, List.map_cons, List.map_take, List.map_drop])
        have hn9 : RowN.Prs k46 w9 (fun k => (P0_0_ k ∨ P1_2_ k) ∧ k < w.heap.size) [((⟨a1_0, a1_1, l1_2⟩ : S46), [.int .i64 a1_0, .int .i64 a1_1, .slice A1_2 l1_2.length c1_2])] := fun z hz => by
          rw [List.mem_singleton] at hz
          subst hz
          exact ⟨rfl, k46_mkF w9 _ _ HC1.out (Kd.F_mono (Kd.F_below HF1.out HBW.out) (fun k hk => ⟨Or.inr hk.1, hk.2⟩))⟩
        have hp9 := ((HPF.out.below HBW.out).mono (ok' := fun k => (P0_0_ k ∨ P1_2_ k) ∧ k < w.heap.size) (fun k hk => ⟨Or.inl hk.1, hk.2⟩))
        have HPZ := Aside0.mk (((hp9.sub (fun z hz => List.mem_of_mem_take hz)).app (hn9.app (hp9.sub (fun z hz => List.mem_of_mem_drop hz))) : RowN.Prs k46 w9 (fun k => (P0_0_ k ∨ P1_2_ k) ∧ k < w.heap.size) (Zf.take fi ++ ([((⟨a1_0, a1_1, l1_2⟩ : S46), [.int .i64 a1_0, .int .i64 a1_1, .slice A1_2 l1_2.length c1_2])] ++ Zf.drop fi))))
        rw [List.singleton_append] at HPZ
        clear ho9 hg9 hat9 hn9 hp9 hbn HO7 HO8 HX8 HB8 HNE8 HONE8 HOC8 HBG8 HBS8 HI8 K0e K1e K2e HB7 d0 d1 d2 HIX HFI HLD
        generalize (Zf.take fi ++ ((⟨a1_0, a1_1, l1_2⟩ : S46), [.int .i64 a1_0, .int .i64 a1_1, .slice A1_2 l1_2.length c1_2]) :: Zf.drop fi) = Zg at HT HZF HPZ
        generalize w9 = W at HT HKa HKc HBW HPZ ⊢
        have HOK := Aside0.mk (fun k (hk : v.ownBlock = some k) => (⟨by have := own_base HT.out k hk; have := HS.out; omega, by have := own_base HT.out k hk; have := HS.out; have := HW.out; omega⟩ : k ≠ b0 + 1 + 1 ∧ w.heap.size ≤ k))
        have g0 : W.cell? ⟨b0, 1, none⟩ = some (.int .i64 a0_1) := (blk_cell HKa.out 1).trans rfl
        have g2 : W.cell? ⟨b0 + 1 + 1, 0, none⟩ = some (.slice none 0 0) := (blk_cell HKc.out 0).trans rfl
        have g3 : W.cell? ⟨b0 + 1 + 1, 1, none⟩ = some (.int .i64 0) := (blk_cell HKc.out 1).trans rfl
        have z2 := blk_frozen HKc.out 0
        have z3 := blk_frozen HKc.out 1
        obtain ⟨A9, n9, c9, rfl⟩ : ∃ A9 n9 c9, v = .slice A9 n9 c9 := by
          rcases HT.out.2 with ⟨rfl, _⟩ | ⟨g, cap, cur, rfl, _⟩
          · exact ⟨_, _, _, rfl⟩
          · exact ⟨_, _, _, rfl⟩
        have hne : b0 ≠ b0 + 1 + 1 := by omega
        by_cases hv : a0_1 < 0
        · go_wp2
          refine bodyPost_ret (results_cell_row rfl _ _ (b0 + 1 + 1) 48 #[.slice A9 n9 c9, .int .i64 0] (0, 0) _ rfl (by refine blk_put (cs := #[.slice A9 n9 c9, .int .i64 0]) ?_ 1 _ rfl; refine blk_put (cs := #[.slice none 0 0, .int .i64 0]) ?_ 0 _ rfl; exact HKc.out) Try.underlying48 rfl (by kernel_rfl)) rfl ?_
          rw [if_pos (Or.inl hv)] at H2
          exact ⟨_, by rw [← H2.out], shard_Set.out HW.out (by have := HS.out; have := HW.out; omega) HT.out HOK.out HPZ.out HZF.out _ _, shard_Set.outB HW.out HBW.out _ _⟩
        · by_cases hv2 : 1099511627776 ≤ a0_1
          · go_wp2
            refine bodyPost_ret (results_cell_row rfl _ _ (b0 + 1 + 1) 48 #[.slice A9 n9 c9, .int .i64 0] (0, 0) _ rfl (by refine blk_put (cs := #[.slice A9 n9 c9, .int .i64 0]) ?_ 1 _ rfl; refine blk_put (cs := #[.slice none 0 0, .int .i64 0]) ?_ 0 _ rfl; exact HKc.out) Try.underlying48 rfl (by kernel_rfl)) rfl ?_
            rw [if_pos (Or.inr hv2)] at H2
            exact ⟨_, by rw [← H2.out], shard_Set.out HW.out (by have := HS.out; have := HW.out; omega) HT.out HOK.out HPZ.out HZF.out _ _, shard_Set.outB HW.out HBW.out _ _⟩
          · have hwv : wrap64 (a0_1 + 1) = a0_1 + 1 := by unfold wrap64; omega
            go_wp2
            refine bodyPost_ret (results_cell_row rfl _ _ (b0 + 1 + 1) 48 #[.slice A9 n9 c9, .int .i64 (a0_1 + 1)] (0, 0) _ rfl (by first | (refine blk_put (cs := #[.slice A9 n9 c9, .int .i64 0]) ?_ 1 _ rfl; refine blk_put (cs := #[.slice none 0 0, .int .i64 0]) ?_ 0 _ rfl; exact HKc.out) | (rw [hwv]; refine blk_put (cs := #[.slice A9 n9 c9, .int .i64 0]) ?_ 1 _ rfl; refine blk_put (cs := #[.slice none 0 0, .int .i64 0]) ?_ 0 _ rfl; exact HKc.out)) Try.underlying48 rfl (by kernel_rfl)) rfl ?_
            rw [if_neg (by omega)] at H2
            exact ⟨_, by rw [← H2.out], shard_Set.out HW.out (by have := HS.out; have := HW.out; omega) HT.out HOK.out HPZ.out HZF.out _ _, shard_Set.outB HW.out HBW.out _ _⟩
      · rw [if_neg hk]
        have e := HFI.out hk
        go_upto_region 6 with (fail)
        rw [show ((Zf.length : Nat) : Int) = ((fi : Nat) : Int) by rw [e]]
        clear e
        have HO8 := Aside0.mk (own_alloc HO7.out (.cells #[.int .i64 a1_0, .int .i64 a1_1, .slice A1_2 l1_2.length c1_2] 46))
        have HX8 := Aside0.mk (heap_alloc_new w7 (.cells #[.int .i64 a1_0, .int .i64 a1_1, .slice A1_2 l1_2.length c1_2] 46))
        have HB8 := Aside0.mk (below_alloc (Below.refl w7.heap.size w7) (.cells #[.int .i64 a1_0, .int .i64 a1_1, .slice A1_2 l1_2.length c1_2] 46))
        have HNE8 := Aside0.mk (fun q : (Value.slice A9 Zf.length c9).ownBlock = some w7.heap.size => Nat.lt_irrefl _ (own_lt HO7.out _ q))
        have HONE8 : Aside0 (∀ u ∈ (Zf.map Prod.snd).flatten, u.oneCell' = true) := ⟨HPF.out.one⟩
        have HOC8 : Aside0 (∀ u ∈ ([.int .i64 a1_0, .int .i64 a1_1, .slice A1_2 l1_2.length c1_2] : List Value), u.oneCell' = true) := ⟨by intro u hu; simp only [List.mem_cons, List.not_mem_nil, or_false] at hu; rcases hu with rfl | rfl | rfl <;> rfl⟩
        have HBG8 : Aside0 (Zf.length < 2513169434915) := ⟨by have := HLF.out; omega⟩
        have HBS8 : Aside0 (w3.heap.size ≤ (w7.alloc (.cells #[.int .i64 a1_0, .int .i64 a1_1, .slice A1_2 l1_2.length c1_2] 46)).heap.size) := ⟨by have := HS7.out; have := HB8.out.size; omega⟩
        have HI8 := Aside0.mk (fun vc => api_Account_40.calls w3.heap.size (.slice A9 Zf.length c9) Zf.length (Zf.map Prod.snd).flatten [.int .i64 a1_0, .int .i64 a1_1, .slice A1_2 l1_2.length c1_2] fi w7.heap.size vc (w7.alloc (.cells #[.int .i64 a1_0, .int .i64 a1_1, .slice A1_2 l1_2.length c1_2] 46)) HO8.out hle rfl HX8.out HNE8.out HONE8.out HOC8.out HBG8.out HBS8.out)
        go_upto_region 7 with (go_at_call 40; refine (HI8.out _).mono ?_; rintro e w9 ⟨v, rfl, ho9, hg9, hat9⟩)
        have HT := Aside0.mk (show w9.ownsRow w3.heap.size 46 3 v (Zf.take fi ++ ((⟨a1_0, a1_1, l1_2⟩ : S46), [.int .i64 a1_0, .int .i64 a1_1, .slice A1_2 l1_2.length c1_2]) :: Zf.drop fi).length ((Zf.take fi ++ ((⟨a1_0, a1_1, l1_2⟩ : S46), [.int .i64 a1_0, .int .i64 a1_1, .slice A1_2 l1_2.length c1_2]) :: Zf.drop fi).map Prod.snd).flatten by
          rw [← RowN.put_at (sz := 3) HPF.out.len fi hle, show (Zf.take fi ++ ((⟨a1_0, a1_1, l1_2⟩ : S46), [.int .i64 a1_0, .int .i64 a1_1, .slice A1_2 l1_2.length c1_2]) :: Zf.drop fi).length = Zf.length + 1 by rw [List.length_append, List.length_cons, List.length_take, List.length_drop]; omega]
          exact ho9)
        have hbn : ∀ k, k < b0 + 3 → some k ≠ (Value.slice A9 Zf.length c9).ownBlock := fun k hk q => by have := own_base HO7.out k q.symm; have := HS.out; omega
        have hk0_ := Array.getElem?_eq_some_iff.1 K0e.out
        have hk2_ := Array.getElem?_eq_some_iff.1 K2e.out
        have HKa := Aside0.mk ((hg9.block b0 (by have := HB8.out.size; have := hk0_.1; omega) (hbn b0 (by omega))).trans (blk_below K0e.out HB8.out))
        have HKc := Aside0.mk ((hg9.block (b0 + 1 + 1) (by have := HB8.out.size; have := hk2_.1; omega) (hbn _ (by omega))).trans (blk_below K2e.out HB8.out))
        clear hk0_ hk2_
        have HBW := Aside0.mk ((below_step HB7.out HB8.out).grown hg9 (below_step HB7.out HB8.out).size (fun k hk => by have := own_base HO7.out k hk; have := HS.out; have := HW.out; omega))
        have HZF := Aside0.mk (show (Zf.take fi ++ ((⟨a1_0, a1_1, l1_2⟩ : S46), [.int .i64 a1_0, .int .i64 a1_1, .slice A1_2 l1_2.length c1_2]) :: Zf.drop fi).map Prod.fst = r1 by
          rw [← HLD.out, List.map_append, List.map_cons, List.map_take, List.map_drop])
        have hn9 : RowN.Prs k46 w9 (fun k => (P0_0_ k ∨ P1_2_ k) ∧ k < w.heap.size) [((⟨a1_0, a1_1, l1_2⟩ : S46), [.int .i64 a1_0, .int .i64 a1_1, .slice A1_2 l1_2.length c1_2])] := fun z hz => by
          rw [List.mem_singleton] at hz
          subst hz
          exact ⟨rfl, k46_mkF w9 _ _ HC1.out (Kd.F_mono (Kd.F_below HF1.out HBW.out) (fun k hk => ⟨Or.inr hk.1, hk.2⟩))⟩
        have hp9 := ((HPF.out.below HBW.out).mono (ok' := fun k => (P0_0_ k ∨ P1_2_ k) ∧ k < w.heap.size) (fun k hk => ⟨Or.inl hk.1, hk.2⟩))
        have HPZ := Aside0.mk (((hp9.sub (fun z hz => List.mem_of_mem_take hz)).app (hn9.app (hp9.sub (fun z hz => List.mem_of_mem_drop hz))) : RowN.Prs k46 w9 (fun k => (P0_0_ k ∨ P1_2_ k) ∧ k < w.heap.size) (Zf.take fi ++ ([((⟨a1_0, a1_1, l1_2⟩ : S46), [.int .i64 a1_0, .int .i64 a1_1, .slice A1_2 l1_2.length c1_2])] ++ Zf.drop fi))))
        rw [List.singleton_append] at HPZ
        clear ho9 hg9 hat9 hn9 hp9 hbn HO7 HO8 HX8 HB8 HNE8 HONE8 HOC8 HBG8 HBS8 HI8 K0e K1e K2e HB7 d0 d1 d2 HIX HFI HLD
        generalize (Zf.take fi ++ ((⟨a1_0, a1_1, l1_2⟩ : S46), [.int .i64 a1_0, .int .i64 a1_1, .slice A1_2 l1_2.length c1_2]) :: Zf.drop fi) = Zg at HT HZF HPZ
        generalize w9 = W at HT HKa HKc HBW HPZ ⊢
        have HOK := Aside0.mk (fun k (hk : v.ownBlock = some k) => (⟨by have := own_base HT.out k hk; have := HS.out; omega, by have := own_base HT.out k hk; have := HS.out; have := HW.out; omega⟩ : k ≠ b0 + 1 + 1 ∧ w.heap.size ≤ k))
        have g0 : W.cell? ⟨b0, 1, none⟩ = some (.int .i64 a0_1) := (blk_cell HKa.out 1).trans rfl
        have g2 : W.cell? ⟨b0 + 1 + 1, 0, none⟩ = some (.slice none 0 0) := (blk_cell HKc.out 0).trans rfl
        have g3 : W.cell? ⟨b0 + 1 + 1, 1, none⟩ = some (.int .i64 0) := (blk_cell HKc.out 1).trans rfl
        have z2 := blk_frozen HKc.out 0
        have z3 := blk_frozen HKc.out 1
        obtain ⟨A9, n9, c9, rfl⟩ : ∃ A9 n9 c9, v = .slice A9 n9 c9 := by
          rcases HT.out.2 with ⟨rfl, _⟩ | ⟨g, cap, cur, rfl, _⟩
          · exact ⟨_, _, _, rfl⟩
          · exact ⟨_, _, _, rfl⟩
        have hne : b0 ≠ b0 + 1 + 1 := by omega
        by_cases hv : a0_1 < 0
        · go_wp2
          refine bodyPost_ret (results_cell_row rfl _ _ (b0 + 1 + 1) 48 #[.slice A9 n9 c9, .int .i64 0] (0, 0) _ rfl (by refine blk_put (cs := #[.slice A9 n9 c9, .int .i64 0]) ?_ 1 _ rfl; refine blk_put (cs := #[.slice none 0 0, .int .i64 0]) ?_ 0 _ rfl; exact HKc.out) Try.underlying48 rfl (by kernel_rfl)) rfl ?_
          rw [if_pos (Or.inl hv)] at H2
          exact ⟨_, by rw [← H2.out], shard_Set.out HW.out (by have := HS.out; have := HW.out; omega) HT.out HOK.out HPZ.out HZF.out _ _, shard_Set.outB HW.out HBW.out _ _⟩
        · by_cases hv2 : 1099511627776 ≤ a0_1
          · go_wp2
            refine bodyPost_ret (results_cell_row rfl _ _ (b0 + 1 + 1) 48 #[.slice A9 n9 c9, .int .i64 0] (0, 0) _ rfl (by refine blk_put (cs := #[.slice A9 n9 c9, .int .i64 0]) ?_ 1 _ rfl; refine blk_put (cs := #[.slice none 0 0, .int .i64 0]) ?_ 0 _ rfl; exact HKc.out) Try.underlying48 rfl (by kernel_rfl)) rfl ?_
            rw [if_pos (Or.inr hv2)] at H2
            exact ⟨_, by rw [← H2.out], shard_Set.out HW.out (by have := HS.out; have := HW.out; omega) HT.out HOK.out HPZ.out HZF.out _ _, shard_Set.outB HW.out HBW.out _ _⟩
          · have hwv : wrap64 (a0_1 + 1) = a0_1 + 1 := by unfold wrap64; omega
            go_wp2
            refine bodyPost_ret (results_cell_row rfl _ _ (b0 + 1 + 1) 48 #[.slice A9 n9 c9, .int .i64 (a0_1 + 1)] (0, 0) _ rfl (by first | (refine blk_put (cs := #[.slice A9 n9 c9, .int .i64 0]) ?_ 1 _ rfl; refine blk_put (cs := #[.slice none 0 0, .int .i64 0]) ?_ 0 _ rfl; exact HKc.out) | (rw [hwv]; refine blk_put (cs := #[.slice A9 n9 c9, .int .i64 0]) ?_ 1 _ rfl; refine blk_put (cs := #[.slice none 0 0, .int .i64 0]) ?_ 0 _ rfl; exact HKc.out)) Try.underlying48 rfl (by kernel_rfl)) rfl ?_
            rw [if_neg (by omega)] at H2
            exact ⟨_, by rw [← H2.out], shard_Set.out HW.out (by have := HS.out; have := HW.out; omega) HT.out HOK.out HPZ.out HZF.out _ _, shard_Set.outB HW.out HBW.out _ _⟩
  · rw [if_neg hl] at h; cases h


/-! ### sat_Slots: function 70 -/
def sat_Slots.f (a0 : Int) : Option (Int) := if a0 < 0 then (some 0) else (if a0 > 400 then (some 0) else (some (mx 1 (wrap64 (Int.tdiv (wrap64 ((wrap64 (a0 + 32)) - 1)) 32)))))
set_option maxHeartbeats 8000000 in
set_option maxRecDepth 100000 in
theorem sat_Slots.calls (a0 : Int) (r : Int) (w : World) (h : sat_Slots.f a0 = some r) :
    Calls Try.prog 70 #[.int .i64 a0] w fun e w' => e = .returned (.int .i64 r) ∧ Below w.heap.size w w' := by
  have HB := Aside0.mk (Below.refl w.heap.size w)
  have H : (if a0 < 0 then (some 0) else (if a0 > 400 then (some 0) else (some (mx 1 (wrap64 (Int.tdiv (wrap64 ((wrap64 (a0 + 32)) - 1)) 32)))))) = some r := h
  clear h
  by_cases c2 : a0 < 0
  · rw [if_pos c2] at H
    have c2b0 : decide (a0 < 0) = true := decide_eq_true c2
    clear c2
    obtain rfl := Option.some.inj H
    go_enter Try.func70, Try.ntmps70
    go_wp2
    go_ret
    exact ⟨by first | rfl | (simp [errW_none, errW_some] <;> rfl) | (simp [*, errW_none, errW_some] <;> rfl), by repeat (first | (with_reducible first | exact HB.out | apply below_alloc | apply pw_below_drewN | apply below_drew1) | exact HB.out)⟩
  · rw [if_neg c2] at H
    have c2b0 : decide (a0 < 0) = false := decide_eq_false c2
    clear c2
    by_cases c3 : a0 > 400
    · rw [if_pos c3] at H
      have c3b0 : decide (400 < a0) = true := decide_eq_true c3
      clear c3
      obtain rfl := Option.some.inj H
      go_enter Try.func70, Try.ntmps70
      go_wp2
      go_ret
      exact ⟨by first | rfl | (simp [errW_none, errW_some] <;> rfl) | (simp [*, errW_none, errW_some] <;> rfl), by repeat (first | (with_reducible first | exact HB.out | apply below_alloc | apply pw_below_drewN | apply below_drew1) | exact HB.out)⟩
    · rw [if_neg c3] at H
      have c3b0 : decide (400 < a0) = false := decide_eq_false c3
      clear c3
      obtain ⟨ji4, hji4⟩ : ∃ j_ : Int, (mx 1 (wrap64 (Int.tdiv (wrap64 ((wrap64 (a0 + 32)) - 1)) 32))) = j_ := ⟨_, rfl⟩
      replace H : (some ji4) = some r := by first | (rw [hji4] at H; exact H) | (simp only [hji4] at H ⊢; exact H)
      (try (have hji4l : 1 ≤ ji4 := by (rw [← hji4]; unfold mx; (repeat' split) <;> omega)))
      (try (have hji4m : 0 ≤ ji4 := by omega))
      have hji4_ : (if 1 < (wrap64 (Int.tdiv (wrap64 ((wrap64 (a0 + 32)) - 1)) 32)) then (wrap64 (Int.tdiv (wrap64 ((wrap64 (a0 + 32)) - 1)) 32)) else 1) = ji4 := hji4
      obtain rfl := Option.some.inj H
      go_enter Try.func70, Try.ntmps70
      go_wp2
      go_ret
      exact ⟨by first | rfl | (simp [errW_none, errW_some] <;> rfl) | (simp only [← hji4]; first | rfl | (simp [errW_none, errW_some] <;> rfl)) | (simp [*, errW_none, errW_some] <;> rfl), by repeat (first | (with_reducible first | exact HB.out | apply below_alloc | apply pw_below_drewN | apply below_drew1) | exact HB.out)⟩

/-! ### txn_Slots: function 54 -/
def txn_Slots.f (a0_0 : Int) (a0_1 : Int) (a0_2 : Int) (a0_3 : Int) (a0_4 : Int) (a0_5 : ByteArray) : Option (Int) := (txn_Encode.f a0_0 a0_1 a0_2 a0_3 a0_4 a0_5).bind fun bt160 => (if bt160.2 = true then ((sat_Slots.f (bt160.1.size : Int)).bind fun t162 => (some t162)) else (some 0))
set_option maxHeartbeats 8000000 in
set_option maxRecDepth 100000 in
theorem txn_Slots.calls (a0_0 : Int) (a0_1 : Int) (a0_2 : Int) (a0_3 : Int) (a0_4 : Int) (a0_5 : ByteArray) (r : Int) (w : World) (h : txn_Slots.f a0_0 a0_1 a0_2 a0_3 a0_4 a0_5 = some r) :
 Calls Try.prog 54 #[.agg #[.int .i64 a0_0, .int .i64 a0_1, .int .i64 a0_2, .int .i64 a0_3, .int .i64 a0_4, .string a0_5]] w fun e w' => e = .returned (.int .i64 r) ∧ Below w.heap.size w w' := by
 have hu32 := Try.underlying32
 have HB := A_ (Below.refl w.heap.size w)
 have H : ((txn_Encode.f a0_0 a0_1 a0_2 a0_3 a0_4 a0_5).bind fun bt160 => (if bt160.2 = true then ((sat_Slots.f (bt160.1.size : Int)).bind fun t162 => (some t162)) else (some 0))) = some r := h
 clear h
 replace H := Option.bind_eq_some_iff.mp H
 obtain ⟨⟨t160, t161⟩, A20, H⟩ := H
 try dsimp only at H
 have A2 := A_ A20
 clear A20
 by_cases c3 : t161 = true
 rotate_left
 · replace c3 := Bool.eq_false_iff.mpr c3
   subst c3
   have H1 : (some 0) = some r := by rw [if_neg (show ¬ (false = true) by decide)] at H; exact H
   clear H
   have H := H1
   clear H1
   obtain rfl := Option.some.inj H
   go_enter Try.func54, Try.ntmps54
   go_wp2_with (first | ((with_reducible refine gate_dst (N := 1) rfl ?_); refine box_event ?hg (N := 1) ?hd (cs := #[.int .i64 a0_0, .int .i64 a0_1, .int .i64 a0_2, .int .i64 a0_3, .int .i64 a0_4, .string a0_5]) (t := 32) ?hr ?_; (case hd => rfl); (case hg => rfl); (case hr => first | (go_simp; done) | (go_simp; rfl)); intro gb159 hg w9 hbox hb; have n0_ := A_ (below_step bw_ hb); have n1_ := A_ (hbox); have n2_ := A_ (gz_ (w := w) hg); have n3_ := A_ (gz_ (w := w) hg); replace HB := n0_; have BK159 := n1_; have GW159 := n2_; have GE159 := n3_; clear n0_ n1_ n2_ n3_; clear hb hbox hg; have hcz10_0 : w9.cell? ⟨gb159, 0, none⟩ = some (.int .i64 a0_0) := e_ BK159 0; have hcz10_1 : w9.cell? ⟨gb159, 1, none⟩ = some (.int .i64 a0_1) := e_ BK159 1; have hcz10_2 : w9.cell? ⟨gb159, 2, none⟩ = some (.int .i64 a0_2) := e_ BK159 2; have hcz10_3 : w9.cell? ⟨gb159, 3, none⟩ = some (.int .i64 a0_3) := e_ BK159 3; have hcz10_4 : w9.cell? ⟨gb159, 4, none⟩ = some (.int .i64 a0_4) := e_ BK159 4; have hcz10_5 : w9.cell? ⟨gb159, 5, none⟩ = some (.string a0_5) := e_ BK159 5; obtain ⟨hfz10_0, hfz10_1, hfz10_2, hfz10_3, hfz10_4, hfz10_5⟩ := z6_ BK159) | ((with_reducible refine gate_callee (f := 69) rfl ?_); refine goesL_ (some 7) rfl rfl Try.func69 (by kernel_rfl) rfl #[.agg #[.int .i64 a0_0, .int .i64 a0_1, .int .i64 a0_2, .int .i64 a0_3, .int .i64 a0_4, .string a0_5]] rfl (by (try simp only [m0_, m1_, m2_]); first | done | rfl) ?_; (with_reducible refine (txn_Encode.calls a0_0 a0_1 a0_2 a0_3 a0_4 a0_5 t160 false _ A2.out).mono ?_); rintro e w11 ⟨rfl, hb⟩; refine ⟨_, rfl, ?_⟩; replace BK159 := A_ (kb_ BK159 hb); replace HB := A_ (below_step bw_ hb); (try clear hb); (try clear hb2); (try clear hk); (try clear hi)))
   go_ret
   exact ⟨by first | rfl | (simp [errW_none, errW_some] <;> rfl) | (simp [*, errW_none, errW_some] <;> rfl), by repeat (first | (with_reducible first | exact HB.out | apply wa_ | apply wn_ | apply wd_ | refine ws_ ?_ GE159.out) | exact HB.out)⟩

 subst c3
 have H1 : ((sat_Slots.f (t160.size : Int)).bind fun t162 => (some t162)) = some r := by rw [if_pos rfl] at H; exact H
 clear H
 have H := H1
 clear H1
 replace H := Option.bind_eq_some_iff.mp H
 obtain ⟨t162, A40, H⟩ := H
 replace H : (some t162) = some r := H
 have A4 := A_ A40
 clear A40
 obtain rfl := Option.some.inj H
 go_enter Try.func54, Try.ntmps54
 go_wp2_with (first | ((with_reducible refine gate_dst (N := 1) rfl ?_); refine box_event ?hg (N := 1) ?hd (cs := #[.int .i64 a0_0, .int .i64 a0_1, .int .i64 a0_2, .int .i64 a0_3, .int .i64 a0_4, .string a0_5]) (t := 32) ?hr ?_; (case hd => rfl); (case hg => rfl); (case hr => first | (go_simp; done) | (go_simp; rfl)); intro gb159 hg w5 hbox hb; have n0_ := A_ (below_step bw_ hb); have n1_ := A_ (hbox); have n2_ := A_ (gz_ (w := w) hg); have n3_ := A_ (gz_ (w := w) hg); replace HB := n0_; have BK159 := n1_; have GW159 := n2_; have GE159 := n3_; clear n0_ n1_ n2_ n3_; clear hb hbox hg; have hcz6_0 : w5.cell? ⟨gb159, 0, none⟩ = some (.int .i64 a0_0) := e_ BK159 0; have hcz6_1 : w5.cell? ⟨gb159, 1, none⟩ = some (.int .i64 a0_1) := e_ BK159 1; have hcz6_2 : w5.cell? ⟨gb159, 2, none⟩ = some (.int .i64 a0_2) := e_ BK159 2; have hcz6_3 : w5.cell? ⟨gb159, 3, none⟩ = some (.int .i64 a0_3) := e_ BK159 3; have hcz6_4 : w5.cell? ⟨gb159, 4, none⟩ = some (.int .i64 a0_4) := e_ BK159 4; have hcz6_5 : w5.cell? ⟨gb159, 5, none⟩ = some (.string a0_5) := e_ BK159 5; obtain ⟨hfz6_0, hfz6_1, hfz6_2, hfz6_3, hfz6_4, hfz6_5⟩ := z6_ BK159) | ((with_reducible refine gate_callee (f := 69) rfl ?_); refine goesL_ (some 7) rfl rfl Try.func69 (by kernel_rfl) rfl #[.agg #[.int .i64 a0_0, .int .i64 a0_1, .int .i64 a0_2, .int .i64 a0_3, .int .i64 a0_4, .string a0_5]] rfl (by (try simp only [m0_, m1_, m2_]); first | done | rfl) ?_; (with_reducible refine (txn_Encode.calls a0_0 a0_1 a0_2 a0_3 a0_4 a0_5 t160 true _ A2.out).mono ?_); rintro e w7 ⟨rfl, hb⟩; refine ⟨_, rfl, ?_⟩; replace BK159 := A_ (kb_ BK159 hb); replace HB := A_ (below_step bw_ hb); (try clear hb); (try clear hb2); (try clear hk); (try clear hi)) | ((with_reducible refine gate_callee (f := 70) rfl ?_); refine goesL_ (some 14) rfl rfl Try.func70 (by kernel_rfl) rfl #[.int .i64 (t160.size : Int)] rfl (by (try simp only [m0_, m1_, m2_]); first | done | rfl) ?_; (with_reducible refine (sat_Slots.calls (t160.size : Int) t162 _ A4.out).mono ?_); rintro e w8 ⟨rfl, hb⟩; refine ⟨_, rfl, ?_⟩; replace BK159 := A_ (kb_ BK159 hb); replace HB := A_ (below_step bw_ hb); (try clear hb); (try clear hb2); (try clear hk); (try clear hi)))
 go_ret
 exact ⟨by first | rfl | (simp [errW_none, errW_some] <;> rfl) | (simp [*, errW_none, errW_some] <;> rfl), by repeat (first | (with_reducible first | exact HB.out | apply wa_ | apply wn_ | apply wd_ | refine ws_ ?_ GE159.out) | exact HB.out)⟩
/-! ### queue_Slots: function 41 -/
def queue_Slots.l0 : Nat → Int → List (S32) → Int → Int → Option (Int)
 | 0, _, _, _, _ => none
 | k + 1, x3, x7, x8, x9 => if x9 < x8 then (if 0 ≤ x9 then (if x9 < (x7.length : Int) then ((txn_Slots.f ((rd_T32 x7 x9).f0) ((rd_T32 x7 x9).f1) ((rd_T32 x7 x9).f2) ((rd_T32 x7 x9).f3) ((rd_T32 x7 x9).f4) ((rd_T32 x7 x9).f5)).bind fun t166 => (queue_Slots.l0 k (wrap64 (x3 + t166)) x7 x8 (wrap64 (x9 + 1)))) else (none)) else (none)) else (some x3)
def queue_Slots.f (k : Nat) (a0_0 : Int) (a0_1 : Int) (l0_2 : List (S32)) : Option (Int) := queue_Slots.l0 k 0 l0_2 (l0_2.length : Int) 0
theorem queue_Slots.mono_l : ∀ k, (∀ y0 y1 y2 y3, LeO (queue_Slots.l0 k y0 y1 y2 y3) (queue_Slots.l0 (k + 1) y0 y1 y2 y3))
 | 0 => fun _ _ _ _ r h => by simp [queue_Slots.l0] at h
 | k + 1 => by
  have ih0 := queue_Slots.mono_l k
  · intro y0 y1 y2 y3
    unfold queue_Slots.l0
    repeat' first
    | (with_reducible exact ih0 _ _ _ _)
    | (with_reducible exact LeO.refl _)
    | (with_reducible exact LeO.none _)
    | (with_reducible refine LeO.ite ?_ ?_)
    | (with_reducible refine LeO.bind ?_ (fun _ => ?_))
    | exact ih0 _ _ _ _
    | exact LeO.none _
    | refine LeO.ite ?_ ?_
    | refine LeO.bind ?_ (fun _ => ?_)
theorem queue_Slots.mono : ∀ a0 a1 a2 k, LeO (queue_Slots.f k a0 a1 a2) (queue_Slots.f (k + 1) a0 a1 a2) := by
 intro a0 a1 a2 k
 have ih0 := queue_Slots.mono_l k
 unfold queue_Slots.f
 repeat' first
  | (with_reducible exact ih0 _ _ _ _)
  | (with_reducible exact LeO.refl _)
  | (with_reducible exact LeO.none _)
  | (with_reducible refine LeO.ite ?_ ?_)
  | (with_reducible refine LeO.bind ?_ (fun _ => ?_))
  | exact ih0 _ _ _ _
  | exact LeO.none _
  | refine LeO.ite ?_ ?_
  | refine LeO.bind ?_ (fun _ => ?_)
set_option maxHeartbeats 8000000 in
set_option maxRecDepth 100000 in
theorem queue_Slots.calls (k : Nat) (a0_0 : Int) (a0_1 : Int) (A0_2 : Option Addr) (c0_2 : Nat) (l0_2 : List (S32)) (r : Int) (w : World) (hr0_2 : Kd.C k32 w A0_2 l0_2.length l0_2) (hc0_2 : l0_2.length ≤ c0_2) (h : queue_Slots.f k a0_0 a0_1 l0_2 = some r) :
 Calls Try.prog 41 #[.agg #[.int .i64 a0_0, .int .i64 a0_1, .slice A0_2 l0_2.length c0_2]] w fun e w' => e = .returned (.int .i64 r) ∧ Below w.heap.size w w' := by
 have hu46 := Try.underlying46
 have hu32 := Try.underlying32
 have HR0_2 := A_ hr0_2
 have HC0_2 := A_ hc0_2
 clear hr0_2 hc0_2; have HB := A_ (Below.refl w.heap.size w)
 have H : (queue_Slots.l0 k 0 l0_2 (l0_2.length : Int) 0) = some r := h
 clear h
 have H' := A_ H
 clear H
 go_enter Try.func41, Try.ntmps41
 go_wp2_with (first | ((with_reducible refine gate_dst (N := 1) rfl ?_); refine box_event ?hg (N := 1) ?hd (cs := #[.int .i64 a0_0, .int .i64 a0_1, .slice A0_2 l0_2.length c0_2]) (t := 46) ?hr ?_; (case hd => rfl); (case hg => rfl); (case hr => first | (go_simp; done) | (go_simp; rfl)); intro gb163 hg w2 hbox hb; have n0_ := A_ (below_step bw_ hb); have n1_ := A_ (hbox); have n2_ := A_ (gz_ (w := w) hg); have n3_ := A_ (gz_ (w := w) hg); replace HB := n0_; have BK163 := n1_; have GW163 := n2_; have GE163 := n3_; clear n0_ n1_ n2_ n3_; clear hb hbox hg; have hcz3_0 : w2.cell? ⟨gb163, 0, none⟩ = some (.int .i64 a0_0) := e_ BK163 0; have hcz3_1 : w2.cell? ⟨gb163, 1, none⟩ = some (.int .i64 a0_1) := e_ BK163 1; have hcz3_2 : w2.cell? ⟨gb163, 2, none⟩ = some (.slice A0_2 l0_2.length c0_2) := e_ BK163 2; obtain ⟨hfz3_0, hfz3_1, hfz3_2⟩ := z3_ BK163))
 go_loopg [3, 9] k (fun kq v3 v9 w' => ∃ (x3_1 : Int) (x9_1 : Int), v3 = .int .i64 x3_1 ∧ v9 = .int .i64 x9_1 ∧ Aside0 (queue_Slots.l0 kq x3_1 l0_2 (l0_2.length : Int) x9_1 = some r) ∧ Aside0 (kq ≤ k) ∧ Aside0 (w'.heap[gb163]? = some (.cells #[.int .i64 a0_0, .int .i64 a0_1, (.slice A0_2 l0_2.length c0_2)] 46 (0, 0))) ∧ Aside0 (Below w.heap.size w w'))
 case atStart => exact ⟨(0), (0), (by first | rfl | (simp; done) | (simp [*]; done)), (by first | rfl | (simp; done) | (simp [*]; done)), H', ⟨Nat.le_refl _⟩, ⟨bk_⟩, ⟨by repeat (first | (with_reducible first | exact HB.out | apply wa_ | apply wn_ | apply wd_ | refine ws_ ?_ GE163.out) | exact HB.out)⟩⟩
 case round =>
  clear H'; (try clear p2); (try clear hcz3_0 hcz3_1 hcz3_2); (try clear hfz3_0 hfz3_1 hfz3_2)
  obtain ⟨x3_1, x9_1, rfl, rfl, HA, HK1, BK163, HB⟩ := hrel
  cases gk with
  | zero => exact absurd HA.out (by simp [queue_Slots.l0])
  | succ k1 =>
   have H := HA.out
   clear HA
   simp only [queue_Slots.l0] at H
   by_cases c4 : x9_1 < (l0_2.length : Int)
   rotate_left
   · rw [if_neg c4] at H
     have c4b0 : decide (x9_1 < (l0_2.length : Int)) = false := decide_eq_false c4
     clear c4
     obtain rfl := Option.some.inj H
     go_wp2
     go_ret
     exact ⟨by first | rfl | (simp [errW_none, errW_some] <;> rfl) | (simp [*, errW_none, errW_some] <;> rfl), by repeat (first | (with_reducible first | exact HB.out | apply wa_ | apply wn_ | apply wd_ | refine ws_ ?_ GE163.out) | exact HB.out)⟩

   rw [if_pos c4] at H
   have c4b0 : decide (x9_1 < (l0_2.length : Int)) = true := decide_eq_true c4
   clear c4
   by_cases c5 : 0 ≤ x9_1
   rotate_left
   · rw [if_neg c5] at H
     exact absurd H (by simp)
   rw [if_pos c5] at H
   have c5b0 : decide (0 ≤ x9_1) = true := decide_eq_true c5
   clear c5
   by_cases c6 : x9_1 < (l0_2.length : Int)
   rotate_left
   · rw [if_neg c6] at H
     exact absurd H (by simp)
   rw [if_pos c6] at H
   have c6b0 : decide (x9_1 < (l0_2.length : Int)) = true := decide_eq_true c6
   clear c6
   replace H := Option.bind_eq_some_iff.mp H
   obtain ⟨t166, A70, H⟩ := H
   try dsimp only at H
   have A7 := A_ A70
   clear A70
   have H' := A_ H
   clear H
   have p164 : 0 ≤ (x9_1 : Int) := of_decide_eq_true (by first | (with_reducible assumption) | assumption)
   have q164 : x9_1 < (l0_2.length : Int) := of_decide_eq_true (by first | (with_reducible assumption) | assumption)
   obtain ⟨ad164, e164, hx164_0, hx164_1, hx164_2, hx164_3, hx164_4, hx164_5⟩ := at_T32 HR0_2.out x9_1 p164 q164
   cases e164
   replace hx164_0 := on_ HB.out hx164_0
   replace hx164_1 := on_ HB.out hx164_1
   replace hx164_2 := on_ HB.out hx164_2
   replace hx164_3 := on_ HB.out hx164_3
   replace hx164_4 := on_ HB.out hx164_4
   replace hx164_5 := on_ HB.out hx164_5
   replace p164 := eq_true p164
   replace q164 := eq_true q164
   go_wp2_with (first | ((with_reducible refine gate_dst (N := 5) rfl ?_); refine box_event ?hg (N := 5) ?hd (cs := #[.int .i64 0, .int .i64 0, .int .i64 0, .int .i64 0, .int .i64 0, .string (⟨#[]⟩ : ByteArray)]) (t := 32) ?hr ?_; (case hd => rfl); (case hg => rfl); (case hr => first | (go_simp; done) | (go_simp; rfl)); intro gb165 hg w8 hbox hb; have n0_ := A_ (kb_ BK163 hb); have n1_ := A_ (below_step bw_ hb); have n2_ := A_ (hbox); have n3_ := A_ (gz_ (w := w) hg); have n4_ := A_ (gz_ (w := w) hg); have n5_ := A_ (nl_ BK163 hg); have n6_ := A_ (ng_ BK163 hg); replace BK163 := n0_; replace HB := n1_; have BK165 := n2_; have GW165 := n3_; have GE165 := n4_; have NB163_165 := n5_; have NB165_163 := n6_; clear n0_ n1_ n2_ n3_ n4_ n5_ n6_; clear hb hbox hg; have hnb9 := NB165_163.out; have hnc9 := NB163_165.out; have hcz10_0 : w8.cell? ⟨gb165, 0, none⟩ = some (.int .i64 0) := e_ BK165 0; have hcz10_1 : w8.cell? ⟨gb165, 1, none⟩ = some (.int .i64 0) := e_ BK165 1; have hcz10_2 : w8.cell? ⟨gb165, 2, none⟩ = some (.int .i64 0) := e_ BK165 2; have hcz10_3 : w8.cell? ⟨gb165, 3, none⟩ = some (.int .i64 0) := e_ BK165 3; have hcz10_4 : w8.cell? ⟨gb165, 4, none⟩ = some (.int .i64 0) := e_ BK165 4; have hcz10_5 : w8.cell? ⟨gb165, 5, none⟩ = some (.string (⟨#[]⟩ : ByteArray)) := e_ BK165 5; obtain ⟨hfz10_0, hfz10_1, hfz10_2, hfz10_3, hfz10_4, hfz10_5⟩ := z6_ BK165) | ((with_reducible refine gate_callee (f := 54) rfl ?_); refine goesL_ (some 15) rfl rfl Try.func54 (by kernel_rfl) rfl #[.agg #[.int .i64 ((rd_T32 l0_2 x9_1).f0), .int .i64 ((rd_T32 l0_2 x9_1).f1), .int .i64 ((rd_T32 l0_2 x9_1).f2), .int .i64 ((rd_T32 l0_2 x9_1).f3), .int .i64 ((rd_T32 l0_2 x9_1).f4), .string ((rd_T32 l0_2 x9_1).f5)]] rfl (by (try simp only [m0_, m1_, m2_]); first | done | rfl) ?_; (with_reducible refine (txn_Slots.calls ((rd_T32 l0_2 x9_1).f0) ((rd_T32 l0_2 x9_1).f1) ((rd_T32 l0_2 x9_1).f2) ((rd_T32 l0_2 x9_1).f3) ((rd_T32 l0_2 x9_1).f4) ((rd_T32 l0_2 x9_1).f5) t166 _ A7.out).mono ?_); rintro e w11 ⟨rfl, hb⟩; refine ⟨_, rfl, ?_⟩; replace BK163 := A_ (kb_ BK163 hb); replace BK165 := A_ (blk_below (g := gb165) (o := .cells #[.int .i64 ((rd_T32 l0_2 x9_1).f0), .int .i64 ((rd_T32 l0_2 x9_1).f1), .int .i64 ((rd_T32 l0_2 x9_1).f2), .int .i64 ((rd_T32 l0_2 x9_1).f3), .int .i64 ((rd_T32 l0_2 x9_1).f4), .string ((rd_T32 l0_2 x9_1).f5)] 32 (0, 0)) (by exact pk_ (b6_ BK165.out)) hb); replace HB := A_ (below_step bw_ hb); (try clear hb); (try clear hb2); (try clear hk); (try clear hi)))
   go_roundg k1
   case measure => have := HK1.out; omega
   case rel => exact ⟨(wrap64 (x3_1 + t166)), (wrap64 (x9_1 + 1)), (by first | rfl | (simp; done) | (simp [*]; done)), (by first | rfl | (simp; done) | (simp [*]; done)), H', ⟨by have := HK1.out; omega⟩, ⟨bk_⟩, ⟨by repeat (first | (with_reducible first | exact HB.out | apply wa_ | apply wn_ | apply wd_ | refine ws_ ?_ GE163.out | refine ws_ ?_ GE165.out) | exact HB.out)⟩⟩
/-! ### shard_Slots: function 23 -/
def shard_Slots.l0 : Nat → Int → List (S46) → Int → Int → Option (Int)
 | 0, _, _, _, _ => none
 | k + 1, x3, x7, x8, x9 => if x9 < x8 then (if 0 ≤ x9 then (if x9 < (x7.length : Int) then ((queue_Slots.f k ((rd_T46 x7 x9).f0) ((rd_T46 x7 x9).f1) ((rd_T46 x7 x9).f2)).bind fun t170 => (shard_Slots.l0 k (wrap64 (x3 + t170)) x7 x8 (wrap64 (x9 + 1)))) else (none)) else (none)) else (some x3)
def shard_Slots.f (k : Nat) (l0_0 : List (S46)) (a0_1 : Int) : Option (Int) := shard_Slots.l0 k 0 l0_0 (l0_0.length : Int) 0
theorem shard_Slots.mono_l : ∀ k, (∀ y0 y1 y2 y3, LeO (shard_Slots.l0 k y0 y1 y2 y3) (shard_Slots.l0 (k + 1) y0 y1 y2 y3))
 | 0 => fun _ _ _ _ r h => by simp [shard_Slots.l0] at h
 | k + 1 => by
  have ih0 := shard_Slots.mono_l k
  · intro y0 y1 y2 y3
    unfold shard_Slots.l0
    repeat' first
    | (with_reducible exact ih0 _ _ _ _)
    | (with_reducible exact queue_Slots.mono _ _ _ _)
    | (with_reducible exact LeO.refl _)
    | (with_reducible exact LeO.none _)
    | (with_reducible refine LeO.ite ?_ ?_)
    | (with_reducible refine LeO.bind ?_ (fun _ => ?_))
    | exact ih0 _ _ _ _
    | exact queue_Slots.mono _ _ _ _
    | exact LeO.none _
    | refine LeO.ite ?_ ?_
    | refine LeO.bind ?_ (fun _ => ?_)
theorem shard_Slots.mono : ∀ a0 a1 k, LeO (shard_Slots.f k a0 a1) (shard_Slots.f (k + 1) a0 a1) := by
 intro a0 a1 k
 have ih0 := shard_Slots.mono_l k
 unfold shard_Slots.f
 repeat' first
  | (with_reducible exact ih0 _ _ _ _)
  | (with_reducible exact queue_Slots.mono _ _ _ _)
  | (with_reducible exact LeO.refl _)
  | (with_reducible exact LeO.none _)
  | (with_reducible refine LeO.ite ?_ ?_)
  | (with_reducible refine LeO.bind ?_ (fun _ => ?_))
  | exact ih0 _ _ _ _
  | exact queue_Slots.mono _ _ _ _
  | exact LeO.none _
  | refine LeO.ite ?_ ?_
  | refine LeO.bind ?_ (fun _ => ?_)
set_option maxHeartbeats 8000000 in
set_option maxRecDepth 100000 in
theorem shard_Slots.calls (k : Nat) (A0_0 : Option Addr) (c0_0 : Nat) (l0_0 : List (S46)) (a0_1 : Int) (r : Int) (w : World) (hr0_0 : Kd.C k46 w A0_0 l0_0.length l0_0) (hc0_0 : l0_0.length ≤ c0_0) (h : shard_Slots.f k l0_0 a0_1 = some r) :
 Calls Try.prog 23 #[.agg #[.slice A0_0 l0_0.length c0_0, .int .i64 a0_1]] w fun e w' => e = .returned (.int .i64 r) ∧ Below w.heap.size w w' := by
 have hu48 := Try.underlying48
 have hu46 := Try.underlying46
 have HR0_0 := A_ hr0_0
 have HC0_0 := A_ hc0_0
 clear hr0_0 hc0_0; have HB := A_ (Below.refl w.heap.size w)
 have H : (shard_Slots.l0 k 0 l0_0 (l0_0.length : Int) 0) = some r := h
 clear h
 have H' := A_ H
 clear H
 go_enter Try.func23, Try.ntmps23
 go_wp2_with (first | ((with_reducible refine gate_dst (N := 1) rfl ?_); refine box_event ?hg (N := 1) ?hd (cs := #[.slice A0_0 l0_0.length c0_0, .int .i64 a0_1]) (t := 48) ?hr ?_; (case hd => rfl); (case hg => rfl); (case hr => first | (go_simp; done) | (go_simp; rfl)); intro gb167 hg w2 hbox hb; have n0_ := A_ (below_step bw_ hb); have n1_ := A_ (hbox); have n2_ := A_ (gz_ (w := w) hg); have n3_ := A_ (gz_ (w := w) hg); replace HB := n0_; have BK167 := n1_; have GW167 := n2_; have GE167 := n3_; clear n0_ n1_ n2_ n3_; clear hb hbox hg; have hcz3_0 : w2.cell? ⟨gb167, 0, none⟩ = some (.slice A0_0 l0_0.length c0_0) := e_ BK167 0; have hcz3_1 : w2.cell? ⟨gb167, 1, none⟩ = some (.int .i64 a0_1) := e_ BK167 1; have hfz3_0 := blk_frozen BK167.out 0; have hfz3_1 := blk_frozen BK167.out 1))
 go_loopg [3, 9] k (fun kq v3 v9 w' => ∃ (x3_1 : Int) (x9_1 : Int), v3 = .int .i64 x3_1 ∧ v9 = .int .i64 x9_1 ∧ Aside0 (shard_Slots.l0 kq x3_1 l0_0 (l0_0.length : Int) x9_1 = some r) ∧ Aside0 (kq ≤ k) ∧ Aside0 (w'.heap[gb167]? = some (.cells #[(.slice A0_0 l0_0.length c0_0), .int .i64 a0_1] 48 (0, 0))) ∧ Aside0 (Below w.heap.size w w'))
 case atStart => exact ⟨(0), (0), (by first | rfl | (simp; done) | (simp [*]; done)), (by first | rfl | (simp; done) | (simp [*]; done)), H', ⟨Nat.le_refl _⟩, ⟨bk_⟩, ⟨by repeat (first | (with_reducible first | exact HB.out | apply wa_ | apply wn_ | apply wd_ | refine ws_ ?_ GE167.out) | exact HB.out)⟩⟩
 case round =>
  clear H'; (try clear c2); (try clear p2); (try clear hcz3_0 hcz3_1); (try clear hfz3_0 hfz3_1)
  obtain ⟨x3_1, x9_1, rfl, rfl, HA, HK1, BK167, HB⟩ := hrel
  cases gk with
  | zero => exact absurd HA.out (by simp [shard_Slots.l0])
  | succ k1 =>
   have H := HA.out
   clear HA
   simp only [shard_Slots.l0] at H
   by_cases c4 : x9_1 < (l0_0.length : Int)
   rotate_left
   · rw [if_neg c4] at H
     have c4b0 : decide (x9_1 < (l0_0.length : Int)) = false := decide_eq_false c4
     clear c4
     obtain rfl := Option.some.inj H
     go_wp2
     go_ret
     exact ⟨by first | rfl | (simp [errW_none, errW_some] <;> rfl) | (simp [*, errW_none, errW_some] <;> rfl), by repeat (first | (with_reducible first | exact HB.out | apply wa_ | apply wn_ | apply wd_ | refine ws_ ?_ GE167.out) | exact HB.out)⟩

   rw [if_pos c4] at H
   have c4b0 : decide (x9_1 < (l0_0.length : Int)) = true := decide_eq_true c4
   clear c4
   by_cases c5 : 0 ≤ x9_1
   rotate_left
   · rw [if_neg c5] at H
     exact absurd H (by simp)
   rw [if_pos c5] at H
   have c5b0 : decide (0 ≤ x9_1) = true := decide_eq_true c5
   clear c5
   by_cases c6 : x9_1 < (l0_0.length : Int)
   rotate_left
   · rw [if_neg c6] at H
     exact absurd H (by simp)
   rw [if_pos c6] at H
   have c6b0 : decide (x9_1 < (l0_0.length : Int)) = true := decide_eq_true c6
   clear c6
   replace H := Option.bind_eq_some_iff.mp H
   obtain ⟨t170, A70, H⟩ := H
   try dsimp only at H
   have A7 := A_ A70
   clear A70
   have H' := A_ H
   clear H
   have p168 : 0 ≤ (x9_1 : Int) := of_decide_eq_true (by first | (with_reducible assumption) | assumption)
   have q168 : x9_1 < (l0_0.length : Int) := of_decide_eq_true (by first | (with_reducible assumption) | assumption)
   obtain ⟨ad168, A168_2, c168_2, e168, hx168_0, hx168_1, hx168_2, hl168_2, hi168_2⟩ := at_T46 HR0_0.out x9_1 p168 q168
   cases e168
   replace hx168_0 := on_ HB.out hx168_0
   replace hx168_1 := on_ HB.out hx168_1
   replace hx168_2 := on_ HB.out hx168_2
   have HR168_2 := A_ hi168_2
   have HC168_2 := A_ hl168_2
   clear hi168_2 hl168_2
   replace p168 := eq_true p168
   replace q168 := eq_true q168
   go_wp2_with (first | ((with_reducible refine gate_dst (N := 5) rfl ?_); refine box_event ?hg (N := 5) ?hd (cs := #[.int .i64 0, .int .i64 0, .slice none 0 0]) (t := 46) ?hr ?_; (case hd => rfl); (case hg => rfl); (case hr => first | (go_simp; done) | (go_simp; rfl)); intro gb169 hg w8 hbox hb; have n0_ := A_ (kb_ BK167 hb); have n1_ := A_ (below_step bw_ hb); have n2_ := A_ (hbox); have n3_ := A_ (gz_ (w := w) hg); have n4_ := A_ (gz_ (w := w) hg); have n5_ := A_ (nl_ BK167 hg); have n6_ := A_ (ng_ BK167 hg); replace BK167 := n0_; replace HB := n1_; have BK169 := n2_; have GW169 := n3_; have GE169 := n4_; have NB167_169 := n5_; have NB169_167 := n6_; clear n0_ n1_ n2_ n3_ n4_ n5_ n6_; clear hb hbox hg; have hnb9 := NB169_167.out; have hnc9 := NB167_169.out; have hcz10_0 : w8.cell? ⟨gb169, 0, none⟩ = some (.int .i64 0) := e_ BK169 0; have hcz10_1 : w8.cell? ⟨gb169, 1, none⟩ = some (.int .i64 0) := e_ BK169 1; have hcz10_2 : w8.cell? ⟨gb169, 2, none⟩ = some (.slice none 0 0) := e_ BK169 2; obtain ⟨hfz10_0, hfz10_1, hfz10_2⟩ := z3_ BK169) | ((with_reducible refine gate_callee (f := 41) rfl ?_); refine goesL_ (some 15) rfl rfl Try.func41 (by kernel_rfl) rfl #[.agg #[.int .i64 ((rd_T46 l0_0 x9_1).f0), .int .i64 ((rd_T46 l0_0 x9_1).f1), .slice A168_2 ((rd_T46 l0_0 x9_1).f2).length c168_2]] rfl (by (try simp only [m0_, m1_, m2_]); first | done | rfl) ?_; (with_reducible refine (queue_Slots.calls k1 ((rd_T46 l0_0 x9_1).f0) ((rd_T46 l0_0 x9_1).f1) _ _ ((rd_T46 l0_0 x9_1).f2) t170 _ ?side1 ?side2 A7.out).mono ?_); (case side1 => exact Kd.C_below HR168_2.out bw_); (case side2 => exact HC168_2.out); rintro e w11 ⟨rfl, hb⟩; refine ⟨_, rfl, ?_⟩; replace BK167 := A_ (kb_ BK167 hb); replace BK169 := A_ (blk_below (g := gb169) (o := .cells #[.int .i64 ((rd_T46 l0_0 x9_1).f0), .int .i64 ((rd_T46 l0_0 x9_1).f1), .slice A168_2 ((rd_T46 l0_0 x9_1).f2).length c168_2] 46 (0, 0)) (by exact pk_ (b3_ BK169.out)) hb); replace HB := A_ (below_step bw_ hb); (try clear hb); (try clear hb2); (try clear hk); (try clear hi)))
   go_roundg k1
   case measure => have := HK1.out; omega
   case rel => exact ⟨(wrap64 (x3_1 + t170)), (wrap64 (x9_1 + 1)), (by first | rfl | (simp; done) | (simp [*]; done)), (by first | rfl | (simp; done) | (simp [*]; done)), H', ⟨by have := HK1.out; omega⟩, ⟨bk_⟩, ⟨by repeat (first | (with_reducible first | exact HB.out | apply wa_ | apply wn_ | apply wd_ | refine ws_ ?_ GE167.out | refine ws_ ?_ GE169.out) | exact HB.out)⟩⟩
end Go.Proofs.Ytnjnogkhbadioaa.D
