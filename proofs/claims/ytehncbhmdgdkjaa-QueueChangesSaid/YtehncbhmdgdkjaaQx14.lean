/- Written by this session's own program over the kit's print: functions of Go told as plain functions, or the row of one statement; proved for every input, with no condition of ours. -/
import Derived.Test.YtehncbhmdgdkjaaQx0
import Derived.Test.YtehncbhmdgdkjaaQx2
import Derived.Test.YtehncbhmdgdkjaaQx11
namespace Go.Proofs.Ytehncbhmdgdkjaa.Q
open Go.RowKit Go.Proofs.YtehncbhmdgdkjaaW.PrintWords Go.Proofs.YtehncbhmdgdkjaaW.PrintLast Go.Proofs.YtehncbhmdgdkjaaW.PrintMore
attribute [local go_sem] max2_int min2_int max_two min_two max_three min_three max_four min_four   -- for this text's walks alone
set_option linter.unusedVariables false
set_option linter.unusedSimpArgs false

/-! ### hopperref05_Same: function 62 -/
def hopperref05_Same.f (k : Nat) (a0_0 : Int) (a0_1 : Int) (l0_2 : List (S24)) (a1_0 : Int) (a1_1 : Int) (l1_2 : List (S24)) : Option (Bool) := if a0_0 = a1_0 then (if a0_1 = a1_1 then ((hopperref04_Txs.f k l0_2 l1_2).bind fun t416 => (some t416)) else (some false)) else (some false)
theorem hopperref05_Same.mono : ∀ a0 a1 a2 a3 a4 a5 k, LeO (hopperref05_Same.f k a0 a1 a2 a3 a4 a5) (hopperref05_Same.f (k + 1) a0 a1 a2 a3 a4 a5) := by
 intro a0 a1 a2 a3 a4 a5 k
 unfold hopperref05_Same.f
 repeat' first
  | (with_reducible exact hopperref04_Txs.mono _ _ _)
  | (with_reducible exact LeO.refl _)
  | (with_reducible exact LeO.none _)
  | (with_reducible refine LeO.ite ?_ ?_)
  | (with_reducible refine LeO.bind ?_ (fun _ => ?_))
  | exact hopperref04_Txs.mono _ _ _
  | exact LeO.none _
  | refine LeO.ite ?_ ?_
  | refine LeO.bind ?_ (fun _ => ?_)
set_option maxHeartbeats 8000000 in
set_option maxRecDepth 100000 in
theorem hopperref05_Same.calls (k : Nat) (a0_0 : Int) (a0_1 : Int) (A0_2 : Option Addr) (c0_2 : Nat) (l0_2 : List (S24)) (a1_0 : Int) (a1_1 : Int) (A1_2 : Option Addr) (c1_2 : Nat) (l1_2 : List (S24)) (r : Bool) (w : World) (hr0_2 : Kd.C k24 w A0_2 l0_2.length l0_2) (hc0_2 : l0_2.length ≤ c0_2) (hr1_2 : Kd.C k24 w A1_2 l1_2.length l1_2) (hc1_2 : l1_2.length ≤ c1_2) (h : hopperref05_Same.f k a0_0 a0_1 l0_2 a1_0 a1_1 l1_2 = some r) :
 Calls Try.prog 62 #[.agg #[.int .i64 a0_0, .int .i64 a0_1, .slice A0_2 l0_2.length c0_2], .agg #[.int .i64 a1_0, .int .i64 a1_1, .slice A1_2 l1_2.length c1_2]] w fun e w' => e = .returned (.bool r) ∧ Below w.heap.size w w' := by
 have hu46 := Try.underlying46
 have HR0_2 := A_ hr0_2
 have HC0_2 := A_ hc0_2
 clear hr0_2 hc0_2
 have HR1_2 := A_ hr1_2
 have HC1_2 := A_ hc1_2
 clear hr1_2 hc1_2; have HB := A_ (Below.refl w.heap.size w)
 have H : (if a0_0 = a1_0 then (if a0_1 = a1_1 then ((hopperref04_Txs.f k l0_2 l1_2).bind fun t416 => (some t416)) else (some false)) else (some false)) = some r := h
 clear h
 by_cases c3 : a0_0 = a1_0
 rotate_left
 · rw [if_neg c3] at H
   have c3b0 : (a0_0 == a1_0) = false := beq_eq_false_iff_ne.mpr c3
   have c3b1 : (a0_0 != a1_0) = true := bne_iff_ne.mpr c3
   obtain rfl := Option.some.inj H
   go_enter Try.func62, Try.ntmps62
   go_wp2_with (first | ((with_reducible refine gate_dst (N := 2) rfl ?_); refine box_event ?hg (N := 2) ?hd (cs := #[.int .i64 a0_0, .int .i64 a0_1, .slice A0_2 l0_2.length c0_2]) (t := 46) ?hr ?_; (case hd => rfl); (case hg => rfl); (case hr => first | (go_simp; done) | (go_simp; rfl)); intro gb414 hg w16 hbox hb; have n0_ := A_ (below_step bw_ hb); have n1_ := A_ (hbox); have n2_ := A_ (gz_ (w := w) hg); have n3_ := A_ (gz_ (w := w) hg); replace HB := n0_; have BK414 := n1_; have GW414 := n2_; have GE414 := n3_; clear n0_ n1_ n2_ n3_; clear hb hbox hg) | ((with_reducible refine gate_dst (N := 3) rfl ?_); refine box_event ?hg (N := 3) ?hd (cs := #[.int .i64 a1_0, .int .i64 a1_1, .slice A1_2 l1_2.length c1_2]) (t := 46) ?hr ?_; (case hd => rfl); (case hg => rfl); (case hr => first | (go_simp; done) | (go_simp; rfl)); intro gb415 hg w17 hbox hb; have n0_ := A_ (kb_ BK414 hb); have n1_ := A_ (below_step bw_ hb); have n2_ := A_ (hbox); have n3_ := A_ (gz_ (w := w) hg); have n4_ := A_ (gz_ (w := w) hg); have n5_ := A_ (nl_ BK414 hg); have n6_ := A_ (ng_ BK414 hg); replace BK414 := n0_; replace HB := n1_; have BK415 := n2_; have GW415 := n3_; have GE415 := n4_; have NB414_415 := n5_; have NB415_414 := n6_; clear n0_ n1_ n2_ n3_ n4_ n5_ n6_; clear hb hbox hg; have hnb18 := NB414_415.out; have hnc18 := NB415_414.out; have hcz19_0 : w17.cell? ⟨gb414, 0, none⟩ = some (.int .i64 a0_0) := e_ BK414 0; have hcz19_1 : w17.cell? ⟨gb414, 1, none⟩ = some (.int .i64 a0_1) := e_ BK414 1; have hcz19_2 : w17.cell? ⟨gb414, 2, none⟩ = some (.slice A0_2 l0_2.length c0_2) := e_ BK414 2; obtain ⟨hfz19_0, hfz19_1, hfz19_2⟩ := z3_ BK414; have hcz20_0 : w17.cell? ⟨gb415, 0, none⟩ = some (.int .i64 a1_0) := e_ BK415 0; have hcz20_1 : w17.cell? ⟨gb415, 1, none⟩ = some (.int .i64 a1_1) := e_ BK415 1; have hcz20_2 : w17.cell? ⟨gb415, 2, none⟩ = some (.slice A1_2 l1_2.length c1_2) := e_ BK415 2; obtain ⟨hfz20_0, hfz20_1, hfz20_2⟩ := z3_ BK415))
   go_ret
   exact ⟨by first | rfl | (simp [errW_none, errW_some] <;> rfl) | (simp [*, errW_none, errW_some] <;> rfl), by repeat (first | (with_reducible first | exact HB.out | apply wa_ | apply wn_ | apply wd_ | refine ws_ ?_ GE414.out | refine ws_ ?_ GE415.out) | exact HB.out)⟩

 rw [if_pos c3] at H
 have c3b0 : (a0_0 == a1_0) = true := beq_iff_eq.mpr c3
 have c3b1 : (a0_0 != a1_0) = false := bne_eq_false_iff_eq.mpr c3
 clear c3
 by_cases c4 : a0_1 = a1_1
 rotate_left
 · rw [if_neg c4] at H
   have c4b0 : (a0_1 == a1_1) = false := beq_eq_false_iff_ne.mpr c4
   have c4b1 : (a0_1 != a1_1) = true := bne_iff_ne.mpr c4
   obtain rfl := Option.some.inj H
   go_enter Try.func62, Try.ntmps62
   go_wp2_with (first | ((with_reducible refine gate_dst (N := 2) rfl ?_); refine box_event ?hg (N := 2) ?hd (cs := #[.int .i64 a0_0, .int .i64 a0_1, .slice A0_2 l0_2.length c0_2]) (t := 46) ?hr ?_; (case hd => rfl); (case hg => rfl); (case hr => first | (go_simp; done) | (go_simp; rfl)); intro gb414 hg w11 hbox hb; have n0_ := A_ (below_step bw_ hb); have n1_ := A_ (hbox); have n2_ := A_ (gz_ (w := w) hg); have n3_ := A_ (gz_ (w := w) hg); replace HB := n0_; have BK414 := n1_; have GW414 := n2_; have GE414 := n3_; clear n0_ n1_ n2_ n3_; clear hb hbox hg) | ((with_reducible refine gate_dst (N := 3) rfl ?_); refine box_event ?hg (N := 3) ?hd (cs := #[.int .i64 a1_0, .int .i64 a1_1, .slice A1_2 l1_2.length c1_2]) (t := 46) ?hr ?_; (case hd => rfl); (case hg => rfl); (case hr => first | (go_simp; done) | (go_simp; rfl)); intro gb415 hg w12 hbox hb; have n0_ := A_ (kb_ BK414 hb); have n1_ := A_ (below_step bw_ hb); have n2_ := A_ (hbox); have n3_ := A_ (gz_ (w := w) hg); have n4_ := A_ (gz_ (w := w) hg); have n5_ := A_ (nl_ BK414 hg); have n6_ := A_ (ng_ BK414 hg); replace BK414 := n0_; replace HB := n1_; have BK415 := n2_; have GW415 := n3_; have GE415 := n4_; have NB414_415 := n5_; have NB415_414 := n6_; clear n0_ n1_ n2_ n3_ n4_ n5_ n6_; clear hb hbox hg; have hnb13 := NB414_415.out; have hnc13 := NB415_414.out; have hcz14_0 : w12.cell? ⟨gb414, 0, none⟩ = some (.int .i64 a0_0) := e_ BK414 0; have hcz14_1 : w12.cell? ⟨gb414, 1, none⟩ = some (.int .i64 a0_1) := e_ BK414 1; have hcz14_2 : w12.cell? ⟨gb414, 2, none⟩ = some (.slice A0_2 l0_2.length c0_2) := e_ BK414 2; obtain ⟨hfz14_0, hfz14_1, hfz14_2⟩ := z3_ BK414; have hcz15_0 : w12.cell? ⟨gb415, 0, none⟩ = some (.int .i64 a1_0) := e_ BK415 0; have hcz15_1 : w12.cell? ⟨gb415, 1, none⟩ = some (.int .i64 a1_1) := e_ BK415 1; have hcz15_2 : w12.cell? ⟨gb415, 2, none⟩ = some (.slice A1_2 l1_2.length c1_2) := e_ BK415 2; obtain ⟨hfz15_0, hfz15_1, hfz15_2⟩ := z3_ BK415))
   go_ret
   exact ⟨by first | rfl | (simp [errW_none, errW_some] <;> rfl) | (simp [*, errW_none, errW_some] <;> rfl), by repeat (first | (with_reducible first | exact HB.out | apply wa_ | apply wn_ | apply wd_ | refine ws_ ?_ GE414.out | refine ws_ ?_ GE415.out) | exact HB.out)⟩
 rw [if_pos c4] at H
 have c4b0 : (a0_1 == a1_1) = true := beq_iff_eq.mpr c4
 have c4b1 : (a0_1 != a1_1) = false := bne_eq_false_iff_eq.mpr c4
 clear c4
 replace H := Option.bind_eq_some_iff.mp H
 obtain ⟨t416, A50, H⟩ := H
 replace H : (some t416) = some r := H
 have A5 := A_ A50
 clear A50
 obtain rfl := Option.some.inj H
 go_enter Try.func62, Try.ntmps62
 go_wp2_with (first | ((with_reducible refine gate_dst (N := 2) rfl ?_); refine box_event ?hg (N := 2) ?hd (cs := #[.int .i64 a0_0, .int .i64 a0_1, .slice A0_2 l0_2.length c0_2]) (t := 46) ?hr ?_; (case hd => rfl); (case hg => rfl); (case hr => first | (go_simp; done) | (go_simp; rfl)); intro gb414 hg w6 hbox hb; have n0_ := A_ (below_step bw_ hb); have n1_ := A_ (hbox); have n2_ := A_ (gz_ (w := w) hg); have n3_ := A_ (gz_ (w := w) hg); replace HB := n0_; have BK414 := n1_; have GW414 := n2_; have GE414 := n3_; clear n0_ n1_ n2_ n3_; clear hb hbox hg) | ((with_reducible refine gate_dst (N := 3) rfl ?_); refine box_event ?hg (N := 3) ?hd (cs := #[.int .i64 a1_0, .int .i64 a1_1, .slice A1_2 l1_2.length c1_2]) (t := 46) ?hr ?_; (case hd => rfl); (case hg => rfl); (case hr => first | (go_simp; done) | (go_simp; rfl)); intro gb415 hg w7 hbox hb; have n0_ := A_ (kb_ BK414 hb); have n1_ := A_ (below_step bw_ hb); have n2_ := A_ (hbox); have n3_ := A_ (gz_ (w := w) hg); have n4_ := A_ (gz_ (w := w) hg); have n5_ := A_ (nl_ BK414 hg); have n6_ := A_ (ng_ BK414 hg); replace BK414 := n0_; replace HB := n1_; have BK415 := n2_; have GW415 := n3_; have GE415 := n4_; have NB414_415 := n5_; have NB415_414 := n6_; clear n0_ n1_ n2_ n3_ n4_ n5_ n6_; clear hb hbox hg; have hnb8 := NB414_415.out; have hnc8 := NB415_414.out; have hcz9_0 : w7.cell? ⟨gb414, 0, none⟩ = some (.int .i64 a0_0) := e_ BK414 0; have hcz9_1 : w7.cell? ⟨gb414, 1, none⟩ = some (.int .i64 a0_1) := e_ BK414 1; have hcz9_2 : w7.cell? ⟨gb414, 2, none⟩ = some (.slice A0_2 l0_2.length c0_2) := e_ BK414 2; obtain ⟨hfz9_0, hfz9_1, hfz9_2⟩ := z3_ BK414; have hcz10_0 : w7.cell? ⟨gb415, 0, none⟩ = some (.int .i64 a1_0) := e_ BK415 0; have hcz10_1 : w7.cell? ⟨gb415, 1, none⟩ = some (.int .i64 a1_1) := e_ BK415 1; have hcz10_2 : w7.cell? ⟨gb415, 2, none⟩ = some (.slice A1_2 l1_2.length c1_2) := e_ BK415 2; obtain ⟨hfz10_0, hfz10_1, hfz10_2⟩ := z3_ BK415) | (go_at_call 30; (with_reducible refine (hopperref04_Txs.calls k _ _ l0_2 _ _ l1_2 t416 _ ?side1 ?side2 ?side3 ?side4 A5.out).mono ?_); (case side1 => repeat (first | exact (Kd.C_below HR0_2.out HB.out) | (with_reducible refine ca_ ?_ _) | (with_reducible refine cn_ ?_ _) | (with_reducible refine cd_ ?_))); (case side2 => exact HC0_2.out); (case side3 => repeat (first | exact (Kd.C_below HR1_2.out HB.out) | (with_reducible refine ca_ ?_ _) | (with_reducible refine cn_ ?_ _) | (with_reducible refine cd_ ?_))); (case side4 => exact HC1_2.out); rintro e w' ⟨rfl, ⟨nd, rfl⟩⟩))
 go_ret
 exact ⟨by first | rfl | (simp [errW_none, errW_some] <;> rfl) | (simp [*, errW_none, errW_some] <;> rfl), by repeat (first | (with_reducible first | exact HB.out | apply wa_ | apply wn_ | apply wd_ | refine ws_ ?_ GE414.out | refine ws_ ?_ GE415.out) | exact HB.out)⟩
/-! ### hopperref05_Put: function 64 -/
mutual
def hopperref05_Put.l0 : Nat → List (S24) → Bool → Bool → Int → Int → Int → List (S24) → Int → Int → Int → Int → Int → ByteArray → Option (Int × Int × (List (S24)))
 | 0, _, _, _, _, _, _, _, _, _, _, _, _, _ => none
 | k + 1, x5, x6, x8, x9, x418000, x418001, x418002, x419000, x419001, x419002, x419003, x419004, x419005 => if x9 < (x418002.length : Int) then (if 0 ≤ x9 then (if x6 = true then (hopperref05_Put.j1 k x5 x6 x8 x9 false x418000 x418001 x418002 x419000 x419001 x419002 x419003 x419004 x419005 ((rd_T24 x418002 x9).f0) ((rd_T24 x418002 x9).f1) ((rd_T24 x418002 x9).f2) ((rd_T24 x418002 x9).f3) ((rd_T24 x418002 x9).f4) ((rd_T24 x418002 x9).f5)) else (hopperref05_Put.j1 k x5 x6 x8 x9 (((rd_T24 x418002 x9).f1) == x419001) x418000 x418001 x418002 x419000 x419001 x419002 x419003 x419004 x419005 ((rd_T24 x418002 x9).f0) ((rd_T24 x418002 x9).f1) ((rd_T24 x418002 x9).f2) ((rd_T24 x418002 x9).f3) ((rd_T24 x418002 x9).f4) ((rd_T24 x418002 x9).f5))) else (none)) else (if x6 = true then (some (x418000, x418001, x5)) else (if x5.length < 2513169434916 then (some (x418000, x418001, (x5 ++ [(⟨x419000, x419001, x419002, x419003, x419004, x419005⟩ : S24)]))) else (none)))
def hopperref05_Put.j1 : Nat → List (S24) → Bool → Bool → Int → Bool → Int → Int → List (S24) → Int → Int → Int → Int → Int → ByteArray → Int → Int → Int → Int → Int → ByteArray → Option (Int × Int × (List (S24)))
 | 0, _, _, _, _, _, _, _, _, _, _, _, _, _, _, _, _, _, _, _, _ => none
 | k + 1, x5, x6, x8, x9, x38, x418000, x418001, x418002, x419000, x419001, x419002, x419003, x419004, x419005, x433000, x433001, x433002, x433003, x433004, x433005 => if x38 = true then (if x5.length < 2513169434916 then (hopperref05_Put.l0 k (x5 ++ [(⟨x419000, x419001, x419002, x419003, x419004, x419005⟩ : S24)]) true x8 (wrap64 (x9 + 1)) x418000 x418001 x418002 x419000 x419001 x419002 x419003 x419004 x419005) else (none)) else (if x6 = true then (if x5.length < 2513169434916 then (hopperref05_Put.l0 k (x5 ++ [(⟨x433000, x433001, x433002, x433003, x433004, x433005⟩ : S24)]) x6 x8 (wrap64 (x9 + 1)) x418000 x418001 x418002 x419000 x419001 x419002 x419003 x419004 x419005) else (none)) else (if x8 = true then (if x5.length < 2513169434916 then (hopperref05_Put.l0 k (x5 ++ [(⟨x433000, x433001, x433002, x433003, x433004, x433005⟩ : S24)]) x6 x8 (wrap64 (x9 + 1)) x418000 x418001 x418002 x419000 x419001 x419002 x419003 x419004 x419005) else (none)) else (if x433001 > x419001 then (if x5.length < 2513169434916 then ((some (x5 ++ [(⟨x419000, x419001, x419002, x419003, x419004, x419005⟩ : S24)] : List (S24))).bind fun y442 => (if y442.length < 2513169434916 then (hopperref05_Put.l0 k (y442 ++ [(⟨x433000, x433001, x433002, x433003, x433004, x433005⟩ : S24)]) true x8 (wrap64 (x9 + 1)) x418000 x418001 x418002 x419000 x419001 x419002 x419003 x419004 x419005) else (none))) else (none)) else (if x5.length < 2513169434916 then (hopperref05_Put.l0 k (x5 ++ [(⟨x433000, x433001, x433002, x433003, x433004, x433005⟩ : S24)]) x6 x8 (wrap64 (x9 + 1)) x418000 x418001 x418002 x419000 x419001 x419002 x419003 x419004 x419005) else (none)))))
end
def hopperref05_Put.f (k : Nat) (a0_0 : Int) (a0_1 : Int) (l0_2 : List (S24)) (a1_0 : Int) (a1_1 : Int) (a1_2 : Int) (a1_3 : Int) (a1_4 : Int) (a1_5 : ByteArray) : Option (Int × Int × (List (S24))) := (hopperref05_Find.f k a0_0 a0_1 l0_2 a1_1).bind fun bt420 => (hopperref05_Put.l0 k ([] : List (S24)) false bt420.2.2.2.2.2.2 0 a0_0 a0_1 l0_2 a1_0 a1_1 a1_2 a1_3 a1_4 a1_5)
theorem hopperref05_Put.mono_l : ∀ k, (∀ y0 y1 y2 y3 y4 y5 y6 y7 y8 y9 y10 y11 y12, LeO (hopperref05_Put.l0 k y0 y1 y2 y3 y4 y5 y6 y7 y8 y9 y10 y11 y12) (hopperref05_Put.l0 (k + 1) y0 y1 y2 y3 y4 y5 y6 y7 y8 y9 y10 y11 y12)) ∧ (∀ y0 y1 y2 y3 y4 y5 y6 y7 y8 y9 y10 y11 y12 y13 y14 y15 y16 y17 y18 y19, LeO (hopperref05_Put.j1 k y0 y1 y2 y3 y4 y5 y6 y7 y8 y9 y10 y11 y12 y13 y14 y15 y16 y17 y18 y19) (hopperref05_Put.j1 (k + 1) y0 y1 y2 y3 y4 y5 y6 y7 y8 y9 y10 y11 y12 y13 y14 y15 y16 y17 y18 y19))
 | 0 => ⟨fun _ _ _ _ _ _ _ _ _ _ _ _ _ r h => by simp [hopperref05_Put.l0] at h, fun _ _ _ _ _ _ _ _ _ _ _ _ _ _ _ _ _ _ _ _ r h => by simp [hopperref05_Put.j1] at h⟩
 | k + 1 => by
  obtain ⟨ih0, ih1⟩ := hopperref05_Put.mono_l k
  refine ⟨?_, ?_⟩
  · intro y0 y1 y2 y3 y4 y5 y6 y7 y8 y9 y10 y11 y12
    unfold hopperref05_Put.l0
    repeat' first
    | (with_reducible exact ih0 _ _ _ _ _ _ _ _ _ _ _ _ _)
    | (with_reducible exact ih1 _ _ _ _ _ _ _ _ _ _ _ _ _ _ _ _ _ _ _ _)
    | (with_reducible exact hopperref05_Find.mono _ _ _ _ _)
    | (with_reducible exact LeO.refl _)
    | (with_reducible exact LeO.none _)
    | (with_reducible refine LeO.ite ?_ ?_)
    | (with_reducible refine LeO.bind ?_ (fun _ => ?_))
    | exact ih0 _ _ _ _ _ _ _ _ _ _ _ _ _
    | exact ih1 _ _ _ _ _ _ _ _ _ _ _ _ _ _ _ _ _ _ _ _
    | exact hopperref05_Find.mono _ _ _ _ _
    | exact LeO.none _
    | refine LeO.ite ?_ ?_
    | refine LeO.bind ?_ (fun _ => ?_)
  · intro y0 y1 y2 y3 y4 y5 y6 y7 y8 y9 y10 y11 y12 y13 y14 y15 y16 y17 y18 y19
    unfold hopperref05_Put.j1
    repeat' first
    | (with_reducible exact ih0 _ _ _ _ _ _ _ _ _ _ _ _ _)
    | (with_reducible exact ih1 _ _ _ _ _ _ _ _ _ _ _ _ _ _ _ _ _ _ _ _)
    | (with_reducible exact hopperref05_Find.mono _ _ _ _ _)
    | (with_reducible exact LeO.refl _)
    | (with_reducible exact LeO.none _)
    | (with_reducible refine LeO.ite ?_ ?_)
    | (with_reducible refine LeO.bind ?_ (fun _ => ?_))
    | exact ih0 _ _ _ _ _ _ _ _ _ _ _ _ _
    | exact ih1 _ _ _ _ _ _ _ _ _ _ _ _ _ _ _ _ _ _ _ _
    | exact hopperref05_Find.mono _ _ _ _ _
    | exact LeO.none _
    | refine LeO.ite ?_ ?_
    | refine LeO.bind ?_ (fun _ => ?_)
theorem hopperref05_Put.mono : ∀ a0 a1 a2 a3 a4 a5 a6 a7 a8 k, LeO (hopperref05_Put.f k a0 a1 a2 a3 a4 a5 a6 a7 a8) (hopperref05_Put.f (k + 1) a0 a1 a2 a3 a4 a5 a6 a7 a8) := by
 intro a0 a1 a2 a3 a4 a5 a6 a7 a8 k
 obtain ⟨ih0, ih1⟩ := hopperref05_Put.mono_l k
 unfold hopperref05_Put.f
 repeat' first
  | (with_reducible exact ih0 _ _ _ _ _ _ _ _ _ _ _ _ _)
  | (with_reducible exact ih1 _ _ _ _ _ _ _ _ _ _ _ _ _ _ _ _ _ _ _ _)
  | (with_reducible exact hopperref05_Find.mono _ _ _ _ _)
  | (with_reducible exact LeO.refl _)
  | (with_reducible exact LeO.none _)
  | (with_reducible refine LeO.ite ?_ ?_)
  | (with_reducible refine LeO.bind ?_ (fun _ => ?_))
  | exact ih0 _ _ _ _ _ _ _ _ _ _ _ _ _
  | exact ih1 _ _ _ _ _ _ _ _ _ _ _ _ _ _ _ _ _ _ _ _
  | exact hopperref05_Find.mono _ _ _ _ _
  | exact LeO.none _
  | refine LeO.ite ?_ ?_
  | refine LeO.bind ?_ (fun _ => ?_)
set_option maxHeartbeats 8000000 in
set_option maxRecDepth 100000 in
theorem hopperref05_Put.calls (k : Nat) (a0_0 : Int) (a0_1 : Int) (A0_2 : Option Addr) (c0_2 : Nat) (l0_2 : List (S24)) (a1_0 : Int) (a1_1 : Int) (a1_2 : Int) (a1_3 : Int) (a1_4 : Int) (a1_5 : ByteArray) (r1 : Int) (r2 : Int) (r3 : List (S24)) (w : World) (hr0_2 : Kd.C k24 w A0_2 l0_2.length l0_2) (hc0_2 : l0_2.length ≤ c0_2) (h : hopperref05_Put.f k a0_0 a0_1 l0_2 a1_0 a1_1 a1_2 a1_3 a1_4 a1_5 = some (r1, r2, r3)) :
 Calls Try.prog 64 #[.agg #[.int .i64 a0_0, .int .i64 a0_1, .slice A0_2 l0_2.length c0_2], .agg #[.int .i64 a1_0, .int .i64 a1_1, .int .i64 a1_2, .int .i64 a1_3, .int .i64 a1_4, .string a1_5]] w fun e w' => ∃ v2_ : Value, e = .returned (.agg #[.int .i64 r1, .int .i64 r2, v2_]) ∧ Kd.R k24 24 w' w.heap.size (fun _ => True) v2_ r3 ∧ Below w.heap.size w w' := by
 have hu46 := Try.underlying46
 have hu24 := Try.underlying24
 have HR0_2 := A_ hr0_2
 have HC0_2 := A_ hc0_2
 clear hr0_2 hc0_2; have HB := A_ (Below.refl w.heap.size w)
 have H : ((hopperref05_Find.f k a0_0 a0_1 l0_2 a1_1).bind fun bt420 => (hopperref05_Put.l0 k ([] : List (S24)) false bt420.2.2.2.2.2.2 0 a0_0 a0_1 l0_2 a1_0 a1_1 a1_2 a1_3 a1_4 a1_5)) = some (r1, r2, r3) := h
 clear h
 replace H := Option.bind_eq_some_iff.mp H
 obtain ⟨⟨t420, t421, t422, t423, t424, t425, t426⟩, A30, H⟩ := H
 replace H : (hopperref05_Put.l0 k ([] : List (S24)) false t426 0 a0_0 a0_1 l0_2 a1_0 a1_1 a1_2 a1_3 a1_4 a1_5) = some (r1, r2, r3) := H
 have A3 := A_ A30
 clear A30
 have H' := A_ H
 clear H
 go_enter Try.func64, Try.ntmps64
 go_wp2_with (first | ((with_reducible refine gate_dst (N := 2) rfl ?_); refine box_event ?hg (N := 2) ?hd (cs := #[.int .i64 a0_0, .int .i64 a0_1, .slice A0_2 l0_2.length c0_2]) (t := 46) ?hr ?_; (case hd => rfl); (case hg => rfl); (case hr => first | (go_simp; done) | (go_simp; rfl)); intro gb417 hg w4 hbox hb; have n0_ := A_ (below_step bw_ hb); have n1_ := A_ (hbox); have n2_ := A_ (gz_ (w := w) hg); have n3_ := A_ (gz_ (w := w) hg); replace HB := n0_; have BK417 := n1_; have GW417 := n2_; have GE417 := n3_; clear n0_ n1_ n2_ n3_; clear hb hbox hg) | ((with_reducible refine gate_dst (N := 3) rfl ?_); refine box_event ?hg (N := 3) ?hd (cs := #[.int .i64 a1_0, .int .i64 a1_1, .int .i64 a1_2, .int .i64 a1_3, .int .i64 a1_4, .string a1_5]) (t := 24) ?hr ?_; (case hd => rfl); (case hg => rfl); (case hr => first | (go_simp; done) | (go_simp; rfl)); intro gb418 hg w5 hbox hb; have n0_ := A_ (kb_ BK417 hb); have n1_ := A_ (below_step bw_ hb); have n2_ := A_ (hbox); have n3_ := A_ (gz_ (w := w) hg); have n4_ := A_ (gz_ (w := w) hg); have n5_ := A_ (nl_ BK417 hg); have n6_ := A_ (ng_ BK417 hg); replace BK417 := n0_; replace HB := n1_; have BK418 := n2_; have GW418 := n3_; have GE418 := n4_; have NB417_418 := n5_; have NB418_417 := n6_; clear n0_ n1_ n2_ n3_ n4_ n5_ n6_; clear hb hbox hg) | ((with_reducible refine gate_dst (N := 4) rfl ?_); refine box_event ?hg (N := 4) ?hd (cs := #[.int .i64 0, .int .i64 0, .slice none 0 0]) (t := 46) ?hr ?_; (case hd => rfl); (case hg => rfl); (case hr => first | (go_simp; done) | (go_simp; rfl)); intro gb419 hg w6 hbox hb; have n0_ := A_ (kb_ BK417 hb); have n1_ := A_ (kb_ BK418 hb); have n2_ := A_ (below_step bw_ hb); have n3_ := A_ (hbox); have n4_ := A_ (gz_ (w := w) hg); have n5_ := A_ (gz_ (w := w) hg); have n6_ := A_ (nl_ BK417 hg); have n7_ := A_ (ng_ BK417 hg); have n8_ := A_ (nl_ BK418 hg); have n9_ := A_ (ng_ BK418 hg); replace BK417 := n0_; replace BK418 := n1_; replace HB := n2_; have BK419 := n3_; have GW419 := n4_; have GE419 := n5_; have NB417_419 := n6_; have NB419_417 := n7_; have NB418_419 := n8_; have NB419_418 := n9_; clear n0_ n1_ n2_ n3_ n4_ n5_ n6_ n7_ n8_ n9_; clear hb hbox hg; have hnb7 := NB417_418.out; have hnc7 := NB418_417.out; have hnb8 := NB417_419.out; have hnc8 := NB419_417.out; have hcz9_0 : w6.cell? ⟨gb417, 0, none⟩ = some (.int .i64 a0_0) := e_ BK417 0; have hcz9_1 : w6.cell? ⟨gb417, 1, none⟩ = some (.int .i64 a0_1) := e_ BK417 1; have hcz9_2 : w6.cell? ⟨gb417, 2, none⟩ = some (.slice A0_2 l0_2.length c0_2) := e_ BK417 2; obtain ⟨hfz9_0, hfz9_1, hfz9_2⟩ := z3_ BK417; have hnb10 := NB418_419.out; have hnc10 := NB419_418.out; have hcz11_0 : w6.cell? ⟨gb418, 0, none⟩ = some (.int .i64 a1_0) := e_ BK418 0; have hcz11_1 : w6.cell? ⟨gb418, 1, none⟩ = some (.int .i64 a1_1) := e_ BK418 1; have hcz11_2 : w6.cell? ⟨gb418, 2, none⟩ = some (.int .i64 a1_2) := e_ BK418 2; have hcz11_3 : w6.cell? ⟨gb418, 3, none⟩ = some (.int .i64 a1_3) := e_ BK418 3; have hcz11_4 : w6.cell? ⟨gb418, 4, none⟩ = some (.int .i64 a1_4) := e_ BK418 4; have hcz11_5 : w6.cell? ⟨gb418, 5, none⟩ = some (.string a1_5) := e_ BK418 5; obtain ⟨hfz11_0, hfz11_1, hfz11_2, hfz11_3, hfz11_4, hfz11_5⟩ := z6_ BK418) | ((with_reducible refine gate_callee (f := 53) rfl ?_); refine goesL_ (some 15) rfl rfl Try.func53 (by kernel_rfl) rfl #[.agg #[.int .i64 a0_0, .int .i64 a0_1, .slice A0_2 l0_2.length c0_2], .int .i64 a1_1] rfl (by (try simp only [m0_, m1_, m2_]); first | done | rfl) ?_; (with_reducible refine (hopperref05_Find.calls k a0_0 a0_1 _ _ l0_2 a1_1 t420 t421 t422 t423 t424 t425 t426 _ ?side1 ?side2 A3.out).mono ?_); (case side1 => repeat (first | exact (Kd.C_below HR0_2.out HB.out) | (with_reducible refine ca_ ?_ _) | (with_reducible refine cn_ ?_ _) | (with_reducible refine cd_ ?_))); (case side2 => exact HC0_2.out); rintro e w12 ⟨rfl, hb⟩; refine ⟨_, rfl, ?_⟩; replace BK417 := A_ (kb_ BK417 hb); replace BK418 := A_ (kb_ BK418 hb); replace BK419 := A_ (kb_ BK419 hb); replace HB := A_ (below_step bw_ hb); (try clear hb); (try clear hb2); (try clear hk); (try clear hi)) | ((with_reducible refine gate_dst (N := 7) rfl ?_); refine box_event ?hg (N := 7) ?hd (cs := #[.int .i64 0, .int .i64 0, .int .i64 0, .int .i64 0, .int .i64 0, .string (⟨#[]⟩ : ByteArray)]) (t := 24) ?hr ?_; (case hd => rfl); (case hg => rfl); (case hr => first | (go_simp; done) | (go_simp; rfl)); intro gb427 hg w13 hbox hb; have n0_ := A_ (kb_ BK417 hb); have n1_ := A_ (kb_ BK418 hb); have n2_ := A_ (kb_ BK419 hb); have n3_ := A_ (below_step bw_ hb); have n4_ := A_ (hbox); have n5_ := A_ (gz_ (w := w) hg); have n6_ := A_ (gz_ (w := w) hg); have n7_ := A_ (nl_ BK417 hg); have n8_ := A_ (ng_ BK417 hg); have n9_ := A_ (nl_ BK418 hg); have n10_ := A_ (ng_ BK418 hg); have n11_ := A_ (nl_ BK419 hg); have n12_ := A_ (ng_ BK419 hg); replace BK417 := n0_; replace BK418 := n1_; replace BK419 := n2_; replace HB := n3_; have BK427 := n4_; have GW427 := n5_; have GE427 := n6_; have NB417_427 := n7_; have NB427_417 := n8_; have NB418_427 := n9_; have NB427_418 := n10_; have NB419_427 := n11_; have NB427_419 := n12_; clear n0_ n1_ n2_ n3_ n4_ n5_ n6_ n7_ n8_ n9_ n10_ n11_ n12_; clear hb hbox hg; have hnb14 := NB427_417.out; have hnc14 := NB417_427.out; have hnb15 := NB427_418.out; have hnc15 := NB418_427.out; have hnb16 := NB427_419.out; have hnc16 := NB419_427.out; have hcz17_0 : w13.cell? ⟨gb427, 0, none⟩ = some (.int .i64 0) := e_ BK427 0; have hcz17_1 : w13.cell? ⟨gb427, 1, none⟩ = some (.int .i64 0) := e_ BK427 1; have hcz17_2 : w13.cell? ⟨gb427, 2, none⟩ = some (.int .i64 0) := e_ BK427 2; have hcz17_3 : w13.cell? ⟨gb427, 3, none⟩ = some (.int .i64 0) := e_ BK427 3; have hcz17_4 : w13.cell? ⟨gb427, 4, none⟩ = some (.int .i64 0) := e_ BK427 4; have hcz17_5 : w13.cell? ⟨gb427, 5, none⟩ = some (.string (⟨#[]⟩ : ByteArray)) := e_ BK427 5; obtain ⟨hfz17_0, hfz17_1, hfz17_2, hfz17_3, hfz17_4, hfz17_5⟩ := z6_ BK427))
 go_loopg [5, 6, 9] k (fun kq v5 v6 v9 w' => ∃ (x5_1 : List (S24)) (x6_1 : Bool) (x9_1 : Int), v6 = .bool x6_1 ∧ v9 = .int .i64 x9_1 ∧ Aside0 (hopperref05_Put.l0 kq x5_1 x6_1 t426 x9_1 a0_0 a0_1 l0_2 a1_0 a1_1 a1_2 a1_3 a1_4 a1_5 = some (r1, r2, r3)) ∧ Aside0 (kq ≤ k) ∧ Aside0 (Kd.R k24 24 w' w.heap.size (fun k_ => k_ ≠ gb418 ∧ k_ ≠ gb427) v5 x5_1) ∧ Aside0 (w'.heap[gb417]? = some (.cells #[.int .i64 a0_0, .int .i64 a0_1, (.slice A0_2 l0_2.length c0_2)] 46 (0, 0))) ∧ Aside0 (w'.heap[gb418]? = some (.cells #[.int .i64 a1_0, .int .i64 a1_1, .int .i64 a1_2, .int .i64 a1_3, .int .i64 a1_4, .string a1_5] 24 (0, 0))) ∧ Aside0 (w'.heap[gb419]? = some (.cells #[.int .i64 0, .int .i64 0, (.slice none 0 0)] 46 (0, 0))) ∧ Aside0 (w'.heap[gb427]? = some (.cells #[.int .i64 t420, .int .i64 t421, .int .i64 t422, .int .i64 t423, .int .i64 t424, .string t425] 24 (0, 0))) ∧ Aside0 (Below w.heap.size w w'))
 case atStart => exact ⟨(([] : List (S24))), (false), (0), (by first | rfl | (simp; done) | (simp [*]; done)), (by first | rfl | (simp; done) | (simp [*]; done)), H', ⟨Nat.le_refl _⟩, ⟨by first | exact Kd.R_nil _ _ _ _ _ | exact Kd.N_nil _ _ _ _ _ | exact Kd.V_nil _ _ _ _ _ | exact Kd.Q_nil _ _ _ _ _ | exact Kd.S_nil _ _ _ _ _⟩, ⟨bk_⟩, ⟨bk_⟩, ⟨bk_⟩, ⟨by exact pk_ (b6_ BK427.out)⟩, ⟨by repeat (first | (with_reducible first | exact HB.out | apply wa_ | apply wn_ | apply wd_ | refine ws_ ?_ GE417.out | refine ws_ ?_ GE418.out | refine ws_ ?_ GE419.out | refine ws_ ?_ GE427.out) | exact HB.out)⟩⟩
 case round =>
  clear H'; (try clear c1); (try clear p2); (try clear c5); (try clear c6); (try clear c7); (try clear c8); (try clear c10); (try clear c14); (try clear c15); (try clear c16); (try clear hcz11_0 hcz11_1 hcz11_2 hcz11_3 hcz11_4 hcz11_5); (try clear hcz17_0 hcz17_1 hcz17_2 hcz17_3 hcz17_4 hcz17_5); (try clear hcz9_0 hcz9_1 hcz9_2); (try clear hfz11_0 hfz11_1 hfz11_2 hfz11_3 hfz11_4 hfz11_5); (try clear hfz17_0 hfz17_1 hfz17_2 hfz17_3 hfz17_4 hfz17_5); (try clear hfz9_0 hfz9_1 hfz9_2)
  obtain ⟨x5_1, x6_1, x9_1, rfl, rfl, HA, HK1, HO_5, BK417, BK418, BK419, BK427, HB⟩ := hrel
  cases gk with
  | zero => exact absurd HA.out (by simp [hopperref05_Put.l0])
  | succ k1 =>
   have H := HA.out
   clear HA
   simp only [hopperref05_Put.l0] at H
   by_cases c18 : x9_1 < (l0_2.length : Int)
   · rw [if_pos c18] at H
     have c18b0 : decide (x9_1 < (l0_2.length : Int)) = true := decide_eq_true c18
     clear c18
     by_cases c19 : 0 ≤ x9_1
     rotate_left
     · rw [if_neg c19] at H
       exact absurd H (by simp)
     rw [if_pos c19] at H
     have c19b0 : decide (0 ≤ x9_1) = true := decide_eq_true c19
     clear c19
     have HC20 := A_ H
     clear H; have hnb21 := NB417_418.out; have hnc21 := NB418_417.out; have hnb22 := NB417_419.out; have hnc22 := NB419_417.out; have hnb23 := NB417_427.out; have hnc23 := NB427_417.out; have hcz24_0 : wr.cell? ⟨gb417, 0, none⟩ = some (.int .i64 a0_0) := e_ BK417 0; have hcz24_1 : wr.cell? ⟨gb417, 1, none⟩ = some (.int .i64 a0_1) := e_ BK417 1; have hcz24_2 : wr.cell? ⟨gb417, 2, none⟩ = some (.slice A0_2 l0_2.length c0_2) := e_ BK417 2; obtain ⟨hfz24_0, hfz24_1, hfz24_2⟩ := z3_ BK417
     have p431 : 0 ≤ (x9_1 : Int) := of_decide_eq_true (by first | (with_reducible assumption) | assumption)
     have q431 : x9_1 < (l0_2.length : Int) := of_decide_eq_true (by first | (with_reducible assumption) | assumption)
     obtain ⟨ad431, e431, hx431_0, hx431_1, hx431_2, hx431_3, hx431_4, hx431_5⟩ := at_T24 HR0_2.out x9_1 p431 q431
     cases e431
     replace hx431_0 := on_ HB.out hx431_0
     replace hx431_1 := on_ HB.out hx431_1
     replace hx431_2 := on_ HB.out hx431_2
     replace hx431_3 := on_ HB.out hx431_3
     replace hx431_4 := on_ HB.out hx431_4
     replace hx431_5 := on_ HB.out hx431_5
     replace p431 := eq_true p431
     replace q431 := eq_true q431
     go_upto_region 8 with (first | ((with_reducible refine gate_dst (N := 10) rfl ?_); refine box_event ?hg (N := 10) ?hd (cs := #[.int .i64 0, .int .i64 0, .int .i64 0, .int .i64 0, .int .i64 0, .string (⟨#[]⟩ : ByteArray)]) (t := 24) ?hr ?_; (case hd => rfl); (case hg => rfl); (case hr => first | (go_simp; done) | (go_simp; rfl)); intro gb432 hg w25 hbox hb; have n0_ := A_ (Kd.R_below (Kd.R_elderB (pr_ HO_5.out) gb432 (Nat.le_of_eq hg.symm)) hb); have n1_ := A_ (kb_ BK417 hb); have n2_ := A_ (kb_ BK418 hb); have n3_ := A_ (kb_ BK419 hb); have n4_ := A_ (kb_ BK427 hb); have n5_ := A_ (below_step bw_ hb); have n6_ := A_ (hbox); have n7_ := A_ (gz_ (w := w) hg); have n8_ := A_ (gz_ (w := w) hg); have n9_ := A_ (nl_ BK417 hg); have n10_ := A_ (ng_ BK417 hg); have n11_ := A_ (nl_ BK418 hg); have n12_ := A_ (ng_ BK418 hg); have n13_ := A_ (nl_ BK419 hg); have n14_ := A_ (ng_ BK419 hg); have n15_ := A_ (nl_ BK427 hg); have n16_ := A_ (ng_ BK427 hg); replace HO_5 := n0_; replace BK417 := n1_; replace BK418 := n2_; replace BK419 := n3_; replace BK427 := n4_; replace HB := n5_; have BK432 := n6_; have GW432 := n7_; have GE432 := n8_; have NB417_432 := n9_; have NB432_417 := n10_; have NB418_432 := n11_; have NB432_418 := n12_; have NB419_432 := n13_; have NB432_419 := n14_; have NB427_432 := n15_; have NB432_427 := n16_; clear n0_ n1_ n2_ n3_ n4_ n5_ n6_ n7_ n8_ n9_ n10_ n11_ n12_ n13_ n14_ n15_ n16_; clear hb hbox hg; have hnb26 := NB432_417.out; have hnc26 := NB417_432.out; have hnb27 := NB432_418.out; have hnc27 := NB418_432.out; have hnb28 := NB432_419.out; have hnc28 := NB419_432.out; have hnb29 := NB432_427.out; have hnc29 := NB427_432.out; have hcz30_0 : w25.cell? ⟨gb432, 0, none⟩ = some (.int .i64 0) := e_ BK432 0; have hcz30_1 : w25.cell? ⟨gb432, 1, none⟩ = some (.int .i64 0) := e_ BK432 1; have hcz30_2 : w25.cell? ⟨gb432, 2, none⟩ = some (.int .i64 0) := e_ BK432 2; have hcz30_3 : w25.cell? ⟨gb432, 3, none⟩ = some (.int .i64 0) := e_ BK432 3; have hcz30_4 : w25.cell? ⟨gb432, 4, none⟩ = some (.int .i64 0) := e_ BK432 4; have hcz30_5 : w25.cell? ⟨gb432, 5, none⟩ = some (.string (⟨#[]⟩ : ByteArray)) := e_ BK432 5; obtain ⟨hfz30_0, hfz30_1, hfz30_2, hfz30_3, hfz30_4, hfz30_5⟩ := z6_ BK432))
     (try simp only [Act.put, s0_, s1_, s2_])
     go_cut [38] (fun v38 wc => ∃ (kq : Nat) (x38_19 : Bool), v38 = .bool x38_19 ∧ Aside0 (hopperref05_Put.j1 kq x5_1 x6_1 t426 x9_1 x38_19 a0_0 a0_1 l0_2 a1_0 a1_1 a1_2 a1_3 a1_4 a1_5 ((rd_T24 l0_2 x9_1).f0) ((rd_T24 l0_2 x9_1).f1) ((rd_T24 l0_2 x9_1).f2) ((rd_T24 l0_2 x9_1).f3) ((rd_T24 l0_2 x9_1).f4) ((rd_T24 l0_2 x9_1).f5) = some (r1, r2, r3)) ∧ Aside0 (kq ≤ k1) ∧ Aside0 (Kd.R k24 24 wc w.heap.size (fun k_ => k_ ≠ gb418 ∧ k_ ≠ gb427 ∧ k_ ≠ gb432) u5 x5_1) ∧ Aside0 (wc.heap[gb417]? = some (.cells #[.int .i64 a0_0, .int .i64 a0_1, (.slice (some ad431) l0_2.length c0_2)] 46 (0, 0))) ∧ Aside0 (wc.heap[gb418]? = some (.cells #[.int .i64 a1_0, .int .i64 a1_1, .int .i64 a1_2, .int .i64 a1_3, .int .i64 a1_4, .string a1_5] 24 (0, 0))) ∧ Aside0 (wc.heap[gb419]? = some (.cells #[.int .i64 0, .int .i64 0, (.slice none 0 0)] 46 (0, 0))) ∧ Aside0 (wc.heap[gb427]? = some (.cells #[.int .i64 t420, .int .i64 t421, .int .i64 t422, .int .i64 t423, .int .i64 t424, .string t425] 24 (0, 0))) ∧ Aside0 (wc.heap[gb432]? = some (.cells #[.int .i64 ((rd_T24 l0_2 x9_1).f0), .int .i64 ((rd_T24 l0_2 x9_1).f1), .int .i64 ((rd_T24 l0_2 x9_1).f2), .int .i64 ((rd_T24 l0_2 x9_1).f3), .int .i64 ((rd_T24 l0_2 x9_1).f4), .string ((rd_T24 l0_2 x9_1).f5)] 24 (0, 0))) ∧ Aside0 (Below w.heap.size w wc))
     case first =>
      have H := HC20.out
      clear HC20
      by_cases c31 : x6_1 = true
      · subst c31
        have H1 : (hopperref05_Put.j1 k1 x5_1 true t426 x9_1 false a0_0 a0_1 l0_2 a1_0 a1_1 a1_2 a1_3 a1_4 a1_5 ((rd_T24 l0_2 x9_1).f0) ((rd_T24 l0_2 x9_1).f1) ((rd_T24 l0_2 x9_1).f2) ((rd_T24 l0_2 x9_1).f3) ((rd_T24 l0_2 x9_1).f4) ((rd_T24 l0_2 x9_1).f5)) = some (r1, r2, r3) := by rw [if_pos rfl] at H; exact H
        clear H
        have H := H1
        clear H1
        have H' := A_ H
        clear H
        go_wp2
        go_meet
        case rel => exact ⟨_, (false), (by first | rfl | (simp; done) | (simp [*]; done)), H', ⟨by have := HK1.out; first | omega | exact Nat.le_refl _⟩, ⟨by (with_reducible repeat (first | apply ra_ | apply rn_ | apply rd_)); exact Kd.R_mono (f6_ (g := gb432) (Kd.R_mono HO_5.out (fun k_ hk => (⟨hk, hk.2⟩ : _ ∧ k_ ≠ gb432))) (fun _ hk => hk.2) (.int .i64 ((rd_T24 l0_2 x9_1).f0)) (.int .i64 ((rd_T24 l0_2 x9_1).f1)) (.int .i64 ((rd_T24 l0_2 x9_1).f2)) (.int .i64 ((rd_T24 l0_2 x9_1).f3)) (.int .i64 ((rd_T24 l0_2 x9_1).f4)) (.string ((rd_T24 l0_2 x9_1).f5))) (fun _ hk => ⟨hk.1.1.1, ⟨hk.1.1.2, hk.1.2⟩⟩)⟩, ⟨bk_⟩, ⟨bk_⟩, ⟨bk_⟩, ⟨bk_⟩, ⟨by exact pk_ (b6_ BK432.out)⟩, ⟨by repeat (first | (with_reducible first | exact HB.out | apply wa_ | apply wn_ | apply wd_ | refine ws_ ?_ GE417.out | refine ws_ ?_ GE418.out | refine ws_ ?_ GE419.out | refine ws_ ?_ GE427.out | refine ws_ ?_ GE432.out) | exact HB.out)⟩⟩
      replace c31 := Bool.eq_false_iff.mpr c31
      subst c31
      have H1 : (hopperref05_Put.j1 k1 x5_1 false t426 x9_1 (((rd_T24 l0_2 x9_1).f1) == a1_1) a0_0 a0_1 l0_2 a1_0 a1_1 a1_2 a1_3 a1_4 a1_5 ((rd_T24 l0_2 x9_1).f0) ((rd_T24 l0_2 x9_1).f1) ((rd_T24 l0_2 x9_1).f2) ((rd_T24 l0_2 x9_1).f3) ((rd_T24 l0_2 x9_1).f4) ((rd_T24 l0_2 x9_1).f5)) = some (r1, r2, r3) := by rw [if_neg (show ¬ (false = true) by decide)] at H; exact H
      clear H
      have H := H1
      clear H1
      have H' := A_ H
      clear H; have hnb32 := NB432_417.out; have hnc32 := NB417_432.out; have hnb33 := NB432_418.out; have hnc33 := NB418_432.out; have hnb34 := NB432_419.out; have hnc34 := NB419_432.out; have hnb35 := NB432_427.out; have hnc35 := NB427_432.out; have hcz36_0 : w25.cell? ⟨gb432, 0, none⟩ = some (.int .i64 0) := e_ BK432 0; have hcz36_1 : w25.cell? ⟨gb432, 1, none⟩ = some (.int .i64 0) := e_ BK432 1; have hcz36_2 : w25.cell? ⟨gb432, 2, none⟩ = some (.int .i64 0) := e_ BK432 2; have hcz36_3 : w25.cell? ⟨gb432, 3, none⟩ = some (.int .i64 0) := e_ BK432 3; have hcz36_4 : w25.cell? ⟨gb432, 4, none⟩ = some (.int .i64 0) := e_ BK432 4; have hcz36_5 : w25.cell? ⟨gb432, 5, none⟩ = some (.string (⟨#[]⟩ : ByteArray)) := e_ BK432 5; obtain ⟨hfz36_0, hfz36_1, hfz36_2, hfz36_3, hfz36_4, hfz36_5⟩ := z6_ BK432; have hnb37 := NB418_417.out; have hnc37 := NB417_418.out; have hnb38 := NB418_419.out; have hnc38 := NB419_418.out; have hnb39 := NB418_427.out; have hnc39 := NB427_418.out; have hcz40_0 : w25.cell? ⟨gb418, 0, none⟩ = some (.int .i64 a1_0) := e_ BK418 0; have hcz40_1 : w25.cell? ⟨gb418, 1, none⟩ = some (.int .i64 a1_1) := e_ BK418 1; have hcz40_2 : w25.cell? ⟨gb418, 2, none⟩ = some (.int .i64 a1_2) := e_ BK418 2; have hcz40_3 : w25.cell? ⟨gb418, 3, none⟩ = some (.int .i64 a1_3) := e_ BK418 3; have hcz40_4 : w25.cell? ⟨gb418, 4, none⟩ = some (.int .i64 a1_4) := e_ BK418 4; have hcz40_5 : w25.cell? ⟨gb418, 5, none⟩ = some (.string a1_5) := e_ BK418 5; obtain ⟨hfz40_0, hfz40_1, hfz40_2, hfz40_3, hfz40_4, hfz40_5⟩ := z6_ BK418
      go_wp2
      go_meet
      case rel => exact ⟨_, ((((rd_T24 l0_2 x9_1).f1) == a1_1)), (by first | rfl | (simp; done) | (simp [*]; done)), H', ⟨by have := HK1.out; first | omega | exact Nat.le_refl _⟩, ⟨by (with_reducible repeat (first | apply ra_ | apply rn_ | apply rd_)); exact Kd.R_mono (f6_ (g := gb432) (Kd.R_mono HO_5.out (fun k_ hk => (⟨hk, hk.2⟩ : _ ∧ k_ ≠ gb432))) (fun _ hk => hk.2) (.int .i64 ((rd_T24 l0_2 x9_1).f0)) (.int .i64 ((rd_T24 l0_2 x9_1).f1)) (.int .i64 ((rd_T24 l0_2 x9_1).f2)) (.int .i64 ((rd_T24 l0_2 x9_1).f3)) (.int .i64 ((rd_T24 l0_2 x9_1).f4)) (.string ((rd_T24 l0_2 x9_1).f5))) (fun _ hk => ⟨hk.1.1.1, ⟨hk.1.1.2, hk.1.2⟩⟩)⟩, ⟨bk_⟩, ⟨bk_⟩, ⟨bk_⟩, ⟨bk_⟩, ⟨by exact pk_ (b6_ BK432.out)⟩, ⟨by repeat (first | (with_reducible first | exact HB.out | apply wa_ | apply wn_ | apply wd_ | refine ws_ ?_ GE417.out | refine ws_ ?_ GE418.out | refine ws_ ?_ GE419.out | refine ws_ ?_ GE427.out | refine ws_ ?_ GE432.out) | exact HB.out)⟩⟩
     case rest =>
      clear HC20; (try clear c1); (try clear c2); (try clear p2); (try clear c3); (try clear p4); (try clear q4); (try clear hx4); (try clear c5); (try clear c6); (try clear c7); (try clear c8); (try clear c10); (try clear c14); (try clear c15); (try clear c16); (try clear c18); (try clear c18b0); (try clear c19); (try clear c19b0); (try clear c21); (try clear c22); (try clear c23); (try clear c26); (try clear c27); (try clear c28); (try clear c29); (try clear c31); (try clear c32); (try clear c33); (try clear c34); (try clear c35); (try clear c37); (try clear c38); (try clear c39); (try clear hcz11_0 hcz11_1 hcz11_2 hcz11_3 hcz11_4 hcz11_5); (try clear hcz17_0 hcz17_1 hcz17_2 hcz17_3 hcz17_4 hcz17_5); (try clear hcz24_0 hcz24_1 hcz24_2); (try clear hcz30_0 hcz30_1 hcz30_2 hcz30_3 hcz30_4 hcz30_5); (try clear hcz36_0 hcz36_1 hcz36_2 hcz36_3 hcz36_4 hcz36_5); (try clear hcz40_0 hcz40_1 hcz40_2 hcz40_3 hcz40_4 hcz40_5); (try clear hcz9_0 hcz9_1 hcz9_2); (try clear hfz11_0 hfz11_1 hfz11_2 hfz11_3 hfz11_4 hfz11_5); (try clear hfz17_0 hfz17_1 hfz17_2 hfz17_3 hfz17_4 hfz17_5); (try clear hfz24_0 hfz24_1 hfz24_2); (try clear hfz30_0 hfz30_1 hfz30_2 hfz30_3 hfz30_4 hfz30_5); (try clear hfz36_0 hfz36_1 hfz36_2 hfz36_3 hfz36_4 hfz36_5); (try clear hfz40_0 hfz40_1 hfz40_2 hfz40_3 hfz40_4 hfz40_5); (try clear hfz9_0 hfz9_1 hfz9_2); (try clear hx431_0); (try clear hx431_1); (try clear hx431_2); (try clear hx431_3); (try clear hx431_4); (try clear hx431_5); (try clear p2); (try clear p431); (try clear q431)
      obtain ⟨kq, x38_19, rfl, HA, HJ19, HO_5, BK417, BK418, BK419, BK427, BK432, HB⟩ := hcut
      cases kq with
      | zero => exact absurd HA.out (by simp [hopperref05_Put.j1])
      | succ kj19 =>
       have H := HA.out
       clear HA
       simp only [hopperref05_Put.j1] at H
       by_cases c41 : x38_19 = true
       · subst c41
         have H1 : (if x5_1.length < 2513169434916 then (hopperref05_Put.l0 kj19 (x5_1 ++ [(⟨a1_0, a1_1, a1_2, a1_3, a1_4, a1_5⟩ : S24)]) true t426 (wrap64 (x9_1 + 1)) a0_0 a0_1 l0_2 a1_0 a1_1 a1_2 a1_3 a1_4 a1_5) else (none)) = some (r1, r2, r3) := by rw [if_pos rfl] at H; exact H
         clear H
         have H := H1
         clear H1
         by_cases c42 : x5_1.length < 2513169434916
         rotate_left
         · rw [if_neg c42] at H
           exact absurd H (by simp)
         rw [if_pos c42] at H
         have LMc42 := A_ c42
         clear c42
         obtain ⟨y433, hy433⟩ : ∃ y_ : List (S24), y_ = (x5_1 ++ [(⟨a1_0, a1_1, a1_2, a1_3, a1_4, a1_5⟩ : S24)]) := ⟨_, rfl⟩
         replace H : (hopperref05_Put.l0 kj19 y433 true t426 (wrap64 (x9_1 + 1)) a0_0 a0_1 l0_2 a1_0 a1_1 a1_2 a1_3 a1_4 a1_5) = some (r1, r2, r3) := by first | (rw [hy433]; with_reducible exact H) | (have H2_ := (Option.bind_some _ _).symm.trans H; rw [hy433]; with_reducible exact H2_) | (have H2_ := (Option.bind_some _ _).symm.trans H; with_reducible exact H2_) | with_reducible exact H | (rw [hy433]; exact H) | exact H
         have Ny433 := A_ hy433
         clear hy433
         have H' := A_ H
         clear H; have hnb43 := NB418_417.out; have hnc43 := NB417_418.out; have hnb44 := NB418_419.out; have hnc44 := NB419_418.out; have hnb45 := NB418_427.out; have hnc45 := NB427_418.out; have hnb46 := NB418_432.out; have hnc46 := NB432_418.out; have hcz47_0 : wc.cell? ⟨gb418, 0, none⟩ = some (.int .i64 a1_0) := e_ BK418 0; have hcz47_1 : wc.cell? ⟨gb418, 1, none⟩ = some (.int .i64 a1_1) := e_ BK418 1; have hcz47_2 : wc.cell? ⟨gb418, 2, none⟩ = some (.int .i64 a1_2) := e_ BK418 2; have hcz47_3 : wc.cell? ⟨gb418, 3, none⟩ = some (.int .i64 a1_3) := e_ BK418 3; have hcz47_4 : wc.cell? ⟨gb418, 4, none⟩ = some (.int .i64 a1_4) := e_ BK418 4; have hcz47_5 : wc.cell? ⟨gb418, 5, none⟩ = some (.string a1_5) := e_ BK418 5; obtain ⟨hfz47_0, hfz47_1, hfz47_2, hfz47_3, hfz47_4, hfz47_5⟩ := z6_ BK418
         go_wp2_with (first | ((with_reducible refine gate_builtin (b := .append) (xs := #[.tmp 39, .tmp 41]) rfl ?_); at_builtin; refine Kd.R_append k24 (w0 := w) w.heap.size rfl (.tmp 39) (.tmp 41) 22 24 (.agg #[(.int .i64 0), (.int .i64 0), (.int .i64 0), (.int .i64 0), (.int .i64 0), (.string ⟨#[]⟩)]) 56 rfl Try.underlying22 info24 rfl (by decide) (by omega) u5 x5_1 (⟨a1_0, a1_1, a1_2, a1_3, a1_4, a1_5⟩ : S24) [.int .i64 a1_0, .int .i64 a1_1, .int .i64 a1_2, .int .i64 a1_3, .int .i64 a1_4, .string a1_5] (fun k_ => k_ ≠ gb418 ∧ k_ ≠ gb427 ∧ k_ ≠ gb432) (fun _ => False) rfl rfl ?aP (fun _ hk => hk.elim) ?aF ?aO ?aB ?aS ?aL ?_; (case aP => exact k24_mkM _ _ _ (⟨a1_0, a1_1, a1_2, a1_3, a1_4, a1_5⟩ : S24)); (case aB => exact bw_); (case aF => exact (fun k_ hk => ⟨Kd.freshB (g := gb418) (o := .cells #[.int .i64 a1_0, .int .i64 a1_1, .int .i64 a1_2, .int .i64 a1_3, .int .i64 a1_4, .string a1_5] 24 (0, 0)) (by (with_reducible repeat (first | refine bn_ ?_ _ | refine bd_ ?_ | refine ba_ ?_ _)); exact BK418.out) k_ hk, Kd.freshB (g := gb427) (o := .cells #[.int .i64 t420, .int .i64 t421, .int .i64 t422, .int .i64 t423, .int .i64 t424, .string t425] 24 (0, 0)) (by (with_reducible repeat (first | refine bn_ ?_ _ | refine bd_ ?_ | refine ba_ ?_ _)); exact BK427.out) k_ hk, Kd.freshB (g := gb432) (o := .cells #[.int .i64 ((rd_T24 l0_2 x9_1).f0), .int .i64 ((rd_T24 l0_2 x9_1).f1), .int .i64 ((rd_T24 l0_2 x9_1).f2), .int .i64 ((rd_T24 l0_2 x9_1).f3), .int .i64 ((rd_T24 l0_2 x9_1).f4), .string ((rd_T24 l0_2 x9_1).f5)] 24 (0, 0)) (by (with_reducible repeat (first | refine bn_ ?_ _ | refine bd_ ?_ | refine ba_ ?_ _)); exact BK432.out) k_ hk⟩)); (case aO => exact (pr_ HO_5.out)); (case aS => exact (below_size bw_)); (case aL => have := LMc42.out; omega); intro v434 w48 ho hb hg hat; rw [← Ny433.out] at ho; replace BK417 := A_ (blk_grown (g := gb417) (o := .cells #[.int .i64 a0_0, .int .i64 a0_1, .slice (some ad431) l0_2.length c0_2] 46 (0, 0)) (by (with_reducible repeat (first | refine bn_ ?_ _ | refine bd_ ?_ | refine ba_ ?_ _)); exact BK417.out) hg (Kd.R_ne HO_5.out BK417.out (by decide))); replace BK418 := A_ (blk_grown (g := gb418) (o := .cells #[.int .i64 a1_0, .int .i64 a1_1, .int .i64 a1_2, .int .i64 a1_3, .int .i64 a1_4, .string a1_5] 24 (0, 0)) (by (with_reducible repeat (first | refine bn_ ?_ _ | refine bd_ ?_ | refine ba_ ?_ _)); exact BK418.out) hg (Kd.R_away HO_5.out (fun _ hk => hk.1))); replace BK419 := A_ (blk_grown (g := gb419) (o := .cells #[.int .i64 0, .int .i64 0, .slice none 0 0] 46 (0, 0)) (by (with_reducible repeat (first | refine bn_ ?_ _ | refine bd_ ?_ | refine ba_ ?_ _)); exact BK419.out) hg (Kd.R_ne HO_5.out BK419.out (by decide))); replace BK427 := A_ (blk_grown (g := gb427) (o := .cells #[.int .i64 t420, .int .i64 t421, .int .i64 t422, .int .i64 t423, .int .i64 t424, .string t425] 24 (0, 0)) (by (with_reducible repeat (first | refine bn_ ?_ _ | refine bd_ ?_ | refine ba_ ?_ _)); exact BK427.out) hg (Kd.R_away HO_5.out (fun _ hk => hk.2.1))); replace BK432 := A_ (blk_grown (g := gb432) (o := .cells #[.int .i64 ((rd_T24 l0_2 x9_1).f0), .int .i64 ((rd_T24 l0_2 x9_1).f1), .int .i64 ((rd_T24 l0_2 x9_1).f2), .int .i64 ((rd_T24 l0_2 x9_1).f3), .int .i64 ((rd_T24 l0_2 x9_1).f4), .string ((rd_T24 l0_2 x9_1).f5)] 24 (0, 0)) (by (with_reducible repeat (first | refine bn_ ?_ _ | refine bd_ ?_ | refine ba_ ?_ _)); exact BK432.out) hg (Kd.R_away HO_5.out (fun _ hk => hk.2.2))); replace HB := A_ (hb); have HO435 := A_ (ho); clear HO_5; clear ho hb hg hat))
         go_roundg kj19
         case measure => have := HK1.out; have := HJ19.out; omega
         case rel => exact ⟨(y433), (true), (wrap64 (x9_1 + 1)), (by first | rfl | (simp; done) | (simp [*]; done)), (by first | rfl | (simp; done) | (simp [*]; done)), H', ⟨by have := HK1.out; have := HJ19.out; omega⟩, ⟨by (with_reducible repeat (first | apply ra_ | apply rn_ | apply rd_)); exact Kd.R_mono HO435.out (fun _ hk => ⟨hk.1, hk.2.1⟩)⟩, ⟨bk_⟩, ⟨bk_⟩, ⟨bk_⟩, ⟨bk_⟩, ⟨by repeat (first | (with_reducible first | exact HB.out | apply wa_ | apply wn_ | apply wd_ | refine ws_ ?_ GE417.out | refine ws_ ?_ GE418.out | refine ws_ ?_ GE419.out | refine ws_ ?_ GE427.out | refine ws_ ?_ GE432.out) | exact HB.out)⟩⟩
       · replace c41 := Bool.eq_false_iff.mpr c41
         subst c41
         have H1 : (if x6_1 = true then (if x5_1.length < 2513169434916 then (hopperref05_Put.l0 kj19 (x5_1 ++ [(⟨((rd_T24 l0_2 x9_1).f0), ((rd_T24 l0_2 x9_1).f1), ((rd_T24 l0_2 x9_1).f2), ((rd_T24 l0_2 x9_1).f3), ((rd_T24 l0_2 x9_1).f4), ((rd_T24 l0_2 x9_1).f5)⟩ : S24)]) x6_1 t426 (wrap64 (x9_1 + 1)) a0_0 a0_1 l0_2 a1_0 a1_1 a1_2 a1_3 a1_4 a1_5) else (none)) else (if t426 = true then (if x5_1.length < 2513169434916 then (hopperref05_Put.l0 kj19 (x5_1 ++ [(⟨((rd_T24 l0_2 x9_1).f0), ((rd_T24 l0_2 x9_1).f1), ((rd_T24 l0_2 x9_1).f2), ((rd_T24 l0_2 x9_1).f3), ((rd_T24 l0_2 x9_1).f4), ((rd_T24 l0_2 x9_1).f5)⟩ : S24)]) x6_1 t426 (wrap64 (x9_1 + 1)) a0_0 a0_1 l0_2 a1_0 a1_1 a1_2 a1_3 a1_4 a1_5) else (none)) else (if ((rd_T24 l0_2 x9_1).f1) > a1_1 then (if x5_1.length < 2513169434916 then ((some (x5_1 ++ [(⟨a1_0, a1_1, a1_2, a1_3, a1_4, a1_5⟩ : S24)] : List (S24))).bind fun y442 => (if y442.length < 2513169434916 then (hopperref05_Put.l0 kj19 (y442 ++ [(⟨((rd_T24 l0_2 x9_1).f0), ((rd_T24 l0_2 x9_1).f1), ((rd_T24 l0_2 x9_1).f2), ((rd_T24 l0_2 x9_1).f3), ((rd_T24 l0_2 x9_1).f4), ((rd_T24 l0_2 x9_1).f5)⟩ : S24)]) true t426 (wrap64 (x9_1 + 1)) a0_0 a0_1 l0_2 a1_0 a1_1 a1_2 a1_3 a1_4 a1_5) else (none))) else (none)) else (if x5_1.length < 2513169434916 then (hopperref05_Put.l0 kj19 (x5_1 ++ [(⟨((rd_T24 l0_2 x9_1).f0), ((rd_T24 l0_2 x9_1).f1), ((rd_T24 l0_2 x9_1).f2), ((rd_T24 l0_2 x9_1).f3), ((rd_T24 l0_2 x9_1).f4), ((rd_T24 l0_2 x9_1).f5)⟩ : S24)]) x6_1 t426 (wrap64 (x9_1 + 1)) a0_0 a0_1 l0_2 a1_0 a1_1 a1_2 a1_3 a1_4 a1_5) else (none))))) = some (r1, r2, r3) := by rw [if_neg (show ¬ (false = true) by decide)] at H; exact H
         clear H
         have H := H1
         clear H1
         by_cases c49 : x6_1 = true
         · subst c49
           have H1 : (if x5_1.length < 2513169434916 then (hopperref05_Put.l0 kj19 (x5_1 ++ [(⟨((rd_T24 l0_2 x9_1).f0), ((rd_T24 l0_2 x9_1).f1), ((rd_T24 l0_2 x9_1).f2), ((rd_T24 l0_2 x9_1).f3), ((rd_T24 l0_2 x9_1).f4), ((rd_T24 l0_2 x9_1).f5)⟩ : S24)]) true t426 (wrap64 (x9_1 + 1)) a0_0 a0_1 l0_2 a1_0 a1_1 a1_2 a1_3 a1_4 a1_5) else (none)) = some (r1, r2, r3) := by rw [if_pos rfl] at H; exact H
           clear H
           have H := H1
           clear H1
           by_cases c50 : x5_1.length < 2513169434916
           rotate_left
           · rw [if_neg c50] at H
             exact absurd H (by simp)
           rw [if_pos c50] at H
           have LMc50 := A_ c50
           clear c50
           obtain ⟨y436, hy436⟩ : ∃ y_ : List (S24), y_ = (x5_1 ++ [(⟨((rd_T24 l0_2 x9_1).f0), ((rd_T24 l0_2 x9_1).f1), ((rd_T24 l0_2 x9_1).f2), ((rd_T24 l0_2 x9_1).f3), ((rd_T24 l0_2 x9_1).f4), ((rd_T24 l0_2 x9_1).f5)⟩ : S24)]) := ⟨_, rfl⟩
           replace H : (hopperref05_Put.l0 kj19 y436 true t426 (wrap64 (x9_1 + 1)) a0_0 a0_1 l0_2 a1_0 a1_1 a1_2 a1_3 a1_4 a1_5) = some (r1, r2, r3) := by first | (rw [hy436]; with_reducible exact H) | (have H2_ := (Option.bind_some _ _).symm.trans H; rw [hy436]; with_reducible exact H2_) | (have H2_ := (Option.bind_some _ _).symm.trans H; with_reducible exact H2_) | with_reducible exact H | (rw [hy436]; exact H) | exact H
           have Ny436 := A_ hy436
           clear hy436
           have H' := A_ H
           clear H; have hnb51 := NB432_417.out; have hnc51 := NB417_432.out; have hnb52 := NB432_418.out; have hnc52 := NB418_432.out; have hnb53 := NB432_419.out; have hnc53 := NB419_432.out; have hnb54 := NB432_427.out; have hnc54 := NB427_432.out; have hcz55_0 : wc.cell? ⟨gb432, 0, none⟩ = some (.int .i64 ((rd_T24 l0_2 x9_1).f0)) := e_ BK432 0; have hcz55_1 : wc.cell? ⟨gb432, 1, none⟩ = some (.int .i64 ((rd_T24 l0_2 x9_1).f1)) := e_ BK432 1; have hcz55_2 : wc.cell? ⟨gb432, 2, none⟩ = some (.int .i64 ((rd_T24 l0_2 x9_1).f2)) := e_ BK432 2; have hcz55_3 : wc.cell? ⟨gb432, 3, none⟩ = some (.int .i64 ((rd_T24 l0_2 x9_1).f3)) := e_ BK432 3; have hcz55_4 : wc.cell? ⟨gb432, 4, none⟩ = some (.int .i64 ((rd_T24 l0_2 x9_1).f4)) := e_ BK432 4; have hcz55_5 : wc.cell? ⟨gb432, 5, none⟩ = some (.string ((rd_T24 l0_2 x9_1).f5)) := e_ BK432 5; obtain ⟨hfz55_0, hfz55_1, hfz55_2, hfz55_3, hfz55_4, hfz55_5⟩ := z6_ BK432
           go_wp2_with (first | ((with_reducible refine gate_builtin (b := .append) (xs := #[.tmp 60, .tmp 62]) rfl ?_); at_builtin; refine Kd.R_append k24 (w0 := w) w.heap.size rfl (.tmp 60) (.tmp 62) 22 24 (.agg #[(.int .i64 0), (.int .i64 0), (.int .i64 0), (.int .i64 0), (.int .i64 0), (.string ⟨#[]⟩)]) 56 rfl Try.underlying22 info24 rfl (by decide) (by omega) u5 x5_1 (⟨((rd_T24 l0_2 x9_1).f0), ((rd_T24 l0_2 x9_1).f1), ((rd_T24 l0_2 x9_1).f2), ((rd_T24 l0_2 x9_1).f3), ((rd_T24 l0_2 x9_1).f4), ((rd_T24 l0_2 x9_1).f5)⟩ : S24) [.int .i64 ((rd_T24 l0_2 x9_1).f0), .int .i64 ((rd_T24 l0_2 x9_1).f1), .int .i64 ((rd_T24 l0_2 x9_1).f2), .int .i64 ((rd_T24 l0_2 x9_1).f3), .int .i64 ((rd_T24 l0_2 x9_1).f4), .string ((rd_T24 l0_2 x9_1).f5)] (fun k_ => k_ ≠ gb418 ∧ k_ ≠ gb427 ∧ k_ ≠ gb432) (fun _ => False) rfl rfl ?aP (fun _ hk => hk.elim) ?aF ?aO ?aB ?aS ?aL ?_; (case aP => exact k24_mkM _ _ _ (⟨((rd_T24 l0_2 x9_1).f0), ((rd_T24 l0_2 x9_1).f1), ((rd_T24 l0_2 x9_1).f2), ((rd_T24 l0_2 x9_1).f3), ((rd_T24 l0_2 x9_1).f4), ((rd_T24 l0_2 x9_1).f5)⟩ : S24)); (case aB => exact bw_); (case aF => exact (fun k_ hk => ⟨Kd.freshB (g := gb418) (o := .cells #[.int .i64 a1_0, .int .i64 a1_1, .int .i64 a1_2, .int .i64 a1_3, .int .i64 a1_4, .string a1_5] 24 (0, 0)) (by (with_reducible repeat (first | refine bn_ ?_ _ | refine bd_ ?_ | refine ba_ ?_ _)); exact BK418.out) k_ hk, Kd.freshB (g := gb427) (o := .cells #[.int .i64 t420, .int .i64 t421, .int .i64 t422, .int .i64 t423, .int .i64 t424, .string t425] 24 (0, 0)) (by (with_reducible repeat (first | refine bn_ ?_ _ | refine bd_ ?_ | refine ba_ ?_ _)); exact BK427.out) k_ hk, Kd.freshB (g := gb432) (o := .cells #[.int .i64 ((rd_T24 l0_2 x9_1).f0), .int .i64 ((rd_T24 l0_2 x9_1).f1), .int .i64 ((rd_T24 l0_2 x9_1).f2), .int .i64 ((rd_T24 l0_2 x9_1).f3), .int .i64 ((rd_T24 l0_2 x9_1).f4), .string ((rd_T24 l0_2 x9_1).f5)] 24 (0, 0)) (by (with_reducible repeat (first | refine bn_ ?_ _ | refine bd_ ?_ | refine ba_ ?_ _)); exact BK432.out) k_ hk⟩)); (case aO => exact (pr_ HO_5.out)); (case aS => exact (below_size bw_)); (case aL => have := LMc50.out; omega); intro v437 w56 ho hb hg hat; rw [← Ny436.out] at ho; replace BK417 := A_ (blk_grown (g := gb417) (o := .cells #[.int .i64 a0_0, .int .i64 a0_1, .slice (some ad431) l0_2.length c0_2] 46 (0, 0)) (by (with_reducible repeat (first | refine bn_ ?_ _ | refine bd_ ?_ | refine ba_ ?_ _)); exact BK417.out) hg (Kd.R_ne HO_5.out BK417.out (by decide))); replace BK418 := A_ (blk_grown (g := gb418) (o := .cells #[.int .i64 a1_0, .int .i64 a1_1, .int .i64 a1_2, .int .i64 a1_3, .int .i64 a1_4, .string a1_5] 24 (0, 0)) (by (with_reducible repeat (first | refine bn_ ?_ _ | refine bd_ ?_ | refine ba_ ?_ _)); exact BK418.out) hg (Kd.R_away HO_5.out (fun _ hk => hk.1))); replace BK419 := A_ (blk_grown (g := gb419) (o := .cells #[.int .i64 0, .int .i64 0, .slice none 0 0] 46 (0, 0)) (by (with_reducible repeat (first | refine bn_ ?_ _ | refine bd_ ?_ | refine ba_ ?_ _)); exact BK419.out) hg (Kd.R_ne HO_5.out BK419.out (by decide))); replace BK427 := A_ (blk_grown (g := gb427) (o := .cells #[.int .i64 t420, .int .i64 t421, .int .i64 t422, .int .i64 t423, .int .i64 t424, .string t425] 24 (0, 0)) (by (with_reducible repeat (first | refine bn_ ?_ _ | refine bd_ ?_ | refine ba_ ?_ _)); exact BK427.out) hg (Kd.R_away HO_5.out (fun _ hk => hk.2.1))); replace BK432 := A_ (blk_grown (g := gb432) (o := .cells #[.int .i64 ((rd_T24 l0_2 x9_1).f0), .int .i64 ((rd_T24 l0_2 x9_1).f1), .int .i64 ((rd_T24 l0_2 x9_1).f2), .int .i64 ((rd_T24 l0_2 x9_1).f3), .int .i64 ((rd_T24 l0_2 x9_1).f4), .string ((rd_T24 l0_2 x9_1).f5)] 24 (0, 0)) (by (with_reducible repeat (first | refine bn_ ?_ _ | refine bd_ ?_ | refine ba_ ?_ _)); exact BK432.out) hg (Kd.R_away HO_5.out (fun _ hk => hk.2.2))); replace HB := A_ (hb); have HO438 := A_ (ho); clear HO_5; clear ho hb hg hat))
           go_roundg kj19
           case measure => have := HK1.out; have := HJ19.out; omega
           case rel => exact ⟨(y436), (true), (wrap64 (x9_1 + 1)), (by first | rfl | (simp; done) | (simp [*]; done)), (by first | rfl | (simp; done) | (simp [*]; done)), H', ⟨by have := HK1.out; have := HJ19.out; omega⟩, ⟨by (with_reducible repeat (first | apply ra_ | apply rn_ | apply rd_)); exact Kd.R_mono HO438.out (fun _ hk => ⟨hk.1, hk.2.1⟩)⟩, ⟨bk_⟩, ⟨bk_⟩, ⟨bk_⟩, ⟨bk_⟩, ⟨by repeat (first | (with_reducible first | exact HB.out | apply wa_ | apply wn_ | apply wd_ | refine ws_ ?_ GE417.out | refine ws_ ?_ GE418.out | refine ws_ ?_ GE419.out | refine ws_ ?_ GE427.out | refine ws_ ?_ GE432.out) | exact HB.out)⟩⟩
         · replace c49 := Bool.eq_false_iff.mpr c49
           subst c49
           have H1 : (if t426 = true then (if x5_1.length < 2513169434916 then (hopperref05_Put.l0 kj19 (x5_1 ++ [(⟨((rd_T24 l0_2 x9_1).f0), ((rd_T24 l0_2 x9_1).f1), ((rd_T24 l0_2 x9_1).f2), ((rd_T24 l0_2 x9_1).f3), ((rd_T24 l0_2 x9_1).f4), ((rd_T24 l0_2 x9_1).f5)⟩ : S24)]) false t426 (wrap64 (x9_1 + 1)) a0_0 a0_1 l0_2 a1_0 a1_1 a1_2 a1_3 a1_4 a1_5) else (none)) else (if ((rd_T24 l0_2 x9_1).f1) > a1_1 then (if x5_1.length < 2513169434916 then ((some (x5_1 ++ [(⟨a1_0, a1_1, a1_2, a1_3, a1_4, a1_5⟩ : S24)] : List (S24))).bind fun y442 => (if y442.length < 2513169434916 then (hopperref05_Put.l0 kj19 (y442 ++ [(⟨((rd_T24 l0_2 x9_1).f0), ((rd_T24 l0_2 x9_1).f1), ((rd_T24 l0_2 x9_1).f2), ((rd_T24 l0_2 x9_1).f3), ((rd_T24 l0_2 x9_1).f4), ((rd_T24 l0_2 x9_1).f5)⟩ : S24)]) true t426 (wrap64 (x9_1 + 1)) a0_0 a0_1 l0_2 a1_0 a1_1 a1_2 a1_3 a1_4 a1_5) else (none))) else (none)) else (if x5_1.length < 2513169434916 then (hopperref05_Put.l0 kj19 (x5_1 ++ [(⟨((rd_T24 l0_2 x9_1).f0), ((rd_T24 l0_2 x9_1).f1), ((rd_T24 l0_2 x9_1).f2), ((rd_T24 l0_2 x9_1).f3), ((rd_T24 l0_2 x9_1).f4), ((rd_T24 l0_2 x9_1).f5)⟩ : S24)]) false t426 (wrap64 (x9_1 + 1)) a0_0 a0_1 l0_2 a1_0 a1_1 a1_2 a1_3 a1_4 a1_5) else (none)))) = some (r1, r2, r3) := by rw [if_neg (show ¬ (false = true) by decide)] at H; exact H
           clear H
           have H := H1
           clear H1
           by_cases c57 : t426 = true
           · subst c57
             have H1 : (if x5_1.length < 2513169434916 then (hopperref05_Put.l0 kj19 (x5_1 ++ [(⟨((rd_T24 l0_2 x9_1).f0), ((rd_T24 l0_2 x9_1).f1), ((rd_T24 l0_2 x9_1).f2), ((rd_T24 l0_2 x9_1).f3), ((rd_T24 l0_2 x9_1).f4), ((rd_T24 l0_2 x9_1).f5)⟩ : S24)]) false true (wrap64 (x9_1 + 1)) a0_0 a0_1 l0_2 a1_0 a1_1 a1_2 a1_3 a1_4 a1_5) else (none)) = some (r1, r2, r3) := by rw [if_pos rfl] at H; exact H
             clear H
             have H := H1
             clear H1
             by_cases c58 : x5_1.length < 2513169434916
             rotate_left
             · rw [if_neg c58] at H
               exact absurd H (by simp)
             rw [if_pos c58] at H
             have LMc58 := A_ c58
             clear c58
             obtain ⟨y439, hy439⟩ : ∃ y_ : List (S24), y_ = (x5_1 ++ [(⟨((rd_T24 l0_2 x9_1).f0), ((rd_T24 l0_2 x9_1).f1), ((rd_T24 l0_2 x9_1).f2), ((rd_T24 l0_2 x9_1).f3), ((rd_T24 l0_2 x9_1).f4), ((rd_T24 l0_2 x9_1).f5)⟩ : S24)]) := ⟨_, rfl⟩
             replace H : (hopperref05_Put.l0 kj19 y439 false true (wrap64 (x9_1 + 1)) a0_0 a0_1 l0_2 a1_0 a1_1 a1_2 a1_3 a1_4 a1_5) = some (r1, r2, r3) := by first | (rw [hy439]; with_reducible exact H) | (have H2_ := (Option.bind_some _ _).symm.trans H; rw [hy439]; with_reducible exact H2_) | (have H2_ := (Option.bind_some _ _).symm.trans H; with_reducible exact H2_) | with_reducible exact H | (rw [hy439]; exact H) | exact H
             have Ny439 := A_ hy439
             clear hy439
             have H' := A_ H
             clear H; have hnb59 := NB432_417.out; have hnc59 := NB417_432.out; have hnb60 := NB432_418.out; have hnc60 := NB418_432.out; have hnb61 := NB432_419.out; have hnc61 := NB419_432.out; have hnb62 := NB432_427.out; have hnc62 := NB427_432.out; have hcz63_0 : wc.cell? ⟨gb432, 0, none⟩ = some (.int .i64 ((rd_T24 l0_2 x9_1).f0)) := e_ BK432 0; have hcz63_1 : wc.cell? ⟨gb432, 1, none⟩ = some (.int .i64 ((rd_T24 l0_2 x9_1).f1)) := e_ BK432 1; have hcz63_2 : wc.cell? ⟨gb432, 2, none⟩ = some (.int .i64 ((rd_T24 l0_2 x9_1).f2)) := e_ BK432 2; have hcz63_3 : wc.cell? ⟨gb432, 3, none⟩ = some (.int .i64 ((rd_T24 l0_2 x9_1).f3)) := e_ BK432 3; have hcz63_4 : wc.cell? ⟨gb432, 4, none⟩ = some (.int .i64 ((rd_T24 l0_2 x9_1).f4)) := e_ BK432 4; have hcz63_5 : wc.cell? ⟨gb432, 5, none⟩ = some (.string ((rd_T24 l0_2 x9_1).f5)) := e_ BK432 5; obtain ⟨hfz63_0, hfz63_1, hfz63_2, hfz63_3, hfz63_4, hfz63_5⟩ := z6_ BK432
             go_wp2_with (first | ((with_reducible refine gate_builtin (b := .append) (xs := #[.tmp 60, .tmp 62]) rfl ?_); at_builtin; refine Kd.R_append k24 (w0 := w) w.heap.size rfl (.tmp 60) (.tmp 62) 22 24 (.agg #[(.int .i64 0), (.int .i64 0), (.int .i64 0), (.int .i64 0), (.int .i64 0), (.string ⟨#[]⟩)]) 56 rfl Try.underlying22 info24 rfl (by decide) (by omega) u5 x5_1 (⟨((rd_T24 l0_2 x9_1).f0), ((rd_T24 l0_2 x9_1).f1), ((rd_T24 l0_2 x9_1).f2), ((rd_T24 l0_2 x9_1).f3), ((rd_T24 l0_2 x9_1).f4), ((rd_T24 l0_2 x9_1).f5)⟩ : S24) [.int .i64 ((rd_T24 l0_2 x9_1).f0), .int .i64 ((rd_T24 l0_2 x9_1).f1), .int .i64 ((rd_T24 l0_2 x9_1).f2), .int .i64 ((rd_T24 l0_2 x9_1).f3), .int .i64 ((rd_T24 l0_2 x9_1).f4), .string ((rd_T24 l0_2 x9_1).f5)] (fun k_ => k_ ≠ gb418 ∧ k_ ≠ gb427 ∧ k_ ≠ gb432) (fun _ => False) rfl rfl ?aP (fun _ hk => hk.elim) ?aF ?aO ?aB ?aS ?aL ?_; (case aP => exact k24_mkM _ _ _ (⟨((rd_T24 l0_2 x9_1).f0), ((rd_T24 l0_2 x9_1).f1), ((rd_T24 l0_2 x9_1).f2), ((rd_T24 l0_2 x9_1).f3), ((rd_T24 l0_2 x9_1).f4), ((rd_T24 l0_2 x9_1).f5)⟩ : S24)); (case aB => exact bw_); (case aF => exact (fun k_ hk => ⟨Kd.freshB (g := gb418) (o := .cells #[.int .i64 a1_0, .int .i64 a1_1, .int .i64 a1_2, .int .i64 a1_3, .int .i64 a1_4, .string a1_5] 24 (0, 0)) (by (with_reducible repeat (first | refine bn_ ?_ _ | refine bd_ ?_ | refine ba_ ?_ _)); exact BK418.out) k_ hk, Kd.freshB (g := gb427) (o := .cells #[.int .i64 t420, .int .i64 t421, .int .i64 t422, .int .i64 t423, .int .i64 t424, .string t425] 24 (0, 0)) (by (with_reducible repeat (first | refine bn_ ?_ _ | refine bd_ ?_ | refine ba_ ?_ _)); exact BK427.out) k_ hk, Kd.freshB (g := gb432) (o := .cells #[.int .i64 ((rd_T24 l0_2 x9_1).f0), .int .i64 ((rd_T24 l0_2 x9_1).f1), .int .i64 ((rd_T24 l0_2 x9_1).f2), .int .i64 ((rd_T24 l0_2 x9_1).f3), .int .i64 ((rd_T24 l0_2 x9_1).f4), .string ((rd_T24 l0_2 x9_1).f5)] 24 (0, 0)) (by (with_reducible repeat (first | refine bn_ ?_ _ | refine bd_ ?_ | refine ba_ ?_ _)); exact BK432.out) k_ hk⟩)); (case aO => exact (pr_ HO_5.out)); (case aS => exact (below_size bw_)); (case aL => have := LMc58.out; omega); intro v440 w64 ho hb hg hat; rw [← Ny439.out] at ho; replace BK417 := A_ (blk_grown (g := gb417) (o := .cells #[.int .i64 a0_0, .int .i64 a0_1, .slice (some ad431) l0_2.length c0_2] 46 (0, 0)) (by (with_reducible repeat (first | refine bn_ ?_ _ | refine bd_ ?_ | refine ba_ ?_ _)); exact BK417.out) hg (Kd.R_ne HO_5.out BK417.out (by decide))); replace BK418 := A_ (blk_grown (g := gb418) (o := .cells #[.int .i64 a1_0, .int .i64 a1_1, .int .i64 a1_2, .int .i64 a1_3, .int .i64 a1_4, .string a1_5] 24 (0, 0)) (by (with_reducible repeat (first | refine bn_ ?_ _ | refine bd_ ?_ | refine ba_ ?_ _)); exact BK418.out) hg (Kd.R_away HO_5.out (fun _ hk => hk.1))); replace BK419 := A_ (blk_grown (g := gb419) (o := .cells #[.int .i64 0, .int .i64 0, .slice none 0 0] 46 (0, 0)) (by (with_reducible repeat (first | refine bn_ ?_ _ | refine bd_ ?_ | refine ba_ ?_ _)); exact BK419.out) hg (Kd.R_ne HO_5.out BK419.out (by decide))); replace BK427 := A_ (blk_grown (g := gb427) (o := .cells #[.int .i64 t420, .int .i64 t421, .int .i64 t422, .int .i64 t423, .int .i64 t424, .string t425] 24 (0, 0)) (by (with_reducible repeat (first | refine bn_ ?_ _ | refine bd_ ?_ | refine ba_ ?_ _)); exact BK427.out) hg (Kd.R_away HO_5.out (fun _ hk => hk.2.1))); replace BK432 := A_ (blk_grown (g := gb432) (o := .cells #[.int .i64 ((rd_T24 l0_2 x9_1).f0), .int .i64 ((rd_T24 l0_2 x9_1).f1), .int .i64 ((rd_T24 l0_2 x9_1).f2), .int .i64 ((rd_T24 l0_2 x9_1).f3), .int .i64 ((rd_T24 l0_2 x9_1).f4), .string ((rd_T24 l0_2 x9_1).f5)] 24 (0, 0)) (by (with_reducible repeat (first | refine bn_ ?_ _ | refine bd_ ?_ | refine ba_ ?_ _)); exact BK432.out) hg (Kd.R_away HO_5.out (fun _ hk => hk.2.2))); replace HB := A_ (hb); have HO441 := A_ (ho); clear HO_5; clear ho hb hg hat))
             go_roundg kj19
             case measure => have := HK1.out; have := HJ19.out; omega
             case rel => exact ⟨(y439), (false), (wrap64 (x9_1 + 1)), (by first | rfl | (simp; done) | (simp [*]; done)), (by first | rfl | (simp; done) | (simp [*]; done)), H', ⟨by have := HK1.out; have := HJ19.out; omega⟩, ⟨by (with_reducible repeat (first | apply ra_ | apply rn_ | apply rd_)); exact Kd.R_mono HO441.out (fun _ hk => ⟨hk.1, hk.2.1⟩)⟩, ⟨bk_⟩, ⟨bk_⟩, ⟨bk_⟩, ⟨bk_⟩, ⟨by repeat (first | (with_reducible first | exact HB.out | apply wa_ | apply wn_ | apply wd_ | refine ws_ ?_ GE417.out | refine ws_ ?_ GE418.out | refine ws_ ?_ GE419.out | refine ws_ ?_ GE427.out | refine ws_ ?_ GE432.out) | exact HB.out)⟩⟩
           · replace c57 := Bool.eq_false_iff.mpr c57
             subst c57
             have H1 : (if ((rd_T24 l0_2 x9_1).f1) > a1_1 then (if x5_1.length < 2513169434916 then ((some (x5_1 ++ [(⟨a1_0, a1_1, a1_2, a1_3, a1_4, a1_5⟩ : S24)] : List (S24))).bind fun y442 => (if y442.length < 2513169434916 then (hopperref05_Put.l0 kj19 (y442 ++ [(⟨((rd_T24 l0_2 x9_1).f0), ((rd_T24 l0_2 x9_1).f1), ((rd_T24 l0_2 x9_1).f2), ((rd_T24 l0_2 x9_1).f3), ((rd_T24 l0_2 x9_1).f4), ((rd_T24 l0_2 x9_1).f5)⟩ : S24)]) true false (wrap64 (x9_1 + 1)) a0_0 a0_1 l0_2 a1_0 a1_1 a1_2 a1_3 a1_4 a1_5) else (none))) else (none)) else (if x5_1.length < 2513169434916 then (hopperref05_Put.l0 kj19 (x5_1 ++ [(⟨((rd_T24 l0_2 x9_1).f0), ((rd_T24 l0_2 x9_1).f1), ((rd_T24 l0_2 x9_1).f2), ((rd_T24 l0_2 x9_1).f3), ((rd_T24 l0_2 x9_1).f4), ((rd_T24 l0_2 x9_1).f5)⟩ : S24)]) false false (wrap64 (x9_1 + 1)) a0_0 a0_1 l0_2 a1_0 a1_1 a1_2 a1_3 a1_4 a1_5) else (none))) = some (r1, r2, r3) := by rw [if_neg (show ¬ (false = true) by decide)] at H; exact H
             clear H
             have H := H1
             clear H1
             by_cases c65 : ((rd_T24 l0_2 x9_1).f1) > a1_1
             · rw [if_pos c65] at H
               have c65b0 : decide (a1_1 < ((rd_T24 l0_2 x9_1).f1)) = true := decide_eq_true c65
               clear c65
               by_cases c66 : x5_1.length < 2513169434916
               rotate_left
               · rw [if_neg c66] at H
                 exact absurd H (by simp)
               rw [if_pos c66] at H
               have LMc66 := A_ c66
               clear c66
               obtain ⟨y442, hy442⟩ : ∃ y_ : List (S24), y_ = (x5_1 ++ [(⟨a1_0, a1_1, a1_2, a1_3, a1_4, a1_5⟩ : S24)]) := ⟨_, rfl⟩
               replace H : (if y442.length < 2513169434916 then (hopperref05_Put.l0 kj19 (y442 ++ [(⟨((rd_T24 l0_2 x9_1).f0), ((rd_T24 l0_2 x9_1).f1), ((rd_T24 l0_2 x9_1).f2), ((rd_T24 l0_2 x9_1).f3), ((rd_T24 l0_2 x9_1).f4), ((rd_T24 l0_2 x9_1).f5)⟩ : S24)]) true false (wrap64 (x9_1 + 1)) a0_0 a0_1 l0_2 a1_0 a1_1 a1_2 a1_3 a1_4 a1_5) else (none)) = some (r1, r2, r3) := by first | (rw [hy442]; with_reducible exact H) | (have H2_ := (Option.bind_some _ _).symm.trans H; rw [hy442]; with_reducible exact H2_) | (have H2_ := (Option.bind_some _ _).symm.trans H; with_reducible exact H2_) | with_reducible exact H | (rw [hy442]; exact H) | exact H
               have Ny442 := A_ hy442
               clear hy442
               by_cases c67 : y442.length < 2513169434916
               rotate_left
               · rw [if_neg c67] at H
                 exact absurd H (by simp)
               rw [if_pos c67] at H
               have LMc67 := A_ c67
               clear c67
               obtain ⟨y445, hy445⟩ : ∃ y_ : List (S24), y_ = (y442 ++ [(⟨((rd_T24 l0_2 x9_1).f0), ((rd_T24 l0_2 x9_1).f1), ((rd_T24 l0_2 x9_1).f2), ((rd_T24 l0_2 x9_1).f3), ((rd_T24 l0_2 x9_1).f4), ((rd_T24 l0_2 x9_1).f5)⟩ : S24)]) := ⟨_, rfl⟩
               replace H : (hopperref05_Put.l0 kj19 y445 true false (wrap64 (x9_1 + 1)) a0_0 a0_1 l0_2 a1_0 a1_1 a1_2 a1_3 a1_4 a1_5) = some (r1, r2, r3) := by first | (rw [hy445]; with_reducible exact H) | (have H2_ := (Option.bind_some _ _).symm.trans H; rw [hy445]; with_reducible exact H2_) | (have H2_ := (Option.bind_some _ _).symm.trans H; with_reducible exact H2_) | with_reducible exact H | (rw [hy445]; exact H) | exact H
               have Ny445 := A_ hy445
               clear hy445
               have H' := A_ H
               clear H; have hnb68 := NB432_417.out; have hnc68 := NB417_432.out; have hnb69 := NB432_418.out; have hnc69 := NB418_432.out; have hnb70 := NB432_419.out; have hnc70 := NB419_432.out; have hnb71 := NB432_427.out; have hnc71 := NB427_432.out; have hcz72_0 : wc.cell? ⟨gb432, 0, none⟩ = some (.int .i64 ((rd_T24 l0_2 x9_1).f0)) := e_ BK432 0; have hcz72_1 : wc.cell? ⟨gb432, 1, none⟩ = some (.int .i64 ((rd_T24 l0_2 x9_1).f1)) := e_ BK432 1; have hcz72_2 : wc.cell? ⟨gb432, 2, none⟩ = some (.int .i64 ((rd_T24 l0_2 x9_1).f2)) := e_ BK432 2; have hcz72_3 : wc.cell? ⟨gb432, 3, none⟩ = some (.int .i64 ((rd_T24 l0_2 x9_1).f3)) := e_ BK432 3; have hcz72_4 : wc.cell? ⟨gb432, 4, none⟩ = some (.int .i64 ((rd_T24 l0_2 x9_1).f4)) := e_ BK432 4; have hcz72_5 : wc.cell? ⟨gb432, 5, none⟩ = some (.string ((rd_T24 l0_2 x9_1).f5)) := e_ BK432 5; obtain ⟨hfz72_0, hfz72_1, hfz72_2, hfz72_3, hfz72_4, hfz72_5⟩ := z6_ BK432; have hnb73 := NB418_417.out; have hnc73 := NB417_418.out; have hnb74 := NB418_419.out; have hnc74 := NB419_418.out; have hnb75 := NB418_427.out; have hnc75 := NB427_418.out; have hcz76_0 : wc.cell? ⟨gb418, 0, none⟩ = some (.int .i64 a1_0) := e_ BK418 0; have hcz76_1 : wc.cell? ⟨gb418, 1, none⟩ = some (.int .i64 a1_1) := e_ BK418 1; have hcz76_2 : wc.cell? ⟨gb418, 2, none⟩ = some (.int .i64 a1_2) := e_ BK418 2; have hcz76_3 : wc.cell? ⟨gb418, 3, none⟩ = some (.int .i64 a1_3) := e_ BK418 3; have hcz76_4 : wc.cell? ⟨gb418, 4, none⟩ = some (.int .i64 a1_4) := e_ BK418 4; have hcz76_5 : wc.cell? ⟨gb418, 5, none⟩ = some (.string a1_5) := e_ BK418 5; obtain ⟨hfz76_0, hfz76_1, hfz76_2, hfz76_3, hfz76_4, hfz76_5⟩ := z6_ BK418
               go_wp2_with (first | ((with_reducible refine gate_builtin (b := .append) (xs := #[.tmp 56, .tmp 58]) rfl ?_); at_builtin; refine Kd.R_append k24 (w0 := w) w.heap.size rfl (.tmp 56) (.tmp 58) 22 24 (.agg #[(.int .i64 0), (.int .i64 0), (.int .i64 0), (.int .i64 0), (.int .i64 0), (.string ⟨#[]⟩)]) 56 rfl Try.underlying22 info24 rfl (by decide) (by omega) u5 x5_1 (⟨a1_0, a1_1, a1_2, a1_3, a1_4, a1_5⟩ : S24) [.int .i64 a1_0, .int .i64 a1_1, .int .i64 a1_2, .int .i64 a1_3, .int .i64 a1_4, .string a1_5] (fun k_ => k_ ≠ gb418 ∧ k_ ≠ gb427 ∧ k_ ≠ gb432) (fun _ => False) rfl rfl ?aP (fun _ hk => hk.elim) ?aF ?aO ?aB ?aS ?aL ?_; (case aP => exact k24_mkM _ _ _ (⟨a1_0, a1_1, a1_2, a1_3, a1_4, a1_5⟩ : S24)); (case aB => exact bw_); (case aF => exact (fun k_ hk => ⟨Kd.freshB (g := gb418) (o := .cells #[.int .i64 a1_0, .int .i64 a1_1, .int .i64 a1_2, .int .i64 a1_3, .int .i64 a1_4, .string a1_5] 24 (0, 0)) (by (with_reducible repeat (first | refine bn_ ?_ _ | refine bd_ ?_ | refine ba_ ?_ _)); exact BK418.out) k_ hk, Kd.freshB (g := gb427) (o := .cells #[.int .i64 t420, .int .i64 t421, .int .i64 t422, .int .i64 t423, .int .i64 t424, .string t425] 24 (0, 0)) (by (with_reducible repeat (first | refine bn_ ?_ _ | refine bd_ ?_ | refine ba_ ?_ _)); exact BK427.out) k_ hk, Kd.freshB (g := gb432) (o := .cells #[.int .i64 ((rd_T24 l0_2 x9_1).f0), .int .i64 ((rd_T24 l0_2 x9_1).f1), .int .i64 ((rd_T24 l0_2 x9_1).f2), .int .i64 ((rd_T24 l0_2 x9_1).f3), .int .i64 ((rd_T24 l0_2 x9_1).f4), .string ((rd_T24 l0_2 x9_1).f5)] 24 (0, 0)) (by (with_reducible repeat (first | refine bn_ ?_ _ | refine bd_ ?_ | refine ba_ ?_ _)); exact BK432.out) k_ hk⟩)); (case aO => exact (pr_ HO_5.out)); (case aS => exact (below_size bw_)); (case aL => have := LMc66.out; omega); intro v443 w77 ho hb hg hat; rw [← Ny442.out] at ho; replace BK417 := A_ (blk_grown (g := gb417) (o := .cells #[.int .i64 a0_0, .int .i64 a0_1, .slice (some ad431) l0_2.length c0_2] 46 (0, 0)) (by (with_reducible repeat (first | refine bn_ ?_ _ | refine bd_ ?_ | refine ba_ ?_ _)); exact BK417.out) hg (Kd.R_ne HO_5.out BK417.out (by decide))); replace BK418 := A_ (blk_grown (g := gb418) (o := .cells #[.int .i64 a1_0, .int .i64 a1_1, .int .i64 a1_2, .int .i64 a1_3, .int .i64 a1_4, .string a1_5] 24 (0, 0)) (by (with_reducible repeat (first | refine bn_ ?_ _ | refine bd_ ?_ | refine ba_ ?_ _)); exact BK418.out) hg (Kd.R_away HO_5.out (fun _ hk => hk.1))); replace BK419 := A_ (blk_grown (g := gb419) (o := .cells #[.int .i64 0, .int .i64 0, .slice none 0 0] 46 (0, 0)) (by (with_reducible repeat (first | refine bn_ ?_ _ | refine bd_ ?_ | refine ba_ ?_ _)); exact BK419.out) hg (Kd.R_ne HO_5.out BK419.out (by decide))); replace BK427 := A_ (blk_grown (g := gb427) (o := .cells #[.int .i64 t420, .int .i64 t421, .int .i64 t422, .int .i64 t423, .int .i64 t424, .string t425] 24 (0, 0)) (by (with_reducible repeat (first | refine bn_ ?_ _ | refine bd_ ?_ | refine ba_ ?_ _)); exact BK427.out) hg (Kd.R_away HO_5.out (fun _ hk => hk.2.1))); replace BK432 := A_ (blk_grown (g := gb432) (o := .cells #[.int .i64 ((rd_T24 l0_2 x9_1).f0), .int .i64 ((rd_T24 l0_2 x9_1).f1), .int .i64 ((rd_T24 l0_2 x9_1).f2), .int .i64 ((rd_T24 l0_2 x9_1).f3), .int .i64 ((rd_T24 l0_2 x9_1).f4), .string ((rd_T24 l0_2 x9_1).f5)] 24 (0, 0)) (by (with_reducible repeat (first | refine bn_ ?_ _ | refine bd_ ?_ | refine ba_ ?_ _)); exact BK432.out) hg (Kd.R_away HO_5.out (fun _ hk => hk.2.2))); replace HB := A_ (hb); have HO444 := A_ (ho); clear HO_5; clear ho hb hg hat; have hcz78_0 : w77.cell? ⟨gb432, 0, none⟩ = some (.int .i64 ((rd_T24 l0_2 x9_1).f0)) := e_ BK432 0; have hcz78_1 : w77.cell? ⟨gb432, 1, none⟩ = some (.int .i64 ((rd_T24 l0_2 x9_1).f1)) := e_ BK432 1; have hcz78_2 : w77.cell? ⟨gb432, 2, none⟩ = some (.int .i64 ((rd_T24 l0_2 x9_1).f2)) := e_ BK432 2; have hcz78_3 : w77.cell? ⟨gb432, 3, none⟩ = some (.int .i64 ((rd_T24 l0_2 x9_1).f3)) := e_ BK432 3; have hcz78_4 : w77.cell? ⟨gb432, 4, none⟩ = some (.int .i64 ((rd_T24 l0_2 x9_1).f4)) := e_ BK432 4; have hcz78_5 : w77.cell? ⟨gb432, 5, none⟩ = some (.string ((rd_T24 l0_2 x9_1).f5)) := e_ BK432 5; obtain ⟨hfz78_0, hfz78_1, hfz78_2, hfz78_3, hfz78_4, hfz78_5⟩ := z6_ BK432) | ((with_reducible refine gate_builtin (b := .append) (xs := #[.tmp 60, .tmp 62]) rfl ?_); at_builtin; refine Kd.R_append k24 (w0 := w) w.heap.size rfl (.tmp 60) (.tmp 62) 22 24 (.agg #[(.int .i64 0), (.int .i64 0), (.int .i64 0), (.int .i64 0), (.int .i64 0), (.string ⟨#[]⟩)]) 56 rfl Try.underlying22 info24 rfl (by decide) (by omega) v443 y442 (⟨((rd_T24 l0_2 x9_1).f0), ((rd_T24 l0_2 x9_1).f1), ((rd_T24 l0_2 x9_1).f2), ((rd_T24 l0_2 x9_1).f3), ((rd_T24 l0_2 x9_1).f4), ((rd_T24 l0_2 x9_1).f5)⟩ : S24) [.int .i64 ((rd_T24 l0_2 x9_1).f0), .int .i64 ((rd_T24 l0_2 x9_1).f1), .int .i64 ((rd_T24 l0_2 x9_1).f2), .int .i64 ((rd_T24 l0_2 x9_1).f3), .int .i64 ((rd_T24 l0_2 x9_1).f4), .string ((rd_T24 l0_2 x9_1).f5)] (fun k_ => k_ ≠ gb418 ∧ k_ ≠ gb427 ∧ k_ ≠ gb432) (fun _ => False) rfl rfl ?aP (fun _ hk => hk.elim) ?aF ?aO ?aB ?aS ?aL ?_; (case aP => exact k24_mkM _ _ _ (⟨((rd_T24 l0_2 x9_1).f0), ((rd_T24 l0_2 x9_1).f1), ((rd_T24 l0_2 x9_1).f2), ((rd_T24 l0_2 x9_1).f3), ((rd_T24 l0_2 x9_1).f4), ((rd_T24 l0_2 x9_1).f5)⟩ : S24)); (case aB => exact bw_); (case aF => exact (fun k_ hk => ⟨Kd.freshB (g := gb418) (o := .cells #[.int .i64 a1_0, .int .i64 a1_1, .int .i64 a1_2, .int .i64 a1_3, .int .i64 a1_4, .string a1_5] 24 (0, 0)) (by (with_reducible repeat (first | refine bn_ ?_ _ | refine bd_ ?_ | refine ba_ ?_ _)); exact BK418.out) k_ hk, Kd.freshB (g := gb427) (o := .cells #[.int .i64 t420, .int .i64 t421, .int .i64 t422, .int .i64 t423, .int .i64 t424, .string t425] 24 (0, 0)) (by (with_reducible repeat (first | refine bn_ ?_ _ | refine bd_ ?_ | refine ba_ ?_ _)); exact BK427.out) k_ hk, Kd.freshB (g := gb432) (o := .cells #[.int .i64 ((rd_T24 l0_2 x9_1).f0), .int .i64 ((rd_T24 l0_2 x9_1).f1), .int .i64 ((rd_T24 l0_2 x9_1).f2), .int .i64 ((rd_T24 l0_2 x9_1).f3), .int .i64 ((rd_T24 l0_2 x9_1).f4), .string ((rd_T24 l0_2 x9_1).f5)] 24 (0, 0)) (by (with_reducible repeat (first | refine bn_ ?_ _ | refine bd_ ?_ | refine ba_ ?_ _)); exact BK432.out) k_ hk⟩)); (case aO => exact (pr_ HO444.out)); (case aS => exact (below_size bw_)); (case aL => have := LMc67.out; omega); intro v446 w79 ho hb hg hat; rw [← Ny445.out] at ho; replace BK417 := A_ (blk_grown (g := gb417) (o := .cells #[.int .i64 a0_0, .int .i64 a0_1, .slice (some ad431) l0_2.length c0_2] 46 (0, 0)) (by (with_reducible repeat (first | refine bn_ ?_ _ | refine bd_ ?_ | refine ba_ ?_ _)); exact BK417.out) hg (Kd.R_ne HO444.out BK417.out (by decide))); replace BK418 := A_ (blk_grown (g := gb418) (o := .cells #[.int .i64 a1_0, .int .i64 a1_1, .int .i64 a1_2, .int .i64 a1_3, .int .i64 a1_4, .string a1_5] 24 (0, 0)) (by (with_reducible repeat (first | refine bn_ ?_ _ | refine bd_ ?_ | refine ba_ ?_ _)); exact BK418.out) hg (Kd.R_away HO444.out (fun _ hk => hk.1))); replace BK419 := A_ (blk_grown (g := gb419) (o := .cells #[.int .i64 0, .int .i64 0, .slice none 0 0] 46 (0, 0)) (by (with_reducible repeat (first | refine bn_ ?_ _ | refine bd_ ?_ | refine ba_ ?_ _)); exact BK419.out) hg (Kd.R_ne HO444.out BK419.out (by decide))); replace BK427 := A_ (blk_grown (g := gb427) (o := .cells #[.int .i64 t420, .int .i64 t421, .int .i64 t422, .int .i64 t423, .int .i64 t424, .string t425] 24 (0, 0)) (by (with_reducible repeat (first | refine bn_ ?_ _ | refine bd_ ?_ | refine ba_ ?_ _)); exact BK427.out) hg (Kd.R_away HO444.out (fun _ hk => hk.2.1))); replace BK432 := A_ (blk_grown (g := gb432) (o := .cells #[.int .i64 ((rd_T24 l0_2 x9_1).f0), .int .i64 ((rd_T24 l0_2 x9_1).f1), .int .i64 ((rd_T24 l0_2 x9_1).f2), .int .i64 ((rd_T24 l0_2 x9_1).f3), .int .i64 ((rd_T24 l0_2 x9_1).f4), .string ((rd_T24 l0_2 x9_1).f5)] 24 (0, 0)) (by (with_reducible repeat (first | refine bn_ ?_ _ | refine bd_ ?_ | refine ba_ ?_ _)); exact BK432.out) hg (Kd.R_away HO444.out (fun _ hk => hk.2.2))); replace HB := A_ (hb); have HO447 := A_ (ho); clear HO444; clear ho hb hg hat))
               go_roundg kj19
               case measure => have := HK1.out; have := HJ19.out; omega
               case rel => exact ⟨(y445), (true), (wrap64 (x9_1 + 1)), (by first | rfl | (simp; done) | (simp [*]; done)), (by first | rfl | (simp; done) | (simp [*]; done)), H', ⟨by have := HK1.out; have := HJ19.out; omega⟩, ⟨by (with_reducible repeat (first | apply ra_ | apply rn_ | apply rd_)); exact Kd.R_mono HO447.out (fun _ hk => ⟨hk.1, hk.2.1⟩)⟩, ⟨bk_⟩, ⟨bk_⟩, ⟨bk_⟩, ⟨bk_⟩, ⟨by repeat (first | (with_reducible first | exact HB.out | apply wa_ | apply wn_ | apply wd_ | refine ws_ ?_ GE417.out | refine ws_ ?_ GE418.out | refine ws_ ?_ GE419.out | refine ws_ ?_ GE427.out | refine ws_ ?_ GE432.out) | exact HB.out)⟩⟩
             · rw [if_neg c65] at H
               have c65b0 : decide (a1_1 < ((rd_T24 l0_2 x9_1).f1)) = false := decide_eq_false c65
               clear c65
               by_cases c80 : x5_1.length < 2513169434916
               rotate_left
               · rw [if_neg c80] at H
                 exact absurd H (by simp)
               rw [if_pos c80] at H
               have LMc80 := A_ c80
               clear c80
               obtain ⟨y448, hy448⟩ : ∃ y_ : List (S24), y_ = (x5_1 ++ [(⟨((rd_T24 l0_2 x9_1).f0), ((rd_T24 l0_2 x9_1).f1), ((rd_T24 l0_2 x9_1).f2), ((rd_T24 l0_2 x9_1).f3), ((rd_T24 l0_2 x9_1).f4), ((rd_T24 l0_2 x9_1).f5)⟩ : S24)]) := ⟨_, rfl⟩
               replace H : (hopperref05_Put.l0 kj19 y448 false false (wrap64 (x9_1 + 1)) a0_0 a0_1 l0_2 a1_0 a1_1 a1_2 a1_3 a1_4 a1_5) = some (r1, r2, r3) := by first | (rw [hy448]; with_reducible exact H) | (have H2_ := (Option.bind_some _ _).symm.trans H; rw [hy448]; with_reducible exact H2_) | (have H2_ := (Option.bind_some _ _).symm.trans H; with_reducible exact H2_) | with_reducible exact H | (rw [hy448]; exact H) | exact H
               have Ny448 := A_ hy448
               clear hy448
               have H' := A_ H
               clear H; have hnb81 := NB432_417.out; have hnc81 := NB417_432.out; have hnb82 := NB432_418.out; have hnc82 := NB418_432.out; have hnb83 := NB432_419.out; have hnc83 := NB419_432.out; have hnb84 := NB432_427.out; have hnc84 := NB427_432.out; have hcz85_0 : wc.cell? ⟨gb432, 0, none⟩ = some (.int .i64 ((rd_T24 l0_2 x9_1).f0)) := e_ BK432 0; have hcz85_1 : wc.cell? ⟨gb432, 1, none⟩ = some (.int .i64 ((rd_T24 l0_2 x9_1).f1)) := e_ BK432 1; have hcz85_2 : wc.cell? ⟨gb432, 2, none⟩ = some (.int .i64 ((rd_T24 l0_2 x9_1).f2)) := e_ BK432 2; have hcz85_3 : wc.cell? ⟨gb432, 3, none⟩ = some (.int .i64 ((rd_T24 l0_2 x9_1).f3)) := e_ BK432 3; have hcz85_4 : wc.cell? ⟨gb432, 4, none⟩ = some (.int .i64 ((rd_T24 l0_2 x9_1).f4)) := e_ BK432 4; have hcz85_5 : wc.cell? ⟨gb432, 5, none⟩ = some (.string ((rd_T24 l0_2 x9_1).f5)) := e_ BK432 5; obtain ⟨hfz85_0, hfz85_1, hfz85_2, hfz85_3, hfz85_4, hfz85_5⟩ := z6_ BK432; have hnb86 := NB418_417.out; have hnc86 := NB417_418.out; have hnb87 := NB418_419.out; have hnc87 := NB419_418.out; have hnb88 := NB418_427.out; have hnc88 := NB427_418.out; have hcz89_0 : wc.cell? ⟨gb418, 0, none⟩ = some (.int .i64 a1_0) := e_ BK418 0; have hcz89_1 : wc.cell? ⟨gb418, 1, none⟩ = some (.int .i64 a1_1) := e_ BK418 1; have hcz89_2 : wc.cell? ⟨gb418, 2, none⟩ = some (.int .i64 a1_2) := e_ BK418 2; have hcz89_3 : wc.cell? ⟨gb418, 3, none⟩ = some (.int .i64 a1_3) := e_ BK418 3; have hcz89_4 : wc.cell? ⟨gb418, 4, none⟩ = some (.int .i64 a1_4) := e_ BK418 4; have hcz89_5 : wc.cell? ⟨gb418, 5, none⟩ = some (.string a1_5) := e_ BK418 5; obtain ⟨hfz89_0, hfz89_1, hfz89_2, hfz89_3, hfz89_4, hfz89_5⟩ := z6_ BK418
               go_wp2_with (first | ((with_reducible refine gate_builtin (b := .append) (xs := #[.tmp 60, .tmp 62]) rfl ?_); at_builtin; refine Kd.R_append k24 (w0 := w) w.heap.size rfl (.tmp 60) (.tmp 62) 22 24 (.agg #[(.int .i64 0), (.int .i64 0), (.int .i64 0), (.int .i64 0), (.int .i64 0), (.string ⟨#[]⟩)]) 56 rfl Try.underlying22 info24 rfl (by decide) (by omega) u5 x5_1 (⟨((rd_T24 l0_2 x9_1).f0), ((rd_T24 l0_2 x9_1).f1), ((rd_T24 l0_2 x9_1).f2), ((rd_T24 l0_2 x9_1).f3), ((rd_T24 l0_2 x9_1).f4), ((rd_T24 l0_2 x9_1).f5)⟩ : S24) [.int .i64 ((rd_T24 l0_2 x9_1).f0), .int .i64 ((rd_T24 l0_2 x9_1).f1), .int .i64 ((rd_T24 l0_2 x9_1).f2), .int .i64 ((rd_T24 l0_2 x9_1).f3), .int .i64 ((rd_T24 l0_2 x9_1).f4), .string ((rd_T24 l0_2 x9_1).f5)] (fun k_ => k_ ≠ gb418 ∧ k_ ≠ gb427 ∧ k_ ≠ gb432) (fun _ => False) rfl rfl ?aP (fun _ hk => hk.elim) ?aF ?aO ?aB ?aS ?aL ?_; (case aP => exact k24_mkM _ _ _ (⟨((rd_T24 l0_2 x9_1).f0), ((rd_T24 l0_2 x9_1).f1), ((rd_T24 l0_2 x9_1).f2), ((rd_T24 l0_2 x9_1).f3), ((rd_T24 l0_2 x9_1).f4), ((rd_T24 l0_2 x9_1).f5)⟩ : S24)); (case aB => exact bw_); (case aF => exact (fun k_ hk => ⟨Kd.freshB (g := gb418) (o := .cells #[.int .i64 a1_0, .int .i64 a1_1, .int .i64 a1_2, .int .i64 a1_3, .int .i64 a1_4, .string a1_5] 24 (0, 0)) (by (with_reducible repeat (first | refine bn_ ?_ _ | refine bd_ ?_ | refine ba_ ?_ _)); exact BK418.out) k_ hk, Kd.freshB (g := gb427) (o := .cells #[.int .i64 t420, .int .i64 t421, .int .i64 t422, .int .i64 t423, .int .i64 t424, .string t425] 24 (0, 0)) (by (with_reducible repeat (first | refine bn_ ?_ _ | refine bd_ ?_ | refine ba_ ?_ _)); exact BK427.out) k_ hk, Kd.freshB (g := gb432) (o := .cells #[.int .i64 ((rd_T24 l0_2 x9_1).f0), .int .i64 ((rd_T24 l0_2 x9_1).f1), .int .i64 ((rd_T24 l0_2 x9_1).f2), .int .i64 ((rd_T24 l0_2 x9_1).f3), .int .i64 ((rd_T24 l0_2 x9_1).f4), .string ((rd_T24 l0_2 x9_1).f5)] 24 (0, 0)) (by (with_reducible repeat (first | refine bn_ ?_ _ | refine bd_ ?_ | refine ba_ ?_ _)); exact BK432.out) k_ hk⟩)); (case aO => exact (pr_ HO_5.out)); (case aS => exact (below_size bw_)); (case aL => have := LMc80.out; omega); intro v449 w90 ho hb hg hat; rw [← Ny448.out] at ho; replace BK417 := A_ (blk_grown (g := gb417) (o := .cells #[.int .i64 a0_0, .int .i64 a0_1, .slice (some ad431) l0_2.length c0_2] 46 (0, 0)) (by (with_reducible repeat (first | refine bn_ ?_ _ | refine bd_ ?_ | refine ba_ ?_ _)); exact BK417.out) hg (Kd.R_ne HO_5.out BK417.out (by decide))); replace BK418 := A_ (blk_grown (g := gb418) (o := .cells #[.int .i64 a1_0, .int .i64 a1_1, .int .i64 a1_2, .int .i64 a1_3, .int .i64 a1_4, .string a1_5] 24 (0, 0)) (by (with_reducible repeat (first | refine bn_ ?_ _ | refine bd_ ?_ | refine ba_ ?_ _)); exact BK418.out) hg (Kd.R_away HO_5.out (fun _ hk => hk.1))); replace BK419 := A_ (blk_grown (g := gb419) (o := .cells #[.int .i64 0, .int .i64 0, .slice none 0 0] 46 (0, 0)) (by (with_reducible repeat (first | refine bn_ ?_ _ | refine bd_ ?_ | refine ba_ ?_ _)); exact BK419.out) hg (Kd.R_ne HO_5.out BK419.out (by decide))); replace BK427 := A_ (blk_grown (g := gb427) (o := .cells #[.int .i64 t420, .int .i64 t421, .int .i64 t422, .int .i64 t423, .int .i64 t424, .string t425] 24 (0, 0)) (by (with_reducible repeat (first | refine bn_ ?_ _ | refine bd_ ?_ | refine ba_ ?_ _)); exact BK427.out) hg (Kd.R_away HO_5.out (fun _ hk => hk.2.1))); replace BK432 := A_ (blk_grown (g := gb432) (o := .cells #[.int .i64 ((rd_T24 l0_2 x9_1).f0), .int .i64 ((rd_T24 l0_2 x9_1).f1), .int .i64 ((rd_T24 l0_2 x9_1).f2), .int .i64 ((rd_T24 l0_2 x9_1).f3), .int .i64 ((rd_T24 l0_2 x9_1).f4), .string ((rd_T24 l0_2 x9_1).f5)] 24 (0, 0)) (by (with_reducible repeat (first | refine bn_ ?_ _ | refine bd_ ?_ | refine ba_ ?_ _)); exact BK432.out) hg (Kd.R_away HO_5.out (fun _ hk => hk.2.2))); replace HB := A_ (hb); have HO450 := A_ (ho); clear HO_5; clear ho hb hg hat))
               go_roundg kj19
               case measure => have := HK1.out; have := HJ19.out; omega
               case rel => exact ⟨(y448), (false), (wrap64 (x9_1 + 1)), (by first | rfl | (simp; done) | (simp [*]; done)), (by first | rfl | (simp; done) | (simp [*]; done)), H', ⟨by have := HK1.out; have := HJ19.out; omega⟩, ⟨by (with_reducible repeat (first | apply ra_ | apply rn_ | apply rd_)); exact Kd.R_mono HO450.out (fun _ hk => ⟨hk.1, hk.2.1⟩)⟩, ⟨bk_⟩, ⟨bk_⟩, ⟨bk_⟩, ⟨bk_⟩, ⟨by repeat (first | (with_reducible first | exact HB.out | apply wa_ | apply wn_ | apply wd_ | refine ws_ ?_ GE417.out | refine ws_ ?_ GE418.out | refine ws_ ?_ GE419.out | refine ws_ ?_ GE427.out | refine ws_ ?_ GE432.out) | exact HB.out)⟩⟩
   · rw [if_neg c18] at H
     have c18b0 : decide (x9_1 < (l0_2.length : Int)) = false := decide_eq_false c18
     clear c18
     by_cases c91 : x6_1 = true
     · subst c91
       have H1 : (some (a0_0, a0_1, x5_1)) = some (r1, r2, r3) := by rw [if_pos rfl] at H; exact H
       clear H
       have H := H1
       clear H1
       simp only [Option.some.injEq, Prod.mk.injEq] at H
       obtain ⟨rfl, rfl, rfl⟩ := H
       have hnb92 := NB417_418.out; have hnc92 := NB418_417.out; have hnb93 := NB417_419.out; have hnc93 := NB419_417.out; have hnb94 := NB417_427.out; have hnc94 := NB427_417.out; have hcz95_0 : wr.cell? ⟨gb417, 0, none⟩ = some (.int .i64 a0_0) := e_ BK417 0; have hcz95_1 : wr.cell? ⟨gb417, 1, none⟩ = some (.int .i64 a0_1) := e_ BK417 1; have hcz95_2 : wr.cell? ⟨gb417, 2, none⟩ = some (.slice A0_2 l0_2.length c0_2) := e_ BK417 2; obtain ⟨hfz95_0, hfz95_1, hfz95_2⟩ := z3_ BK417
       obtain ⟨Ao96, co96, eo96⟩ := Kd.R_slice HO_5.out
       subst eo96
       have hnb97 := NB419_418.out; have hnc97 := NB418_419.out; have hnb98 := NB419_427.out; have hnc98 := NB427_419.out; have hcz99_0 : wr.cell? ⟨gb419, 0, none⟩ = some (.int .i64 0) := e_ BK419 0; have hcz99_1 : wr.cell? ⟨gb419, 1, none⟩ = some (.int .i64 0) := e_ BK419 1; have hcz99_2 : wr.cell? ⟨gb419, 2, none⟩ = some (.slice none 0 0) := e_ BK419 2; obtain ⟨hfz99_0, hfz99_1, hfz99_2⟩ := z3_ BK419
       go_wp2
       refine bodyPost_ret (results_cell_row rfl _ _ gb419 46 #[.int .i64 a0_0, .int .i64 a0_1, .slice Ao96 x5_1.length co96] (0, 0) _ rfl (by (with_reducible repeat (first | refine bn_ ?_ _ | refine bd_ ?_ | refine ba_ ?_ _)); refine blk_put (cs := #[.int .i64 a0_0, .int .i64 a0_1, .slice none 0 0]) ?_ 2 _ rfl; (with_reducible repeat (first | refine bn_ ?_ _ | refine bd_ ?_ | refine ba_ ?_ _)); refine blk_put (cs := #[.int .i64 a0_0, .int .i64 0, .slice none 0 0]) ?_ 1 _ rfl; (with_reducible repeat (first | refine bn_ ?_ _ | refine bd_ ?_ | refine ba_ ?_ _)); refine blk_put (cs := #[.int .i64 0, .int .i64 0, .slice none 0 0]) ?_ 0 _ rfl; (with_reducible repeat (first | refine bn_ ?_ _ | refine bd_ ?_ | refine ba_ ?_ _)); refine blk_far ?_ NB419_417.out _; (with_reducible repeat (first | refine bn_ ?_ _ | refine bd_ ?_ | refine ba_ ?_ _)); exact BK419.out) Try.underlying46 rfl (by kernel_rfl)) rfl ?_
       exact ⟨_, by first | rfl | (simp [errW_none, errW_some] <;> rfl) | (simp [*, errW_none, errW_some] <;> rfl), by (with_reducible repeat (first | apply ra_ | apply rn_ | apply rd_)); exact Kd.R_mono (Kd.R_far (p := ⟨gb419, 2, none⟩) (Kd.R_far (p := ⟨gb419, 1, none⟩) (Kd.R_far (p := ⟨gb419, 0, none⟩) (Kd.R_far (p := ⟨gb417, 2, none⟩) (Kd.R_types (Kd.R_types HO_5.out BK417.out (by decide)) BK419.out (by decide)) (fun _ hk => hk.1.2) (.slice Ao96 x5_1.length co96)) (fun _ hk => hk.2) (.int .i64 a0_0)) (fun _ hk => hk.2) (.int .i64 a0_1)) (fun _ hk => hk.2) (.slice Ao96 x5_1.length co96)) (fun _ hk => trivial), by repeat (first | (with_reducible first | exact HB.out | apply wa_ | apply wn_ | apply wd_ | refine ws_ ?_ GE417.out | refine ws_ ?_ GE418.out | refine ws_ ?_ GE419.out | refine ws_ ?_ GE427.out) | exact HB.out)⟩
     · replace c91 := Bool.eq_false_iff.mpr c91
       subst c91
       have H1 : (if x5_1.length < 2513169434916 then (some (a0_0, a0_1, (x5_1 ++ [(⟨a1_0, a1_1, a1_2, a1_3, a1_4, a1_5⟩ : S24)]))) else (none)) = some (r1, r2, r3) := by rw [if_neg (show ¬ (false = true) by decide)] at H; exact H
       clear H
       have H := H1
       clear H1
       by_cases c100 : x5_1.length < 2513169434916
       rotate_left
       · rw [if_neg c100] at H
         exact absurd H (by simp)

       rw [if_pos c100] at H
       have LMc100 := A_ c100
       clear c100
       obtain ⟨y428, hy428⟩ : ∃ y_ : List (S24), y_ = (x5_1 ++ [(⟨a1_0, a1_1, a1_2, a1_3, a1_4, a1_5⟩ : S24)]) := ⟨_, rfl⟩
       replace H : (some (a0_0, a0_1, y428)) = some (r1, r2, r3) := by first | (rw [hy428]; with_reducible exact H) | (have H2_ := (Option.bind_some _ _).symm.trans H; rw [hy428]; with_reducible exact H2_) | (have H2_ := (Option.bind_some _ _).symm.trans H; with_reducible exact H2_) | with_reducible exact H | (rw [hy428]; exact H) | exact H
       have Ny428 := A_ hy428
       clear hy428
       simp only [Option.some.injEq, Prod.mk.injEq] at H
       obtain ⟨rfl, rfl, rfl⟩ := H
       have hnb101 := NB417_418.out; have hnc101 := NB418_417.out; have hnb102 := NB417_419.out; have hnc102 := NB419_417.out; have hnb103 := NB417_427.out; have hnc103 := NB427_417.out; have hcz104_0 : wr.cell? ⟨gb417, 0, none⟩ = some (.int .i64 a0_0) := e_ BK417 0; have hcz104_1 : wr.cell? ⟨gb417, 1, none⟩ = some (.int .i64 a0_1) := e_ BK417 1; have hcz104_2 : wr.cell? ⟨gb417, 2, none⟩ = some (.slice A0_2 l0_2.length c0_2) := e_ BK417 2; obtain ⟨hfz104_0, hfz104_1, hfz104_2⟩ := z3_ BK417; have hnb105 := NB418_419.out; have hnc105 := NB419_418.out; have hnb106 := NB418_427.out; have hnc106 := NB427_418.out; have hcz107_0 : wr.cell? ⟨gb418, 0, none⟩ = some (.int .i64 a1_0) := e_ BK418 0; have hcz107_1 : wr.cell? ⟨gb418, 1, none⟩ = some (.int .i64 a1_1) := e_ BK418 1; have hcz107_2 : wr.cell? ⟨gb418, 2, none⟩ = some (.int .i64 a1_2) := e_ BK418 2; have hcz107_3 : wr.cell? ⟨gb418, 3, none⟩ = some (.int .i64 a1_3) := e_ BK418 3; have hcz107_4 : wr.cell? ⟨gb418, 4, none⟩ = some (.int .i64 a1_4) := e_ BK418 4; have hcz107_5 : wr.cell? ⟨gb418, 5, none⟩ = some (.string a1_5) := e_ BK418 5; obtain ⟨hfz107_0, hfz107_1, hfz107_2, hfz107_3, hfz107_4, hfz107_5⟩ := z6_ BK418
       go_wp2_with (first | ((with_reducible refine gate_builtin (b := .append) (xs := #[.tmp 66, .tmp 68]) rfl ?_); at_builtin; refine Kd.R_append k24 (w0 := w) w.heap.size rfl (.tmp 66) (.tmp 68) 22 24 (.agg #[(.int .i64 0), (.int .i64 0), (.int .i64 0), (.int .i64 0), (.int .i64 0), (.string ⟨#[]⟩)]) 56 rfl Try.underlying22 info24 rfl (by decide) (by omega) u5 x5_1 (⟨a1_0, a1_1, a1_2, a1_3, a1_4, a1_5⟩ : S24) [.int .i64 a1_0, .int .i64 a1_1, .int .i64 a1_2, .int .i64 a1_3, .int .i64 a1_4, .string a1_5] (fun k_ => k_ ≠ gb418 ∧ k_ ≠ gb427) (fun _ => False) rfl rfl ?aP (fun _ hk => hk.elim) ?aF ?aO ?aB ?aS ?aL ?_; (case aP => exact k24_mkM _ _ _ (⟨a1_0, a1_1, a1_2, a1_3, a1_4, a1_5⟩ : S24)); (case aB => exact bw_); (case aF => exact (fun k_ hk => ⟨Kd.freshB (g := gb418) (o := .cells #[.int .i64 a1_0, .int .i64 a1_1, .int .i64 a1_2, .int .i64 a1_3, .int .i64 a1_4, .string a1_5] 24 (0, 0)) (by (with_reducible repeat (first | refine bn_ ?_ _ | refine bd_ ?_ | refine ba_ ?_ _)); exact BK418.out) k_ hk, Kd.freshB (g := gb427) (o := .cells #[.int .i64 t420, .int .i64 t421, .int .i64 t422, .int .i64 t423, .int .i64 t424, .string t425] 24 (0, 0)) (by (with_reducible repeat (first | refine bn_ ?_ _ | refine bd_ ?_ | refine ba_ ?_ _)); exact BK427.out) k_ hk⟩)); (case aO => exact (pr_ HO_5.out)); (case aS => exact (below_size bw_)); (case aL => have := LMc100.out; omega); intro v429 w108 ho hb hg hat; rw [← Ny428.out] at ho; replace BK417 := A_ (blk_grown (g := gb417) (o := .cells #[.int .i64 a0_0, .int .i64 a0_1, .slice A0_2 l0_2.length c0_2] 46 (0, 0)) (by (with_reducible repeat (first | refine bn_ ?_ _ | refine bd_ ?_ | refine ba_ ?_ _)); exact BK417.out) hg (Kd.R_ne HO_5.out BK417.out (by decide))); replace BK418 := A_ (blk_grown (g := gb418) (o := .cells #[.int .i64 a1_0, .int .i64 a1_1, .int .i64 a1_2, .int .i64 a1_3, .int .i64 a1_4, .string a1_5] 24 (0, 0)) (by (with_reducible repeat (first | refine bn_ ?_ _ | refine bd_ ?_ | refine ba_ ?_ _)); exact BK418.out) hg (Kd.R_away HO_5.out (fun _ hk => hk.1))); replace BK419 := A_ (blk_grown (g := gb419) (o := .cells #[.int .i64 0, .int .i64 0, .slice none 0 0] 46 (0, 0)) (by (with_reducible repeat (first | refine bn_ ?_ _ | refine bd_ ?_ | refine ba_ ?_ _)); exact BK419.out) hg (Kd.R_ne HO_5.out BK419.out (by decide))); replace BK427 := A_ (blk_grown (g := gb427) (o := .cells #[.int .i64 t420, .int .i64 t421, .int .i64 t422, .int .i64 t423, .int .i64 t424, .string t425] 24 (0, 0)) (by (with_reducible repeat (first | refine bn_ ?_ _ | refine bd_ ?_ | refine ba_ ?_ _)); exact BK427.out) hg (Kd.R_away HO_5.out (fun _ hk => hk.2))); replace HB := A_ (hb); have HO430 := A_ (ho); clear HO_5; clear ho hb hg hat; obtain ⟨Ao109, co109, eo109⟩ := Kd.R_slice HO430.out; subst eo109; have hcz110_0 : w108.cell? ⟨gb417, 0, none⟩ = some (.int .i64 a0_0) := e_ BK417 0; have hcz110_1 : w108.cell? ⟨gb417, 1, none⟩ = some (.int .i64 a0_1) := e_ BK417 1; have hcz110_2 : w108.cell? ⟨gb417, 2, none⟩ = some (.slice A0_2 l0_2.length c0_2) := e_ BK417 2; obtain ⟨hfz110_0, hfz110_1, hfz110_2⟩ := z3_ BK417; have hnb111 := NB419_427.out; have hnc111 := NB427_419.out; have hcz112_0 : w108.cell? ⟨gb419, 0, none⟩ = some (.int .i64 0) := e_ BK419 0; have hcz112_1 : w108.cell? ⟨gb419, 1, none⟩ = some (.int .i64 0) := e_ BK419 1; have hcz112_2 : w108.cell? ⟨gb419, 2, none⟩ = some (.slice none 0 0) := e_ BK419 2; obtain ⟨hfz112_0, hfz112_1, hfz112_2⟩ := z3_ BK419))
       refine bodyPost_ret (results_cell_row rfl _ _ gb419 46 #[.int .i64 a0_0, .int .i64 a0_1, .slice Ao109 y428.length co109] (0, 0) _ rfl (by (with_reducible repeat (first | refine bn_ ?_ _ | refine bd_ ?_ | refine ba_ ?_ _)); refine blk_put (cs := #[.int .i64 a0_0, .int .i64 a0_1, .slice none 0 0]) ?_ 2 _ rfl; (with_reducible repeat (first | refine bn_ ?_ _ | refine bd_ ?_ | refine ba_ ?_ _)); refine blk_put (cs := #[.int .i64 a0_0, .int .i64 0, .slice none 0 0]) ?_ 1 _ rfl; (with_reducible repeat (first | refine bn_ ?_ _ | refine bd_ ?_ | refine ba_ ?_ _)); refine blk_put (cs := #[.int .i64 0, .int .i64 0, .slice none 0 0]) ?_ 0 _ rfl; (with_reducible repeat (first | refine bn_ ?_ _ | refine bd_ ?_ | refine ba_ ?_ _)); refine blk_far ?_ NB419_417.out _; (with_reducible repeat (first | refine bn_ ?_ _ | refine bd_ ?_ | refine ba_ ?_ _)); exact BK419.out) Try.underlying46 rfl (by kernel_rfl)) rfl ?_
       exact ⟨_, by first | rfl | (simp [errW_none, errW_some] <;> rfl) | (simp [*, errW_none, errW_some] <;> rfl), by (with_reducible repeat (first | apply ra_ | apply rn_ | apply rd_)); exact Kd.R_mono (Kd.R_far (p := ⟨gb419, 2, none⟩) (Kd.R_far (p := ⟨gb419, 1, none⟩) (Kd.R_far (p := ⟨gb419, 0, none⟩) (Kd.R_far (p := ⟨gb417, 2, none⟩) (Kd.R_types (Kd.R_types HO430.out BK417.out (by decide)) BK419.out (by decide)) (fun _ hk => hk.1.2) (.slice Ao109 y428.length co109)) (fun _ hk => hk.2) (.int .i64 a0_0)) (fun _ hk => hk.2) (.int .i64 a0_1)) (fun _ hk => hk.2) (.slice Ao109 y428.length co109)) (fun _ hk => trivial), by repeat (first | (with_reducible first | exact HB.out | apply wa_ | apply wn_ | apply wd_ | refine ws_ ?_ GE417.out | refine ws_ ?_ GE418.out | refine ws_ ?_ GE419.out | refine ws_ ?_ GE427.out) | exact HB.out)⟩
/-! ### hopperref05_Drop: function 66 -/
def hopperref05_Drop.l0 : Nat → Int → List (S24) → Int → Int → Int → List (S24) → Option (Int × Int × (List (S24)))
 | 0, _, _, _, _, _, _ => none
 | k + 1, x1, x5, x6, x452000, x452001, x452002 => if x6 < (x452002.length : Int) then (if 0 ≤ x6 then (if ((rd_T24 x452002 x6).f1) = x1 then (hopperref05_Drop.l0 k x1 x5 (wrap64 (x6 + 1)) x452000 x452001 x452002) else (if x5.length < 2513169434916 then (hopperref05_Drop.l0 k x1 (x5 ++ [(⟨(rd_T24 x452002 x6).f0, (rd_T24 x452002 x6).f1, (rd_T24 x452002 x6).f2, (rd_T24 x452002 x6).f3, (rd_T24 x452002 x6).f4, (rd_T24 x452002 x6).f5⟩ : S24)]) (wrap64 (x6 + 1)) x452000 x452001 x452002) else (none))) else (none)) else (some (x452000, x452001, x5))
def hopperref05_Drop.f (k : Nat) (a0_0 : Int) (a0_1 : Int) (l0_2 : List (S24)) (a1 : Int) : Option (Int × Int × (List (S24))) := hopperref05_Drop.l0 k a1 ([] : List (S24)) 0 a0_0 a0_1 l0_2
theorem hopperref05_Drop.mono_l : ∀ k, (∀ y0 y1 y2 y3 y4 y5, LeO (hopperref05_Drop.l0 k y0 y1 y2 y3 y4 y5) (hopperref05_Drop.l0 (k + 1) y0 y1 y2 y3 y4 y5))
 | 0 => fun _ _ _ _ _ _ r h => by simp [hopperref05_Drop.l0] at h
 | k + 1 => by
  have ih0 := hopperref05_Drop.mono_l k
  · intro y0 y1 y2 y3 y4 y5
    unfold hopperref05_Drop.l0
    repeat' first
    | (with_reducible exact ih0 _ _ _ _ _ _)
    | (with_reducible exact LeO.refl _)
    | (with_reducible exact LeO.none _)
    | (with_reducible refine LeO.ite ?_ ?_)
    | (with_reducible refine LeO.bind ?_ (fun _ => ?_))
    | exact ih0 _ _ _ _ _ _
    | exact LeO.none _
    | refine LeO.ite ?_ ?_
    | refine LeO.bind ?_ (fun _ => ?_)
theorem hopperref05_Drop.mono : ∀ a0 a1 a2 a3 k, LeO (hopperref05_Drop.f k a0 a1 a2 a3) (hopperref05_Drop.f (k + 1) a0 a1 a2 a3) := by
 intro a0 a1 a2 a3 k
 have ih0 := hopperref05_Drop.mono_l k
 unfold hopperref05_Drop.f
 repeat' first
  | (with_reducible exact ih0 _ _ _ _ _ _)
  | (with_reducible exact LeO.refl _)
  | (with_reducible exact LeO.none _)
  | (with_reducible refine LeO.ite ?_ ?_)
  | (with_reducible refine LeO.bind ?_ (fun _ => ?_))
  | exact ih0 _ _ _ _ _ _
  | exact LeO.none _
  | refine LeO.ite ?_ ?_
  | refine LeO.bind ?_ (fun _ => ?_)
set_option maxHeartbeats 8000000 in
set_option maxRecDepth 100000 in
theorem hopperref05_Drop.calls (k : Nat) (a0_0 : Int) (a0_1 : Int) (A0_2 : Option Addr) (c0_2 : Nat) (l0_2 : List (S24)) (a1 : Int) (r1 : Int) (r2 : Int) (r3 : List (S24)) (w : World) (hr0_2 : Kd.C k24 w A0_2 l0_2.length l0_2) (hc0_2 : l0_2.length ≤ c0_2) (h : hopperref05_Drop.f k a0_0 a0_1 l0_2 a1 = some (r1, r2, r3)) :
 Calls Try.prog 66 #[.agg #[.int .i64 a0_0, .int .i64 a0_1, .slice A0_2 l0_2.length c0_2], .int .i64 a1] w fun e w' => ∃ v2_ : Value, e = .returned (.agg #[.int .i64 r1, .int .i64 r2, v2_]) ∧ Kd.R k24 24 w' w.heap.size (fun _ => True) v2_ r3 ∧ Below w.heap.size w w' := by
 have hu46 := Try.underlying46
 have hu24 := Try.underlying24
 have HR0_2 := A_ hr0_2
 have HC0_2 := A_ hc0_2
 clear hr0_2 hc0_2; have HB := A_ (Below.refl w.heap.size w)
 have H : (hopperref05_Drop.l0 k a1 ([] : List (S24)) 0 a0_0 a0_1 l0_2) = some (r1, r2, r3) := h
 clear h
 have H' := A_ H
 clear H
 go_enter Try.func66, Try.ntmps66
 go_wp2_with (first | ((with_reducible refine gate_dst (N := 2) rfl ?_); refine box_event ?hg (N := 2) ?hd (cs := #[.int .i64 a0_0, .int .i64 a0_1, .slice A0_2 l0_2.length c0_2]) (t := 46) ?hr ?_; (case hd => rfl); (case hg => rfl); (case hr => first | (go_simp; done) | (go_simp; rfl)); intro gb451 hg w3 hbox hb; have n0_ := A_ (below_step bw_ hb); have n1_ := A_ (hbox); have n2_ := A_ (gz_ (w := w) hg); have n3_ := A_ (gz_ (w := w) hg); replace HB := n0_; have BK451 := n1_; have GW451 := n2_; have GE451 := n3_; clear n0_ n1_ n2_ n3_; clear hb hbox hg) | ((with_reducible refine gate_dst (N := 4) rfl ?_); refine box_event ?hg (N := 4) ?hd (cs := #[.int .i64 0, .int .i64 0, .slice none 0 0]) (t := 46) ?hr ?_; (case hd => rfl); (case hg => rfl); (case hr => first | (go_simp; done) | (go_simp; rfl)); intro gb452 hg w4 hbox hb; have n0_ := A_ (kb_ BK451 hb); have n1_ := A_ (below_step bw_ hb); have n2_ := A_ (hbox); have n3_ := A_ (gz_ (w := w) hg); have n4_ := A_ (gz_ (w := w) hg); have n5_ := A_ (nl_ BK451 hg); have n6_ := A_ (ng_ BK451 hg); replace BK451 := n0_; replace HB := n1_; have BK452 := n2_; have GW452 := n3_; have GE452 := n4_; have NB451_452 := n5_; have NB452_451 := n6_; clear n0_ n1_ n2_ n3_ n4_ n5_ n6_; clear hb hbox hg))
 go_loopg [5, 6] k (fun kq v5 v6 w' => ∃ (x5_1 : List (S24)) (x6_1 : Int), v6 = .int .i64 x6_1 ∧ Aside0 (hopperref05_Drop.l0 kq a1 x5_1 x6_1 a0_0 a0_1 l0_2 = some (r1, r2, r3)) ∧ Aside0 (kq ≤ k) ∧ Aside0 (Kd.R k24 24 w' w.heap.size (fun _ => True) v5 x5_1) ∧ Aside0 (w'.heap[gb451]? = some (.cells #[.int .i64 a0_0, .int .i64 a0_1, (.slice A0_2 l0_2.length c0_2)] 46 (0, 0))) ∧ Aside0 (w'.heap[gb452]? = some (.cells #[.int .i64 0, .int .i64 0, (.slice none 0 0)] 46 (0, 0))) ∧ Aside0 (Below w.heap.size w w'))
 case atStart => exact ⟨(([] : List (S24))), (0), (by first | rfl | (simp; done) | (simp [*]; done)), H', ⟨Nat.le_refl _⟩, ⟨by first | exact Kd.R_nil _ _ _ _ _ | exact Kd.N_nil _ _ _ _ _ | exact Kd.V_nil _ _ _ _ _ | exact Kd.Q_nil _ _ _ _ _ | exact Kd.S_nil _ _ _ _ _⟩, ⟨bk_⟩, ⟨bk_⟩, ⟨by repeat (first | (with_reducible first | exact HB.out | apply wa_ | apply wn_ | apply wd_ | refine ws_ ?_ GE451.out | refine ws_ ?_ GE452.out) | exact HB.out)⟩⟩
 case round =>
  clear H'; (try clear p2)
  obtain ⟨x5_1, x6_1, rfl, HA, HK1, HO_5, BK451, BK452, HB⟩ := hrel
  cases gk with
  | zero => exact absurd HA.out (by simp [hopperref05_Drop.l0])
  | succ k1 =>
   have H := HA.out
   clear HA
   simp only [hopperref05_Drop.l0] at H
   by_cases c5 : x6_1 < (l0_2.length : Int)
   · rw [if_pos c5] at H
     have c5b0 : decide (x6_1 < (l0_2.length : Int)) = true := decide_eq_true c5
     clear c5
     by_cases c6 : 0 ≤ x6_1
     rotate_left
     · rw [if_neg c6] at H
       exact absurd H (by simp)
     rw [if_pos c6] at H
     have c6b0 : decide (0 ≤ x6_1) = true := decide_eq_true c6
     clear c6
     by_cases c7 : ((rd_T24 l0_2 x6_1).f1) = a1
     · rw [if_pos c7] at H
       have c7b0 : (((rd_T24 l0_2 x6_1).f1) == a1) = true := beq_iff_eq.mpr c7
       have c7b1 : (((rd_T24 l0_2 x6_1).f1) != a1) = false := bne_eq_false_iff_eq.mpr c7
       clear c7
       have H' := A_ H
       clear H; have hnb8 := NB451_452.out; have hnc8 := NB452_451.out; have hcz9_0 : wr.cell? ⟨gb451, 0, none⟩ = some (.int .i64 a0_0) := e_ BK451 0; have hcz9_1 : wr.cell? ⟨gb451, 1, none⟩ = some (.int .i64 a0_1) := e_ BK451 1; have hcz9_2 : wr.cell? ⟨gb451, 2, none⟩ = some (.slice A0_2 l0_2.length c0_2) := e_ BK451 2; obtain ⟨hfz9_0, hfz9_1, hfz9_2⟩ := z3_ BK451
       have p453 : 0 ≤ (x6_1 : Int) := of_decide_eq_true (by first | (with_reducible assumption) | assumption)
       have q453 : x6_1 < (l0_2.length : Int) := of_decide_eq_true (by first | (with_reducible assumption) | assumption)
       obtain ⟨ad453, e453, hx453_0, hx453_1, hx453_2, hx453_3, hx453_4, hx453_5⟩ := at_T24 HR0_2.out x6_1 p453 q453
       cases e453
       replace hx453_0 := on_ HB.out hx453_0
       replace hx453_1 := on_ HB.out hx453_1
       replace hx453_2 := on_ HB.out hx453_2
       replace hx453_3 := on_ HB.out hx453_3
       replace hx453_4 := on_ HB.out hx453_4
       replace hx453_5 := on_ HB.out hx453_5
       replace p453 := eq_true p453
       replace q453 := eq_true q453
       go_wp2
       go_roundg k1
       case measure => have := HK1.out; omega
       case rel => exact ⟨(x5_1), (wrap64 (x6_1 + 1)), (by first | rfl | (simp; done) | (simp [*]; done)), H', ⟨by have := HK1.out; omega⟩, ⟨by (with_reducible repeat (first | apply ra_ | apply rn_ | apply rd_)); exact HO_5.out⟩, ⟨bk_⟩, ⟨bk_⟩, ⟨by repeat (first | (with_reducible first | exact HB.out | apply wa_ | apply wn_ | apply wd_ | refine ws_ ?_ GE451.out | refine ws_ ?_ GE452.out) | exact HB.out)⟩⟩
     · rw [if_neg c7] at H
       have c7b0 : (((rd_T24 l0_2 x6_1).f1) == a1) = false := beq_eq_false_iff_ne.mpr c7
       have c7b1 : (((rd_T24 l0_2 x6_1).f1) != a1) = true := bne_iff_ne.mpr c7
       by_cases c10 : x5_1.length < 2513169434916
       rotate_left
       · rw [if_neg c10] at H
         exact absurd H (by simp)
       rw [if_pos c10] at H
       have LMc10 := A_ c10
       clear c10
       obtain ⟨y455, hy455⟩ : ∃ y_ : List (S24), y_ = (x5_1 ++ [(⟨(rd_T24 l0_2 x6_1).f0, (rd_T24 l0_2 x6_1).f1, (rd_T24 l0_2 x6_1).f2, (rd_T24 l0_2 x6_1).f3, (rd_T24 l0_2 x6_1).f4, (rd_T24 l0_2 x6_1).f5⟩ : S24)]) := ⟨_, rfl⟩
       replace H : (hopperref05_Drop.l0 k1 a1 y455 (wrap64 (x6_1 + 1)) a0_0 a0_1 l0_2) = some (r1, r2, r3) := by first | (rw [hy455]; with_reducible exact H) | (have H2_ := (Option.bind_some _ _).symm.trans H; rw [hy455]; with_reducible exact H2_) | (have H2_ := (Option.bind_some _ _).symm.trans H; with_reducible exact H2_) | with_reducible exact H | (rw [hy455]; exact H) | exact H
       have Ny455 := A_ hy455
       clear hy455
       have H' := A_ H
       clear H; have hnb11 := NB451_452.out; have hnc11 := NB452_451.out; have hcz12_0 : wr.cell? ⟨gb451, 0, none⟩ = some (.int .i64 a0_0) := e_ BK451 0; have hcz12_1 : wr.cell? ⟨gb451, 1, none⟩ = some (.int .i64 a0_1) := e_ BK451 1; have hcz12_2 : wr.cell? ⟨gb451, 2, none⟩ = some (.slice A0_2 l0_2.length c0_2) := e_ BK451 2; obtain ⟨hfz12_0, hfz12_1, hfz12_2⟩ := z3_ BK451
       have p453 : 0 ≤ (x6_1 : Int) := of_decide_eq_true (by first | (with_reducible assumption) | assumption)
       have q453 : x6_1 < (l0_2.length : Int) := of_decide_eq_true (by first | (with_reducible assumption) | assumption)
       obtain ⟨ad453, e453, hx453_0, hx453_1, hx453_2, hx453_3, hx453_4, hx453_5⟩ := at_T24 HR0_2.out x6_1 p453 q453
       cases e453
       replace hx453_0 := on_ HB.out hx453_0
       replace hx453_1 := on_ HB.out hx453_1
       replace hx453_2 := on_ HB.out hx453_2
       replace hx453_3 := on_ HB.out hx453_3
       replace hx453_4 := on_ HB.out hx453_4
       replace hx453_5 := on_ HB.out hx453_5
       replace p453 := eq_true p453
       replace q453 := eq_true q453
       have p454 : 0 ≤ (x6_1 : Int) := of_decide_eq_true (by first | (with_reducible assumption) | assumption)
       have q454 : x6_1 < (l0_2.length : Int) := of_decide_eq_true (by first | (with_reducible assumption) | assumption)
       obtain ⟨ad454, e454, hx454_0, hx454_1, hx454_2, hx454_3, hx454_4, hx454_5⟩ := at_T24 HR0_2.out x6_1 p454 q454
       obtain rfl : ad453 = ad454 := (by injection e454)
       replace hx454_0 := on_ HB.out hx454_0
       replace hx454_1 := on_ HB.out hx454_1
       replace hx454_2 := on_ HB.out hx454_2
       replace hx454_3 := on_ HB.out hx454_3
       replace hx454_4 := on_ HB.out hx454_4
       replace hx454_5 := on_ HB.out hx454_5
       replace p454 := eq_true p454
       replace q454 := eq_true q454
       go_wp2_with (first | ((with_reducible refine gate_builtin (b := .append) (xs := #[.tmp 22, .tmp 28]) rfl ?_); at_builtin; refine Kd.R_append k24 (w0 := w) w.heap.size rfl (.tmp 22) (.tmp 28) 22 24 (.agg #[(.int .i64 0), (.int .i64 0), (.int .i64 0), (.int .i64 0), (.int .i64 0), (.string ⟨#[]⟩)]) 56 rfl Try.underlying22 info24 rfl (by decide) (by omega) u5 x5_1 (⟨(rd_T24 l0_2 x6_1).f0, (rd_T24 l0_2 x6_1).f1, (rd_T24 l0_2 x6_1).f2, (rd_T24 l0_2 x6_1).f3, (rd_T24 l0_2 x6_1).f4, (rd_T24 l0_2 x6_1).f5⟩ : S24) [.int .i64 ((rd_T24 l0_2 x6_1).f0), .int .i64 ((rd_T24 l0_2 x6_1).f1), .int .i64 ((rd_T24 l0_2 x6_1).f2), .int .i64 ((rd_T24 l0_2 x6_1).f3), .int .i64 ((rd_T24 l0_2 x6_1).f4), .string ((rd_T24 l0_2 x6_1).f5)] (fun _ => True) (fun _ => False) rfl rfl ?aP (fun _ hk => hk.elim) ?aF ?aO ?aB ?aS ?aL ?_; (case aP => exact k24_mkM _ _ _ (⟨(rd_T24 l0_2 x6_1).f0, (rd_T24 l0_2 x6_1).f1, (rd_T24 l0_2 x6_1).f2, (rd_T24 l0_2 x6_1).f3, (rd_T24 l0_2 x6_1).f4, (rd_T24 l0_2 x6_1).f5⟩ : S24)); (case aB => exact bw_); (case aF => exact (fun _ _ => trivial)); (case aO => exact (pr_ HO_5.out)); (case aS => exact (below_size bw_)); (case aL => have := LMc10.out; omega); intro v456 w13 ho hb hg hat; rw [← Ny455.out] at ho; replace BK451 := A_ (blk_grown (g := gb451) (o := .cells #[.int .i64 a0_0, .int .i64 a0_1, .slice (some ad453) l0_2.length c0_2] 46 (0, 0)) (by (with_reducible repeat (first | refine bn_ ?_ _ | refine bd_ ?_ | refine ba_ ?_ _)); exact BK451.out) hg (Kd.R_ne HO_5.out BK451.out (by decide))); replace BK452 := A_ (blk_grown (g := gb452) (o := .cells #[.int .i64 0, .int .i64 0, .slice none 0 0] 46 (0, 0)) (by (with_reducible repeat (first | refine bn_ ?_ _ | refine bd_ ?_ | refine ba_ ?_ _)); exact BK452.out) hg (Kd.R_ne HO_5.out BK452.out (by decide))); replace HB := A_ (hb); have HO457 := A_ (ho); clear HO_5; clear ho hb hg hat))
       go_roundg k1
       case measure => have := HK1.out; omega
       case rel => exact ⟨(y455), (wrap64 (x6_1 + 1)), (by first | rfl | (simp; done) | (simp [*]; done)), H', ⟨by have := HK1.out; omega⟩, ⟨by (with_reducible repeat (first | apply ra_ | apply rn_ | apply rd_)); exact HO457.out⟩, ⟨bk_⟩, ⟨bk_⟩, ⟨by repeat (first | (with_reducible first | exact HB.out | apply wa_ | apply wn_ | apply wd_ | refine ws_ ?_ GE451.out | refine ws_ ?_ GE452.out) | exact HB.out)⟩⟩
   · rw [if_neg c5] at H
     have c5b0 : decide (x6_1 < (l0_2.length : Int)) = false := decide_eq_false c5
     clear c5
     simp only [Option.some.injEq, Prod.mk.injEq] at H
     obtain ⟨rfl, rfl, rfl⟩ := H
     have hnb14 := NB451_452.out; have hnc14 := NB452_451.out; have hcz15_0 : wr.cell? ⟨gb451, 0, none⟩ = some (.int .i64 a0_0) := e_ BK451 0; have hcz15_1 : wr.cell? ⟨gb451, 1, none⟩ = some (.int .i64 a0_1) := e_ BK451 1; have hcz15_2 : wr.cell? ⟨gb451, 2, none⟩ = some (.slice A0_2 l0_2.length c0_2) := e_ BK451 2; obtain ⟨hfz15_0, hfz15_1, hfz15_2⟩ := z3_ BK451
     obtain ⟨Ao16, co16, eo16⟩ := Kd.R_slice HO_5.out
     subst eo16
     have hcz17_0 : wr.cell? ⟨gb452, 0, none⟩ = some (.int .i64 0) := e_ BK452 0; have hcz17_1 : wr.cell? ⟨gb452, 1, none⟩ = some (.int .i64 0) := e_ BK452 1; have hcz17_2 : wr.cell? ⟨gb452, 2, none⟩ = some (.slice none 0 0) := e_ BK452 2; obtain ⟨hfz17_0, hfz17_1, hfz17_2⟩ := z3_ BK452
     go_wp2
     refine bodyPost_ret (results_cell_row rfl _ _ gb452 46 #[.int .i64 a0_0, .int .i64 a0_1, .slice Ao16 x5_1.length co16] (0, 0) _ rfl (by (with_reducible repeat (first | refine bn_ ?_ _ | refine bd_ ?_ | refine ba_ ?_ _)); refine blk_put (cs := #[.int .i64 a0_0, .int .i64 a0_1, .slice none 0 0]) ?_ 2 _ rfl; (with_reducible repeat (first | refine bn_ ?_ _ | refine bd_ ?_ | refine ba_ ?_ _)); refine blk_put (cs := #[.int .i64 a0_0, .int .i64 0, .slice none 0 0]) ?_ 1 _ rfl; (with_reducible repeat (first | refine bn_ ?_ _ | refine bd_ ?_ | refine ba_ ?_ _)); refine blk_put (cs := #[.int .i64 0, .int .i64 0, .slice none 0 0]) ?_ 0 _ rfl; (with_reducible repeat (first | refine bn_ ?_ _ | refine bd_ ?_ | refine ba_ ?_ _)); refine blk_far ?_ NB452_451.out _; (with_reducible repeat (first | refine bn_ ?_ _ | refine bd_ ?_ | refine ba_ ?_ _)); exact BK452.out) Try.underlying46 rfl (by kernel_rfl)) rfl ?_
     exact ⟨_, by first | rfl | (simp [errW_none, errW_some] <;> rfl) | (simp [*, errW_none, errW_some] <;> rfl), by (with_reducible repeat (first | apply ra_ | apply rn_ | apply rd_)); exact Kd.R_mono (Kd.R_far (p := ⟨gb452, 2, none⟩) (Kd.R_far (p := ⟨gb452, 1, none⟩) (Kd.R_far (p := ⟨gb452, 0, none⟩) (Kd.R_far (p := ⟨gb451, 2, none⟩) (Kd.R_types (Kd.R_types HO_5.out BK451.out (by decide)) BK452.out (by decide)) (fun _ hk => hk.1.2) (.slice Ao16 x5_1.length co16)) (fun _ hk => hk.2) (.int .i64 a0_0)) (fun _ hk => hk.2) (.int .i64 a0_1)) (fun _ hk => hk.2) (.slice Ao16 x5_1.length co16)) (fun _ hk => trivial), by repeat (first | (with_reducible first | exact HB.out | apply wa_ | apply wn_ | apply wd_ | refine ws_ ?_ GE451.out | refine ws_ ?_ GE452.out) | exact HB.out)⟩

end Go.Proofs.Ytehncbhmdgdkjaa.Q
