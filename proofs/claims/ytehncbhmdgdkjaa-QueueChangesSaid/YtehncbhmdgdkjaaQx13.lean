/- Written by this session's own program over the kit's print: functions of Go told as plain functions, or the row of one statement; proved for every input, with no condition of ours. -/
import Derived.Test.YtehncbhmdgdkjaaQx0
import Derived.Test.YtehncbhmdgdkjaaQx2
import Derived.Test.YtehncbhmdgdkjaaQx3
import Derived.Test.YtehncbhmdgdkjaaQx11
import Derived.Test.YtehncbhmdgdkjaaQx12
namespace Go.Proofs.Ytehncbhmdgdkjaa.Q
open Go.RowKit Go.Proofs.YtehncbhmdgdkjaaW.PrintWords Go.Proofs.YtehncbhmdgdkjaaW.PrintLast Go.Proofs.YtehncbhmdgdkjaaW.PrintMore
attribute [local go_sem] max2_int min2_int max_two min_two max_three min_three max_four min_four   -- for this text's walks alone
set_option linter.unusedVariables false
set_option linter.unusedSimpArgs false

/-! ### hopperref05_Place: function 59 -/
mutual
def hopperref05_Place.j0 : Nat → Int → Int → Bool → Int → Int → List (S24) → Int → Int → Int → Int → Int → ByteArray → Option (Int × Int)
 | 0, _, _, _, _, _, _, _, _, _, _, _, _ => none
 | k + 1, x2, x3, x37, x387000, x387001, x387002, x388000, x388001, x388002, x388003, x388004, x388005 => if x37 = true then (some (0, 1)) else (if x388001 < x387001 then (some (0, 3)) else ((hopperref05_Find.f k x387000 x387001 x387002 x388001).bind fun bt390 => (if bt390.2.2.2.2.2.2 = true then ((hopperref01_Raise.f k bt390.2.2.1 x3).bind fun bt398 => (if bt398.2 = true then (hopperref05_Place.j1 k (decide (x388002 < bt398.1)) x388000 x388001 x388002 x388003 x388004 x388005 bt390.1 bt390.2.1 bt390.2.2.1 bt390.2.2.2.1 bt390.2.2.2.2.1 bt390.2.2.2.2.2.1) else (hopperref05_Place.j1 k true x388000 x388001 x388002 x388003 x388004 x388005 bt390.1 bt390.2.1 bt390.2.2.1 bt390.2.2.2.1 bt390.2.2.2.2.1 bt390.2.2.2.2.2.1))) else (if (x387002.length : Int) ≥ x2 then (some (0, 5)) else ((hopperref04_Slots.f k x388000 x388001 x388002 x388003 x388004 x388005).bind fun t402 => (some (t402, 0)))))))
def hopperref05_Place.j1 : Nat → Bool → Int → Int → Int → Int → Int → ByteArray → Int → Int → Int → Int → Int → ByteArray → Option (Int × Int)
 | 0, _, _, _, _, _, _, _, _, _, _, _, _, _ => none
 | k + 1, x65, x388000, x388001, x388002, x388003, x388004, x388005, x398000, x398001, x398002, x398003, x398004, x398005 => if x65 = true then (some (0, 4)) else ((hopperref04_Slots.f k x388000 x388001 x388002 x388003 x388004 x388005).bind fun t400 => ((hopperref04_Slots.f k x398000 x398001 x398002 x398003 x398004 x398005).bind fun t401 => (some (wrap64 (t400 - t401), 0))))
end
def hopperref05_Place.f (k : Nat) (a0_0 : Int) (a0_1 : Int) (l0_2 : List (S24)) (a1_0 : Int) (a1_1 : Int) (a1_2 : Int) (a1_3 : Int) (a1_4 : Int) (a1_5 : ByteArray) (a2 : Int) (a3 : Int) : Option (Int × Int) := (hopperref05_Check.f k a0_0 a0_1 l0_2 a2).bind fun t388 => (if t388 = true then ((hopperref04_Check.f a1_0 a1_1 a1_2 a1_3 a1_4 a1_5).bind fun t389 => (if t389 = true then (if a1_0 = a0_0 then (if a3 < 0 then (hopperref05_Place.j0 k a2 a3 true a0_0 a0_1 l0_2 a1_0 a1_1 a1_2 a1_3 a1_4 a1_5) else (hopperref05_Place.j0 k a2 a3 (decide (a3 > 100)) a0_0 a0_1 l0_2 a1_0 a1_1 a1_2 a1_3 a1_4 a1_5)) else (hopperref05_Place.j0 k a2 a3 true a0_0 a0_1 l0_2 a1_0 a1_1 a1_2 a1_3 a1_4 a1_5)) else (hopperref05_Place.j0 k a2 a3 true a0_0 a0_1 l0_2 a1_0 a1_1 a1_2 a1_3 a1_4 a1_5))) else (hopperref05_Place.j0 k a2 a3 true a0_0 a0_1 l0_2 a1_0 a1_1 a1_2 a1_3 a1_4 a1_5))
theorem hopperref05_Place.mono_l : ∀ k, (∀ y0 y1 y2 y3 y4 y5 y6 y7 y8 y9 y10 y11, LeO (hopperref05_Place.j0 k y0 y1 y2 y3 y4 y5 y6 y7 y8 y9 y10 y11) (hopperref05_Place.j0 (k + 1) y0 y1 y2 y3 y4 y5 y6 y7 y8 y9 y10 y11)) ∧ (∀ y0 y1 y2 y3 y4 y5 y6 y7 y8 y9 y10 y11 y12, LeO (hopperref05_Place.j1 k y0 y1 y2 y3 y4 y5 y6 y7 y8 y9 y10 y11 y12) (hopperref05_Place.j1 (k + 1) y0 y1 y2 y3 y4 y5 y6 y7 y8 y9 y10 y11 y12))
 | 0 => ⟨fun _ _ _ _ _ _ _ _ _ _ _ _ r h => by simp [hopperref05_Place.j0] at h, fun _ _ _ _ _ _ _ _ _ _ _ _ _ r h => by simp [hopperref05_Place.j1] at h⟩
 | k + 1 => by
  obtain ⟨ih0, ih1⟩ := hopperref05_Place.mono_l k
  refine ⟨?_, ?_⟩
  · intro y0 y1 y2 y3 y4 y5 y6 y7 y8 y9 y10 y11
    unfold hopperref05_Place.j0
    repeat' first
    | (with_reducible exact ih0 _ _ _ _ _ _ _ _ _ _ _ _)
    | (with_reducible exact ih1 _ _ _ _ _ _ _ _ _ _ _ _ _)
    | (with_reducible exact hopperref01_Raise.mono _ _ _)
    | (with_reducible exact hopperref04_Slots.mono _ _ _ _ _ _ _)
    | (with_reducible exact hopperref05_Check.mono _ _ _ _ _)
    | (with_reducible exact hopperref05_Find.mono _ _ _ _ _)
    | (with_reducible exact LeO.refl _)
    | (with_reducible exact LeO.none _)
    | (with_reducible refine LeO.ite ?_ ?_)
    | (with_reducible refine LeO.bind ?_ (fun _ => ?_))
    | exact ih0 _ _ _ _ _ _ _ _ _ _ _ _
    | exact ih1 _ _ _ _ _ _ _ _ _ _ _ _ _
    | exact hopperref01_Raise.mono _ _ _
    | exact hopperref04_Slots.mono _ _ _ _ _ _ _
    | exact hopperref05_Check.mono _ _ _ _ _
    | exact hopperref05_Find.mono _ _ _ _ _
    | exact LeO.none _
    | refine LeO.ite ?_ ?_
    | refine LeO.bind ?_ (fun _ => ?_)
  · intro y0 y1 y2 y3 y4 y5 y6 y7 y8 y9 y10 y11 y12
    unfold hopperref05_Place.j1
    repeat' first
    | (with_reducible exact ih0 _ _ _ _ _ _ _ _ _ _ _ _)
    | (with_reducible exact ih1 _ _ _ _ _ _ _ _ _ _ _ _ _)
    | (with_reducible exact hopperref01_Raise.mono _ _ _)
    | (with_reducible exact hopperref04_Slots.mono _ _ _ _ _ _ _)
    | (with_reducible exact hopperref05_Check.mono _ _ _ _ _)
    | (with_reducible exact hopperref05_Find.mono _ _ _ _ _)
    | (with_reducible exact LeO.refl _)
    | (with_reducible exact LeO.none _)
    | (with_reducible refine LeO.ite ?_ ?_)
    | (with_reducible refine LeO.bind ?_ (fun _ => ?_))
    | exact ih0 _ _ _ _ _ _ _ _ _ _ _ _
    | exact ih1 _ _ _ _ _ _ _ _ _ _ _ _ _
    | exact hopperref01_Raise.mono _ _ _
    | exact hopperref04_Slots.mono _ _ _ _ _ _ _
    | exact hopperref05_Check.mono _ _ _ _ _
    | exact hopperref05_Find.mono _ _ _ _ _
    | exact LeO.none _
    | refine LeO.ite ?_ ?_
    | refine LeO.bind ?_ (fun _ => ?_)
theorem hopperref05_Place.mono : ∀ a0 a1 a2 a3 a4 a5 a6 a7 a8 a9 a10 k, LeO (hopperref05_Place.f k a0 a1 a2 a3 a4 a5 a6 a7 a8 a9 a10) (hopperref05_Place.f (k + 1) a0 a1 a2 a3 a4 a5 a6 a7 a8 a9 a10) := by
 intro a0 a1 a2 a3 a4 a5 a6 a7 a8 a9 a10 k
 obtain ⟨ih0, ih1⟩ := hopperref05_Place.mono_l k
 unfold hopperref05_Place.f
 repeat' first
  | (with_reducible exact ih0 _ _ _ _ _ _ _ _ _ _ _ _)
  | (with_reducible exact ih1 _ _ _ _ _ _ _ _ _ _ _ _ _)
  | (with_reducible exact hopperref01_Raise.mono _ _ _)
  | (with_reducible exact hopperref04_Slots.mono _ _ _ _ _ _ _)
  | (with_reducible exact hopperref05_Check.mono _ _ _ _ _)
  | (with_reducible exact hopperref05_Find.mono _ _ _ _ _)
  | (with_reducible exact LeO.refl _)
  | (with_reducible exact LeO.none _)
  | (with_reducible refine LeO.ite ?_ ?_)
  | (with_reducible refine LeO.bind ?_ (fun _ => ?_))
  | exact ih0 _ _ _ _ _ _ _ _ _ _ _ _
  | exact ih1 _ _ _ _ _ _ _ _ _ _ _ _ _
  | exact hopperref01_Raise.mono _ _ _
  | exact hopperref04_Slots.mono _ _ _ _ _ _ _
  | exact hopperref05_Check.mono _ _ _ _ _
  | exact hopperref05_Find.mono _ _ _ _ _
  | exact LeO.none _
  | refine LeO.ite ?_ ?_
  | refine LeO.bind ?_ (fun _ => ?_)
set_option maxHeartbeats 8000000 in
set_option maxRecDepth 100000 in
theorem hopperref05_Place.calls (k : Nat) (a0_0 : Int) (a0_1 : Int) (A0_2 : Option Addr) (c0_2 : Nat) (l0_2 : List (S24)) (a1_0 : Int) (a1_1 : Int) (a1_2 : Int) (a1_3 : Int) (a1_4 : Int) (a1_5 : ByteArray) (a2 : Int) (a3 : Int) (r1 : Int) (r2 : Int) (w : World) (hr0_2 : Kd.C k24 w A0_2 l0_2.length l0_2) (hc0_2 : l0_2.length ≤ c0_2) (h : hopperref05_Place.f k a0_0 a0_1 l0_2 a1_0 a1_1 a1_2 a1_3 a1_4 a1_5 a2 a3 = some (r1, r2)) :
 Calls Try.prog 59 #[.agg #[.int .i64 a0_0, .int .i64 a0_1, .slice A0_2 l0_2.length c0_2], .agg #[.int .i64 a1_0, .int .i64 a1_1, .int .i64 a1_2, .int .i64 a1_3, .int .i64 a1_4, .string a1_5], .int .i64 a2, .int .i64 a3] w fun e w' => e = .returned (.tuple #[.int .i64 r1, .int .i64 r2]) ∧ Below w.heap.size w w' := by
 have hu46 := Try.underlying46
 have hu24 := Try.underlying24
 have HR0_2 := A_ hr0_2
 have HC0_2 := A_ hc0_2
 clear hr0_2 hc0_2; have HB := A_ (Below.refl w.heap.size w)
 have H : ((hopperref05_Check.f k a0_0 a0_1 l0_2 a2).bind fun t388 => (if t388 = true then ((hopperref04_Check.f a1_0 a1_1 a1_2 a1_3 a1_4 a1_5).bind fun t389 => (if t389 = true then (if a1_0 = a0_0 then (if a3 < 0 then (hopperref05_Place.j0 k a2 a3 true a0_0 a0_1 l0_2 a1_0 a1_1 a1_2 a1_3 a1_4 a1_5) else (hopperref05_Place.j0 k a2 a3 (decide (a3 > 100)) a0_0 a0_1 l0_2 a1_0 a1_1 a1_2 a1_3 a1_4 a1_5)) else (hopperref05_Place.j0 k a2 a3 true a0_0 a0_1 l0_2 a1_0 a1_1 a1_2 a1_3 a1_4 a1_5)) else (hopperref05_Place.j0 k a2 a3 true a0_0 a0_1 l0_2 a1_0 a1_1 a1_2 a1_3 a1_4 a1_5))) else (hopperref05_Place.j0 k a2 a3 true a0_0 a0_1 l0_2 a1_0 a1_1 a1_2 a1_3 a1_4 a1_5))) = some (r1, r2) := h
 clear h
 have HC5 := A_ H
 clear H
 go_enter Try.func59, Try.ntmps59
 go_upto_region 1 with (first | ((with_reducible refine gate_dst (N := 4) rfl ?_); refine box_event ?hg (N := 4) ?hd (cs := #[.int .i64 a0_0, .int .i64 a0_1, .slice A0_2 l0_2.length c0_2]) (t := 46) ?hr ?_; (case hd => rfl); (case hg => rfl); (case hr => first | (go_simp; done) | (go_simp; rfl)); intro gb386 hg w6 hbox hb; have n0_ := A_ (below_step bw_ hb); have n1_ := A_ (hbox); have n2_ := A_ (gz_ (w := w) hg); have n3_ := A_ (gz_ (w := w) hg); replace HB := n0_; have BK386 := n1_; have GW386 := n2_; have GE386 := n3_; clear n0_ n1_ n2_ n3_; clear hb hbox hg) | ((with_reducible refine gate_dst (N := 5) rfl ?_); refine box_event ?hg (N := 5) ?hd (cs := #[.int .i64 a1_0, .int .i64 a1_1, .int .i64 a1_2, .int .i64 a1_3, .int .i64 a1_4, .string a1_5]) (t := 24) ?hr ?_; (case hd => rfl); (case hg => rfl); (case hr => first | (go_simp; done) | (go_simp; rfl)); intro gb387 hg w7 hbox hb; have n0_ := A_ (kb_ BK386 hb); have n1_ := A_ (below_step bw_ hb); have n2_ := A_ (hbox); have n3_ := A_ (gz_ (w := w) hg); have n4_ := A_ (gz_ (w := w) hg); have n5_ := A_ (nl_ BK386 hg); have n6_ := A_ (ng_ BK386 hg); replace BK386 := n0_; replace HB := n1_; have BK387 := n2_; have GW387 := n3_; have GE387 := n4_; have NB386_387 := n5_; have NB387_386 := n6_; clear n0_ n1_ n2_ n3_ n4_ n5_ n6_; clear hb hbox hg))
 (try simp only [Act.put, s0_, s1_, s2_])
 go_cut [37] (fun v37 wc => ∃ (kq : Nat) (x37_4 : Bool), v37 = .bool x37_4 ∧ Aside0 (hopperref05_Place.j0 kq a2 a3 x37_4 a0_0 a0_1 l0_2 a1_0 a1_1 a1_2 a1_3 a1_4 a1_5 = some (r1, r2)) ∧ Aside0 (kq ≤ k) ∧ Aside0 (wc.heap[gb386]? = some (.cells #[.int .i64 a0_0, .int .i64 a0_1, (.slice A0_2 l0_2.length c0_2)] 46 (0, 0))) ∧ Aside0 (wc.heap[gb387]? = some (.cells #[.int .i64 a1_0, .int .i64 a1_1, .int .i64 a1_2, .int .i64 a1_3, .int .i64 a1_4, .string a1_5] 24 (0, 0))) ∧ Aside0 (Below w.heap.size w wc))
 case first =>
  have H := HC5.out
  clear HC5
  replace H := Option.bind_eq_some_iff.mp H
  obtain ⟨t388, A80, H⟩ := H
  replace H : (if t388 = true then ((hopperref04_Check.f a1_0 a1_1 a1_2 a1_3 a1_4 a1_5).bind fun t389 => (if t389 = true then (if a1_0 = a0_0 then (if a3 < 0 then (hopperref05_Place.j0 k a2 a3 true a0_0 a0_1 l0_2 a1_0 a1_1 a1_2 a1_3 a1_4 a1_5) else (hopperref05_Place.j0 k a2 a3 (decide (a3 > 100)) a0_0 a0_1 l0_2 a1_0 a1_1 a1_2 a1_3 a1_4 a1_5)) else (hopperref05_Place.j0 k a2 a3 true a0_0 a0_1 l0_2 a1_0 a1_1 a1_2 a1_3 a1_4 a1_5)) else (hopperref05_Place.j0 k a2 a3 true a0_0 a0_1 l0_2 a1_0 a1_1 a1_2 a1_3 a1_4 a1_5))) else (hopperref05_Place.j0 k a2 a3 true a0_0 a0_1 l0_2 a1_0 a1_1 a1_2 a1_3 a1_4 a1_5)) = some (r1, r2) := H
  have A8 := A_ A80
  clear A80
  by_cases c9 : t388 = true
  · subst c9
    have H1 : ((hopperref04_Check.f a1_0 a1_1 a1_2 a1_3 a1_4 a1_5).bind fun t389 => (if t389 = true then (if a1_0 = a0_0 then (if a3 < 0 then (hopperref05_Place.j0 k a2 a3 true a0_0 a0_1 l0_2 a1_0 a1_1 a1_2 a1_3 a1_4 a1_5) else (hopperref05_Place.j0 k a2 a3 (decide (a3 > 100)) a0_0 a0_1 l0_2 a1_0 a1_1 a1_2 a1_3 a1_4 a1_5)) else (hopperref05_Place.j0 k a2 a3 true a0_0 a0_1 l0_2 a1_0 a1_1 a1_2 a1_3 a1_4 a1_5)) else (hopperref05_Place.j0 k a2 a3 true a0_0 a0_1 l0_2 a1_0 a1_1 a1_2 a1_3 a1_4 a1_5))) = some (r1, r2) := by rw [if_pos rfl] at H; exact H
    clear H
    have H := H1
    clear H1
    replace H := Option.bind_eq_some_iff.mp H
    obtain ⟨t389, A100, H⟩ := H
    replace H : (if t389 = true then (if a1_0 = a0_0 then (if a3 < 0 then (hopperref05_Place.j0 k a2 a3 true a0_0 a0_1 l0_2 a1_0 a1_1 a1_2 a1_3 a1_4 a1_5) else (hopperref05_Place.j0 k a2 a3 (decide (a3 > 100)) a0_0 a0_1 l0_2 a1_0 a1_1 a1_2 a1_3 a1_4 a1_5)) else (hopperref05_Place.j0 k a2 a3 true a0_0 a0_1 l0_2 a1_0 a1_1 a1_2 a1_3 a1_4 a1_5)) else (hopperref05_Place.j0 k a2 a3 true a0_0 a0_1 l0_2 a1_0 a1_1 a1_2 a1_3 a1_4 a1_5)) = some (r1, r2) := H
    have A10 := A_ A100
    clear A100
    by_cases c11 : t389 = true
    · subst c11
      have H1 : (if a1_0 = a0_0 then (if a3 < 0 then (hopperref05_Place.j0 k a2 a3 true a0_0 a0_1 l0_2 a1_0 a1_1 a1_2 a1_3 a1_4 a1_5) else (hopperref05_Place.j0 k a2 a3 (decide (a3 > 100)) a0_0 a0_1 l0_2 a1_0 a1_1 a1_2 a1_3 a1_4 a1_5)) else (hopperref05_Place.j0 k a2 a3 true a0_0 a0_1 l0_2 a1_0 a1_1 a1_2 a1_3 a1_4 a1_5)) = some (r1, r2) := by rw [if_pos rfl] at H; exact H
      clear H
      have H := H1
      clear H1
      by_cases c12 : a1_0 = a0_0
      · rw [if_pos c12] at H
        have c12b0 : (a1_0 == a0_0) = true := beq_iff_eq.mpr c12
        have c12b1 : (a1_0 != a0_0) = false := bne_eq_false_iff_eq.mpr c12
        clear c12
        (first | rw [c12b0] | (simp only [i64_w, i32_w]; rw [c12b0]) | skip)
        by_cases c13 : a3 < 0
        · rw [if_pos c13] at H
          have c13b0 : decide (a3 < 0) = true := decide_eq_true c13
          clear c13
          have H' := A_ H
          clear H; have hnb14 := NB386_387.out; have hnc14 := NB387_386.out; have hcz15_0 : w7.cell? ⟨gb386, 0, none⟩ = some (.int .i64 a0_0) := e_ BK386 0; have hcz15_1 : w7.cell? ⟨gb386, 1, none⟩ = some (.int .i64 a0_1) := e_ BK386 1; have hcz15_2 : w7.cell? ⟨gb386, 2, none⟩ = some (.slice A0_2 l0_2.length c0_2) := e_ BK386 2; obtain ⟨hfz15_0, hfz15_1, hfz15_2⟩ := z3_ BK386
          go_wp2_with (first | ((with_reducible refine gate_callee (f := 47) rfl ?_); refine goesL_ (some 16) rfl rfl Try.func47 (by kernel_rfl) rfl #[.agg #[.int .i64 a0_0, .int .i64 a0_1, .slice A0_2 l0_2.length c0_2], .int .i64 a2] rfl (by (try simp only [m0_, m1_, m2_]); first | done | rfl) ?_; (with_reducible refine (hopperref05_Check.calls k a0_0 a0_1 _ _ l0_2 a2 true _ ?side1 ?side2 A8.out).mono ?_); (case side1 => repeat (first | exact (Kd.C_below HR0_2.out HB.out) | (with_reducible refine ca_ ?_ _) | (with_reducible refine cn_ ?_ _) | (with_reducible refine cd_ ?_))); (case side2 => exact HC0_2.out); rintro e w16 ⟨rfl, hb⟩; refine ⟨_, rfl, ?_⟩; replace BK386 := A_ (kb_ BK386 hb); replace BK387 := A_ (kb_ BK387 hb); replace HB := A_ (below_step bw_ hb); (try clear hb); (try clear hb2); (try clear hk); (try clear hi); have hcz17_0 : w16.cell? ⟨gb387, 0, none⟩ = some (.int .i64 a1_0) := e_ BK387 0; have hcz17_1 : w16.cell? ⟨gb387, 1, none⟩ = some (.int .i64 a1_1) := e_ BK387 1; have hcz17_2 : w16.cell? ⟨gb387, 2, none⟩ = some (.int .i64 a1_2) := e_ BK387 2; have hcz17_3 : w16.cell? ⟨gb387, 3, none⟩ = some (.int .i64 a1_3) := e_ BK387 3; have hcz17_4 : w16.cell? ⟨gb387, 4, none⟩ = some (.int .i64 a1_4) := e_ BK387 4; have hcz17_5 : w16.cell? ⟨gb387, 5, none⟩ = some (.string a1_5) := e_ BK387 5; obtain ⟨hfz17_0, hfz17_1, hfz17_2, hfz17_3, hfz17_4, hfz17_5⟩ := z6_ BK387) | (go_at_call 67; (with_reducible refine (hopperref04_Check.calls a1_0 a1_1 a1_2 a1_3 a1_4 a1_5 true _ A10.out).mono ?_); rintro e w18 ⟨rfl, hb⟩; replace BK386 := A_ (kb_ BK386 hb); replace BK387 := A_ (kb_ BK387 hb); replace HB := A_ (below_step bw_ hb); (try clear hb); (try clear hb2); (try clear hk); (try clear hi); have hcz19_0 : w18.cell? ⟨gb387, 0, none⟩ = some (.int .i64 a1_0) := e_ BK387 0; have hcz19_1 : w18.cell? ⟨gb387, 1, none⟩ = some (.int .i64 a1_1) := e_ BK387 1; have hcz19_2 : w18.cell? ⟨gb387, 2, none⟩ = some (.int .i64 a1_2) := e_ BK387 2; have hcz19_3 : w18.cell? ⟨gb387, 3, none⟩ = some (.int .i64 a1_3) := e_ BK387 3; have hcz19_4 : w18.cell? ⟨gb387, 4, none⟩ = some (.int .i64 a1_4) := e_ BK387 4; have hcz19_5 : w18.cell? ⟨gb387, 5, none⟩ = some (.string a1_5) := e_ BK387 5; obtain ⟨hfz19_0, hfz19_1, hfz19_2, hfz19_3, hfz19_4, hfz19_5⟩ := z6_ BK387; have hcz20_0 : w18.cell? ⟨gb386, 0, none⟩ = some (.int .i64 a0_0) := e_ BK386 0; have hcz20_1 : w18.cell? ⟨gb386, 1, none⟩ = some (.int .i64 a0_1) := e_ BK386 1; have hcz20_2 : w18.cell? ⟨gb386, 2, none⟩ = some (.slice A0_2 l0_2.length c0_2) := e_ BK386 2; obtain ⟨hfz20_0, hfz20_1, hfz20_2⟩ := z3_ BK386))
          go_meet
          case rel => exact ⟨_, (true), (by first | rfl | (simp; done) | (simp [*]; done)), H', ⟨by first | omega | exact Nat.le_refl _⟩, ⟨bk_⟩, ⟨bk_⟩, ⟨by repeat (first | (with_reducible first | exact HB.out | apply wa_ | apply wn_ | apply wd_ | refine ws_ ?_ GE386.out | refine ws_ ?_ GE387.out) | exact HB.out)⟩⟩
        · rw [if_neg c13] at H
          have c13b0 : decide (a3 < 0) = false := decide_eq_false c13
          clear c13
          have H' := A_ H
          clear H; have hnb21 := NB386_387.out; have hnc21 := NB387_386.out; have hcz22_0 : w7.cell? ⟨gb386, 0, none⟩ = some (.int .i64 a0_0) := e_ BK386 0; have hcz22_1 : w7.cell? ⟨gb386, 1, none⟩ = some (.int .i64 a0_1) := e_ BK386 1; have hcz22_2 : w7.cell? ⟨gb386, 2, none⟩ = some (.slice A0_2 l0_2.length c0_2) := e_ BK386 2; obtain ⟨hfz22_0, hfz22_1, hfz22_2⟩ := z3_ BK386
          go_wp2_with (first | ((with_reducible refine gate_callee (f := 47) rfl ?_); refine goesL_ (some 16) rfl rfl Try.func47 (by kernel_rfl) rfl #[.agg #[.int .i64 a0_0, .int .i64 a0_1, .slice A0_2 l0_2.length c0_2], .int .i64 a2] rfl (by (try simp only [m0_, m1_, m2_]); first | done | rfl) ?_; (with_reducible refine (hopperref05_Check.calls k a0_0 a0_1 _ _ l0_2 a2 true _ ?side1 ?side2 A8.out).mono ?_); (case side1 => repeat (first | exact (Kd.C_below HR0_2.out HB.out) | (with_reducible refine ca_ ?_ _) | (with_reducible refine cn_ ?_ _) | (with_reducible refine cd_ ?_))); (case side2 => exact HC0_2.out); rintro e w23 ⟨rfl, hb⟩; refine ⟨_, rfl, ?_⟩; replace BK386 := A_ (kb_ BK386 hb); replace BK387 := A_ (kb_ BK387 hb); replace HB := A_ (below_step bw_ hb); (try clear hb); (try clear hb2); (try clear hk); (try clear hi); have hcz24_0 : w23.cell? ⟨gb387, 0, none⟩ = some (.int .i64 a1_0) := e_ BK387 0; have hcz24_1 : w23.cell? ⟨gb387, 1, none⟩ = some (.int .i64 a1_1) := e_ BK387 1; have hcz24_2 : w23.cell? ⟨gb387, 2, none⟩ = some (.int .i64 a1_2) := e_ BK387 2; have hcz24_3 : w23.cell? ⟨gb387, 3, none⟩ = some (.int .i64 a1_3) := e_ BK387 3; have hcz24_4 : w23.cell? ⟨gb387, 4, none⟩ = some (.int .i64 a1_4) := e_ BK387 4; have hcz24_5 : w23.cell? ⟨gb387, 5, none⟩ = some (.string a1_5) := e_ BK387 5; obtain ⟨hfz24_0, hfz24_1, hfz24_2, hfz24_3, hfz24_4, hfz24_5⟩ := z6_ BK387) | (go_at_call 67; (with_reducible refine (hopperref04_Check.calls a1_0 a1_1 a1_2 a1_3 a1_4 a1_5 true _ A10.out).mono ?_); rintro e w25 ⟨rfl, hb⟩; replace BK386 := A_ (kb_ BK386 hb); replace BK387 := A_ (kb_ BK387 hb); replace HB := A_ (below_step bw_ hb); (try clear hb); (try clear hb2); (try clear hk); (try clear hi); have hcz26_0 : w25.cell? ⟨gb387, 0, none⟩ = some (.int .i64 a1_0) := e_ BK387 0; have hcz26_1 : w25.cell? ⟨gb387, 1, none⟩ = some (.int .i64 a1_1) := e_ BK387 1; have hcz26_2 : w25.cell? ⟨gb387, 2, none⟩ = some (.int .i64 a1_2) := e_ BK387 2; have hcz26_3 : w25.cell? ⟨gb387, 3, none⟩ = some (.int .i64 a1_3) := e_ BK387 3; have hcz26_4 : w25.cell? ⟨gb387, 4, none⟩ = some (.int .i64 a1_4) := e_ BK387 4; have hcz26_5 : w25.cell? ⟨gb387, 5, none⟩ = some (.string a1_5) := e_ BK387 5; obtain ⟨hfz26_0, hfz26_1, hfz26_2, hfz26_3, hfz26_4, hfz26_5⟩ := z6_ BK387; have hcz27_0 : w25.cell? ⟨gb386, 0, none⟩ = some (.int .i64 a0_0) := e_ BK386 0; have hcz27_1 : w25.cell? ⟨gb386, 1, none⟩ = some (.int .i64 a0_1) := e_ BK386 1; have hcz27_2 : w25.cell? ⟨gb386, 2, none⟩ = some (.slice A0_2 l0_2.length c0_2) := e_ BK386 2; obtain ⟨hfz27_0, hfz27_1, hfz27_2⟩ := z3_ BK386))
          go_meet
          case rel => exact ⟨_, (decide (a3 > 100)), (by first | rfl | (simp; done) | (simp [*]; done)), H', ⟨by first | omega | exact Nat.le_refl _⟩, ⟨bk_⟩, ⟨bk_⟩, ⟨by repeat (first | (with_reducible first | exact HB.out | apply wa_ | apply wn_ | apply wd_ | refine ws_ ?_ GE386.out | refine ws_ ?_ GE387.out) | exact HB.out)⟩⟩
      · rw [if_neg c12] at H
        have c12b0 : (a1_0 == a0_0) = false := beq_eq_false_iff_ne.mpr c12
        have c12b1 : (a1_0 != a0_0) = true := bne_iff_ne.mpr c12
        (first | rw [c12b0] | (simp only [i64_w, i32_w]; rw [c12b0]) | skip)
        have H' := A_ H
        clear H; have hnb28 := NB386_387.out; have hnc28 := NB387_386.out; have hcz29_0 : w7.cell? ⟨gb386, 0, none⟩ = some (.int .i64 a0_0) := e_ BK386 0; have hcz29_1 : w7.cell? ⟨gb386, 1, none⟩ = some (.int .i64 a0_1) := e_ BK386 1; have hcz29_2 : w7.cell? ⟨gb386, 2, none⟩ = some (.slice A0_2 l0_2.length c0_2) := e_ BK386 2; obtain ⟨hfz29_0, hfz29_1, hfz29_2⟩ := z3_ BK386
        go_wp2_with (first | ((with_reducible refine gate_callee (f := 47) rfl ?_); refine goesL_ (some 16) rfl rfl Try.func47 (by kernel_rfl) rfl #[.agg #[.int .i64 a0_0, .int .i64 a0_1, .slice A0_2 l0_2.length c0_2], .int .i64 a2] rfl (by (try simp only [m0_, m1_, m2_]); first | done | rfl) ?_; (with_reducible refine (hopperref05_Check.calls k a0_0 a0_1 _ _ l0_2 a2 true _ ?side1 ?side2 A8.out).mono ?_); (case side1 => repeat (first | exact (Kd.C_below HR0_2.out HB.out) | (with_reducible refine ca_ ?_ _) | (with_reducible refine cn_ ?_ _) | (with_reducible refine cd_ ?_))); (case side2 => exact HC0_2.out); rintro e w30 ⟨rfl, hb⟩; refine ⟨_, rfl, ?_⟩; replace BK386 := A_ (kb_ BK386 hb); replace BK387 := A_ (kb_ BK387 hb); replace HB := A_ (below_step bw_ hb); (try clear hb); (try clear hb2); (try clear hk); (try clear hi); have hcz31_0 : w30.cell? ⟨gb387, 0, none⟩ = some (.int .i64 a1_0) := e_ BK387 0; have hcz31_1 : w30.cell? ⟨gb387, 1, none⟩ = some (.int .i64 a1_1) := e_ BK387 1; have hcz31_2 : w30.cell? ⟨gb387, 2, none⟩ = some (.int .i64 a1_2) := e_ BK387 2; have hcz31_3 : w30.cell? ⟨gb387, 3, none⟩ = some (.int .i64 a1_3) := e_ BK387 3; have hcz31_4 : w30.cell? ⟨gb387, 4, none⟩ = some (.int .i64 a1_4) := e_ BK387 4; have hcz31_5 : w30.cell? ⟨gb387, 5, none⟩ = some (.string a1_5) := e_ BK387 5; obtain ⟨hfz31_0, hfz31_1, hfz31_2, hfz31_3, hfz31_4, hfz31_5⟩ := z6_ BK387) | (go_at_call 67; (with_reducible refine (hopperref04_Check.calls a1_0 a1_1 a1_2 a1_3 a1_4 a1_5 true _ A10.out).mono ?_); rintro e w32 ⟨rfl, hb⟩; replace BK386 := A_ (kb_ BK386 hb); replace BK387 := A_ (kb_ BK387 hb); replace HB := A_ (below_step bw_ hb); (try clear hb); (try clear hb2); (try clear hk); (try clear hi); have hcz33_0 : w32.cell? ⟨gb387, 0, none⟩ = some (.int .i64 a1_0) := e_ BK387 0; have hcz33_1 : w32.cell? ⟨gb387, 1, none⟩ = some (.int .i64 a1_1) := e_ BK387 1; have hcz33_2 : w32.cell? ⟨gb387, 2, none⟩ = some (.int .i64 a1_2) := e_ BK387 2; have hcz33_3 : w32.cell? ⟨gb387, 3, none⟩ = some (.int .i64 a1_3) := e_ BK387 3; have hcz33_4 : w32.cell? ⟨gb387, 4, none⟩ = some (.int .i64 a1_4) := e_ BK387 4; have hcz33_5 : w32.cell? ⟨gb387, 5, none⟩ = some (.string a1_5) := e_ BK387 5; obtain ⟨hfz33_0, hfz33_1, hfz33_2, hfz33_3, hfz33_4, hfz33_5⟩ := z6_ BK387; have hcz34_0 : w32.cell? ⟨gb386, 0, none⟩ = some (.int .i64 a0_0) := e_ BK386 0; have hcz34_1 : w32.cell? ⟨gb386, 1, none⟩ = some (.int .i64 a0_1) := e_ BK386 1; have hcz34_2 : w32.cell? ⟨gb386, 2, none⟩ = some (.slice A0_2 l0_2.length c0_2) := e_ BK386 2; obtain ⟨hfz34_0, hfz34_1, hfz34_2⟩ := z3_ BK386))
        go_meet
        case rel => exact ⟨_, (true), (by first | rfl | (simp; done) | (simp [*]; done)), H', ⟨by first | omega | exact Nat.le_refl _⟩, ⟨bk_⟩, ⟨bk_⟩, ⟨by repeat (first | (with_reducible first | exact HB.out | apply wa_ | apply wn_ | apply wd_ | refine ws_ ?_ GE386.out | refine ws_ ?_ GE387.out) | exact HB.out)⟩⟩
    · replace c11 := Bool.eq_false_iff.mpr c11
      subst c11
      have H1 : (hopperref05_Place.j0 k a2 a3 true a0_0 a0_1 l0_2 a1_0 a1_1 a1_2 a1_3 a1_4 a1_5) = some (r1, r2) := by rw [if_neg (show ¬ (false = true) by decide)] at H; exact H
      clear H
      have H := H1
      clear H1
      have H' := A_ H
      clear H; have hnb35 := NB386_387.out; have hnc35 := NB387_386.out; have hcz36_0 : w7.cell? ⟨gb386, 0, none⟩ = some (.int .i64 a0_0) := e_ BK386 0; have hcz36_1 : w7.cell? ⟨gb386, 1, none⟩ = some (.int .i64 a0_1) := e_ BK386 1; have hcz36_2 : w7.cell? ⟨gb386, 2, none⟩ = some (.slice A0_2 l0_2.length c0_2) := e_ BK386 2; obtain ⟨hfz36_0, hfz36_1, hfz36_2⟩ := z3_ BK386
      go_wp2_with (first | ((with_reducible refine gate_callee (f := 47) rfl ?_); refine goesL_ (some 16) rfl rfl Try.func47 (by kernel_rfl) rfl #[.agg #[.int .i64 a0_0, .int .i64 a0_1, .slice A0_2 l0_2.length c0_2], .int .i64 a2] rfl (by (try simp only [m0_, m1_, m2_]); first | done | rfl) ?_; (with_reducible refine (hopperref05_Check.calls k a0_0 a0_1 _ _ l0_2 a2 true _ ?side1 ?side2 A8.out).mono ?_); (case side1 => repeat (first | exact (Kd.C_below HR0_2.out HB.out) | (with_reducible refine ca_ ?_ _) | (with_reducible refine cn_ ?_ _) | (with_reducible refine cd_ ?_))); (case side2 => exact HC0_2.out); rintro e w37 ⟨rfl, hb⟩; refine ⟨_, rfl, ?_⟩; replace BK386 := A_ (kb_ BK386 hb); replace BK387 := A_ (kb_ BK387 hb); replace HB := A_ (below_step bw_ hb); (try clear hb); (try clear hb2); (try clear hk); (try clear hi); have hcz38_0 : w37.cell? ⟨gb387, 0, none⟩ = some (.int .i64 a1_0) := e_ BK387 0; have hcz38_1 : w37.cell? ⟨gb387, 1, none⟩ = some (.int .i64 a1_1) := e_ BK387 1; have hcz38_2 : w37.cell? ⟨gb387, 2, none⟩ = some (.int .i64 a1_2) := e_ BK387 2; have hcz38_3 : w37.cell? ⟨gb387, 3, none⟩ = some (.int .i64 a1_3) := e_ BK387 3; have hcz38_4 : w37.cell? ⟨gb387, 4, none⟩ = some (.int .i64 a1_4) := e_ BK387 4; have hcz38_5 : w37.cell? ⟨gb387, 5, none⟩ = some (.string a1_5) := e_ BK387 5; obtain ⟨hfz38_0, hfz38_1, hfz38_2, hfz38_3, hfz38_4, hfz38_5⟩ := z6_ BK387) | (go_at_call 67; (with_reducible refine (hopperref04_Check.calls a1_0 a1_1 a1_2 a1_3 a1_4 a1_5 false _ A10.out).mono ?_); rintro e w39 ⟨rfl, hb⟩; replace BK386 := A_ (kb_ BK386 hb); replace BK387 := A_ (kb_ BK387 hb); replace HB := A_ (below_step bw_ hb); (try clear hb); (try clear hb2); (try clear hk); (try clear hi)))
      go_meet
      case rel => exact ⟨_, (true), (by first | rfl | (simp; done) | (simp [*]; done)), H', ⟨by first | omega | exact Nat.le_refl _⟩, ⟨bk_⟩, ⟨bk_⟩, ⟨by repeat (first | (with_reducible first | exact HB.out | apply wa_ | apply wn_ | apply wd_ | refine ws_ ?_ GE386.out | refine ws_ ?_ GE387.out) | exact HB.out)⟩⟩
  · replace c9 := Bool.eq_false_iff.mpr c9
    subst c9
    have H1 : (hopperref05_Place.j0 k a2 a3 true a0_0 a0_1 l0_2 a1_0 a1_1 a1_2 a1_3 a1_4 a1_5) = some (r1, r2) := by rw [if_neg (show ¬ (false = true) by decide)] at H; exact H
    clear H
    have H := H1
    clear H1
    have H' := A_ H
    clear H; have hnb40 := NB386_387.out; have hnc40 := NB387_386.out; have hcz41_0 : w7.cell? ⟨gb386, 0, none⟩ = some (.int .i64 a0_0) := e_ BK386 0; have hcz41_1 : w7.cell? ⟨gb386, 1, none⟩ = some (.int .i64 a0_1) := e_ BK386 1; have hcz41_2 : w7.cell? ⟨gb386, 2, none⟩ = some (.slice A0_2 l0_2.length c0_2) := e_ BK386 2; obtain ⟨hfz41_0, hfz41_1, hfz41_2⟩ := z3_ BK386
    go_wp2_with (first | ((with_reducible refine gate_callee (f := 47) rfl ?_); refine goesL_ (some 16) rfl rfl Try.func47 (by kernel_rfl) rfl #[.agg #[.int .i64 a0_0, .int .i64 a0_1, .slice A0_2 l0_2.length c0_2], .int .i64 a2] rfl (by (try simp only [m0_, m1_, m2_]); first | done | rfl) ?_; (with_reducible refine (hopperref05_Check.calls k a0_0 a0_1 _ _ l0_2 a2 false _ ?side1 ?side2 A8.out).mono ?_); (case side1 => repeat (first | exact (Kd.C_below HR0_2.out HB.out) | (with_reducible refine ca_ ?_ _) | (with_reducible refine cn_ ?_ _) | (with_reducible refine cd_ ?_))); (case side2 => exact HC0_2.out); rintro e w42 ⟨rfl, hb⟩; refine ⟨_, rfl, ?_⟩; replace BK386 := A_ (kb_ BK386 hb); replace BK387 := A_ (kb_ BK387 hb); replace HB := A_ (below_step bw_ hb); (try clear hb); (try clear hb2); (try clear hk); (try clear hi)))
    go_meet
    case rel => exact ⟨_, (true), (by first | rfl | (simp; done) | (simp [*]; done)), H', ⟨by first | omega | exact Nat.le_refl _⟩, ⟨bk_⟩, ⟨bk_⟩, ⟨by repeat (first | (with_reducible first | exact HB.out | apply wa_ | apply wn_ | apply wd_ | refine ws_ ?_ GE386.out | refine ws_ ?_ GE387.out) | exact HB.out)⟩⟩
 case rest =>
  clear HC5; (try clear c1); (try clear c2); (try clear p2); (try clear c3); (try clear c4); (try clear c5); (try clear c9); (try clear c11); (try clear c12); (try clear c12b0); (try clear c12b1); (try clear c13); (try clear c13b0); (try clear c14); (try clear c21); (try clear c28); (try clear c35); (try clear c40); (try clear hcz15_0 hcz15_1 hcz15_2); (try clear hcz17_0 hcz17_1 hcz17_2 hcz17_3 hcz17_4 hcz17_5); (try clear hcz19_0 hcz19_1 hcz19_2 hcz19_3 hcz19_4 hcz19_5); (try clear hcz20_0 hcz20_1 hcz20_2); (try clear hcz22_0 hcz22_1 hcz22_2); (try clear hcz24_0 hcz24_1 hcz24_2 hcz24_3 hcz24_4 hcz24_5); (try clear hcz26_0 hcz26_1 hcz26_2 hcz26_3 hcz26_4 hcz26_5); (try clear hcz27_0 hcz27_1 hcz27_2); (try clear hcz29_0 hcz29_1 hcz29_2); (try clear hcz31_0 hcz31_1 hcz31_2 hcz31_3 hcz31_4 hcz31_5); (try clear hcz33_0 hcz33_1 hcz33_2 hcz33_3 hcz33_4 hcz33_5); (try clear hcz34_0 hcz34_1 hcz34_2); (try clear hcz36_0 hcz36_1 hcz36_2); (try clear hcz38_0 hcz38_1 hcz38_2 hcz38_3 hcz38_4 hcz38_5); (try clear hcz41_0 hcz41_1 hcz41_2); (try clear hfz15_0 hfz15_1 hfz15_2); (try clear hfz17_0 hfz17_1 hfz17_2 hfz17_3 hfz17_4 hfz17_5); (try clear hfz19_0 hfz19_1 hfz19_2 hfz19_3 hfz19_4 hfz19_5); (try clear hfz20_0 hfz20_1 hfz20_2); (try clear hfz22_0 hfz22_1 hfz22_2); (try clear hfz24_0 hfz24_1 hfz24_2 hfz24_3 hfz24_4 hfz24_5); (try clear hfz26_0 hfz26_1 hfz26_2 hfz26_3 hfz26_4 hfz26_5); (try clear hfz27_0 hfz27_1 hfz27_2); (try clear hfz29_0 hfz29_1 hfz29_2); (try clear hfz31_0 hfz31_1 hfz31_2 hfz31_3 hfz31_4 hfz31_5); (try clear hfz33_0 hfz33_1 hfz33_2 hfz33_3 hfz33_4 hfz33_5); (try clear hfz34_0 hfz34_1 hfz34_2); (try clear hfz36_0 hfz36_1 hfz36_2); (try clear hfz38_0 hfz38_1 hfz38_2 hfz38_3 hfz38_4 hfz38_5); (try clear hfz41_0 hfz41_1 hfz41_2)
  obtain ⟨kq, x37_4, rfl, HA, HJ4, BK386, BK387, HB⟩ := hcut
  cases kq with
  | zero => exact absurd HA.out (by simp [hopperref05_Place.j0])
  | succ kj4 =>
   have H := HA.out
   clear HA
   simp only [hopperref05_Place.j0] at H
   by_cases c43 : x37_4 = true
   · subst c43
     have H1 : (some (0, 1)) = some (r1, r2) := by rw [if_pos rfl] at H; exact H
     clear H
     have H := H1
     clear H1
     simp only [Option.some.injEq, Prod.mk.injEq] at H
     obtain ⟨rfl, rfl⟩ := H
     go_wp2
     go_ret2
     exact ⟨by first | rfl | (simp [errW_none, errW_some] <;> rfl) | (simp [*, errW_none, errW_some] <;> rfl), by repeat (first | (with_reducible first | exact HB.out | apply wa_ | apply wn_ | apply wd_ | refine ws_ ?_ GE386.out | refine ws_ ?_ GE387.out) | exact HB.out)⟩
   replace c43 := Bool.eq_false_iff.mpr c43
   subst c43
   have H1 : (if a1_1 < a0_1 then (some (0, 3)) else ((hopperref05_Find.f kj4 a0_0 a0_1 l0_2 a1_1).bind fun bt390 => (if bt390.2.2.2.2.2.2 = true then ((hopperref01_Raise.f kj4 bt390.2.2.1 a3).bind fun bt398 => (if bt398.2 = true then (hopperref05_Place.j1 kj4 (decide (a1_2 < bt398.1)) a1_0 a1_1 a1_2 a1_3 a1_4 a1_5 bt390.1 bt390.2.1 bt390.2.2.1 bt390.2.2.2.1 bt390.2.2.2.2.1 bt390.2.2.2.2.2.1) else (hopperref05_Place.j1 kj4 true a1_0 a1_1 a1_2 a1_3 a1_4 a1_5 bt390.1 bt390.2.1 bt390.2.2.1 bt390.2.2.2.1 bt390.2.2.2.2.1 bt390.2.2.2.2.2.1))) else (if (l0_2.length : Int) ≥ a2 then (some (0, 5)) else ((hopperref04_Slots.f kj4 a1_0 a1_1 a1_2 a1_3 a1_4 a1_5).bind fun t402 => (some (t402, 0))))))) = some (r1, r2) := by rw [if_neg (show ¬ (false = true) by decide)] at H; exact H
   clear H
   have H := H1
   clear H1
   by_cases c44 : a1_1 < a0_1
   · rw [if_pos c44] at H
     have c44b0 : decide (a1_1 < a0_1) = true := decide_eq_true c44
     clear c44
     simp only [Option.some.injEq, Prod.mk.injEq] at H
     obtain ⟨rfl, rfl⟩ := H
     have hnb45 := NB387_386.out; have hnc45 := NB386_387.out; have hcz46_0 : wc.cell? ⟨gb387, 0, none⟩ = some (.int .i64 a1_0) := e_ BK387 0; have hcz46_1 : wc.cell? ⟨gb387, 1, none⟩ = some (.int .i64 a1_1) := e_ BK387 1; have hcz46_2 : wc.cell? ⟨gb387, 2, none⟩ = some (.int .i64 a1_2) := e_ BK387 2; have hcz46_3 : wc.cell? ⟨gb387, 3, none⟩ = some (.int .i64 a1_3) := e_ BK387 3; have hcz46_4 : wc.cell? ⟨gb387, 4, none⟩ = some (.int .i64 a1_4) := e_ BK387 4; have hcz46_5 : wc.cell? ⟨gb387, 5, none⟩ = some (.string a1_5) := e_ BK387 5; obtain ⟨hfz46_0, hfz46_1, hfz46_2, hfz46_3, hfz46_4, hfz46_5⟩ := z6_ BK387; have hcz47_0 : wc.cell? ⟨gb386, 0, none⟩ = some (.int .i64 a0_0) := e_ BK386 0; have hcz47_1 : wc.cell? ⟨gb386, 1, none⟩ = some (.int .i64 a0_1) := e_ BK386 1; have hcz47_2 : wc.cell? ⟨gb386, 2, none⟩ = some (.slice A0_2 l0_2.length c0_2) := e_ BK386 2; obtain ⟨hfz47_0, hfz47_1, hfz47_2⟩ := z3_ BK386
     go_wp2
     go_ret2
     exact ⟨by first | rfl | (simp [errW_none, errW_some] <;> rfl) | (simp [*, errW_none, errW_some] <;> rfl), by repeat (first | (with_reducible first | exact HB.out | apply wa_ | apply wn_ | apply wd_ | refine ws_ ?_ GE386.out | refine ws_ ?_ GE387.out) | exact HB.out)⟩
   · rw [if_neg c44] at H
     have c44b0 : decide (a1_1 < a0_1) = false := decide_eq_false c44
     clear c44
     replace H := Option.bind_eq_some_iff.mp H
     obtain ⟨⟨t390, t391, t392, t393, t394, t395, t396⟩, A480, H⟩ := H
     replace H : (if t396 = true then ((hopperref01_Raise.f kj4 t392 a3).bind fun bt398 => (if bt398.2 = true then (hopperref05_Place.j1 kj4 (decide (a1_2 < bt398.1)) a1_0 a1_1 a1_2 a1_3 a1_4 a1_5 t390 t391 t392 t393 t394 t395) else (hopperref05_Place.j1 kj4 true a1_0 a1_1 a1_2 a1_3 a1_4 a1_5 t390 t391 t392 t393 t394 t395))) else (if (l0_2.length : Int) ≥ a2 then (some (0, 5)) else ((hopperref04_Slots.f kj4 a1_0 a1_1 a1_2 a1_3 a1_4 a1_5).bind fun t402 => (some (t402, 0))))) = some (r1, r2) := H
     have A48 := A_ A480
     clear A480
     by_cases c49 : t396 = true
     · subst c49
       have H1 : ((hopperref01_Raise.f kj4 t392 a3).bind fun bt398 => (if bt398.2 = true then (hopperref05_Place.j1 kj4 (decide (a1_2 < bt398.1)) a1_0 a1_1 a1_2 a1_3 a1_4 a1_5 t390 t391 t392 t393 t394 t395) else (hopperref05_Place.j1 kj4 true a1_0 a1_1 a1_2 a1_3 a1_4 a1_5 t390 t391 t392 t393 t394 t395))) = some (r1, r2) := by rw [if_pos rfl] at H; exact H
       clear H
       have H := H1
       clear H1
       replace H := Option.bind_eq_some_iff.mp H
       obtain ⟨⟨t398, t399⟩, A500, H⟩ := H
       replace H : (if t399 = true then (hopperref05_Place.j1 kj4 (decide (a1_2 < t398)) a1_0 a1_1 a1_2 a1_3 a1_4 a1_5 t390 t391 t392 t393 t394 t395) else (hopperref05_Place.j1 kj4 true a1_0 a1_1 a1_2 a1_3 a1_4 a1_5 t390 t391 t392 t393 t394 t395)) = some (r1, r2) := H
       have A50 := A_ A500
       clear A500
       have HC51 := A_ H
       clear H; have hnb52 := NB387_386.out; have hnc52 := NB386_387.out; have hcz53_0 : wc.cell? ⟨gb387, 0, none⟩ = some (.int .i64 a1_0) := e_ BK387 0; have hcz53_1 : wc.cell? ⟨gb387, 1, none⟩ = some (.int .i64 a1_1) := e_ BK387 1; have hcz53_2 : wc.cell? ⟨gb387, 2, none⟩ = some (.int .i64 a1_2) := e_ BK387 2; have hcz53_3 : wc.cell? ⟨gb387, 3, none⟩ = some (.int .i64 a1_3) := e_ BK387 3; have hcz53_4 : wc.cell? ⟨gb387, 4, none⟩ = some (.int .i64 a1_4) := e_ BK387 4; have hcz53_5 : wc.cell? ⟨gb387, 5, none⟩ = some (.string a1_5) := e_ BK387 5; obtain ⟨hfz53_0, hfz53_1, hfz53_2, hfz53_3, hfz53_4, hfz53_5⟩ := z6_ BK387; have hcz54_0 : wc.cell? ⟨gb386, 0, none⟩ = some (.int .i64 a0_0) := e_ BK386 0; have hcz54_1 : wc.cell? ⟨gb386, 1, none⟩ = some (.int .i64 a0_1) := e_ BK386 1; have hcz54_2 : wc.cell? ⟨gb386, 2, none⟩ = some (.slice A0_2 l0_2.length c0_2) := e_ BK386 2; obtain ⟨hfz54_0, hfz54_1, hfz54_2⟩ := z3_ BK386
       go_upto_region 8 with (first | ((with_reducible refine gate_callee (f := 53) rfl ?_); refine goesL_ (some 47) rfl rfl Try.func53 (by kernel_rfl) rfl #[.agg #[.int .i64 a0_0, .int .i64 a0_1, .slice A0_2 l0_2.length c0_2], .int .i64 a1_1] rfl (by (try simp only [m0_, m1_, m2_]); first | done | rfl) ?_; (with_reducible refine (hopperref05_Find.calls kj4 a0_0 a0_1 _ _ l0_2 a1_1 t390 t391 t392 t393 t394 t395 true _ ?side1 ?side2 A48.out).mono ?_); (case side1 => repeat (first | exact (Kd.C_below HR0_2.out HB.out) | (with_reducible refine ca_ ?_ _) | (with_reducible refine cn_ ?_ _) | (with_reducible refine cd_ ?_))); (case side2 => exact HC0_2.out); rintro e w55 ⟨rfl, hb⟩; refine ⟨_, rfl, ?_⟩; replace BK386 := A_ (kb_ BK386 hb); replace BK387 := A_ (kb_ BK387 hb); replace HB := A_ (below_step bw_ hb); (try clear hb); (try clear hb2); (try clear hk); (try clear hi)) | ((with_reducible refine gate_dst (N := 10) rfl ?_); refine box_event ?hg (N := 10) ?hd (cs := #[.int .i64 0, .int .i64 0, .int .i64 0, .int .i64 0, .int .i64 0, .string (⟨#[]⟩ : ByteArray)]) (t := 24) ?hr ?_; (case hd => rfl); (case hg => rfl); (case hr => first | (go_simp; done) | (go_simp; rfl)); intro gb397 hg w56 hbox hb; have n0_ := A_ (kb_ BK386 hb); have n1_ := A_ (kb_ BK387 hb); have n2_ := A_ (below_step bw_ hb); have n3_ := A_ (hbox); have n4_ := A_ (gz_ (w := w) hg); have n5_ := A_ (gz_ (w := w) hg); have n6_ := A_ (nl_ BK386 hg); have n7_ := A_ (ng_ BK386 hg); have n8_ := A_ (nl_ BK387 hg); have n9_ := A_ (ng_ BK387 hg); replace BK386 := n0_; replace BK387 := n1_; replace HB := n2_; have BK397 := n3_; have GW397 := n4_; have GE397 := n5_; have NB386_397 := n6_; have NB397_386 := n7_; have NB387_397 := n8_; have NB397_387 := n9_; clear n0_ n1_ n2_ n3_ n4_ n5_ n6_ n7_ n8_ n9_; clear hb hbox hg; have hnb57 := NB397_386.out; have hnc57 := NB386_397.out; have hnb58 := NB397_387.out; have hnc58 := NB387_397.out; have hcz59_0 : w56.cell? ⟨gb397, 0, none⟩ = some (.int .i64 0) := e_ BK397 0; have hcz59_1 : w56.cell? ⟨gb397, 1, none⟩ = some (.int .i64 0) := e_ BK397 1; have hcz59_2 : w56.cell? ⟨gb397, 2, none⟩ = some (.int .i64 0) := e_ BK397 2; have hcz59_3 : w56.cell? ⟨gb397, 3, none⟩ = some (.int .i64 0) := e_ BK397 3; have hcz59_4 : w56.cell? ⟨gb397, 4, none⟩ = some (.int .i64 0) := e_ BK397 4; have hcz59_5 : w56.cell? ⟨gb397, 5, none⟩ = some (.string (⟨#[]⟩ : ByteArray)) := e_ BK397 5; obtain ⟨hfz59_0, hfz59_1, hfz59_2, hfz59_3, hfz59_4, hfz59_5⟩ := z6_ BK397) | ((with_reducible refine gate_callee (f := 106) rfl ?_); refine goesL_ (some 55) rfl rfl Try.func106 (by kernel_rfl) rfl #[.int .i64 t392, .int .i64 a3] rfl (by (try simp only [m0_, m1_, m2_]); first | done | rfl) ?_; (with_reducible refine (hopperref01_Raise.calls kj4 t392 a3 t398 t399 _ A50.out).mono ?_); rintro e w60 ⟨rfl, hb⟩; refine ⟨_, rfl, ?_⟩; replace BK386 := A_ (kb_ BK386 hb); replace BK387 := A_ (kb_ BK387 hb); replace BK397 := A_ (blk_below (g := gb397) (o := .cells #[.int .i64 t390, .int .i64 t391, .int .i64 t392, .int .i64 t393, .int .i64 t394, .string t395] 24 (0, 0)) (by exact pk_ (b6_ BK397.out)) hb); replace HB := A_ (below_step bw_ hb); (try clear hb); (try clear hb2); (try clear hk); (try clear hi)))
       (try simp only [Act.put, s0_, s1_, s2_])
       go_cut [65] (fun v65 wc => ∃ (kq : Nat) (x65_50 : Bool), v65 = .bool x65_50 ∧ Aside0 (hopperref05_Place.j1 kq x65_50 a1_0 a1_1 a1_2 a1_3 a1_4 a1_5 t390 t391 t392 t393 t394 t395 = some (r1, r2)) ∧ Aside0 (kq ≤ kj4) ∧ Aside0 (wc.heap[gb386]? = some (.cells #[.int .i64 a0_0, .int .i64 a0_1, (.slice A0_2 l0_2.length c0_2)] 46 (0, 0))) ∧ Aside0 (wc.heap[gb387]? = some (.cells #[.int .i64 a1_0, .int .i64 a1_1, .int .i64 a1_2, .int .i64 a1_3, .int .i64 a1_4, .string a1_5] 24 (0, 0))) ∧ Aside0 (wc.heap[gb397]? = some (.cells #[.int .i64 t390, .int .i64 t391, .int .i64 t392, .int .i64 t393, .int .i64 t394, .string t395] 24 (0, 0))) ∧ Aside0 (Below w.heap.size w wc))
       case first =>
        have H := HC51.out
        clear HC51
        by_cases c61 : t399 = true
        rotate_left
        · replace c61 := Bool.eq_false_iff.mpr c61
          subst c61
          have H1 : (hopperref05_Place.j1 kj4 true a1_0 a1_1 a1_2 a1_3 a1_4 a1_5 t390 t391 t392 t393 t394 t395) = some (r1, r2) := by rw [if_neg (show ¬ (false = true) by decide)] at H; exact H
          clear H
          have H := H1
          clear H1
          have H' := A_ H
          clear H
          go_wp2
          go_meet
          case rel => exact ⟨_, (true), (by first | rfl | (simp; done) | (simp [*]; done)), H', ⟨by have := HJ4.out; first | omega | exact Nat.le_refl _⟩, ⟨bk_⟩, ⟨bk_⟩, ⟨bk_⟩, ⟨by repeat (first | (with_reducible first | exact HB.out | apply wa_ | apply wn_ | apply wd_ | refine ws_ ?_ GE386.out | refine ws_ ?_ GE387.out | refine ws_ ?_ GE397.out) | exact HB.out)⟩⟩
        subst c61
        have H1 : (hopperref05_Place.j1 kj4 (decide (a1_2 < t398)) a1_0 a1_1 a1_2 a1_3 a1_4 a1_5 t390 t391 t392 t393 t394 t395) = some (r1, r2) := by rw [if_pos rfl] at H; exact H
        clear H
        have H := H1
        clear H1
        have H' := A_ H
        clear H; have hnb62 := NB387_386.out; have hnc62 := NB386_387.out; have hnb63 := NB387_397.out; have hnc63 := NB397_387.out; have hcz64_0 : w60.cell? ⟨gb387, 0, none⟩ = some (.int .i64 a1_0) := e_ BK387 0; have hcz64_1 : w60.cell? ⟨gb387, 1, none⟩ = some (.int .i64 a1_1) := e_ BK387 1; have hcz64_2 : w60.cell? ⟨gb387, 2, none⟩ = some (.int .i64 a1_2) := e_ BK387 2; have hcz64_3 : w60.cell? ⟨gb387, 3, none⟩ = some (.int .i64 a1_3) := e_ BK387 3; have hcz64_4 : w60.cell? ⟨gb387, 4, none⟩ = some (.int .i64 a1_4) := e_ BK387 4; have hcz64_5 : w60.cell? ⟨gb387, 5, none⟩ = some (.string a1_5) := e_ BK387 5; obtain ⟨hfz64_0, hfz64_1, hfz64_2, hfz64_3, hfz64_4, hfz64_5⟩ := z6_ BK387
        go_wp2
        go_meet
        case rel => exact ⟨_, (decide (a1_2 < t398)), (by first | rfl | (simp; done) | (simp [*]; done)), H', ⟨by have := HJ4.out; first | omega | exact Nat.le_refl _⟩, ⟨bk_⟩, ⟨bk_⟩, ⟨bk_⟩, ⟨by repeat (first | (with_reducible first | exact HB.out | apply wa_ | apply wn_ | apply wd_ | refine ws_ ?_ GE386.out | refine ws_ ?_ GE387.out | refine ws_ ?_ GE397.out) | exact HB.out)⟩⟩
       case rest =>
        clear HC51; (try clear c1); (try clear c2); (try clear p2); (try clear c3); (try clear c4); (try clear c5); (try clear c6); (try clear c9); (try clear c10); (try clear c11); (try clear c12); (try clear c12b0); (try clear c12b1); (try clear c13); (try clear c13b0); (try clear c14); (try clear c21); (try clear c28); (try clear c35); (try clear c40); (try clear c43); (try clear c44); (try clear c44b0); (try clear c45); (try clear c47); (try clear c49); (try clear c52); (try clear c53); (try clear c57); (try clear c58); (try clear c59); (try clear c61); (try clear c62); (try clear c63); (try clear hcz15_0 hcz15_1 hcz15_2); (try clear hcz17_0 hcz17_1 hcz17_2 hcz17_3 hcz17_4 hcz17_5); (try clear hcz19_0 hcz19_1 hcz19_2 hcz19_3 hcz19_4 hcz19_5); (try clear hcz20_0 hcz20_1 hcz20_2); (try clear hcz22_0 hcz22_1 hcz22_2); (try clear hcz24_0 hcz24_1 hcz24_2 hcz24_3 hcz24_4 hcz24_5); (try clear hcz26_0 hcz26_1 hcz26_2 hcz26_3 hcz26_4 hcz26_5); (try clear hcz27_0 hcz27_1 hcz27_2); (try clear hcz29_0 hcz29_1 hcz29_2); (try clear hcz31_0 hcz31_1 hcz31_2 hcz31_3 hcz31_4 hcz31_5); (try clear hcz33_0 hcz33_1 hcz33_2 hcz33_3 hcz33_4 hcz33_5); (try clear hcz34_0 hcz34_1 hcz34_2); (try clear hcz36_0 hcz36_1 hcz36_2); (try clear hcz38_0 hcz38_1 hcz38_2 hcz38_3 hcz38_4 hcz38_5); (try clear hcz41_0 hcz41_1 hcz41_2); (try clear hcz46_0 hcz46_1 hcz46_2 hcz46_3 hcz46_4 hcz46_5); (try clear hcz47_0 hcz47_1 hcz47_2); (try clear hcz53_0 hcz53_1 hcz53_2 hcz53_3 hcz53_4 hcz53_5); (try clear hcz54_0 hcz54_1 hcz54_2); (try clear hcz59_0 hcz59_1 hcz59_2 hcz59_3 hcz59_4 hcz59_5); (try clear hcz64_0 hcz64_1 hcz64_2 hcz64_3 hcz64_4 hcz64_5); (try clear hfz15_0 hfz15_1 hfz15_2); (try clear hfz17_0 hfz17_1 hfz17_2 hfz17_3 hfz17_4 hfz17_5); (try clear hfz19_0 hfz19_1 hfz19_2 hfz19_3 hfz19_4 hfz19_5); (try clear hfz20_0 hfz20_1 hfz20_2); (try clear hfz22_0 hfz22_1 hfz22_2); (try clear hfz24_0 hfz24_1 hfz24_2 hfz24_3 hfz24_4 hfz24_5); (try clear hfz26_0 hfz26_1 hfz26_2 hfz26_3 hfz26_4 hfz26_5); (try clear hfz27_0 hfz27_1 hfz27_2); (try clear hfz29_0 hfz29_1 hfz29_2); (try clear hfz31_0 hfz31_1 hfz31_2 hfz31_3 hfz31_4 hfz31_5); (try clear hfz33_0 hfz33_1 hfz33_2 hfz33_3 hfz33_4 hfz33_5); (try clear hfz34_0 hfz34_1 hfz34_2); (try clear hfz36_0 hfz36_1 hfz36_2); (try clear hfz38_0 hfz38_1 hfz38_2 hfz38_3 hfz38_4 hfz38_5); (try clear hfz41_0 hfz41_1 hfz41_2); (try clear hfz46_0 hfz46_1 hfz46_2 hfz46_3 hfz46_4 hfz46_5); (try clear hfz47_0 hfz47_1 hfz47_2); (try clear hfz53_0 hfz53_1 hfz53_2 hfz53_3 hfz53_4 hfz53_5); (try clear hfz54_0 hfz54_1 hfz54_2); (try clear hfz59_0 hfz59_1 hfz59_2 hfz59_3 hfz59_4 hfz59_5); (try clear hfz64_0 hfz64_1 hfz64_2 hfz64_3 hfz64_4 hfz64_5); (try clear p2)
        obtain ⟨kq, x65_50, rfl, HA, HJ50, BK386, BK387, BK397, HB⟩ := hcut
        cases kq with
        | zero => exact absurd HA.out (by simp [hopperref05_Place.j1])
        | succ kj50 =>
         have H := HA.out
         clear HA
         simp only [hopperref05_Place.j1] at H
         by_cases c65 : x65_50 = true
         · subst c65
           have H1 : (some (0, 4)) = some (r1, r2) := by rw [if_pos rfl] at H; exact H
           clear H
           have H := H1
           clear H1
           simp only [Option.some.injEq, Prod.mk.injEq] at H
           obtain ⟨rfl, rfl⟩ := H
           go_wp2
           go_ret2
           exact ⟨by first | rfl | (simp [errW_none, errW_some] <;> rfl) | (simp [*, errW_none, errW_some] <;> rfl), by repeat (first | (with_reducible first | exact HB.out | apply wa_ | apply wn_ | apply wd_ | refine ws_ ?_ GE386.out | refine ws_ ?_ GE387.out | refine ws_ ?_ GE397.out) | exact HB.out)⟩
         replace c65 := Bool.eq_false_iff.mpr c65
         subst c65
         have H1 : ((hopperref04_Slots.f kj50 a1_0 a1_1 a1_2 a1_3 a1_4 a1_5).bind fun t400 => ((hopperref04_Slots.f kj50 t390 t391 t392 t393 t394 t395).bind fun t401 => (some (wrap64 (t400 - t401), 0)))) = some (r1, r2) := by rw [if_neg (show ¬ (false = true) by decide)] at H; exact H
         clear H
         have H := H1
         clear H1
         replace H := Option.bind_eq_some_iff.mp H
         obtain ⟨t400, A660, H⟩ := H
         replace H : ((hopperref04_Slots.f kj50 t390 t391 t392 t393 t394 t395).bind fun t401 => (some (wrap64 (t400 - t401), 0))) = some (r1, r2) := H
         have A66 := A_ A660
         clear A660
         replace H := Option.bind_eq_some_iff.mp H
         obtain ⟨t401, A670, H⟩ := H
         replace H : (some (wrap64 (t400 - t401), 0)) = some (r1, r2) := H
         have A67 := A_ A670
         clear A670
         simp only [Option.some.injEq, Prod.mk.injEq] at H
         obtain ⟨rfl, rfl⟩ := H
         try go_wp2
         have n0_ := A_ (bd_ BK386.out); have n1_ := A_ (bd_ BK387.out); have n2_ := A_ (bd_ BK397.out); have n3_ := A_ (wd_ HB.out); replace BK386 := n0_; replace BK387 := n1_; replace BK397 := n2_; replace HB := n3_; clear n0_ n1_ n2_ n3_
         refine start_ (n := 7) (S := fun w' => w'.cell? ⟨gb387, 0, none⟩ = some (.int .i64 a1_0) ∧ w'.cell? ⟨gb387, 1, none⟩ = some (.int .i64 a1_1) ∧ w'.cell? ⟨gb387, 2, none⟩ = some (.int .i64 a1_2) ∧ w'.cell? ⟨gb387, 3, none⟩ = some (.int .i64 a1_3) ∧ w'.cell? ⟨gb387, 4, none⟩ = some (.int .i64 a1_4) ∧ w'.cell? ⟨gb387, 5, none⟩ = some (.string a1_5) ∧ w'.cell? ⟨gb397, 0, none⟩ = some (.int .i64 t390) ∧ w'.cell? ⟨gb397, 1, none⟩ = some (.int .i64 t391) ∧ w'.cell? ⟨gb397, 2, none⟩ = some (.int .i64 t392) ∧ w'.cell? ⟨gb397, 3, none⟩ = some (.int .i64 t393) ∧ w'.cell? ⟨gb397, 4, none⟩ = some (.int .i64 t394) ∧ w'.cell? ⟨gb397, 5, none⟩ = some (.string t395)) (ds := []) #[false, false, false, false, false, false, false] (by kernel_rfl) rfl rfl ⟨e_ BK387 0, e_ BK387 1, e_ BK387 2, e_ BK387 3, e_ BK387 4, e_ BK387 5, e_ BK397 0, e_ BK397 1, e_ BK397 2, e_ BK397 3, e_ BK397 4, e_ BK397 5⟩ (fun hHeld => ?_)
         generalize wc.drew = w68 at BK386 BK387 BK397 HB hHeld ⊢
         refine take_ (i := 0) (N := some 66) (v := ?_) (a' := ?_) #[true, false, false, false, false, false, false] rfl rfl (by kernel_rfl) (fun _ _ _ h => h) (Or.inl ⟨by rfl, ?_⟩) hHeld ?_ ?_
         rotate_left
         · rintro w' ⟨s0, s1, s2, s3, s4, s5, s6, s7, s8, s9, s10, s11⟩
           go_simp
           with_reducible rfl
         rotate_left
         · simp only [Act.put, s0_, s1_, s2_, i64_w, i32_w]
           rfl
         refine take_ (i := 2) (N := some 68) (v := ?_) (a' := ?_) #[true, false, true, false, false, false, false] rfl rfl (by kernel_rfl) (fun _ _ _ h => h) (Or.inl ⟨by rfl, ?_⟩) hHeld ?_ ?_
         rotate_left
         · rintro w' ⟨s0, s1, s2, s3, s4, s5, s6, s7, s8, s9, s10, s11⟩
           go_simp
           with_reducible rfl
         rotate_left
         · simp only [Act.put, s0_, s1_, s2_, i64_w, i32_w]
           rfl
         refine one_ (i := 1) (N := some 67) #[true, true, true, false, false, false, false] rfl rfl (by kernel_rfl) (by decide) (fun K hK => ?_)
         refine goes_ Try.func104 (by kernel_rfl) rfl #[.agg #[.int .i64 a1_0, .int .i64 a1_1, .int .i64 a1_2, .int .i64 a1_3, .int .i64 a1_4, .string a1_5]] (by rfl) rfl rfl (by (try simp only [m0_, m1_, m2_]); first | done | rfl) ?_
         with_reducible refine (hopperref04_Slots.calls kj50 a1_0 a1_1 a1_2 a1_3 a1_4 a1_5 t400 _ A66.out).mono ?_
         rintro e w69 ⟨rfl, hb⟩
         refine ⟨_, rfl, ?_⟩
         have n0_ := A_ (kb_ BK386 hb); have n1_ := A_ (kb_ BK387 hb); have n2_ := A_ (kb_ BK397 hb); have n3_ := A_ (below_step bw_ hb); replace BK386 := n0_; replace BK387 := n1_; replace BK397 := n2_; replace HB := n3_; clear n0_ n1_ n2_ n3_
         (try clear hb)
         (try clear hb2)
         (try clear hk)
         (try clear hi)
         refine hK.out _ _ ⟨e_ BK387 0, e_ BK387 1, e_ BK387 2, e_ BK387 3, e_ BK387 4, e_ BK387 5, e_ BK397 0, e_ BK397 1, e_ BK397 2, e_ BK397 3, e_ BK397 4, e_ BK397 5⟩ (fun hHeld => ?_)
         clear hK K
         refine norm_ (a' := ?_) ?_ ?_
         rotate_left
         · show Act.put _ (some 67) _ = _
           simp only [Act.put, s0_, s1_, s2_, i64_w, i32_w]
           rfl
         refine one_ (i := 3) (N := some 69) #[true, true, true, true, false, false, false] rfl rfl (by kernel_rfl) (by decide) (fun K hK => ?_)
         refine goes_ Try.func104 (by kernel_rfl) rfl #[.agg #[.int .i64 t390, .int .i64 t391, .int .i64 t392, .int .i64 t393, .int .i64 t394, .string t395]] (by rfl) rfl rfl (by (try simp only [m0_, m1_, m2_]); first | done | rfl) ?_
         with_reducible refine (hopperref04_Slots.calls kj50 t390 t391 t392 t393 t394 t395 t401 _ A67.out).mono ?_
         rintro e w70 ⟨rfl, hb⟩
         refine ⟨_, rfl, ?_⟩
         have n0_ := A_ (kb_ BK386 hb); have n1_ := A_ (kb_ BK387 hb); have n2_ := A_ (kb_ BK397 hb); have n3_ := A_ (below_step bw_ hb); replace BK386 := n0_; replace BK387 := n1_; replace BK397 := n2_; replace HB := n3_; clear n0_ n1_ n2_ n3_
         (try clear hb)
         (try clear hb2)
         (try clear hk)
         (try clear hi)
         refine hK.out _ _ ⟨e_ BK387 0, e_ BK387 1, e_ BK387 2, e_ BK387 3, e_ BK387 4, e_ BK387 5, e_ BK397 0, e_ BK397 1, e_ BK397 2, e_ BK397 3, e_ BK397 4, e_ BK397 5⟩ (fun hHeld => ?_)
         clear hK K
         refine norm_ (a' := ?_) ?_ ?_
         rotate_left
         · show Act.put _ (some 69) _ = _
           simp only [Act.put, s0_, s1_, s2_, i64_w, i32_w]
           rfl
         refine pure_ (i := 4) (N := some 70) (v := ?_) (a' := ?_) #[true, true, true, true, true, false, false] rfl rfl (by kernel_rfl) (fun _ _ _ h => h) (Or.inl ⟨by rfl, ?_⟩) ?_ ?_
         rotate_left
         · intro w'
           go_simp
           with_reducible rfl
         rotate_left
         · simp only [Act.put, s0_, s1_, s2_, i64_w, i32_w]
           rfl
         refine pure_ (i := 5) (N := some 8) (v := ?_) (a' := ?_) #[true, true, true, true, true, true, false] rfl rfl (by kernel_rfl) (fun _ _ _ h => h) (Or.inl ⟨by rfl, ?_⟩) ?_ ?_
         rotate_left
         · intro w'
           go_simp
           with_reducible rfl
         rotate_left
         · simp only [Act.put, s0_, s1_, s2_, i64_w, i32_w]
           rfl
         refine pure_ (i := 6) (N := some 9) (v := ?_) (a' := ?_) #[true, true, true, true, true, true, true] rfl rfl (by kernel_rfl) (fun _ _ _ h => h) (Or.inl ⟨by rfl, ?_⟩) ?_ ?_
         rotate_left
         · intro w'
           go_simp
           with_reducible rfl
         rotate_left
         · simp only [Act.put, s0_, s1_, s2_, i64_w, i32_w]
           rfl
         refine done_ (by kernel_rfl) ?_
         try go_wp2
         go_ret2
         exact ⟨by first | rfl | (simp [errW_none, errW_some] <;> rfl) | (simp [*, errW_none, errW_some] <;> rfl), by repeat (first | (with_reducible first | exact HB.out | apply wa_ | apply wn_ | apply wd_ | refine ws_ ?_ GE386.out | refine ws_ ?_ GE387.out | refine ws_ ?_ GE397.out) | exact HB.out)⟩
     · replace c49 := Bool.eq_false_iff.mpr c49
       subst c49
       have H1 : (if (l0_2.length : Int) ≥ a2 then (some (0, 5)) else ((hopperref04_Slots.f kj4 a1_0 a1_1 a1_2 a1_3 a1_4 a1_5).bind fun t402 => (some (t402, 0)))) = some (r1, r2) := by rw [if_neg (show ¬ (false = true) by decide)] at H; exact H
       clear H
       have H := H1
       clear H1
       by_cases c71 : (l0_2.length : Int) ≥ a2
       · rw [if_pos c71] at H
         have c71b0 : decide (a2 ≤ (l0_2.length : Int)) = true := decide_eq_true c71
         clear c71
         simp only [Option.some.injEq, Prod.mk.injEq] at H
         obtain ⟨rfl, rfl⟩ := H
         have hnb72 := NB387_386.out; have hnc72 := NB386_387.out; have hcz73_0 : wc.cell? ⟨gb387, 0, none⟩ = some (.int .i64 a1_0) := e_ BK387 0; have hcz73_1 : wc.cell? ⟨gb387, 1, none⟩ = some (.int .i64 a1_1) := e_ BK387 1; have hcz73_2 : wc.cell? ⟨gb387, 2, none⟩ = some (.int .i64 a1_2) := e_ BK387 2; have hcz73_3 : wc.cell? ⟨gb387, 3, none⟩ = some (.int .i64 a1_3) := e_ BK387 3; have hcz73_4 : wc.cell? ⟨gb387, 4, none⟩ = some (.int .i64 a1_4) := e_ BK387 4; have hcz73_5 : wc.cell? ⟨gb387, 5, none⟩ = some (.string a1_5) := e_ BK387 5; obtain ⟨hfz73_0, hfz73_1, hfz73_2, hfz73_3, hfz73_4, hfz73_5⟩ := z6_ BK387; have hcz74_0 : wc.cell? ⟨gb386, 0, none⟩ = some (.int .i64 a0_0) := e_ BK386 0; have hcz74_1 : wc.cell? ⟨gb386, 1, none⟩ = some (.int .i64 a0_1) := e_ BK386 1; have hcz74_2 : wc.cell? ⟨gb386, 2, none⟩ = some (.slice A0_2 l0_2.length c0_2) := e_ BK386 2; obtain ⟨hfz74_0, hfz74_1, hfz74_2⟩ := z3_ BK386
         go_wp2_with (first | ((with_reducible refine gate_callee (f := 53) rfl ?_); refine goesL_ (some 47) rfl rfl Try.func53 (by kernel_rfl) rfl #[.agg #[.int .i64 a0_0, .int .i64 a0_1, .slice A0_2 l0_2.length c0_2], .int .i64 a1_1] rfl (by (try simp only [m0_, m1_, m2_]); first | done | rfl) ?_; (with_reducible refine (hopperref05_Find.calls kj4 a0_0 a0_1 _ _ l0_2 a1_1 t390 t391 t392 t393 t394 t395 false _ ?side1 ?side2 A48.out).mono ?_); (case side1 => repeat (first | exact (Kd.C_below HR0_2.out HB.out) | (with_reducible refine ca_ ?_ _) | (with_reducible refine cn_ ?_ _) | (with_reducible refine cd_ ?_))); (case side2 => exact HC0_2.out); rintro e w75 ⟨rfl, hb⟩; refine ⟨_, rfl, ?_⟩; replace BK386 := A_ (kb_ BK386 hb); replace BK387 := A_ (kb_ BK387 hb); replace HB := A_ (below_step bw_ hb); (try clear hb); (try clear hb2); (try clear hk); (try clear hi)) | ((with_reducible refine gate_dst (N := 10) rfl ?_); refine box_event ?hg (N := 10) ?hd (cs := #[.int .i64 0, .int .i64 0, .int .i64 0, .int .i64 0, .int .i64 0, .string (⟨#[]⟩ : ByteArray)]) (t := 24) ?hr ?_; (case hd => rfl); (case hg => rfl); (case hr => first | (go_simp; done) | (go_simp; rfl)); intro gb397 hg w76 hbox hb; have n0_ := A_ (kb_ BK386 hb); have n1_ := A_ (kb_ BK387 hb); have n2_ := A_ (below_step bw_ hb); have n3_ := A_ (hbox); have n4_ := A_ (gz_ (w := w) hg); have n5_ := A_ (gz_ (w := w) hg); have n6_ := A_ (nl_ BK386 hg); have n7_ := A_ (ng_ BK386 hg); have n8_ := A_ (nl_ BK387 hg); have n9_ := A_ (ng_ BK387 hg); replace BK386 := n0_; replace BK387 := n1_; replace HB := n2_; have BK397 := n3_; have GW397 := n4_; have GE397 := n5_; have NB386_397 := n6_; have NB397_386 := n7_; have NB387_397 := n8_; have NB397_387 := n9_; clear n0_ n1_ n2_ n3_ n4_ n5_ n6_ n7_ n8_ n9_; clear hb hbox hg; have hnb77 := NB397_386.out; have hnc77 := NB386_397.out; have hnb78 := NB397_387.out; have hnc78 := NB387_397.out; have hcz79_0 : w76.cell? ⟨gb397, 0, none⟩ = some (.int .i64 0) := e_ BK397 0; have hcz79_1 : w76.cell? ⟨gb397, 1, none⟩ = some (.int .i64 0) := e_ BK397 1; have hcz79_2 : w76.cell? ⟨gb397, 2, none⟩ = some (.int .i64 0) := e_ BK397 2; have hcz79_3 : w76.cell? ⟨gb397, 3, none⟩ = some (.int .i64 0) := e_ BK397 3; have hcz79_4 : w76.cell? ⟨gb397, 4, none⟩ = some (.int .i64 0) := e_ BK397 4; have hcz79_5 : w76.cell? ⟨gb397, 5, none⟩ = some (.string (⟨#[]⟩ : ByteArray)) := e_ BK397 5; obtain ⟨hfz79_0, hfz79_1, hfz79_2, hfz79_3, hfz79_4, hfz79_5⟩ := z6_ BK397; have hcz80_0 : w76.cell? ⟨gb386, 0, none⟩ = some (.int .i64 a0_0) := e_ BK386 0; have hcz80_1 : w76.cell? ⟨gb386, 1, none⟩ = some (.int .i64 a0_1) := e_ BK386 1; have hcz80_2 : w76.cell? ⟨gb386, 2, none⟩ = some (.slice A0_2 l0_2.length c0_2) := e_ BK386 2; obtain ⟨hfz80_0, hfz80_1, hfz80_2⟩ := z3_ BK386))
         go_ret2
         exact ⟨by first | rfl | (simp [errW_none, errW_some] <;> rfl) | (simp [*, errW_none, errW_some] <;> rfl), by repeat (first | (with_reducible first | exact HB.out | apply wa_ | apply wn_ | apply wd_ | refine ws_ ?_ GE386.out | refine ws_ ?_ GE387.out | refine ws_ ?_ GE397.out) | exact HB.out)⟩
       · rw [if_neg c71] at H
         have c71b0 : decide (a2 ≤ (l0_2.length : Int)) = false := decide_eq_false c71
         clear c71
         replace H := Option.bind_eq_some_iff.mp H
         obtain ⟨t402, A810, H⟩ := H
         replace H : (some (t402, 0)) = some (r1, r2) := H
         have A81 := A_ A810
         clear A810
         simp only [Option.some.injEq, Prod.mk.injEq] at H
         obtain ⟨rfl, rfl⟩ := H
         have hnb82 := NB387_386.out; have hnc82 := NB386_387.out; have hcz83_0 : wc.cell? ⟨gb387, 0, none⟩ = some (.int .i64 a1_0) := e_ BK387 0; have hcz83_1 : wc.cell? ⟨gb387, 1, none⟩ = some (.int .i64 a1_1) := e_ BK387 1; have hcz83_2 : wc.cell? ⟨gb387, 2, none⟩ = some (.int .i64 a1_2) := e_ BK387 2; have hcz83_3 : wc.cell? ⟨gb387, 3, none⟩ = some (.int .i64 a1_3) := e_ BK387 3; have hcz83_4 : wc.cell? ⟨gb387, 4, none⟩ = some (.int .i64 a1_4) := e_ BK387 4; have hcz83_5 : wc.cell? ⟨gb387, 5, none⟩ = some (.string a1_5) := e_ BK387 5; obtain ⟨hfz83_0, hfz83_1, hfz83_2, hfz83_3, hfz83_4, hfz83_5⟩ := z6_ BK387; have hcz84_0 : wc.cell? ⟨gb386, 0, none⟩ = some (.int .i64 a0_0) := e_ BK386 0; have hcz84_1 : wc.cell? ⟨gb386, 1, none⟩ = some (.int .i64 a0_1) := e_ BK386 1; have hcz84_2 : wc.cell? ⟨gb386, 2, none⟩ = some (.slice A0_2 l0_2.length c0_2) := e_ BK386 2; obtain ⟨hfz84_0, hfz84_1, hfz84_2⟩ := z3_ BK386
         go_wp2_with (first | ((with_reducible refine gate_callee (f := 53) rfl ?_); refine goesL_ (some 47) rfl rfl Try.func53 (by kernel_rfl) rfl #[.agg #[.int .i64 a0_0, .int .i64 a0_1, .slice A0_2 l0_2.length c0_2], .int .i64 a1_1] rfl (by (try simp only [m0_, m1_, m2_]); first | done | rfl) ?_; (with_reducible refine (hopperref05_Find.calls kj4 a0_0 a0_1 _ _ l0_2 a1_1 t390 t391 t392 t393 t394 t395 false _ ?side1 ?side2 A48.out).mono ?_); (case side1 => repeat (first | exact (Kd.C_below HR0_2.out HB.out) | (with_reducible refine ca_ ?_ _) | (with_reducible refine cn_ ?_ _) | (with_reducible refine cd_ ?_))); (case side2 => exact HC0_2.out); rintro e w85 ⟨rfl, hb⟩; refine ⟨_, rfl, ?_⟩; replace BK386 := A_ (kb_ BK386 hb); replace BK387 := A_ (kb_ BK387 hb); replace HB := A_ (below_step bw_ hb); (try clear hb); (try clear hb2); (try clear hk); (try clear hi)) | ((with_reducible refine gate_dst (N := 10) rfl ?_); refine box_event ?hg (N := 10) ?hd (cs := #[.int .i64 0, .int .i64 0, .int .i64 0, .int .i64 0, .int .i64 0, .string (⟨#[]⟩ : ByteArray)]) (t := 24) ?hr ?_; (case hd => rfl); (case hg => rfl); (case hr => first | (go_simp; done) | (go_simp; rfl)); intro gb397 hg w86 hbox hb; have n0_ := A_ (kb_ BK386 hb); have n1_ := A_ (kb_ BK387 hb); have n2_ := A_ (below_step bw_ hb); have n3_ := A_ (hbox); have n4_ := A_ (gz_ (w := w) hg); have n5_ := A_ (gz_ (w := w) hg); have n6_ := A_ (nl_ BK386 hg); have n7_ := A_ (ng_ BK386 hg); have n8_ := A_ (nl_ BK387 hg); have n9_ := A_ (ng_ BK387 hg); replace BK386 := n0_; replace BK387 := n1_; replace HB := n2_; have BK397 := n3_; have GW397 := n4_; have GE397 := n5_; have NB386_397 := n6_; have NB397_386 := n7_; have NB387_397 := n8_; have NB397_387 := n9_; clear n0_ n1_ n2_ n3_ n4_ n5_ n6_ n7_ n8_ n9_; clear hb hbox hg; have hnb87 := NB397_386.out; have hnc87 := NB386_397.out; have hnb88 := NB397_387.out; have hnc88 := NB387_397.out; have hcz89_0 : w86.cell? ⟨gb397, 0, none⟩ = some (.int .i64 0) := e_ BK397 0; have hcz89_1 : w86.cell? ⟨gb397, 1, none⟩ = some (.int .i64 0) := e_ BK397 1; have hcz89_2 : w86.cell? ⟨gb397, 2, none⟩ = some (.int .i64 0) := e_ BK397 2; have hcz89_3 : w86.cell? ⟨gb397, 3, none⟩ = some (.int .i64 0) := e_ BK397 3; have hcz89_4 : w86.cell? ⟨gb397, 4, none⟩ = some (.int .i64 0) := e_ BK397 4; have hcz89_5 : w86.cell? ⟨gb397, 5, none⟩ = some (.string (⟨#[]⟩ : ByteArray)) := e_ BK397 5; obtain ⟨hfz89_0, hfz89_1, hfz89_2, hfz89_3, hfz89_4, hfz89_5⟩ := z6_ BK397; have hcz90_0 : w86.cell? ⟨gb386, 0, none⟩ = some (.int .i64 a0_0) := e_ BK386 0; have hcz90_1 : w86.cell? ⟨gb386, 1, none⟩ = some (.int .i64 a0_1) := e_ BK386 1; have hcz90_2 : w86.cell? ⟨gb386, 2, none⟩ = some (.slice A0_2 l0_2.length c0_2) := e_ BK386 2; obtain ⟨hfz90_0, hfz90_1, hfz90_2⟩ := z3_ BK386; have hcz91_0 : w86.cell? ⟨gb387, 0, none⟩ = some (.int .i64 a1_0) := e_ BK387 0; have hcz91_1 : w86.cell? ⟨gb387, 1, none⟩ = some (.int .i64 a1_1) := e_ BK387 1; have hcz91_2 : w86.cell? ⟨gb387, 2, none⟩ = some (.int .i64 a1_2) := e_ BK387 2; have hcz91_3 : w86.cell? ⟨gb387, 3, none⟩ = some (.int .i64 a1_3) := e_ BK387 3; have hcz91_4 : w86.cell? ⟨gb387, 4, none⟩ = some (.int .i64 a1_4) := e_ BK387 4; have hcz91_5 : w86.cell? ⟨gb387, 5, none⟩ = some (.string a1_5) := e_ BK387 5; obtain ⟨hfz91_0, hfz91_1, hfz91_2, hfz91_3, hfz91_4, hfz91_5⟩ := z6_ BK387) | ((with_reducible refine gate_callee (f := 104) rfl ?_); refine goesL_ (some 77) rfl rfl Try.func104 (by kernel_rfl) rfl #[.agg #[.int .i64 a1_0, .int .i64 a1_1, .int .i64 a1_2, .int .i64 a1_3, .int .i64 a1_4, .string a1_5]] rfl (by (try simp only [m0_, m1_, m2_]); first | done | rfl) ?_; (with_reducible refine (hopperref04_Slots.calls kj4 a1_0 a1_1 a1_2 a1_3 a1_4 a1_5 t402 _ A81.out).mono ?_); rintro e w92 ⟨rfl, hb⟩; refine ⟨_, rfl, ?_⟩; replace BK386 := A_ (kb_ BK386 hb); replace BK387 := A_ (kb_ BK387 hb); replace BK397 := A_ (blk_below (g := gb397) (o := .cells #[.int .i64 t390, .int .i64 t391, .int .i64 t392, .int .i64 t393, .int .i64 t394, .string t395] 24 (0, 0)) (by exact pk_ (b6_ BK397.out)) hb); replace HB := A_ (below_step bw_ hb); (try clear hb); (try clear hb2); (try clear hk); (try clear hi)))
         go_ret2
         exact ⟨by first | rfl | (simp [errW_none, errW_some] <;> rfl) | (simp [*, errW_none, errW_some] <;> rfl), by repeat (first | (with_reducible first | exact HB.out | apply wa_ | apply wn_ | apply wd_ | refine ws_ ?_ GE386.out | refine ws_ ?_ GE387.out | refine ws_ ?_ GE397.out) | exact HB.out)⟩

/-! ### hopperref05_Advance: function 61 -/
mutual
def hopperref05_Advance.j0 : Nat → Int → Bool → Int → Int → List (S24) → Option (Int × Int × (List (S24)) × (List (S24)) × Int)
 | 0, _, _, _, _, _ => none
 | k + 1, x1, x15, x404000, x404001, x404002 => if x15 = true then (some (x404000, x404001, x404002, ([] : List (S24)), 1)) else (if x1 < x404001 then (some (x404000, x404001, x404002, ([] : List (S24)), 3)) else (hopperref05_Advance.l0 k x1 ([] : List (S24)) ([] : List (S24)) 0 x404000 x404001 x404002))
def hopperref05_Advance.l0 : Nat → Int → List (S24) → List (S24) → Int → Int → Int → List (S24) → Option (Int × Int × (List (S24)) × (List (S24)) × Int)
 | 0, _, _, _, _, _, _, _ => none
 | k + 1, x1, x7, x8, x9, x404000, x404001, x404002 => if x9 < (x404002.length : Int) then (if 0 ≤ x9 then (if ((rd_T24 x404002 x9).f1) < x1 then (if x8.length < 2513169434916 then (hopperref05_Advance.l0 k x1 x7 (x8 ++ [(⟨(rd_T24 x404002 x9).f0, (rd_T24 x404002 x9).f1, (rd_T24 x404002 x9).f2, (rd_T24 x404002 x9).f3, (rd_T24 x404002 x9).f4, (rd_T24 x404002 x9).f5⟩ : S24)]) (wrap64 (x9 + 1)) x404000 x404001 x404002) else (none)) else (if x7.length < 2513169434916 then (hopperref05_Advance.l0 k x1 (x7 ++ [(⟨(rd_T24 x404002 x9).f0, (rd_T24 x404002 x9).f1, (rd_T24 x404002 x9).f2, (rd_T24 x404002 x9).f3, (rd_T24 x404002 x9).f4, (rd_T24 x404002 x9).f5⟩ : S24)]) x8 (wrap64 (x9 + 1)) x404000 x404001 x404002) else (none))) else (none)) else (some (x404000, x1, x7, x8, 0))
end
def hopperref05_Advance.f (k : Nat) (a0_0 : Int) (a0_1 : Int) (l0_2 : List (S24)) (a1 : Int) : Option (Int × Int × (List (S24)) × (List (S24)) × Int) := if a1 < 0 then (hopperref05_Advance.j0 k a1 true a0_0 a0_1 l0_2) else (hopperref05_Advance.j0 k a1 (decide (a1 ≥ 4294967296)) a0_0 a0_1 l0_2)
theorem hopperref05_Advance.mono_l : ∀ k, (∀ y0 y1 y2 y3 y4, LeO (hopperref05_Advance.j0 k y0 y1 y2 y3 y4) (hopperref05_Advance.j0 (k + 1) y0 y1 y2 y3 y4)) ∧ (∀ y0 y1 y2 y3 y4 y5 y6, LeO (hopperref05_Advance.l0 k y0 y1 y2 y3 y4 y5 y6) (hopperref05_Advance.l0 (k + 1) y0 y1 y2 y3 y4 y5 y6))
 | 0 => ⟨fun _ _ _ _ _ r h => by simp [hopperref05_Advance.j0] at h, fun _ _ _ _ _ _ _ r h => by simp [hopperref05_Advance.l0] at h⟩
 | k + 1 => by
  obtain ⟨ih0, ih1⟩ := hopperref05_Advance.mono_l k
  refine ⟨?_, ?_⟩
  · intro y0 y1 y2 y3 y4
    unfold hopperref05_Advance.j0
    repeat' first
    | (with_reducible exact ih0 _ _ _ _ _)
    | (with_reducible exact ih1 _ _ _ _ _ _ _)
    | (with_reducible exact LeO.refl _)
    | (with_reducible exact LeO.none _)
    | (with_reducible refine LeO.ite ?_ ?_)
    | (with_reducible refine LeO.bind ?_ (fun _ => ?_))
    | exact ih0 _ _ _ _ _
    | exact ih1 _ _ _ _ _ _ _
    | exact LeO.none _
    | refine LeO.ite ?_ ?_
    | refine LeO.bind ?_ (fun _ => ?_)
  · intro y0 y1 y2 y3 y4 y5 y6
    unfold hopperref05_Advance.l0
    repeat' first
    | (with_reducible exact ih0 _ _ _ _ _)
    | (with_reducible exact ih1 _ _ _ _ _ _ _)
    | (with_reducible exact LeO.refl _)
    | (with_reducible exact LeO.none _)
    | (with_reducible refine LeO.ite ?_ ?_)
    | (with_reducible refine LeO.bind ?_ (fun _ => ?_))
    | exact ih0 _ _ _ _ _
    | exact ih1 _ _ _ _ _ _ _
    | exact LeO.none _
    | refine LeO.ite ?_ ?_
    | refine LeO.bind ?_ (fun _ => ?_)
theorem hopperref05_Advance.mono : ∀ a0 a1 a2 a3 k, LeO (hopperref05_Advance.f k a0 a1 a2 a3) (hopperref05_Advance.f (k + 1) a0 a1 a2 a3) := by
 intro a0 a1 a2 a3 k
 obtain ⟨ih0, ih1⟩ := hopperref05_Advance.mono_l k
 unfold hopperref05_Advance.f
 repeat' first
  | (with_reducible exact ih0 _ _ _ _ _)
  | (with_reducible exact ih1 _ _ _ _ _ _ _)
  | (with_reducible exact LeO.refl _)
  | (with_reducible exact LeO.none _)
  | (with_reducible refine LeO.ite ?_ ?_)
  | (with_reducible refine LeO.bind ?_ (fun _ => ?_))
  | exact ih0 _ _ _ _ _
  | exact ih1 _ _ _ _ _ _ _
  | exact LeO.none _
  | refine LeO.ite ?_ ?_
  | refine LeO.bind ?_ (fun _ => ?_)
set_option maxHeartbeats 8000000 in
set_option maxRecDepth 100000 in
theorem hopperref05_Advance.calls (k : Nat) (a0_0 : Int) (a0_1 : Int) (P0_2_ : Nat → Prop) (A0_2 : Option Addr) (c0_2 : Nat) (l0_2 : List (S24)) (a1 : Int) (r1 : Int) (r2 : Int) (r3 : List (S24)) (r4 : List (S24)) (r5 : Int) (w : World) (hs0_2 : Kd.V k24 24 w w.heap.size (fun k_ => P0_2_ k_) (.slice A0_2 l0_2.length c0_2) l0_2) (h : hopperref05_Advance.f k a0_0 a0_1 l0_2 a1 = some (r1, r2, r3, r4, r5)) :
 Calls Try.prog 61 #[.agg #[.int .i64 a0_0, .int .i64 a0_1, .slice A0_2 l0_2.length c0_2], .int .i64 a1] w fun e w' => ∃ v2_ v3_ : Value, e = .returned (.tuple #[.agg #[.int .i64 r1, .int .i64 r2, v2_], v3_, .int .i64 r5]) ∧ Kd.V k24 24 w' w.heap.size (fun k_ => (P0_2_ k_ ∨ w.heap.size ≤ k_) ∧ some k_ ≠ (v3_ : Value).ownBlock) v2_ r3 ∧ Kd.R k24 24 w' w.heap.size (fun k_ => (w.heap.size ≤ k_)) v3_ r4 ∧ Below w.heap.size w w' := by
 have hu46 := Try.underlying46
 have hu24 := Try.underlying24
 have HO0_2 := A_ (show Kd.V k24 24 w w.heap.size (fun k_ => (P0_2_ k_ ∨ w.heap.size ≤ k_)) (.slice A0_2 l0_2.length c0_2) l0_2 from Kd.V_mono hs0_2 (fun k_ hk => .inl hk))
 have HB := A_ (Below.refl w.heap.size w)
 have H : (if a1 < 0 then (hopperref05_Advance.j0 k a1 true a0_0 a0_1 l0_2) else (hopperref05_Advance.j0 k a1 (decide (a1 ≥ 4294967296)) a0_0 a0_1 l0_2)) = some (r1, r2, r3, r4, r5) := h
 clear h
 have HC3 := A_ H
 clear H
 go_enter Try.func61, Try.ntmps61
 go_upto_region 1 with (first | ((with_reducible refine gate_dst (N := 2) rfl ?_); refine box_event ?hg (N := 2) ?hd (cs := #[.int .i64 a0_0, .int .i64 a0_1, .slice A0_2 l0_2.length c0_2]) (t := 46) ?hr ?_; (case hd => rfl); (case hg => rfl); (case hr => first | (go_simp; done) | (go_simp; rfl)); intro gb403 hg w4 hbox hb; have n0_ := A_ (Kd.V_below (Kd.V_elderB (by (with_reducible repeat (first | apply Kd.V_alloc | apply Kd.V_drewN | apply Kd.V_drew)); exact HO0_2.out) gb403 (Nat.le_of_eq hg.symm)) hb); have n1_ := A_ (below_step bw_ hb); have n2_ := A_ (hbox); have n3_ := A_ (gz_ (w := w) hg); have n4_ := A_ (gz_ (w := w) hg); replace HO0_2 := n0_; replace HB := n1_; have BK403 := n2_; have GW403 := n3_; have GE403 := n4_; clear n0_ n1_ n2_ n3_ n4_; clear hb hbox hg) | ((with_reducible refine gate_dst (N := 4) rfl ?_); refine box_event ?hg (N := 4) ?hd (cs := #[.int .i64 0, .int .i64 0, .slice none 0 0]) (t := 46) ?hr ?_; (case hd => rfl); (case hg => rfl); (case hr => first | (go_simp; done) | (go_simp; rfl)); intro gb404 hg w5 hbox hb; have n0_ := A_ (Kd.V_below (Kd.V_elderB (by (with_reducible repeat (first | apply Kd.V_alloc | apply Kd.V_drewN | apply Kd.V_drew)); exact HO0_2.out) gb404 (Nat.le_of_eq hg.symm)) hb); have n1_ := A_ (kb_ BK403 hb); have n2_ := A_ (below_step bw_ hb); have n3_ := A_ (hbox); have n4_ := A_ (gz_ (w := w) hg); have n5_ := A_ (gz_ (w := w) hg); have n6_ := A_ (nl_ BK403 hg); have n7_ := A_ (ng_ BK403 hg); replace HO0_2 := n0_; replace BK403 := n1_; replace HB := n2_; have BK404 := n3_; have GW404 := n4_; have GE404 := n5_; have NB403_404 := n6_; have NB404_403 := n7_; clear n0_ n1_ n2_ n3_ n4_ n5_ n6_ n7_; clear hb hbox hg))
 (try simp only [Act.put, s0_, s1_, s2_])
 go_cut [15] (fun v15 wc => ∃ (kq : Nat) (x15_2 : Bool), v15 = .bool x15_2 ∧ Aside0 (hopperref05_Advance.j0 kq a1 x15_2 a0_0 a0_1 l0_2 = some (r1, r2, r3, r4, r5)) ∧ Aside0 (kq ≤ k) ∧ Aside0 (Kd.V k24 24 wc w.heap.size (fun k_ => (P0_2_ k_ ∨ w.heap.size ≤ k_) ∧ k_ ≠ gb403 ∧ k_ ≠ gb404) (.slice A0_2 l0_2.length c0_2) l0_2) ∧ Aside0 (wc.heap[gb403]? = some (.cells #[.int .i64 a0_0, .int .i64 a0_1, (.slice A0_2 l0_2.length c0_2)] 46 (0, 0))) ∧ Aside0 (wc.heap[gb404]? = some (.cells #[.int .i64 0, .int .i64 0, (.slice none 0 0)] 46 (0, 0))) ∧ Aside0 (Below w.heap.size w wc))
 case first =>
  have H := HC3.out
  clear HC3
  by_cases c6 : a1 < 0
  · rw [if_pos c6] at H
    have c6b0 : decide (a1 < 0) = true := decide_eq_true c6
    clear c6
    (first | rw [c6b0] | (simp only [i64_w, i32_w]; rw [c6b0]) | skip)
    have H' := A_ H
    clear H
    go_wp2
    go_meet
    case rel => exact ⟨_, (true), (by first | rfl | (simp; done) | (simp [*]; done)), H', ⟨by first | omega | exact Nat.le_refl _⟩, ⟨by (with_reducible repeat (first | apply Kd.V_alloc | apply Kd.V_drewN | apply Kd.V_drew)); exact Kd.V_mono HO0_2.out (fun _ hk => ⟨hk.1.1, ⟨hk.1.2, hk.2⟩⟩)⟩, ⟨bk_⟩, ⟨bk_⟩, ⟨by repeat (first | (with_reducible first | exact HB.out | apply wa_ | apply wn_ | apply wd_ | refine ws_ ?_ GE403.out | refine ws_ ?_ GE404.out) | exact HB.out)⟩⟩
  · rw [if_neg c6] at H
    have c6b0 : decide (a1 < 0) = false := decide_eq_false c6
    clear c6
    (first | rw [c6b0] | (simp only [i64_w, i32_w]; rw [c6b0]) | skip)
    have H' := A_ H
    clear H
    go_wp2
    go_meet
    case rel => exact ⟨_, (decide (a1 ≥ 4294967296)), (by first | rfl | (simp; done) | (simp [*]; done)), H', ⟨by first | omega | exact Nat.le_refl _⟩, ⟨by (with_reducible repeat (first | apply Kd.V_alloc | apply Kd.V_drewN | apply Kd.V_drew)); exact Kd.V_mono HO0_2.out (fun _ hk => ⟨hk.1.1, ⟨hk.1.2, hk.2⟩⟩)⟩, ⟨bk_⟩, ⟨bk_⟩, ⟨by repeat (first | (with_reducible first | exact HB.out | apply wa_ | apply wn_ | apply wd_ | refine ws_ ?_ GE403.out | refine ws_ ?_ GE404.out) | exact HB.out)⟩⟩
 case rest =>
  clear HC3; (try clear p2); (try clear c6); (try clear c6b0)
  obtain ⟨kq, x15_2, rfl, HA, HJ2, HO_404002, BK403, BK404, HB⟩ := hcut
  cases kq with
  | zero => exact absurd HA.out (by simp [hopperref05_Advance.j0])
  | succ kj2 =>
   have H := HA.out
   clear HA
   simp only [hopperref05_Advance.j0] at H
   by_cases c7 : x15_2 = true
   · subst c7
     have H1 : (some (a0_0, a0_1, l0_2, ([] : List (S24)), 1)) = some (r1, r2, r3, r4, r5) := by rw [if_pos rfl] at H; exact H
     clear H
     have H := H1
     clear H1
     simp only [Option.some.injEq, Prod.mk.injEq] at H
     obtain ⟨rfl, rfl, rfl, rfl, rfl⟩ := H
     have hnb8 := NB403_404.out; have hnc8 := NB404_403.out; have hcz9_0 : wc.cell? ⟨gb403, 0, none⟩ = some (.int .i64 a0_0) := e_ BK403 0; have hcz9_1 : wc.cell? ⟨gb403, 1, none⟩ = some (.int .i64 a0_1) := e_ BK403 1; have hcz9_2 : wc.cell? ⟨gb403, 2, none⟩ = some (.slice A0_2 l0_2.length c0_2) := e_ BK403 2; obtain ⟨hfz9_0, hfz9_1, hfz9_2⟩ := z3_ BK403; have hcz10_0 : wc.cell? ⟨gb404, 0, none⟩ = some (.int .i64 0) := e_ BK404 0; have hcz10_1 : wc.cell? ⟨gb404, 1, none⟩ = some (.int .i64 0) := e_ BK404 1; have hcz10_2 : wc.cell? ⟨gb404, 2, none⟩ = some (.slice none 0 0) := e_ BK404 2; obtain ⟨hfz10_0, hfz10_1, hfz10_2⟩ := z3_ BK404
     go_wp2
     refine bodyPost_ret (results_ctt rfl _ _ gb404 46 #[.int .i64 a0_0, .int .i64 a0_1, .slice A0_2 l0_2.length c0_2] (0, 0) _ rfl (by exact pk_ (b3_ BK404.out)) Try.underlying46 rfl (by kernel_rfl)) rfl ?_
     exact ⟨_, _, by first | rfl | (simp [errW_none, errW_some] <;> rfl) | (simp [*, errW_none, errW_some] <;> rfl), by (with_reducible repeat (first | apply Kd.V_alloc | apply Kd.V_drewN | apply Kd.V_drew)); exact Kd.V_mono (Kd.V_far (p := ⟨gb404, 2, none⟩) (Kd.V_far (p := ⟨gb404, 1, none⟩) (Kd.V_far (p := ⟨gb404, 0, none⟩) (Kd.V_mono HO_404002.out (fun k_ hk => (⟨hk, hk.2.2⟩ : _ ∧ k_ ≠ gb404))) (fun _ hk => hk.2) (.int .i64 a0_0)) (fun _ hk => hk.2) (.int .i64 a0_1)) (fun _ hk => hk.2) (.slice A0_2 l0_2.length c0_2)) (fun _ hk => ⟨hk.1.1, (by simp [Value.ownBlock])⟩), by first | exact Kd.R_nil _ _ _ _ _ | exact Kd.N_nil _ _ _ _ _ | exact Kd.V_nil _ _ _ _ _ | exact Kd.Q_nil _ _ _ _ _ | exact Kd.S_nil _ _ _ _ _, by repeat (first | (with_reducible first | exact HB.out | apply wa_ | apply wn_ | apply wd_ | refine ws_ ?_ GE403.out | refine ws_ ?_ GE404.out) | exact HB.out)⟩
   · replace c7 := Bool.eq_false_iff.mpr c7
     subst c7
     have H1 : (if a1 < a0_1 then (some (a0_0, a0_1, l0_2, ([] : List (S24)), 3)) else (hopperref05_Advance.l0 kj2 a1 ([] : List (S24)) ([] : List (S24)) 0 a0_0 a0_1 l0_2)) = some (r1, r2, r3, r4, r5) := by rw [if_neg (show ¬ (false = true) by decide)] at H; exact H
     clear H
     have H := H1
     clear H1
     by_cases c11 : a1 < a0_1
     · rw [if_pos c11] at H
       have c11b0 : decide (a1 < a0_1) = true := decide_eq_true c11
       clear c11
       simp only [Option.some.injEq, Prod.mk.injEq] at H
       obtain ⟨rfl, rfl, rfl, rfl, rfl⟩ := H
       have hnb12 := NB403_404.out; have hnc12 := NB404_403.out; have hcz13_0 : wc.cell? ⟨gb403, 0, none⟩ = some (.int .i64 a0_0) := e_ BK403 0; have hcz13_1 : wc.cell? ⟨gb403, 1, none⟩ = some (.int .i64 a0_1) := e_ BK403 1; have hcz13_2 : wc.cell? ⟨gb403, 2, none⟩ = some (.slice A0_2 l0_2.length c0_2) := e_ BK403 2; obtain ⟨hfz13_0, hfz13_1, hfz13_2⟩ := z3_ BK403; have hcz14_0 : wc.cell? ⟨gb404, 0, none⟩ = some (.int .i64 0) := e_ BK404 0; have hcz14_1 : wc.cell? ⟨gb404, 1, none⟩ = some (.int .i64 0) := e_ BK404 1; have hcz14_2 : wc.cell? ⟨gb404, 2, none⟩ = some (.slice none 0 0) := e_ BK404 2; obtain ⟨hfz14_0, hfz14_1, hfz14_2⟩ := z3_ BK404
       go_wp2
       refine bodyPost_ret (results_ctt rfl _ _ gb404 46 #[.int .i64 a0_0, .int .i64 a0_1, .slice A0_2 l0_2.length c0_2] (0, 0) _ rfl (by exact pk_ (b3_ BK404.out)) Try.underlying46 rfl (by kernel_rfl)) rfl ?_
       exact ⟨_, _, by first | rfl | (simp [errW_none, errW_some] <;> rfl) | (simp [*, errW_none, errW_some] <;> rfl), by (with_reducible repeat (first | apply Kd.V_alloc | apply Kd.V_drewN | apply Kd.V_drew)); exact Kd.V_mono (Kd.V_far (p := ⟨gb404, 2, none⟩) (Kd.V_far (p := ⟨gb404, 1, none⟩) (Kd.V_far (p := ⟨gb404, 0, none⟩) (Kd.V_mono HO_404002.out (fun k_ hk => (⟨hk, hk.2.2⟩ : _ ∧ k_ ≠ gb404))) (fun _ hk => hk.2) (.int .i64 a0_0)) (fun _ hk => hk.2) (.int .i64 a0_1)) (fun _ hk => hk.2) (.slice A0_2 l0_2.length c0_2)) (fun _ hk => ⟨hk.1.1, (by simp [Value.ownBlock])⟩), by first | exact Kd.R_nil _ _ _ _ _ | exact Kd.N_nil _ _ _ _ _ | exact Kd.V_nil _ _ _ _ _ | exact Kd.Q_nil _ _ _ _ _ | exact Kd.S_nil _ _ _ _ _, by repeat (first | (with_reducible first | exact HB.out | apply wa_ | apply wn_ | apply wd_ | refine ws_ ?_ GE403.out | refine ws_ ?_ GE404.out) | exact HB.out)⟩
     · rw [if_neg c11] at H
       have c11b0 : decide (a1 < a0_1) = false := decide_eq_false c11
       clear c11
       have H' := A_ H
       clear H; have hnb15 := NB403_404.out; have hnc15 := NB404_403.out; have hcz16_0 : wc.cell? ⟨gb403, 0, none⟩ = some (.int .i64 a0_0) := e_ BK403 0; have hcz16_1 : wc.cell? ⟨gb403, 1, none⟩ = some (.int .i64 a0_1) := e_ BK403 1; have hcz16_2 : wc.cell? ⟨gb403, 2, none⟩ = some (.slice A0_2 l0_2.length c0_2) := e_ BK403 2; obtain ⟨hfz16_0, hfz16_1, hfz16_2⟩ := z3_ BK403
       go_wp2
       go_loopg [7, 8, 9] kj2 (fun kq v7 v8 v9 w' => ∃ (x7_2 : List (S24)) (x8_2 : List (S24)) (x9_2 : Int), v9 = .int .i64 x9_2 ∧ Aside0 (hopperref05_Advance.l0 kq a1 x7_2 x8_2 x9_2 a0_0 a0_1 l0_2 = some (r1, r2, r3, r4, r5)) ∧ Aside0 (kq ≤ kj2) ∧ Aside0 (Kd.R k24 24 w' w.heap.size (fun k_ => (w.heap.size ≤ k_) ∧ some k_ ≠ (v8 : Value).ownBlock) v7 x7_2) ∧ Aside0 (Kd.R k24 24 w' w.heap.size (fun k_ => (w.heap.size ≤ k_) ∧ some k_ ≠ (v7 : Value).ownBlock) v8 x8_2) ∧ Aside0 (Kd.V k24 24 w' w.heap.size (fun k_ => (P0_2_ k_ ∨ w.heap.size ≤ k_) ∧ some k_ ≠ (v7 : Value).ownBlock ∧ some k_ ≠ (v8 : Value).ownBlock ∧ k_ ≠ gb403 ∧ k_ ≠ gb404) (.slice A0_2 l0_2.length c0_2) l0_2) ∧ Aside0 (w'.heap[gb403]? = some (.cells #[.int .i64 a0_0, .int .i64 a0_1, (.slice A0_2 l0_2.length c0_2)] 46 (0, 0))) ∧ Aside0 (w'.heap[gb404]? = some (.cells #[.int .i64 0, .int .i64 0, (.slice none 0 0)] 46 (0, 0))) ∧ Aside0 (Below w.heap.size w w'))
       case atStart => exact ⟨(([] : List (S24))), (([] : List (S24))), (0), (by first | rfl | (simp; done) | (simp [*]; done)), H', ⟨Nat.le_refl _⟩, ⟨by first | exact Kd.R_nil _ _ _ _ _ | exact Kd.N_nil _ _ _ _ _ | exact Kd.V_nil _ _ _ _ _ | exact Kd.Q_nil _ _ _ _ _ | exact Kd.S_nil _ _ _ _ _⟩, ⟨by first | exact Kd.R_nil _ _ _ _ _ | exact Kd.N_nil _ _ _ _ _ | exact Kd.V_nil _ _ _ _ _ | exact Kd.Q_nil _ _ _ _ _ | exact Kd.S_nil _ _ _ _ _⟩, ⟨by (with_reducible repeat (first | apply Kd.V_alloc | apply Kd.V_drewN | apply Kd.V_drew)); exact Kd.V_mono HO_404002.out (fun _ hk => ⟨hk.1, ⟨(by simp [Value.ownBlock]), ⟨(by simp [Value.ownBlock]), ⟨hk.2.1, hk.2.2⟩⟩⟩⟩)⟩, ⟨bk_⟩, ⟨bk_⟩, ⟨by repeat (first | (with_reducible first | exact HB.out | apply wa_ | apply wn_ | apply wd_ | refine ws_ ?_ GE403.out | refine ws_ ?_ GE404.out) | exact HB.out)⟩⟩
       case round =>
        clear H'; (try clear c1); (try clear p2); (try clear c6); (try clear c6b0); (try clear c7); (try clear c8); (try clear c11); (try clear c11b0); (try clear c12); (try clear c15); (try clear hcz10_0 hcz10_1 hcz10_2); (try clear hcz13_0 hcz13_1 hcz13_2); (try clear hcz14_0 hcz14_1 hcz14_2); (try clear hcz16_0 hcz16_1 hcz16_2); (try clear hcz9_0 hcz9_1 hcz9_2); (try clear hfz10_0 hfz10_1 hfz10_2); (try clear hfz13_0 hfz13_1 hfz13_2); (try clear hfz14_0 hfz14_1 hfz14_2); (try clear hfz16_0 hfz16_1 hfz16_2); (try clear hfz9_0 hfz9_1 hfz9_2); (try clear p2)
        obtain ⟨x7_2, x8_2, x9_2, rfl, HA, HK2, HO_7, HO_8, HO_404002, BK403, BK404, HB⟩ := hrel
        cases gk with
        | zero => exact absurd HA.out (by simp [hopperref05_Advance.l0])
        | succ k2 =>
         have H := HA.out
         clear HA
         simp only [hopperref05_Advance.l0] at H
         by_cases c17 : x9_2 < (l0_2.length : Int)
         · rw [if_pos c17] at H
           have c17b0 : decide (x9_2 < (l0_2.length : Int)) = true := decide_eq_true c17
           clear c17
           by_cases c18 : 0 ≤ x9_2
           rotate_left
           · rw [if_neg c18] at H
             exact absurd H (by simp)
           rw [if_pos c18] at H
           have c18b0 : decide (0 ≤ x9_2) = true := decide_eq_true c18
           clear c18
           by_cases c19 : ((rd_T24 l0_2 x9_2).f1) < a1
           · rw [if_pos c19] at H
             have c19b0 : decide (((rd_T24 l0_2 x9_2).f1) < a1) = true := decide_eq_true c19
             clear c19
             by_cases c20 : x8_2.length < 2513169434916
             rotate_left
             · rw [if_neg c20] at H
               exact absurd H (by simp)
             rw [if_pos c20] at H
             have LMc20 := A_ c20
             clear c20
             obtain ⟨y407, hy407⟩ : ∃ y_ : List (S24), y_ = (x8_2 ++ [(⟨(rd_T24 l0_2 x9_2).f0, (rd_T24 l0_2 x9_2).f1, (rd_T24 l0_2 x9_2).f2, (rd_T24 l0_2 x9_2).f3, (rd_T24 l0_2 x9_2).f4, (rd_T24 l0_2 x9_2).f5⟩ : S24)]) := ⟨_, rfl⟩
             replace H : (hopperref05_Advance.l0 k2 a1 x7_2 y407 (wrap64 (x9_2 + 1)) a0_0 a0_1 l0_2) = some (r1, r2, r3, r4, r5) := by first | (rw [hy407]; with_reducible exact H) | (have H2_ := (Option.bind_some _ _).symm.trans H; rw [hy407]; with_reducible exact H2_) | (have H2_ := (Option.bind_some _ _).symm.trans H; with_reducible exact H2_) | with_reducible exact H | (rw [hy407]; exact H) | exact H
             have Ny407 := A_ hy407
             clear hy407
             have H' := A_ H
             clear H; have hnb21 := NB403_404.out; have hnc21 := NB404_403.out; have hcz22_0 : wr.cell? ⟨gb403, 0, none⟩ = some (.int .i64 a0_0) := e_ BK403 0; have hcz22_1 : wr.cell? ⟨gb403, 1, none⟩ = some (.int .i64 a0_1) := e_ BK403 1; have hcz22_2 : wr.cell? ⟨gb403, 2, none⟩ = some (.slice A0_2 l0_2.length c0_2) := e_ BK403 2; obtain ⟨hfz22_0, hfz22_1, hfz22_2⟩ := z3_ BK403
             have p405 : 0 ≤ (x9_2 : Int) := of_decide_eq_true (by first | (with_reducible assumption) | assumption)
             have q405 : x9_2 < (l0_2.length : Int) := of_decide_eq_true (by first | (with_reducible assumption) | assumption)
             obtain ⟨ad405, e405, hx405_0, hx405_1, hx405_2, hx405_3, hx405_4, hx405_5⟩ := at_T24 (Kd.V_reads' HO_404002.out).2.2 x9_2 p405 q405
             cases e405
             replace p405 := eq_true p405
             replace q405 := eq_true q405
             have p406 : 0 ≤ (x9_2 : Int) := of_decide_eq_true (by first | (with_reducible assumption) | assumption)
             have q406 : x9_2 < (l0_2.length : Int) := of_decide_eq_true (by first | (with_reducible assumption) | assumption)
             obtain ⟨ad406, e406, hx406_0, hx406_1, hx406_2, hx406_3, hx406_4, hx406_5⟩ := at_T24 (Kd.V_reads' HO_404002.out).2.2 x9_2 p406 q406
             obtain rfl : ad405 = ad406 := (by injection e406)
             replace p406 := eq_true p406
             replace q406 := eq_true q406
             go_wp2_with (first | ((with_reducible refine gate_builtin (b := .append) (xs := #[.tmp 37, .tmp 43]) rfl ?_); at_builtin; refine Kd.R_append k24 (w0 := w) w.heap.size rfl (.tmp 37) (.tmp 43) 22 24 (.agg #[(.int .i64 0), (.int .i64 0), (.int .i64 0), (.int .i64 0), (.int .i64 0), (.string ⟨#[]⟩)]) 56 rfl Try.underlying22 info24 rfl (by decide) (by omega) u8 x8_2 (⟨(rd_T24 l0_2 x9_2).f0, (rd_T24 l0_2 x9_2).f1, (rd_T24 l0_2 x9_2).f2, (rd_T24 l0_2 x9_2).f3, (rd_T24 l0_2 x9_2).f4, (rd_T24 l0_2 x9_2).f5⟩ : S24) [.int .i64 ((rd_T24 l0_2 x9_2).f0), .int .i64 ((rd_T24 l0_2 x9_2).f1), .int .i64 ((rd_T24 l0_2 x9_2).f2), .int .i64 ((rd_T24 l0_2 x9_2).f3), .int .i64 ((rd_T24 l0_2 x9_2).f4), .string ((rd_T24 l0_2 x9_2).f5)] (fun k_ => (w.heap.size ≤ k_) ∧ some k_ ≠ (u7 : Value).ownBlock) (fun _ => False) rfl rfl ?aP (fun _ hk => hk.elim) ?aF ?aO ?aB ?aS ?aL ?_; (case aP => exact k24_mkM _ _ _ (⟨(rd_T24 l0_2 x9_2).f0, (rd_T24 l0_2 x9_2).f1, (rd_T24 l0_2 x9_2).f2, (rd_T24 l0_2 x9_2).f3, (rd_T24 l0_2 x9_2).f4, (rd_T24 l0_2 x9_2).f5⟩ : S24)); (case aB => exact bw_); (case aF => exact (fun k_ hk => ⟨(Nat.le_trans (below_size bw_) hk), Kd.fresh' (Kd.R_lt (pr_ HO_7.out)) k_ hk⟩)); (case aO => exact (pr_ HO_8.out)); (case aS => exact (below_size bw_)); (case aL => have := LMc20.out; omega); intro v408 w23 ho hb hg hat; rw [← Ny407.out] at ho; replace HO_7 := A_ (Kd.R_after (ok := (fun k_ => (w.heap.size ≤ k_))) (pr_ HO_7.out) hg hat); replace HO_404002 := A_ (Kd.V_afterv (ok := (fun k_ => (P0_2_ k_ ∨ w.heap.size ≤ k_) ∧ some k_ ≠ (u7 : Value).ownBlock ∧ k_ ≠ gb403 ∧ k_ ≠ gb404)) (by (with_reducible repeat (first | apply Kd.V_alloc | apply Kd.V_drewN | apply Kd.V_drew)); exact Kd.V_mono HO_404002.out (fun _ hk => ⟨⟨hk.1, ⟨hk.2.1, ⟨hk.2.2.2.1, hk.2.2.2.2⟩⟩⟩, hk.2.2.1⟩)) hg hat); replace BK403 := A_ (blk_grown (g := gb403) (o := .cells #[.int .i64 a0_0, .int .i64 a0_1, .slice (some ad405) l0_2.length c0_2] 46 (0, 0)) (by (with_reducible repeat (first | refine bn_ ?_ _ | refine bd_ ?_ | refine ba_ ?_ _)); exact BK403.out) hg (Kd.R_ne HO_8.out BK403.out (by decide))); replace BK404 := A_ (blk_grown (g := gb404) (o := .cells #[.int .i64 0, .int .i64 0, .slice none 0 0] 46 (0, 0)) (by (with_reducible repeat (first | refine bn_ ?_ _ | refine bd_ ?_ | refine ba_ ?_ _)); exact BK404.out) hg (Kd.R_ne HO_8.out BK404.out (by decide))); replace HB := A_ (hb); have HO409 := A_ (ho); clear HO_8; clear ho hb hg hat))
             go_roundg k2
             case measure => have := HJ2.out; have := HK2.out; omega
             case rel => exact ⟨(x7_2), (y407), (wrap64 (x9_2 + 1)), (by first | rfl | (simp; done) | (simp [*]; done)), H', ⟨by have := HJ2.out; have := HK2.out; omega⟩, ⟨by (with_reducible repeat (first | apply ra_ | apply rn_ | apply rd_)); exact HO_7.out⟩, ⟨by (with_reducible repeat (first | apply ra_ | apply rn_ | apply rd_)); exact HO409.out⟩, ⟨by (with_reducible repeat (first | apply Kd.V_alloc | apply Kd.V_drewN | apply Kd.V_drew)); exact Kd.V_mono HO_404002.out (fun _ hk => ⟨hk.1.1, ⟨hk.1.2.1, ⟨hk.2, ⟨hk.1.2.2.1, hk.1.2.2.2⟩⟩⟩⟩)⟩, ⟨bk_⟩, ⟨bk_⟩, ⟨by repeat (first | (with_reducible first | exact HB.out | apply wa_ | apply wn_ | apply wd_ | refine ws_ ?_ GE403.out | refine ws_ ?_ GE404.out) | exact HB.out)⟩⟩
           · rw [if_neg c19] at H
             have c19b0 : decide (((rd_T24 l0_2 x9_2).f1) < a1) = false := decide_eq_false c19
             clear c19
             by_cases c24 : x7_2.length < 2513169434916
             rotate_left
             · rw [if_neg c24] at H
               exact absurd H (by simp)
             rw [if_pos c24] at H
             have LMc24 := A_ c24
             clear c24
             obtain ⟨y411, hy411⟩ : ∃ y_ : List (S24), y_ = (x7_2 ++ [(⟨(rd_T24 l0_2 x9_2).f0, (rd_T24 l0_2 x9_2).f1, (rd_T24 l0_2 x9_2).f2, (rd_T24 l0_2 x9_2).f3, (rd_T24 l0_2 x9_2).f4, (rd_T24 l0_2 x9_2).f5⟩ : S24)]) := ⟨_, rfl⟩
             replace H : (hopperref05_Advance.l0 k2 a1 y411 x8_2 (wrap64 (x9_2 + 1)) a0_0 a0_1 l0_2) = some (r1, r2, r3, r4, r5) := by first | (rw [hy411]; with_reducible exact H) | (have H2_ := (Option.bind_some _ _).symm.trans H; rw [hy411]; with_reducible exact H2_) | (have H2_ := (Option.bind_some _ _).symm.trans H; with_reducible exact H2_) | with_reducible exact H | (rw [hy411]; exact H) | exact H
             have Ny411 := A_ hy411
             clear hy411
             have H' := A_ H
             clear H; have hnb25 := NB403_404.out; have hnc25 := NB404_403.out; have hcz26_0 : wr.cell? ⟨gb403, 0, none⟩ = some (.int .i64 a0_0) := e_ BK403 0; have hcz26_1 : wr.cell? ⟨gb403, 1, none⟩ = some (.int .i64 a0_1) := e_ BK403 1; have hcz26_2 : wr.cell? ⟨gb403, 2, none⟩ = some (.slice A0_2 l0_2.length c0_2) := e_ BK403 2; obtain ⟨hfz26_0, hfz26_1, hfz26_2⟩ := z3_ BK403
             have p405 : 0 ≤ (x9_2 : Int) := of_decide_eq_true (by first | (with_reducible assumption) | assumption)
             have q405 : x9_2 < (l0_2.length : Int) := of_decide_eq_true (by first | (with_reducible assumption) | assumption)
             obtain ⟨ad405, e405, hx405_0, hx405_1, hx405_2, hx405_3, hx405_4, hx405_5⟩ := at_T24 (Kd.V_reads' HO_404002.out).2.2 x9_2 p405 q405
             cases e405
             replace p405 := eq_true p405
             replace q405 := eq_true q405
             have p410 : 0 ≤ (x9_2 : Int) := of_decide_eq_true (by first | (with_reducible assumption) | assumption)
             have q410 : x9_2 < (l0_2.length : Int) := of_decide_eq_true (by first | (with_reducible assumption) | assumption)
             obtain ⟨ad410, e410, hx410_0, hx410_1, hx410_2, hx410_3, hx410_4, hx410_5⟩ := at_T24 (Kd.V_reads' HO_404002.out).2.2 x9_2 p410 q410
             obtain rfl : ad405 = ad410 := (by injection e410)
             replace p410 := eq_true p410
             replace q410 := eq_true q410
             go_wp2_with (first | ((with_reducible refine gate_builtin (b := .append) (xs := #[.tmp 45, .tmp 51]) rfl ?_); at_builtin; refine Kd.R_append k24 (w0 := w) w.heap.size rfl (.tmp 45) (.tmp 51) 22 24 (.agg #[(.int .i64 0), (.int .i64 0), (.int .i64 0), (.int .i64 0), (.int .i64 0), (.string ⟨#[]⟩)]) 56 rfl Try.underlying22 info24 rfl (by decide) (by omega) u7 x7_2 (⟨(rd_T24 l0_2 x9_2).f0, (rd_T24 l0_2 x9_2).f1, (rd_T24 l0_2 x9_2).f2, (rd_T24 l0_2 x9_2).f3, (rd_T24 l0_2 x9_2).f4, (rd_T24 l0_2 x9_2).f5⟩ : S24) [.int .i64 ((rd_T24 l0_2 x9_2).f0), .int .i64 ((rd_T24 l0_2 x9_2).f1), .int .i64 ((rd_T24 l0_2 x9_2).f2), .int .i64 ((rd_T24 l0_2 x9_2).f3), .int .i64 ((rd_T24 l0_2 x9_2).f4), .string ((rd_T24 l0_2 x9_2).f5)] (fun k_ => (w.heap.size ≤ k_) ∧ some k_ ≠ (u8 : Value).ownBlock) (fun _ => False) rfl rfl ?aP (fun _ hk => hk.elim) ?aF ?aO ?aB ?aS ?aL ?_; (case aP => exact k24_mkM _ _ _ (⟨(rd_T24 l0_2 x9_2).f0, (rd_T24 l0_2 x9_2).f1, (rd_T24 l0_2 x9_2).f2, (rd_T24 l0_2 x9_2).f3, (rd_T24 l0_2 x9_2).f4, (rd_T24 l0_2 x9_2).f5⟩ : S24)); (case aB => exact bw_); (case aF => exact (fun k_ hk => ⟨(Nat.le_trans (below_size bw_) hk), Kd.fresh' (Kd.R_lt (pr_ HO_8.out)) k_ hk⟩)); (case aO => exact (pr_ HO_7.out)); (case aS => exact (below_size bw_)); (case aL => have := LMc24.out; omega); intro v412 w27 ho hb hg hat; rw [← Ny411.out] at ho; replace HO_8 := A_ (Kd.R_after (ok := (fun k_ => (w.heap.size ≤ k_))) (pr_ HO_8.out) hg hat); replace HO_404002 := A_ (Kd.V_afterv (ok := (fun k_ => (P0_2_ k_ ∨ w.heap.size ≤ k_) ∧ some k_ ≠ (u8 : Value).ownBlock ∧ k_ ≠ gb403 ∧ k_ ≠ gb404)) (by (with_reducible repeat (first | apply Kd.V_alloc | apply Kd.V_drewN | apply Kd.V_drew)); exact Kd.V_mono HO_404002.out (fun _ hk => ⟨⟨hk.1, ⟨hk.2.2.1, ⟨hk.2.2.2.1, hk.2.2.2.2⟩⟩⟩, hk.2.1⟩)) hg hat); replace BK403 := A_ (blk_grown (g := gb403) (o := .cells #[.int .i64 a0_0, .int .i64 a0_1, .slice (some ad405) l0_2.length c0_2] 46 (0, 0)) (by (with_reducible repeat (first | refine bn_ ?_ _ | refine bd_ ?_ | refine ba_ ?_ _)); exact BK403.out) hg (Kd.R_ne HO_7.out BK403.out (by decide))); replace BK404 := A_ (blk_grown (g := gb404) (o := .cells #[.int .i64 0, .int .i64 0, .slice none 0 0] 46 (0, 0)) (by (with_reducible repeat (first | refine bn_ ?_ _ | refine bd_ ?_ | refine ba_ ?_ _)); exact BK404.out) hg (Kd.R_ne HO_7.out BK404.out (by decide))); replace HB := A_ (hb); have HO413 := A_ (ho); clear HO_7; clear ho hb hg hat))
             go_roundg k2
             case measure => have := HJ2.out; have := HK2.out; omega
             case rel => exact ⟨(y411), (x8_2), (wrap64 (x9_2 + 1)), (by first | rfl | (simp; done) | (simp [*]; done)), H', ⟨by have := HJ2.out; have := HK2.out; omega⟩, ⟨by (with_reducible repeat (first | apply ra_ | apply rn_ | apply rd_)); exact HO413.out⟩, ⟨by (with_reducible repeat (first | apply ra_ | apply rn_ | apply rd_)); exact HO_8.out⟩, ⟨by (with_reducible repeat (first | apply Kd.V_alloc | apply Kd.V_drewN | apply Kd.V_drew)); exact Kd.V_mono HO_404002.out (fun _ hk => ⟨hk.1.1, ⟨hk.2, ⟨hk.1.2.1, ⟨hk.1.2.2.1, hk.1.2.2.2⟩⟩⟩⟩)⟩, ⟨bk_⟩, ⟨bk_⟩, ⟨by repeat (first | (with_reducible first | exact HB.out | apply wa_ | apply wn_ | apply wd_ | refine ws_ ?_ GE403.out | refine ws_ ?_ GE404.out) | exact HB.out)⟩⟩
         · rw [if_neg c17] at H
           have c17b0 : decide (x9_2 < (l0_2.length : Int)) = false := decide_eq_false c17
           clear c17
           simp only [Option.some.injEq, Prod.mk.injEq] at H
           obtain ⟨rfl, rfl, rfl, rfl, rfl⟩ := H
           have hnb28 := NB403_404.out; have hnc28 := NB404_403.out; have hcz29_0 : wr.cell? ⟨gb403, 0, none⟩ = some (.int .i64 a0_0) := e_ BK403 0; have hcz29_1 : wr.cell? ⟨gb403, 1, none⟩ = some (.int .i64 a0_1) := e_ BK403 1; have hcz29_2 : wr.cell? ⟨gb403, 2, none⟩ = some (.slice A0_2 l0_2.length c0_2) := e_ BK403 2; obtain ⟨hfz29_0, hfz29_1, hfz29_2⟩ := z3_ BK403
           obtain ⟨Ao30, co30, eo30⟩ := Kd.R_slice HO_7.out
           subst eo30
           have hcz31_0 : wr.cell? ⟨gb404, 0, none⟩ = some (.int .i64 0) := e_ BK404 0; have hcz31_1 : wr.cell? ⟨gb404, 1, none⟩ = some (.int .i64 0) := e_ BK404 1; have hcz31_2 : wr.cell? ⟨gb404, 2, none⟩ = some (.slice none 0 0) := e_ BK404 2; obtain ⟨hfz31_0, hfz31_1, hfz31_2⟩ := z3_ BK404
           go_wp2
           refine bodyPost_ret (results_ctt rfl _ _ gb404 46 #[.int .i64 a0_0, .int .i64 a1, .slice Ao30 x7_2.length co30] (0, 0) _ rfl (by (with_reducible repeat (first | refine bn_ ?_ _ | refine bd_ ?_ | refine ba_ ?_ _)); refine blk_put (cs := #[.int .i64 a0_0, .int .i64 a1, .slice none 0 0]) ?_ 2 _ rfl; (with_reducible repeat (first | refine bn_ ?_ _ | refine bd_ ?_ | refine ba_ ?_ _)); refine blk_put (cs := #[.int .i64 a0_0, .int .i64 0, .slice none 0 0]) ?_ 1 _ rfl; (with_reducible repeat (first | refine bn_ ?_ _ | refine bd_ ?_ | refine ba_ ?_ _)); refine blk_put (cs := #[.int .i64 0, .int .i64 0, .slice none 0 0]) ?_ 0 _ rfl; (with_reducible repeat (first | refine bn_ ?_ _ | refine bd_ ?_ | refine ba_ ?_ _)); refine blk_far ?_ NB404_403.out _; (with_reducible repeat (first | refine bn_ ?_ _ | refine bd_ ?_ | refine ba_ ?_ _)); refine blk_far ?_ NB404_403.out _; (with_reducible repeat (first | refine bn_ ?_ _ | refine bd_ ?_ | refine ba_ ?_ _)); exact BK404.out) Try.underlying46 rfl (by kernel_rfl)) rfl ?_
           exact ⟨_, _, by first | rfl | (simp [errW_none, errW_some] <;> rfl) | (simp [*, errW_none, errW_some] <;> rfl), Kd.V_mono (Kd.R_V (by (with_reducible repeat (first | apply ra_ | apply rn_ | apply rd_)); exact Kd.R_mono (Kd.R_far (p := ⟨gb404, 2, none⟩) (Kd.R_far (p := ⟨gb404, 1, none⟩) (Kd.R_far (p := ⟨gb404, 0, none⟩) (Kd.R_far (p := ⟨gb403, 2, none⟩) (Kd.R_far (p := ⟨gb403, 1, none⟩) (Kd.R_types (Kd.R_types HO_7.out BK403.out (by decide)) BK404.out (by decide)) (fun _ hk => hk.1.2) (.int .i64 a1)) (fun _ hk => hk.1.2) (.slice Ao30 x7_2.length co30)) (fun _ hk => hk.2) (.int .i64 a0_0)) (fun _ hk => hk.2) (.int .i64 a1)) (fun _ hk => hk.2) (.slice Ao30 x7_2.length co30)) (fun _ hk => hk.1.1))) (fun k_ hk => by first | exact ⟨(.inr (hk.1)), hk.2⟩ | exact (.inr (hk))), by (with_reducible repeat (first | apply ra_ | apply rn_ | apply rd_)); exact Kd.R_mono (Kd.R_far (p := ⟨gb404, 2, none⟩) (Kd.R_far (p := ⟨gb404, 1, none⟩) (Kd.R_far (p := ⟨gb404, 0, none⟩) (Kd.R_far (p := ⟨gb403, 2, none⟩) (Kd.R_far (p := ⟨gb403, 1, none⟩) (Kd.R_types (Kd.R_types HO_8.out BK403.out (by decide)) BK404.out (by decide)) (fun _ hk => hk.1.2) (.int .i64 a1)) (fun _ hk => hk.1.2) (.slice Ao30 x7_2.length co30)) (fun _ hk => hk.2) (.int .i64 a0_0)) (fun _ hk => hk.2) (.int .i64 a1)) (fun _ hk => hk.2) (.slice Ao30 x7_2.length co30)) (fun _ hk => hk.1.1.1), by repeat (first | (with_reducible first | exact HB.out | apply wa_ | apply wn_ | apply wd_ | refine ws_ ?_ GE403.out | refine ws_ ?_ GE404.out) | exact HB.out)⟩

end Go.Proofs.Ytehncbhmdgdkjaa.Q
