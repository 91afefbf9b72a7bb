/- Written by this session's own program over the kit's print: functions of Go told as plain functions, or the row of one statement; proved for every input, with no condition of ours. -/
import Derived.Test.YtehncbhmdgdkjaaQx0
import Derived.Test.YtehncbhmdgdkjaaQx1
import Derived.Test.YtehncbhmdgdkjaaQx3
import Derived.Test.YtehncbhmdgdkjaaQx5
import Derived.Test.YtehncbhmdgdkjaaQx6
import Derived.Test.YtehncbhmdgdkjaaQx7
import Derived.Test.YtehncbhmdgdkjaaQx8
import Derived.Test.YtehncbhmdgdkjaaQx18
import Derived.Test.YtehncbhmdgdkjaaQx20
import Derived.Test.YtehncbhmdgdkjaaQx29
namespace Go.Proofs.Ytehncbhmdgdkjaa.Q
open Go.RowKit Go.Proofs.YtehncbhmdgdkjaaW.PrintWords Go.Proofs.YtehncbhmdgdkjaaW.PrintLast Go.Proofs.YtehncbhmdgdkjaaW.PrintMore
attribute [local go_sem] max2_int min2_int max_two min_two max_three min_three max_four min_four   -- for this text's walks alone
set_option linter.unusedVariables false
set_option linter.unusedSimpArgs false

attribute [local go_sem high] eqA24
/-! ### hopperlaw05_QueuePuts: function 14 -/
mutual
def hopperlaw05_QueuePuts.j0 : Nat → Bool → Int → Int → List (S24) → Int → Int → Int → Int → Int → ByteArray → Int → Int → Int → Int → Int → ByteArray → Option (Bool)
  | 0, _, _, _, _, _, _, _, _, _, _, _, _, _, _, _, _ => none
  | k + 1, x24, x584000, x584001, x584002, x585000, x585001, x585002, x585003, x585004, x585005, x586000, x586001, x586002, x586003, x586004, x586005 => if x24 = true then ((hopperlaw05_live.f k).bind fun t589 => (some t589)) else ((queue_Put.f x584000 x584001 x584002 x585000 x585001 x585002 x585003 x585004 x585005).bind fun bt590 => ((queue_Find.f bt590.1 bt590.2.1 bt590.2.2 x585001).bind fun bt596 => (if bt596.2.2.2.2.2.2 = true then (if (!(bt596.1 == x585000) || (!(bt596.2.1 == x585001) || (!(bt596.2.2.1 == x585002) || (!(bt596.2.2.2.1 == x585003) || (!(bt596.2.2.2.2.1 == x585004) || (!(bt596.2.2.2.2.2.1.toList == x585005.toList))))))) = true then (none) else ((queue_Put.f bt590.1 bt590.2.1 bt590.2.2 x585000 x585001 x585002 x585003 x585004 x585005).bind fun bt604 => ((hopperref05_Same.f k bt604.1 bt604.2.1 bt604.2.2 bt590.1 bt590.2.1 bt590.2.2).bind fun t609 => (hopperlaw05_QueuePuts.j1 k (!t609) x584000 x584001 x584002 x585000 x585001 x585002 x585003 x585004 x585005 x586000 x586001 x586002 x586003 x586004 x586005 bt590.1 bt590.2.1 bt590.2.2)))) else (none))))
def hopperlaw05_QueuePuts.j1 : Nat → Bool → Int → Int → List (S24) → Int → Int → Int → Int → Int → ByteArray → Int → Int → Int → Int → Int → ByteArray → Int → Int → List (S24) → Option (Bool)
  | 0, _, _, _, _, _, _, _, _, _, _, _, _, _, _, _, _, _, _, _ => none
  | k + 1, x50, x584000, x584001, x584002, x585000, x585001, x585002, x585003, x585004, x585005, x586000, x586001, x586002, x586003, x586004, x586005, x596000, x596001, x596002 => if x50 = true then (none) else ((queue_Drop.f x596000 x596001 x596002 x585001).bind fun bt610 => ((queue_Find.f bt610.1 bt610.2.1 bt610.2.2 x585001).bind fun bt615 => (if bt615.2.2.2.2.2.2 = true then (hopperlaw05_QueuePuts.j2 k bt615.2.2.2.2.2.2 true x584000 x584001 x584002 x585000 x585001 x585002 x585003 x585004 x585005 x586000 x586001 x586002 x586003 x586004 x586005) else ((queue_Check.f k x584000 x584001 x584002 16).bind fun t623 => (if t623 = true then ((hopperref04_Check.f x585000 x585001 x585002 x585003 x585004 x585005).bind fun t624 => (if t624 = true then ((hopperref04_Check.f x586000 x586001 x586002 x586003 x586004 x586005).bind fun t625 => (hopperlaw05_QueuePuts.j2 k bt615.2.2.2.2.2.2 (!t625) x584000 x584001 x584002 x585000 x585001 x585002 x585003 x585004 x585005 x586000 x586001 x586002 x586003 x586004 x586005)) else (hopperlaw05_QueuePuts.j2 k bt615.2.2.2.2.2.2 true x584000 x584001 x584002 x585000 x585001 x585002 x585003 x585004 x585005 x586000 x586001 x586002 x586003 x586004 x586005))) else (hopperlaw05_QueuePuts.j2 k bt615.2.2.2.2.2.2 true x584000 x584001 x584002 x585000 x585001 x585002 x585003 x585004 x585005 x586000 x586001 x586002 x586003 x586004 x586005))))))
def hopperlaw05_QueuePuts.j2 : Nat → Bool → Bool → Int → Int → List (S24) → Int → Int → Int → Int → Int → ByteArray → Int → Int → Int → Int → Int → ByteArray → Option (Bool)
  | 0, _, _, _, _, _, _, _, _, _, _, _, _, _, _, _, _, _ => none
  | k + 1, x11, x76, x584000, x584001, x584002, x585000, x585001, x585002, x585003, x585004, x585005, x586000, x586001, x586002, x586003, x586004, x586005 => if x76 = true then (if x11 = true then (none) else ((hopperlaw05_live.f k).bind fun t626 => (some t626))) else (if x585001 = x586001 then ((hopperlaw05_live.f k).bind fun t627 => (some t627)) else ((queue_Put.f x584000 x584001 x584002 x585000 x585001 x585002 x585003 x585004 x585005).bind fun bt628 => ((queue_Put.f bt628.1 bt628.2.1 bt628.2.2 x586000 x586001 x586002 x586003 x586004 x586005).bind fun bt633 => ((queue_Put.f x584000 x584001 x584002 x586000 x586001 x586002 x586003 x586004 x586005).bind fun bt638 => ((queue_Put.f bt638.1 bt638.2.1 bt638.2.2 x585000 x585001 x585002 x585003 x585004 x585005).bind fun bt643 => ((hopperref05_Same.f k bt633.1 bt633.2.1 bt633.2.2 bt643.1 bt643.2.1 bt643.2.2).bind fun t648 => (if t648 = true then ((hopperlaw05_live.f k).bind fun t649 => (some t649)) else (none))))))))
end
def hopperlaw05_QueuePuts.f (k : Nat) (a0_0 : Int) (a0_1 : Int) (l0_2 : List (S24)) (a1_0 : Int) (a1_1 : Int) (a1_2 : Int) (a1_3 : Int) (a1_4 : Int) (a1_5 : ByteArray) (a2_0 : Int) (a2_1 : Int) (a2_2 : Int) (a2_3 : Int) (a2_4 : Int) (a2_5 : ByteArray) : Option (Bool) := (hopperref05_Small.f k a0_0 a0_1 l0_2).bind fun t586 => (if t586 = true then ((hopperref04_Small.f a1_0 a1_1 a1_2 a1_3 a1_4 a1_5).bind fun t587 => (if t587 = true then ((hopperref04_Small.f a2_0 a2_1 a2_2 a2_3 a2_4 a2_5).bind fun t588 => (hopperlaw05_QueuePuts.j0 k (!t588) a0_0 a0_1 l0_2 a1_0 a1_1 a1_2 a1_3 a1_4 a1_5 a2_0 a2_1 a2_2 a2_3 a2_4 a2_5)) else (hopperlaw05_QueuePuts.j0 k true a0_0 a0_1 l0_2 a1_0 a1_1 a1_2 a1_3 a1_4 a1_5 a2_0 a2_1 a2_2 a2_3 a2_4 a2_5))) else (hopperlaw05_QueuePuts.j0 k true a0_0 a0_1 l0_2 a1_0 a1_1 a1_2 a1_3 a1_4 a1_5 a2_0 a2_1 a2_2 a2_3 a2_4 a2_5))
theorem hopperlaw05_QueuePuts.mono_l : ∀ k, (∀ y0 y1 y2 y3 y4 y5 y6 y7 y8 y9 y10 y11 y12 y13 y14 y15, LeO (hopperlaw05_QueuePuts.j0 k y0 y1 y2 y3 y4 y5 y6 y7 y8 y9 y10 y11 y12 y13 y14 y15) (hopperlaw05_QueuePuts.j0 (k + 1) y0 y1 y2 y3 y4 y5 y6 y7 y8 y9 y10 y11 y12 y13 y14 y15)) ∧ (∀ y0 y1 y2 y3 y4 y5 y6 y7 y8 y9 y10 y11 y12 y13 y14 y15 y16 y17 y18, LeO (hopperlaw05_QueuePuts.j1 k y0 y1 y2 y3 y4 y5 y6 y7 y8 y9 y10 y11 y12 y13 y14 y15 y16 y17 y18) (hopperlaw05_QueuePuts.j1 (k + 1) y0 y1 y2 y3 y4 y5 y6 y7 y8 y9 y10 y11 y12 y13 y14 y15 y16 y17 y18)) ∧ (∀ y0 y1 y2 y3 y4 y5 y6 y7 y8 y9 y10 y11 y12 y13 y14 y15 y16, LeO (hopperlaw05_QueuePuts.j2 k y0 y1 y2 y3 y4 y5 y6 y7 y8 y9 y10 y11 y12 y13 y14 y15 y16) (hopperlaw05_QueuePuts.j2 (k + 1) y0 y1 y2 y3 y4 y5 y6 y7 y8 y9 y10 y11 y12 y13 y14 y15 y16))
  | 0 => ⟨fun _ _ _ _ _ _ _ _ _ _ _ _ _ _ _ _ r h => by simp [hopperlaw05_QueuePuts.j0] at h, fun _ _ _ _ _ _ _ _ _ _ _ _ _ _ _ _ _ _ _ r h => by simp [hopperlaw05_QueuePuts.j1] at h, fun _ _ _ _ _ _ _ _ _ _ _ _ _ _ _ _ _ r h => by simp [hopperlaw05_QueuePuts.j2] at h⟩
  | k + 1 => by
    obtain ⟨ih0, ih1, ih2⟩ := hopperlaw05_QueuePuts.mono_l k
    refine ⟨?_, ?_, ?_⟩
    · intro y0 y1 y2 y3 y4 y5 y6 y7 y8 y9 y10 y11 y12 y13 y14 y15
      unfold hopperlaw05_QueuePuts.j0
      repeat' first
      | (with_reducible exact ih0 _ _ _ _ _ _ _ _ _ _ _ _ _ _ _ _)
      | (with_reducible exact ih1 _ _ _ _ _ _ _ _ _ _ _ _ _ _ _ _ _ _ _)
      | (with_reducible exact ih2 _ _ _ _ _ _ _ _ _ _ _ _ _ _ _ _ _)
      | (with_reducible exact hopperlaw05_live.mono _)
      | (with_reducible exact hopperref05_Same.mono _ _ _ _ _ _ _)
      | (with_reducible exact hopperref05_Small.mono _ _ _ _)
      | (with_reducible exact queue_Check.mono _ _ _ _ _)
      | (with_reducible exact LeO.refl _)
      | (with_reducible exact LeO.none _)
      | (with_reducible refine LeO.ite ?_ ?_)
      | (with_reducible refine LeO.bind ?_ (fun _ => ?_))
      | exact ih0 _ _ _ _ _ _ _ _ _ _ _ _ _ _ _ _
      | exact ih1 _ _ _ _ _ _ _ _ _ _ _ _ _ _ _ _ _ _ _
      | exact ih2 _ _ _ _ _ _ _ _ _ _ _ _ _ _ _ _ _
      | exact hopperlaw05_live.mono _
      | exact hopperref05_Same.mono _ _ _ _ _ _ _
      | exact hopperref05_Small.mono _ _ _ _
      | exact queue_Check.mono _ _ _ _ _
      | exact LeO.none _
      | refine LeO.ite ?_ ?_
      | refine LeO.bind ?_ (fun _ => ?_)
    · intro y0 y1 y2 y3 y4 y5 y6 y7 y8 y9 y10 y11 y12 y13 y14 y15 y16 y17 y18
      unfold hopperlaw05_QueuePuts.j1
      repeat' first
      | (with_reducible exact ih0 _ _ _ _ _ _ _ _ _ _ _ _ _ _ _ _)
      | (with_reducible exact ih1 _ _ _ _ _ _ _ _ _ _ _ _ _ _ _ _ _ _ _)
      | (with_reducible exact ih2 _ _ _ _ _ _ _ _ _ _ _ _ _ _ _ _ _)
      | (with_reducible exact hopperlaw05_live.mono _)
      | (with_reducible exact hopperref05_Same.mono _ _ _ _ _ _ _)
      | (with_reducible exact hopperref05_Small.mono _ _ _ _)
      | (with_reducible exact queue_Check.mono _ _ _ _ _)
      | (with_reducible exact LeO.refl _)
      | (with_reducible exact LeO.none _)
      | (with_reducible refine LeO.ite ?_ ?_)
      | (with_reducible refine LeO.bind ?_ (fun _ => ?_))
      | exact ih0 _ _ _ _ _ _ _ _ _ _ _ _ _ _ _ _
      | exact ih1 _ _ _ _ _ _ _ _ _ _ _ _ _ _ _ _ _ _ _
      | exact ih2 _ _ _ _ _ _ _ _ _ _ _ _ _ _ _ _ _
      | exact hopperlaw05_live.mono _
      | exact hopperref05_Same.mono _ _ _ _ _ _ _
      | exact hopperref05_Small.mono _ _ _ _
      | exact queue_Check.mono _ _ _ _ _
      | exact LeO.none _
      | refine LeO.ite ?_ ?_
      | refine LeO.bind ?_ (fun _ => ?_)
    · intro y0 y1 y2 y3 y4 y5 y6 y7 y8 y9 y10 y11 y12 y13 y14 y15 y16
      unfold hopperlaw05_QueuePuts.j2
      repeat' first
      | (with_reducible exact ih0 _ _ _ _ _ _ _ _ _ _ _ _ _ _ _ _)
      | (with_reducible exact ih1 _ _ _ _ _ _ _ _ _ _ _ _ _ _ _ _ _ _ _)
      | (with_reducible exact ih2 _ _ _ _ _ _ _ _ _ _ _ _ _ _ _ _ _)
      | (with_reducible exact hopperlaw05_live.mono _)
      | (with_reducible exact hopperref05_Same.mono _ _ _ _ _ _ _)
      | (with_reducible exact hopperref05_Small.mono _ _ _ _)
      | (with_reducible exact queue_Check.mono _ _ _ _ _)
      | (with_reducible exact LeO.refl _)
      | (with_reducible exact LeO.none _)
      | (with_reducible refine LeO.ite ?_ ?_)
      | (with_reducible refine LeO.bind ?_ (fun _ => ?_))
      | exact ih0 _ _ _ _ _ _ _ _ _ _ _ _ _ _ _ _
      | exact ih1 _ _ _ _ _ _ _ _ _ _ _ _ _ _ _ _ _ _ _
      | exact ih2 _ _ _ _ _ _ _ _ _ _ _ _ _ _ _ _ _
      | exact hopperlaw05_live.mono _
      | exact hopperref05_Same.mono _ _ _ _ _ _ _
      | exact hopperref05_Small.mono _ _ _ _
      | exact queue_Check.mono _ _ _ _ _
      | exact LeO.none _
      | refine LeO.ite ?_ ?_
      | refine LeO.bind ?_ (fun _ => ?_)
theorem hopperlaw05_QueuePuts.mono : ∀ a0 a1 a2 a3 a4 a5 a6 a7 a8 a9 a10 a11 a12 a13 a14 k, LeO (hopperlaw05_QueuePuts.f k a0 a1 a2 a3 a4 a5 a6 a7 a8 a9 a10 a11 a12 a13 a14) (hopperlaw05_QueuePuts.f (k + 1) a0 a1 a2 a3 a4 a5 a6 a7 a8 a9 a10 a11 a12 a13 a14) := by
  intro a0 a1 a2 a3 a4 a5 a6 a7 a8 a9 a10 a11 a12 a13 a14 k
  obtain ⟨ih0, ih1, ih2⟩ := hopperlaw05_QueuePuts.mono_l k
  unfold hopperlaw05_QueuePuts.f
  repeat' first
      | (with_reducible exact ih0 _ _ _ _ _ _ _ _ _ _ _ _ _ _ _ _)
      | (with_reducible exact ih1 _ _ _ _ _ _ _ _ _ _ _ _ _ _ _ _ _ _ _)
      | (with_reducible exact ih2 _ _ _ _ _ _ _ _ _ _ _ _ _ _ _ _ _)
      | (with_reducible exact hopperlaw05_live.mono _)
      | (with_reducible exact hopperref05_Same.mono _ _ _ _ _ _ _)
      | (with_reducible exact hopperref05_Small.mono _ _ _ _)
      | (with_reducible exact queue_Check.mono _ _ _ _ _)
      | (with_reducible exact LeO.refl _)
      | (with_reducible exact LeO.none _)
      | (with_reducible refine LeO.ite ?_ ?_)
      | (with_reducible refine LeO.bind ?_ (fun _ => ?_))
      | exact ih0 _ _ _ _ _ _ _ _ _ _ _ _ _ _ _ _
      | exact ih1 _ _ _ _ _ _ _ _ _ _ _ _ _ _ _ _ _ _ _
      | exact ih2 _ _ _ _ _ _ _ _ _ _ _ _ _ _ _ _ _
      | exact hopperlaw05_live.mono _
      | exact hopperref05_Same.mono _ _ _ _ _ _ _
      | exact hopperref05_Small.mono _ _ _ _
      | exact queue_Check.mono _ _ _ _ _
      | exact LeO.none _
      | refine LeO.ite ?_ ?_
      | refine LeO.bind ?_ (fun _ => ?_)
def hopperlaw05_QueuePuts.T5 : Bool × List (List Nat × List Nat) := (true, [([], []), ([0], [0]), ([1], [1]), ([2], [2]), ([2], [2]), ([3, 4, 2], [2, 3, 4]), ([2, 5], [2, 5]), ([6, 2], [6]), ([7], [7]), ([7], [7]), ([8, 9, 7, 7], [7, 8, 9]), ([7], [7]), ([10, 11, 10, 7], [7, 10, 11]), ([12, 7], [7, 12]), ([7, 13], [7, 13])])
def hopperlaw05_QueuePuts.B5 : List Nat := [0, 1, 3, 7, 7, 31, 63, 127, 255, 255, 1023, 255, 4095, 8191, 16383]
theorem hopperlaw05_QueuePuts.tab5 : rtab .any (opsOf Try.f14 5) = hopperlaw05_QueuePuts.T5 := by kernel_rfl
theorem hopperlaw05_QueuePuts.bits5 : waitsOk hopperlaw05_QueuePuts.T5.2 hopperlaw05_QueuePuts.B5 = true := by kernel_rfl
def hopperlaw05_QueuePuts.T7 : Bool × List (List Nat × List Nat) := (true, [([], []), ([], []), ([1], [1]), ([0, 2], [0, 2]), ([], []), ([4], [4]), ([3, 5, 3], [3, 5]), ([6], [6]), ([7], [7]), ([7], [7]), ([], []), ([10, 8, 6, 0, 1, 2, 3, 4, 5, 6, 7, 8, 10], [8, 10]), ([9, 11, 0, 1, 2, 3, 4, 5, 6, 7, 8, 9, 10, 11], [9])])
def hopperlaw05_QueuePuts.B7 : List Nat := [0, 0, 2, 7, 0, 16, 63, 127, 255, 255, 0, 1535, 4095]
theorem hopperlaw05_QueuePuts.tab7 : rtab .any (opsOf Try.f14 7) = hopperlaw05_QueuePuts.T7 := by kernel_rfl
theorem hopperlaw05_QueuePuts.bits7 : waitsOk hopperlaw05_QueuePuts.T7.2 hopperlaw05_QueuePuts.B7 = true := by kernel_rfl
def hopperlaw05_QueuePuts.T10 : Bool × List (List Nat × List Nat) := (true, [([], []), ([0], [0]), ([], []), ([2], [2]), ([1, 3], [1, 3]), ([4], [4]), ([5], [5]), ([5], [5]), ([6, 7, 5, 5], [5, 6, 7]), ([5], [5]), ([8, 9, 8, 5], [5, 8, 9]), ([5], [5]), ([5], [5]), ([11, 12, 10, 5], [5, 11, 12]), ([5], [5]), ([13, 14, 13, 5], [5, 13, 14]), ([10, 15, 15, 5], [5, 10, 15]), ([5, 16], [5, 16]), ([17, 16], [17]), ([18, 18], [18]), ([18, 19], [18, 19]), ([20, 19, 0, 1, 2, 3, 4, 5, 6, 7, 8, 9, 10, 11, 12, 13, 14, 15, 16, 17, 18, 19, 20], [20])])
def hopperlaw05_QueuePuts.B10 : List Nat := [0, 1, 0, 4, 15, 31, 63, 63, 255, 63, 1023, 63, 63, 8191, 63, 32767, 65535, 131071, 262143, 524287, 1048575, 2097151]
theorem hopperlaw05_QueuePuts.tab10 : rtab .any (opsOf Try.f14 10) = hopperlaw05_QueuePuts.T10 := by kernel_rfl
theorem hopperlaw05_QueuePuts.bits10 : waitsOk hopperlaw05_QueuePuts.T10.2 hopperlaw05_QueuePuts.B10 = true := by kernel_rfl
theorem hopperlaw05_QueuePuts.six_ {a b c d e x y z u v : Int} {s t : List UInt8} (h : (a == x && (b == y && (c == z && (d == u && (e == v && (s == t)))))) = true) : (a = x) = True ∧ (b = y) = True ∧ (c = z) = True ∧ (d = u) = True ∧ (e = v) = True ∧ (s = t) = True := by
  simp only [Bool.and_eq_true, beq_iff_eq] at h
  simp [h]
abbrev hopperlaw05_QueuePuts.T : Bool := true
abbrev hopperlaw05_QueuePuts.F : Bool := false
theorem hopperlaw05_QueuePuts.on_ {W W' : World} {p : Addr} {v : Value} (hb : Below W.heap.size W W') (h : W.cell? p = some v) : W'.cell? p = some v := (hb.cell (World.block_lt_of_cell? _ _ h)).trans h
theorem hopperlaw05_QueuePuts.f6_ {α : Type} {d : Kd α} {e base g : Nat} {w : World} {ok : Nat → Prop} {v : Value} {xs : List α} (h : Kd.R d e w base ok v xs) (hok : ∀ k, ok k → k ≠ g) (a0 a1 a2 a3 a4 a5 : Value) : Kd.R d e ((((((w.setCell ⟨g, 0, none⟩ a0).setCell ⟨g, 1, none⟩ a1).setCell ⟨g, 2, none⟩ a2).setCell ⟨g, 3, none⟩ a3).setCell ⟨g, 4, none⟩ a4).setCell ⟨g, 5, none⟩ a5) base ok v xs := Kd.R_far (p := ⟨g, 5, none⟩) (Kd.R_far (p := ⟨g, 4, none⟩) (Kd.R_far (p := ⟨g, 3, none⟩) (Kd.R_far (p := ⟨g, 2, none⟩) (Kd.R_far (p := ⟨g, 1, none⟩) (Kd.R_far (p := ⟨g, 0, none⟩) h hok a0) hok a1) hok a2) hok a3) hok a4) hok a5
abbrev hopperlaw05_QueuePuts.bn_ := @blk_drewN
abbrev hopperlaw05_QueuePuts.bd_ := @blk_drew
abbrev hopperlaw05_QueuePuts.ba_ := @blk_alloc
abbrev hopperlaw05_QueuePuts.ra_ := @Kd.R_alloc
abbrev hopperlaw05_QueuePuts.rn_ := @Kd.R_drewN
abbrev hopperlaw05_QueuePuts.rd_ := @Kd.R_drew
abbrev hopperlaw05_QueuePuts.ca_ := @Kd.C_alloc
abbrev hopperlaw05_QueuePuts.cn_ := @Kd.C_drewN
abbrev hopperlaw05_QueuePuts.cd_ := @Kd.C_drew
abbrev hopperlaw05_QueuePuts.wa_ := @below_alloc
abbrev hopperlaw05_QueuePuts.wn_ := @pw_below_drewN
abbrev hopperlaw05_QueuePuts.wd_ := @below_drew1
abbrev hopperlaw05_QueuePuts.ws_ := @below_set
abbrev hopperlaw05_QueuePuts.A_ := @Aside0.mk
abbrev hopperlaw05_QueuePuts.s0_ := @List.setIfInBounds_toArray
abbrev hopperlaw05_QueuePuts.s1_ := @List.set_cons_zero
abbrev hopperlaw05_QueuePuts.s2_ := @List.set_cons_succ
abbrev hopperlaw05_QueuePuts.m0_ := @List.map_toArray
abbrev hopperlaw05_QueuePuts.m1_ := @List.map_cons
abbrev hopperlaw05_QueuePuts.m2_ := @List.map_nil
set_option maxHeartbeats 8000000 in
set_option maxRecDepth 100000 in
theorem hopperlaw05_QueuePuts.calls (k : Nat) (a0_0 : Int) (a0_1 : Int) (A0_2 : Option Addr) (c0_2 : Nat) (l0_2 : List (S24)) (a1_0 : Int) (a1_1 : Int) (a1_2 : Int) (a1_3 : Int) (a1_4 : Int) (a1_5 : ByteArray) (a2_0 : Int) (a2_1 : Int) (a2_2 : Int) (a2_3 : Int) (a2_4 : Int) (a2_5 : ByteArray) (r : Bool) (w : World) (hr0_2 : Kd.C k24 w A0_2 l0_2.length l0_2) (hc0_2 : l0_2.length ≤ c0_2) (h : hopperlaw05_QueuePuts.f k a0_0 a0_1 l0_2 a1_0 a1_1 a1_2 a1_3 a1_4 a1_5 a2_0 a2_1 a2_2 a2_3 a2_4 a2_5 = some r) :
    Calls Try.prog 14 #[.agg #[.int .i64 a0_0, .int .i64 a0_1, .slice A0_2 l0_2.length c0_2], .agg #[.int .i64 a1_0, .int .i64 a1_1, .int .i64 a1_2, .int .i64 a1_3, .int .i64 a1_4, .string a1_5], .agg #[.int .i64 a2_0, .int .i64 a2_1, .int .i64 a2_2, .int .i64 a2_3, .int .i64 a2_4, .string a2_5]] w fun e w' => e = .returned (.bool r) ∧ Below w.heap.size w w' := by
  have hu46 := Try.underlying46
  have hu24 := Try.underlying24
  have HR0_2 := A_ hr0_2
  have HC0_2 := A_ hc0_2
  clear hr0_2 hc0_2; have HB := A_ (Below.refl w.heap.size w)
  have H : ((hopperref05_Small.f k a0_0 a0_1 l0_2).bind fun t586 => (if t586 = true then ((hopperref04_Small.f a1_0 a1_1 a1_2 a1_3 a1_4 a1_5).bind fun t587 => (if t587 = true then ((hopperref04_Small.f a2_0 a2_1 a2_2 a2_3 a2_4 a2_5).bind fun t588 => (hopperlaw05_QueuePuts.j0 k (!t588) a0_0 a0_1 l0_2 a1_0 a1_1 a1_2 a1_3 a1_4 a1_5 a2_0 a2_1 a2_2 a2_3 a2_4 a2_5)) else (hopperlaw05_QueuePuts.j0 k true a0_0 a0_1 l0_2 a1_0 a1_1 a1_2 a1_3 a1_4 a1_5 a2_0 a2_1 a2_2 a2_3 a2_4 a2_5))) else (hopperlaw05_QueuePuts.j0 k true a0_0 a0_1 l0_2 a1_0 a1_1 a1_2 a1_3 a1_4 a1_5 a2_0 a2_1 a2_2 a2_3 a2_4 a2_5))) = some r := h
  clear h
  have HC4 := A_ H
  clear H
  go_enter Try.func14, Try.ntmps14
  go_upto_region 1 with (first | ((with_reducible refine gate_dst (N := 3) rfl ?_); refine box_event ?hg (N := 3) ?hd (cs := #[.int .i64 a0_0, .int .i64 a0_1, .slice A0_2 l0_2.length c0_2]) (t := 46) ?hr ?_; (case hd => rfl); (case hg => rfl); (case hr => first | (go_simp; done) | (go_simp; rfl)); intro gb583 hg w5 hbox hb; have n0_ := A_ (below_step (by repeat (first | (with_reducible first | exact HB.out | apply wa_ | apply wn_ | apply wd_) | exact HB.out)) hb); have n1_ := A_ (hbox); have n2_ := A_ ((by rw [hg]; exact (below_size (by repeat (first | (with_reducible first | exact HB.out | apply wa_ | apply wn_ | apply wd_) | exact HB.out))) : w.heap.size ≤ gb583)); have n3_ := A_ ((by rw [hg]; exact (below_size (by repeat (first | (with_reducible first | exact HB.out | apply wa_ | apply wn_ | apply wd_) | exact HB.out))) : w.heap.size ≤ gb583)); clear HB; have HB := n0_; have BK583 := n1_; have GW583 := n2_; have GE583 := n3_; clear n0_ n1_ n2_ n3_; clear hb hbox hg) | ((with_reducible refine gate_dst (N := 4) rfl ?_); refine box_event ?hg (N := 4) ?hd (cs := #[.int .i64 a1_0, .int .i64 a1_1, .int .i64 a1_2, .int .i64 a1_3, .int .i64 a1_4, .string a1_5]) (t := 24) ?hr ?_; (case hd => rfl); (case hg => rfl); (case hr => first | (go_simp; done) | (go_simp; rfl)); intro gb584 hg w6 hbox hb; have n0_ := A_ (blk_below (g := gb583) (o := .cells #[.int .i64 a0_0, .int .i64 a0_1, .slice A0_2 l0_2.length c0_2] 46 (0, 0)) (by (with_reducible repeat (first | refine bn_ ?_ _ | refine bd_ ?_ | refine ba_ ?_ _)); exact BK583.out) hb); have n1_ := A_ (below_step (by repeat (first | (with_reducible first | exact HB.out | apply wa_ | apply wn_ | apply wd_ | refine ws_ ?_ GE583.out) | exact HB.out)) hb); have n2_ := A_ (hbox); have n3_ := A_ ((by rw [hg]; exact (below_size (by repeat (first | (with_reducible first | exact HB.out | apply wa_ | apply wn_ | apply wd_ | refine ws_ ?_ GE583.out) | exact HB.out))) : w.heap.size ≤ gb584)); have n4_ := A_ ((by rw [hg]; exact (below_size (by repeat (first | (with_reducible first | exact HB.out | apply wa_ | apply wn_ | apply wd_ | refine ws_ ?_ GE583.out) | exact HB.out))) : w.heap.size ≤ gb584)); have n5_ := A_ ((by rw [hg]; exact Nat.ne_of_lt (blk_lt (g := gb583) (o := .cells #[.int .i64 a0_0, .int .i64 a0_1, .slice A0_2 l0_2.length c0_2] 46 (0, 0)) (by (with_reducible repeat (first | refine bn_ ?_ _ | refine bd_ ?_ | refine ba_ ?_ _)); exact BK583.out)) : gb583 ≠ gb584)); have n6_ := A_ ((by rw [hg]; exact Nat.ne_of_gt (blk_lt (g := gb583) (o := .cells #[.int .i64 a0_0, .int .i64 a0_1, .slice A0_2 l0_2.length c0_2] 46 (0, 0)) (by (with_reducible repeat (first | refine bn_ ?_ _ | refine bd_ ?_ | refine ba_ ?_ _)); exact BK583.out)) : gb584 ≠ gb583)); clear BK583; clear HB; have BK583 := n0_; have HB := n1_; have BK584 := n2_; have GW584 := n3_; have GE584 := n4_; have NB583_584 := n5_; have NB584_583 := n6_; clear n0_ n1_ n2_ n3_ n4_ n5_ n6_; clear hb hbox hg) | ((with_reducible refine gate_dst (N := 5) rfl ?_); refine box_event ?hg (N := 5) ?hd (cs := #[.int .i64 a2_0, .int .i64 a2_1, .int .i64 a2_2, .int .i64 a2_3, .int .i64 a2_4, .string a2_5]) (t := 24) ?hr ?_; (case hd => rfl); (case hg => rfl); (case hr => first | (go_simp; done) | (go_simp; rfl)); intro gb585 hg w7 hbox hb; have n0_ := A_ (blk_below (g := gb583) (o := .cells #[.int .i64 a0_0, .int .i64 a0_1, .slice A0_2 l0_2.length c0_2] 46 (0, 0)) (by (with_reducible repeat (first | refine bn_ ?_ _ | refine bd_ ?_ | refine ba_ ?_ _)); exact BK583.out) hb); have n1_ := A_ (blk_below (g := gb584) (o := .cells #[.int .i64 a1_0, .int .i64 a1_1, .int .i64 a1_2, .int .i64 a1_3, .int .i64 a1_4, .string a1_5] 24 (0, 0)) (by (with_reducible repeat (first | refine bn_ ?_ _ | refine bd_ ?_ | refine ba_ ?_ _)); exact BK584.out) hb); have n2_ := A_ (below_step (by repeat (first | (with_reducible first | exact HB.out | apply wa_ | apply wn_ | apply wd_ | refine ws_ ?_ GE583.out | refine ws_ ?_ GE584.out) | exact HB.out)) hb); have n3_ := A_ (hbox); have n4_ := A_ ((by rw [hg]; exact (below_size (by repeat (first | (with_reducible first | exact HB.out | apply wa_ | apply wn_ | apply wd_ | refine ws_ ?_ GE583.out | refine ws_ ?_ GE584.out) | exact HB.out))) : w.heap.size ≤ gb585)); have n5_ := A_ ((by rw [hg]; exact (below_size (by repeat (first | (with_reducible first | exact HB.out | apply wa_ | apply wn_ | apply wd_ | refine ws_ ?_ GE583.out | refine ws_ ?_ GE584.out) | exact HB.out))) : w.heap.size ≤ gb585)); have n6_ := A_ ((by rw [hg]; exact Nat.ne_of_lt (blk_lt (g := gb583) (o := .cells #[.int .i64 a0_0, .int .i64 a0_1, .slice A0_2 l0_2.length c0_2] 46 (0, 0)) (by (with_reducible repeat (first | refine bn_ ?_ _ | refine bd_ ?_ | refine ba_ ?_ _)); exact BK583.out)) : gb583 ≠ gb585)); have n7_ := A_ ((by rw [hg]; exact Nat.ne_of_gt (blk_lt (g := gb583) (o := .cells #[.int .i64 a0_0, .int .i64 a0_1, .slice A0_2 l0_2.length c0_2] 46 (0, 0)) (by (with_reducible repeat (first | refine bn_ ?_ _ | refine bd_ ?_ | refine ba_ ?_ _)); exact BK583.out)) : gb585 ≠ gb583)); have n8_ := A_ ((by rw [hg]; exact Nat.ne_of_lt (blk_lt (g := gb584) (o := .cells #[.int .i64 a1_0, .int .i64 a1_1, .int .i64 a1_2, .int .i64 a1_3, .int .i64 a1_4, .string a1_5] 24 (0, 0)) (by (with_reducible repeat (first | refine bn_ ?_ _ | refine bd_ ?_ | refine ba_ ?_ _)); exact BK584.out)) : gb584 ≠ gb585)); have n9_ := A_ ((by rw [hg]; exact Nat.ne_of_gt (blk_lt (g := gb584) (o := .cells #[.int .i64 a1_0, .int .i64 a1_1, .int .i64 a1_2, .int .i64 a1_3, .int .i64 a1_4, .string a1_5] 24 (0, 0)) (by (with_reducible repeat (first | refine bn_ ?_ _ | refine bd_ ?_ | refine ba_ ?_ _)); exact BK584.out)) : gb585 ≠ gb584)); clear BK583; clear BK584; clear HB; have BK583 := n0_; have BK584 := n1_; have HB := n2_; have BK585 := n3_; have GW585 := n4_; have GE585 := n5_; have NB583_585 := n6_; have NB585_583 := n7_; have NB584_585 := n8_; have NB585_584 := n9_; clear n0_ n1_ n2_ n3_ n4_ n5_ n6_ n7_ n8_ n9_; clear hb hbox hg))
  (try simp only [Act.put, s0_, s1_, s2_])
  go_cut [24] (fun v24 wc => ∃ (kq : Nat) (x24_3 : Bool), v24 = .bool x24_3 ∧ Aside0 (hopperlaw05_QueuePuts.j0 kq x24_3 a0_0 a0_1 l0_2 a1_0 a1_1 a1_2 a1_3 a1_4 a1_5 a2_0 a2_1 a2_2 a2_3 a2_4 a2_5 = some r) ∧ Aside0 (kq ≤ k) ∧ Aside0 (wc.heap[gb583]? = some (.cells #[.int .i64 a0_0, .int .i64 a0_1, (.slice A0_2 l0_2.length c0_2)] 46 (0, 0))) ∧ Aside0 (wc.heap[gb584]? = some (.cells #[.int .i64 a1_0, .int .i64 a1_1, .int .i64 a1_2, .int .i64 a1_3, .int .i64 a1_4, .string a1_5] 24 (0, 0))) ∧ Aside0 (wc.heap[gb585]? = some (.cells #[.int .i64 a2_0, .int .i64 a2_1, .int .i64 a2_2, .int .i64 a2_3, .int .i64 a2_4, .string a2_5] 24 (0, 0))) ∧ Aside0 (Below w.heap.size w wc))
  case first =>
    have H := HC4.out
    clear HC4
    replace H := Option.bind_eq_some_iff.mp H
    obtain ⟨t586, A80, H⟩ := H
    try dsimp only at H
    have A8 := A_ A80
    clear A80
    by_cases c9 : t586 = true
    · subst c9
      have H1 : ((hopperref04_Small.f a1_0 a1_1 a1_2 a1_3 a1_4 a1_5).bind fun t587 => (if t587 = true then ((hopperref04_Small.f a2_0 a2_1 a2_2 a2_3 a2_4 a2_5).bind fun t588 => (hopperlaw05_QueuePuts.j0 k (!t588) a0_0 a0_1 l0_2 a1_0 a1_1 a1_2 a1_3 a1_4 a1_5 a2_0 a2_1 a2_2 a2_3 a2_4 a2_5)) else (hopperlaw05_QueuePuts.j0 k true a0_0 a0_1 l0_2 a1_0 a1_1 a1_2 a1_3 a1_4 a1_5 a2_0 a2_1 a2_2 a2_3 a2_4 a2_5))) = some r := by rw [if_pos rfl] at H; exact H
      clear H
      have H := H1
      clear H1
      replace H := Option.bind_eq_some_iff.mp H
      obtain ⟨t587, A100, H⟩ := H
      try dsimp only at H
      have A10 := A_ A100
      clear A100
      by_cases c11 : t587 = true
      · subst c11
        have H1 : ((hopperref04_Small.f a2_0 a2_1 a2_2 a2_3 a2_4 a2_5).bind fun t588 => (hopperlaw05_QueuePuts.j0 k (!t588) a0_0 a0_1 l0_2 a1_0 a1_1 a1_2 a1_3 a1_4 a1_5 a2_0 a2_1 a2_2 a2_3 a2_4 a2_5)) = some r := by rw [if_pos rfl] at H; exact H
        clear H
        have H := H1
        clear H1
        replace H := Option.bind_eq_some_iff.mp H
        obtain ⟨t588, A120, H⟩ := H
        try dsimp only at H
        have A12 := A_ A120
        clear A120
        have H' := A_ H
        clear H; have hnb13 := NB583_584.out; have hnc13 := NB584_583.out; have hnb14 := NB583_585.out; have hnc14 := NB585_583.out; have hcz15_0 : w7.cell? ⟨gb583, 0, none⟩ = some (.int .i64 a0_0) := (blk_cell BK583.out 0).trans rfl; have hcz15_1 : w7.cell? ⟨gb583, 1, none⟩ = some (.int .i64 a0_1) := (blk_cell BK583.out 1).trans rfl; have hcz15_2 : w7.cell? ⟨gb583, 2, none⟩ = some (.slice A0_2 l0_2.length c0_2) := (blk_cell BK583.out 2).trans rfl; have hfz15_0 := blk_frozen BK583.out 0; have hfz15_1 := blk_frozen BK583.out 1; have hfz15_2 := blk_frozen BK583.out 2
        go_wp2_with (first | ((with_reducible refine gate_callee (f := 50) rfl ?_); refine goesL_ (some 13) rfl rfl Try.func50 (by kernel_rfl) rfl #[.agg #[.int .i64 a0_0, .int .i64 a0_1, .slice A0_2 l0_2.length c0_2]] rfl (by (try simp only [m0_, m1_, m2_]); first | done | rfl) ?_; (with_reducible refine (hopperref05_Small.calls k a0_0 a0_1 _ _ l0_2 true _ ?side1 ?side2 A8.out).mono ?_); (case side1 => repeat (first | exact (Kd.C_below HR0_2.out HB.out) | (with_reducible refine ca_ ?_ _) | (with_reducible refine cn_ ?_ _) | (with_reducible refine cd_ ?_))); (case side2 => exact HC0_2.out); rintro e w16 ⟨rfl, hb⟩; refine ⟨_, rfl, ?_⟩; have n0_ := A_ (blk_below (g := gb583) (o := .cells #[.int .i64 a0_0, .int .i64 a0_1, .slice A0_2 l0_2.length c0_2] 46 (0, 0)) (by (with_reducible repeat (first | refine bn_ ?_ _ | refine bd_ ?_ | refine ba_ ?_ _)); exact BK583.out) hb); have n1_ := A_ (blk_below (g := gb584) (o := .cells #[.int .i64 a1_0, .int .i64 a1_1, .int .i64 a1_2, .int .i64 a1_3, .int .i64 a1_4, .string a1_5] 24 (0, 0)) (by (with_reducible repeat (first | refine bn_ ?_ _ | refine bd_ ?_ | refine ba_ ?_ _)); exact BK584.out) hb); have n2_ := A_ (blk_below (g := gb585) (o := .cells #[.int .i64 a2_0, .int .i64 a2_1, .int .i64 a2_2, .int .i64 a2_3, .int .i64 a2_4, .string a2_5] 24 (0, 0)) (by (with_reducible repeat (first | refine bn_ ?_ _ | refine bd_ ?_ | refine ba_ ?_ _)); exact BK585.out) hb); have n3_ := A_ (below_step (by repeat (first | (with_reducible first | exact HB.out | apply wa_ | apply wn_ | apply wd_ | refine ws_ ?_ GE583.out | refine ws_ ?_ GE584.out | refine ws_ ?_ GE585.out) | exact HB.out)) hb); clear BK583; clear BK584; clear BK585; clear HB; have BK583 := n0_; have BK584 := n1_; have BK585 := n2_; have HB := n3_; clear n0_ n1_ n2_ n3_; (try clear hb); (try clear hb2); (try clear hk); (try clear hi); have hnb17 := NB584_585.out; have hnc17 := NB585_584.out; have hcz18_0 : w16.cell? ⟨gb584, 0, none⟩ = some (.int .i64 a1_0) := (blk_cell BK584.out 0).trans rfl; have hcz18_1 : w16.cell? ⟨gb584, 1, none⟩ = some (.int .i64 a1_1) := (blk_cell BK584.out 1).trans rfl; have hcz18_2 : w16.cell? ⟨gb584, 2, none⟩ = some (.int .i64 a1_2) := (blk_cell BK584.out 2).trans rfl; have hcz18_3 : w16.cell? ⟨gb584, 3, none⟩ = some (.int .i64 a1_3) := (blk_cell BK584.out 3).trans rfl; have hcz18_4 : w16.cell? ⟨gb584, 4, none⟩ = some (.int .i64 a1_4) := (blk_cell BK584.out 4).trans rfl; have hcz18_5 : w16.cell? ⟨gb584, 5, none⟩ = some (.string a1_5) := (blk_cell BK584.out 5).trans rfl; have hfz18_0 := blk_frozen BK584.out 0; have hfz18_1 := blk_frozen BK584.out 1; have hfz18_2 := blk_frozen BK584.out 2; have hfz18_3 := blk_frozen BK584.out 3; have hfz18_4 := blk_frozen BK584.out 4; have hfz18_5 := blk_frozen BK584.out 5) | (go_at_call 22; (with_reducible refine (hopperref04_Small.calls a1_0 a1_1 a1_2 a1_3 a1_4 a1_5 true _ A10.out).mono ?_); rintro e w19 ⟨rfl, hb⟩; have n0_ := A_ (blk_below (g := gb583) (o := .cells #[.int .i64 a0_0, .int .i64 a0_1, .slice A0_2 l0_2.length c0_2] 46 (0, 0)) (by (with_reducible repeat (first | refine bn_ ?_ _ | refine bd_ ?_ | refine ba_ ?_ _)); exact BK583.out) hb); have n1_ := A_ (blk_below (g := gb584) (o := .cells #[.int .i64 a1_0, .int .i64 a1_1, .int .i64 a1_2, .int .i64 a1_3, .int .i64 a1_4, .string a1_5] 24 (0, 0)) (by (with_reducible repeat (first | refine bn_ ?_ _ | refine bd_ ?_ | refine ba_ ?_ _)); exact BK584.out) hb); have n2_ := A_ (blk_below (g := gb585) (o := .cells #[.int .i64 a2_0, .int .i64 a2_1, .int .i64 a2_2, .int .i64 a2_3, .int .i64 a2_4, .string a2_5] 24 (0, 0)) (by (with_reducible repeat (first | refine bn_ ?_ _ | refine bd_ ?_ | refine ba_ ?_ _)); exact BK585.out) hb); have n3_ := A_ (below_step (by repeat (first | (with_reducible first | exact HB.out | apply wa_ | apply wn_ | apply wd_ | refine ws_ ?_ GE583.out | refine ws_ ?_ GE584.out | refine ws_ ?_ GE585.out) | exact HB.out)) hb); clear BK583; clear BK584; clear BK585; clear HB; have BK583 := n0_; have BK584 := n1_; have BK585 := n2_; have HB := n3_; clear n0_ n1_ n2_ n3_; (try clear hb); (try clear hb2); (try clear hk); (try clear hi); have hcz20_0 : w19.cell? ⟨gb585, 0, none⟩ = some (.int .i64 a2_0) := (blk_cell BK585.out 0).trans rfl; have hcz20_1 : w19.cell? ⟨gb585, 1, none⟩ = some (.int .i64 a2_1) := (blk_cell BK585.out 1).trans rfl; have hcz20_2 : w19.cell? ⟨gb585, 2, none⟩ = some (.int .i64 a2_2) := (blk_cell BK585.out 2).trans rfl; have hcz20_3 : w19.cell? ⟨gb585, 3, none⟩ = some (.int .i64 a2_3) := (blk_cell BK585.out 3).trans rfl; have hcz20_4 : w19.cell? ⟨gb585, 4, none⟩ = some (.int .i64 a2_4) := (blk_cell BK585.out 4).trans rfl; have hcz20_5 : w19.cell? ⟨gb585, 5, none⟩ = some (.string a2_5) := (blk_cell BK585.out 5).trans rfl; have hfz20_0 := blk_frozen BK585.out 0; have hfz20_1 := blk_frozen BK585.out 1; have hfz20_2 := blk_frozen BK585.out 2; have hfz20_3 := blk_frozen BK585.out 3; have hfz20_4 := blk_frozen BK585.out 4; have hfz20_5 := blk_frozen BK585.out 5) | (go_at_call 22; (with_reducible refine (hopperref04_Small.calls a2_0 a2_1 a2_2 a2_3 a2_4 a2_5 t588 _ A12.out).mono ?_); rintro e w21 ⟨rfl, hb⟩; have n0_ := A_ (blk_below (g := gb583) (o := .cells #[.int .i64 a0_0, .int .i64 a0_1, .slice A0_2 l0_2.length c0_2] 46 (0, 0)) (by (with_reducible repeat (first | refine bn_ ?_ _ | refine bd_ ?_ | refine ba_ ?_ _)); exact BK583.out) hb); have n1_ := A_ (blk_below (g := gb584) (o := .cells #[.int .i64 a1_0, .int .i64 a1_1, .int .i64 a1_2, .int .i64 a1_3, .int .i64 a1_4, .string a1_5] 24 (0, 0)) (by (with_reducible repeat (first | refine bn_ ?_ _ | refine bd_ ?_ | refine ba_ ?_ _)); exact BK584.out) hb); have n2_ := A_ (blk_below (g := gb585) (o := .cells #[.int .i64 a2_0, .int .i64 a2_1, .int .i64 a2_2, .int .i64 a2_3, .int .i64 a2_4, .string a2_5] 24 (0, 0)) (by (with_reducible repeat (first | refine bn_ ?_ _ | refine bd_ ?_ | refine ba_ ?_ _)); exact BK585.out) hb); have n3_ := A_ (below_step (by repeat (first | (with_reducible first | exact HB.out | apply wa_ | apply wn_ | apply wd_ | refine ws_ ?_ GE583.out | refine ws_ ?_ GE584.out | refine ws_ ?_ GE585.out) | exact HB.out)) hb); clear BK583; clear BK584; clear BK585; clear HB; have BK583 := n0_; have BK584 := n1_; have BK585 := n2_; have HB := n3_; clear n0_ n1_ n2_ n3_; (try clear hb); (try clear hb2); (try clear hk); (try clear hi)))
        go_meet
        case rel => exact ⟨_, (!t588), (by first | rfl | (simp; done) | (simp [*]; done)), H', ⟨by first | omega | exact Nat.le_refl _⟩, ⟨by (with_reducible repeat (first | refine bn_ ?_ _ | refine bd_ ?_ | refine ba_ ?_ _)); exact BK583.out⟩, ⟨by (with_reducible repeat (first | refine bn_ ?_ _ | refine bd_ ?_ | refine ba_ ?_ _)); exact BK584.out⟩, ⟨by (with_reducible repeat (first | refine bn_ ?_ _ | refine bd_ ?_ | refine ba_ ?_ _)); exact BK585.out⟩, ⟨by repeat (first | (with_reducible first | exact HB.out | apply wa_ | apply wn_ | apply wd_ | refine ws_ ?_ GE583.out | refine ws_ ?_ GE584.out | refine ws_ ?_ GE585.out) | exact HB.out)⟩⟩
      · replace c11 := Bool.eq_false_iff.mpr c11
        subst c11
        have H1 : (hopperlaw05_QueuePuts.j0 k true a0_0 a0_1 l0_2 a1_0 a1_1 a1_2 a1_3 a1_4 a1_5 a2_0 a2_1 a2_2 a2_3 a2_4 a2_5) = some r := by rw [if_neg (show ¬ (false = true) by decide)] at H; exact H
        clear H
        have H := H1
        clear H1
        have H' := A_ H
        clear H; have hnb22 := NB583_584.out; have hnc22 := NB584_583.out; have hnb23 := NB583_585.out; have hnc23 := NB585_583.out; have hcz24_0 : w7.cell? ⟨gb583, 0, none⟩ = some (.int .i64 a0_0) := (blk_cell BK583.out 0).trans rfl; have hcz24_1 : w7.cell? ⟨gb583, 1, none⟩ = some (.int .i64 a0_1) := (blk_cell BK583.out 1).trans rfl; have hcz24_2 : w7.cell? ⟨gb583, 2, none⟩ = some (.slice A0_2 l0_2.length c0_2) := (blk_cell BK583.out 2).trans rfl; have hfz24_0 := blk_frozen BK583.out 0; have hfz24_1 := blk_frozen BK583.out 1; have hfz24_2 := blk_frozen BK583.out 2
        go_wp2_with (first | ((with_reducible refine gate_callee (f := 50) rfl ?_); refine goesL_ (some 13) rfl rfl Try.func50 (by kernel_rfl) rfl #[.agg #[.int .i64 a0_0, .int .i64 a0_1, .slice A0_2 l0_2.length c0_2]] rfl (by (try simp only [m0_, m1_, m2_]); first | done | rfl) ?_; (with_reducible refine (hopperref05_Small.calls k a0_0 a0_1 _ _ l0_2 true _ ?side1 ?side2 A8.out).mono ?_); (case side1 => repeat (first | exact (Kd.C_below HR0_2.out HB.out) | (with_reducible refine ca_ ?_ _) | (with_reducible refine cn_ ?_ _) | (with_reducible refine cd_ ?_))); (case side2 => exact HC0_2.out); rintro e w25 ⟨rfl, hb⟩; refine ⟨_, rfl, ?_⟩; have n0_ := A_ (blk_below (g := gb583) (o := .cells #[.int .i64 a0_0, .int .i64 a0_1, .slice A0_2 l0_2.length c0_2] 46 (0, 0)) (by (with_reducible repeat (first | refine bn_ ?_ _ | refine bd_ ?_ | refine ba_ ?_ _)); exact BK583.out) hb); have n1_ := A_ (blk_below (g := gb584) (o := .cells #[.int .i64 a1_0, .int .i64 a1_1, .int .i64 a1_2, .int .i64 a1_3, .int .i64 a1_4, .string a1_5] 24 (0, 0)) (by (with_reducible repeat (first | refine bn_ ?_ _ | refine bd_ ?_ | refine ba_ ?_ _)); exact BK584.out) hb); have n2_ := A_ (blk_below (g := gb585) (o := .cells #[.int .i64 a2_0, .int .i64 a2_1, .int .i64 a2_2, .int .i64 a2_3, .int .i64 a2_4, .string a2_5] 24 (0, 0)) (by (with_reducible repeat (first | refine bn_ ?_ _ | refine bd_ ?_ | refine ba_ ?_ _)); exact BK585.out) hb); have n3_ := A_ (below_step (by repeat (first | (with_reducible first | exact HB.out | apply wa_ | apply wn_ | apply wd_ | refine ws_ ?_ GE583.out | refine ws_ ?_ GE584.out | refine ws_ ?_ GE585.out) | exact HB.out)) hb); clear BK583; clear BK584; clear BK585; clear HB; have BK583 := n0_; have BK584 := n1_; have BK585 := n2_; have HB := n3_; clear n0_ n1_ n2_ n3_; (try clear hb); (try clear hb2); (try clear hk); (try clear hi); have hnb26 := NB584_585.out; have hnc26 := NB585_584.out; have hcz27_0 : w25.cell? ⟨gb584, 0, none⟩ = some (.int .i64 a1_0) := (blk_cell BK584.out 0).trans rfl; have hcz27_1 : w25.cell? ⟨gb584, 1, none⟩ = some (.int .i64 a1_1) := (blk_cell BK584.out 1).trans rfl; have hcz27_2 : w25.cell? ⟨gb584, 2, none⟩ = some (.int .i64 a1_2) := (blk_cell BK584.out 2).trans rfl; have hcz27_3 : w25.cell? ⟨gb584, 3, none⟩ = some (.int .i64 a1_3) := (blk_cell BK584.out 3).trans rfl; have hcz27_4 : w25.cell? ⟨gb584, 4, none⟩ = some (.int .i64 a1_4) := (blk_cell BK584.out 4).trans rfl; have hcz27_5 : w25.cell? ⟨gb584, 5, none⟩ = some (.string a1_5) := (blk_cell BK584.out 5).trans rfl; have hfz27_0 := blk_frozen BK584.out 0; have hfz27_1 := blk_frozen BK584.out 1; have hfz27_2 := blk_frozen BK584.out 2; have hfz27_3 := blk_frozen BK584.out 3; have hfz27_4 := blk_frozen BK584.out 4; have hfz27_5 := blk_frozen BK584.out 5) | (go_at_call 22; (with_reducible refine (hopperref04_Small.calls a1_0 a1_1 a1_2 a1_3 a1_4 a1_5 false _ A10.out).mono ?_); rintro e w28 ⟨rfl, hb⟩; have n0_ := A_ (blk_below (g := gb583) (o := .cells #[.int .i64 a0_0, .int .i64 a0_1, .slice A0_2 l0_2.length c0_2] 46 (0, 0)) (by (with_reducible repeat (first | refine bn_ ?_ _ | refine bd_ ?_ | refine ba_ ?_ _)); exact BK583.out) hb); have n1_ := A_ (blk_below (g := gb584) (o := .cells #[.int .i64 a1_0, .int .i64 a1_1, .int .i64 a1_2, .int .i64 a1_3, .int .i64 a1_4, .string a1_5] 24 (0, 0)) (by (with_reducible repeat (first | refine bn_ ?_ _ | refine bd_ ?_ | refine ba_ ?_ _)); exact BK584.out) hb); have n2_ := A_ (blk_below (g := gb585) (o := .cells #[.int .i64 a2_0, .int .i64 a2_1, .int .i64 a2_2, .int .i64 a2_3, .int .i64 a2_4, .string a2_5] 24 (0, 0)) (by (with_reducible repeat (first | refine bn_ ?_ _ | refine bd_ ?_ | refine ba_ ?_ _)); exact BK585.out) hb); have n3_ := A_ (below_step (by repeat (first | (with_reducible first | exact HB.out | apply wa_ | apply wn_ | apply wd_ | refine ws_ ?_ GE583.out | refine ws_ ?_ GE584.out | refine ws_ ?_ GE585.out) | exact HB.out)) hb); clear BK583; clear BK584; clear BK585; clear HB; have BK583 := n0_; have BK584 := n1_; have BK585 := n2_; have HB := n3_; clear n0_ n1_ n2_ n3_; (try clear hb); (try clear hb2); (try clear hk); (try clear hi)))
        go_meet
        case rel => exact ⟨_, (true), (by first | rfl | (simp; done) | (simp [*]; done)), H', ⟨by first | omega | exact Nat.le_refl _⟩, ⟨by (with_reducible repeat (first | refine bn_ ?_ _ | refine bd_ ?_ | refine ba_ ?_ _)); exact BK583.out⟩, ⟨by (with_reducible repeat (first | refine bn_ ?_ _ | refine bd_ ?_ | refine ba_ ?_ _)); exact BK584.out⟩, ⟨by (with_reducible repeat (first | refine bn_ ?_ _ | refine bd_ ?_ | refine ba_ ?_ _)); exact BK585.out⟩, ⟨by repeat (first | (with_reducible first | exact HB.out | apply wa_ | apply wn_ | apply wd_ | refine ws_ ?_ GE583.out | refine ws_ ?_ GE584.out | refine ws_ ?_ GE585.out) | exact HB.out)⟩⟩
    · replace c9 := Bool.eq_false_iff.mpr c9
      subst c9
      have H1 : (hopperlaw05_QueuePuts.j0 k true a0_0 a0_1 l0_2 a1_0 a1_1 a1_2 a1_3 a1_4 a1_5 a2_0 a2_1 a2_2 a2_3 a2_4 a2_5) = some r := by rw [if_neg (show ¬ (false = true) by decide)] at H; exact H
      clear H
      have H := H1
      clear H1
      have H' := A_ H
      clear H; have hnb29 := NB583_584.out; have hnc29 := NB584_583.out; have hnb30 := NB583_585.out; have hnc30 := NB585_583.out; have hcz31_0 : w7.cell? ⟨gb583, 0, none⟩ = some (.int .i64 a0_0) := (blk_cell BK583.out 0).trans rfl; have hcz31_1 : w7.cell? ⟨gb583, 1, none⟩ = some (.int .i64 a0_1) := (blk_cell BK583.out 1).trans rfl; have hcz31_2 : w7.cell? ⟨gb583, 2, none⟩ = some (.slice A0_2 l0_2.length c0_2) := (blk_cell BK583.out 2).trans rfl; have hfz31_0 := blk_frozen BK583.out 0; have hfz31_1 := blk_frozen BK583.out 1; have hfz31_2 := blk_frozen BK583.out 2
      go_wp2_with (first | ((with_reducible refine gate_callee (f := 50) rfl ?_); refine goesL_ (some 13) rfl rfl Try.func50 (by kernel_rfl) rfl #[.agg #[.int .i64 a0_0, .int .i64 a0_1, .slice A0_2 l0_2.length c0_2]] rfl (by (try simp only [m0_, m1_, m2_]); first | done | rfl) ?_; (with_reducible refine (hopperref05_Small.calls k a0_0 a0_1 _ _ l0_2 false _ ?side1 ?side2 A8.out).mono ?_); (case side1 => repeat (first | exact (Kd.C_below HR0_2.out HB.out) | (with_reducible refine ca_ ?_ _) | (with_reducible refine cn_ ?_ _) | (with_reducible refine cd_ ?_))); (case side2 => exact HC0_2.out); rintro e w32 ⟨rfl, hb⟩; refine ⟨_, rfl, ?_⟩; have n0_ := A_ (blk_below (g := gb583) (o := .cells #[.int .i64 a0_0, .int .i64 a0_1, .slice A0_2 l0_2.length c0_2] 46 (0, 0)) (by (with_reducible repeat (first | refine bn_ ?_ _ | refine bd_ ?_ | refine ba_ ?_ _)); exact BK583.out) hb); have n1_ := A_ (blk_below (g := gb584) (o := .cells #[.int .i64 a1_0, .int .i64 a1_1, .int .i64 a1_2, .int .i64 a1_3, .int .i64 a1_4, .string a1_5] 24 (0, 0)) (by (with_reducible repeat (first | refine bn_ ?_ _ | refine bd_ ?_ | refine ba_ ?_ _)); exact BK584.out) hb); have n2_ := A_ (blk_below (g := gb585) (o := .cells #[.int .i64 a2_0, .int .i64 a2_1, .int .i64 a2_2, .int .i64 a2_3, .int .i64 a2_4, .string a2_5] 24 (0, 0)) (by (with_reducible repeat (first | refine bn_ ?_ _ | refine bd_ ?_ | refine ba_ ?_ _)); exact BK585.out) hb); have n3_ := A_ (below_step (by repeat (first | (with_reducible first | exact HB.out | apply wa_ | apply wn_ | apply wd_ | refine ws_ ?_ GE583.out | refine ws_ ?_ GE584.out | refine ws_ ?_ GE585.out) | exact HB.out)) hb); clear BK583; clear BK584; clear BK585; clear HB; have BK583 := n0_; have BK584 := n1_; have BK585 := n2_; have HB := n3_; clear n0_ n1_ n2_ n3_; (try clear hb); (try clear hb2); (try clear hk); (try clear hi)))
      go_meet
      case rel => exact ⟨_, (true), (by first | rfl | (simp; done) | (simp [*]; done)), H', ⟨by first | omega | exact Nat.le_refl _⟩, ⟨by (with_reducible repeat (first | refine bn_ ?_ _ | refine bd_ ?_ | refine ba_ ?_ _)); exact BK583.out⟩, ⟨by (with_reducible repeat (first | refine bn_ ?_ _ | refine bd_ ?_ | refine ba_ ?_ _)); exact BK584.out⟩, ⟨by (with_reducible repeat (first | refine bn_ ?_ _ | refine bd_ ?_ | refine ba_ ?_ _)); exact BK585.out⟩, ⟨by repeat (first | (with_reducible first | exact HB.out | apply wa_ | apply wn_ | apply wd_ | refine ws_ ?_ GE583.out | refine ws_ ?_ GE584.out | refine ws_ ?_ GE585.out) | exact HB.out)⟩⟩
  case rest =>
    clear HC4; (try clear c1); (try clear c2); (try clear p2); (try clear c3); (try clear c5); (try clear c9); (try clear c11); (try clear c13); (try clear c14); (try clear c17); (try clear c22); (try clear c23); (try clear c26); (try clear c29); (try clear c30); (try clear hcz15_0); (try clear hcz15_1); (try clear hcz15_2); (try clear hcz18_0); (try clear hcz18_1); (try clear hcz18_2); (try clear hcz18_3); (try clear hcz18_4); (try clear hcz18_5); (try clear hcz20_0); (try clear hcz20_1); (try clear hcz20_2); (try clear hcz20_3); (try clear hcz20_4); (try clear hcz20_5); (try clear hcz24_0); (try clear hcz24_1); (try clear hcz24_2); (try clear hcz27_0); (try clear hcz27_1); (try clear hcz27_2); (try clear hcz27_3); (try clear hcz27_4); (try clear hcz27_5); (try clear hcz31_0); (try clear hcz31_1); (try clear hcz31_2); (try clear hfz15_0); (try clear hfz15_1); (try clear hfz15_2); (try clear hfz18_0); (try clear hfz18_1); (try clear hfz18_2); (try clear hfz18_3); (try clear hfz18_4); (try clear hfz18_5); (try clear hfz20_0); (try clear hfz20_1); (try clear hfz20_2); (try clear hfz20_3); (try clear hfz20_4); (try clear hfz20_5); (try clear hfz24_0); (try clear hfz24_1); (try clear hfz24_2); (try clear hfz27_0); (try clear hfz27_1); (try clear hfz27_2); (try clear hfz27_3); (try clear hfz27_4); (try clear hfz27_5); (try clear hfz31_0); (try clear hfz31_1); (try clear hfz31_2)
    obtain ⟨kq, x24_3, rfl, HA, HJ3, BK583, BK584, BK585, HB⟩ := hcut
    cases kq with
    | zero => exact absurd HA.out (by simp [hopperlaw05_QueuePuts.j0])
    | succ kj3 =>
      have H := HA.out
      clear HA
      simp only [hopperlaw05_QueuePuts.j0] at H
      by_cases c33 : x24_3 = true
      · subst c33
        have H1 : ((hopperlaw05_live.f kj3).bind fun t589 => (some t589)) = some r := by rw [if_pos rfl] at H; exact H
        clear H
        have H := H1
        clear H1
        replace H := Option.bind_eq_some_iff.mp H
        obtain ⟨t589, A340, H⟩ := H
        replace H : (some t589) = some r := H
        have A34 := A_ A340
        clear A340
        obtain rfl := Option.some.inj H
        go_wp2_with (first | ((with_reducible refine gate_callee (f := 51) rfl ?_); refine goesL_ (some 25) rfl rfl Try.func51 (by kernel_rfl) rfl #[] rfl (by (try simp only [m0_, m1_, m2_]); first | done | rfl) ?_; (with_reducible refine (hopperlaw05_live.calls kj3  t589 _ A34.out).mono ?_); rintro e w35 ⟨rfl, hb⟩; refine ⟨_, rfl, ?_⟩; have n0_ := A_ (blk_below (g := gb583) (o := .cells #[.int .i64 a0_0, .int .i64 a0_1, .slice A0_2 l0_2.length c0_2] 46 (0, 0)) (by (with_reducible repeat (first | refine bn_ ?_ _ | refine bd_ ?_ | refine ba_ ?_ _)); exact BK583.out) hb); have n1_ := A_ (blk_below (g := gb584) (o := .cells #[.int .i64 a1_0, .int .i64 a1_1, .int .i64 a1_2, .int .i64 a1_3, .int .i64 a1_4, .string a1_5] 24 (0, 0)) (by (with_reducible repeat (first | refine bn_ ?_ _ | refine bd_ ?_ | refine ba_ ?_ _)); exact BK584.out) hb); have n2_ := A_ (blk_below (g := gb585) (o := .cells #[.int .i64 a2_0, .int .i64 a2_1, .int .i64 a2_2, .int .i64 a2_3, .int .i64 a2_4, .string a2_5] 24 (0, 0)) (by (with_reducible repeat (first | refine bn_ ?_ _ | refine bd_ ?_ | refine ba_ ?_ _)); exact BK585.out) hb); have n3_ := A_ (below_step (by repeat (first | (with_reducible first | exact HB.out | apply wa_ | apply wn_ | apply wd_ | refine ws_ ?_ GE583.out | refine ws_ ?_ GE584.out | refine ws_ ?_ GE585.out) | exact HB.out)) hb); clear BK583; clear BK584; clear BK585; clear HB; have BK583 := n0_; have BK584 := n1_; have BK585 := n2_; have HB := n3_; clear n0_ n1_ n2_ n3_; (try clear hb); (try clear hb2); (try clear hk); (try clear hi)))
        go_ret
        exact ⟨by first | rfl | (simp [errW_none, errW_some] <;> rfl) | (simp [*, errW_none, errW_some] <;> rfl), by repeat (first | (with_reducible first | exact HB.out | apply wa_ | apply wn_ | apply wd_ | refine ws_ ?_ GE583.out | refine ws_ ?_ GE584.out | refine ws_ ?_ GE585.out) | exact HB.out)⟩
      · replace c33 := Bool.eq_false_iff.mpr c33
        subst c33
        have H1 : ((queue_Put.f a0_0 a0_1 l0_2 a1_0 a1_1 a1_2 a1_3 a1_4 a1_5).bind fun bt590 => ((queue_Find.f bt590.1 bt590.2.1 bt590.2.2 a1_1).bind fun bt596 => (if bt596.2.2.2.2.2.2 = true then (if (!(bt596.1 == a1_0) || (!(bt596.2.1 == a1_1) || (!(bt596.2.2.1 == a1_2) || (!(bt596.2.2.2.1 == a1_3) || (!(bt596.2.2.2.2.1 == a1_4) || (!(bt596.2.2.2.2.2.1.toList == a1_5.toList))))))) = true then (none) else ((queue_Put.f bt590.1 bt590.2.1 bt590.2.2 a1_0 a1_1 a1_2 a1_3 a1_4 a1_5).bind fun bt604 => ((hopperref05_Same.f kj3 bt604.1 bt604.2.1 bt604.2.2 bt590.1 bt590.2.1 bt590.2.2).bind fun t609 => (hopperlaw05_QueuePuts.j1 kj3 (!t609) a0_0 a0_1 l0_2 a1_0 a1_1 a1_2 a1_3 a1_4 a1_5 a2_0 a2_1 a2_2 a2_3 a2_4 a2_5 bt590.1 bt590.2.1 bt590.2.2)))) else (none)))) = some r := by rw [if_neg (show ¬ (false = true) by decide)] at H; exact H
        clear H
        have H := H1
        clear H1
        replace H := Option.bind_eq_some_iff.mp H
        obtain ⟨⟨t590, t591, t592⟩, A360, H⟩ := H
        try dsimp only at H
        have A36 := A_ A360
        clear A360
        replace H := Option.bind_eq_some_iff.mp H
        obtain ⟨⟨t596, t597, t598, t599, t600, t601, t602⟩, A370, H⟩ := H
        try dsimp only at H
        have A37 := A_ A370
        clear A370
        have HC38 := A_ H
        clear H; have hnb39 := NB583_584.out; have hnc39 := NB584_583.out; have hnb40 := NB583_585.out; have hnc40 := NB585_583.out; have hcz41_0 : wc.cell? ⟨gb583, 0, none⟩ = some (.int .i64 a0_0) := (blk_cell BK583.out 0).trans rfl; have hcz41_1 : wc.cell? ⟨gb583, 1, none⟩ = some (.int .i64 a0_1) := (blk_cell BK583.out 1).trans rfl; have hcz41_2 : wc.cell? ⟨gb583, 2, none⟩ = some (.slice A0_2 l0_2.length c0_2) := (blk_cell BK583.out 2).trans rfl; have hfz41_0 := blk_frozen BK583.out 0; have hfz41_1 := blk_frozen BK583.out 1; have hfz41_2 := blk_frozen BK583.out 2; have hnb42 := NB584_585.out; have hnc42 := NB585_584.out; have hcz43_0 : wc.cell? ⟨gb584, 0, none⟩ = some (.int .i64 a1_0) := (blk_cell BK584.out 0).trans rfl; have hcz43_1 : wc.cell? ⟨gb584, 1, none⟩ = some (.int .i64 a1_1) := (blk_cell BK584.out 1).trans rfl; have hcz43_2 : wc.cell? ⟨gb584, 2, none⟩ = some (.int .i64 a1_2) := (blk_cell BK584.out 2).trans rfl; have hcz43_3 : wc.cell? ⟨gb584, 3, none⟩ = some (.int .i64 a1_3) := (blk_cell BK584.out 3).trans rfl; have hcz43_4 : wc.cell? ⟨gb584, 4, none⟩ = some (.int .i64 a1_4) := (blk_cell BK584.out 4).trans rfl; have hcz43_5 : wc.cell? ⟨gb584, 5, none⟩ = some (.string a1_5) := (blk_cell BK584.out 5).trans rfl; have hfz43_0 := blk_frozen BK584.out 0; have hfz43_1 := blk_frozen BK584.out 1; have hfz43_2 := blk_frozen BK584.out 2; have hfz43_3 := blk_frozen BK584.out 3; have hfz43_4 := blk_frozen BK584.out 4; have hfz43_5 := blk_frozen BK584.out 5
        go_upto_region 5 with (first | ((with_reducible refine gate_callee (f := 63) rfl ?_); refine goesL_ (some 28) rfl rfl Try.func63 (by kernel_rfl) rfl #[.agg #[.int .i64 a0_0, .int .i64 a0_1, .slice A0_2 l0_2.length c0_2], .agg #[.int .i64 a1_0, .int .i64 a1_1, .int .i64 a1_2, .int .i64 a1_3, .int .i64 a1_4, .string a1_5]] rfl (by (try simp only [m0_, m1_, m2_]); first | done | rfl) ?_; (with_reducible refine (queue_Put.calls a0_0 a0_1 _ _ l0_2 a1_0 a1_1 a1_2 a1_3 a1_4 a1_5 t590 t591 t592 _ ?side1 ?side2 A36.out).mono ?_); (case side1 => repeat (first | exact (Kd.C_below HR0_2.out HB.out) | (with_reducible refine ca_ ?_ _) | (with_reducible refine cn_ ?_ _) | (with_reducible refine cd_ ?_))); (case side2 => exact HC0_2.out); rintro e w44 ⟨v593, rfl, ho0, hb⟩; refine ⟨_, rfl, ?_⟩; have n0_ := A_ (Kd.R_lower (Kd.R_newB (Kd.R_newB ho0 (g := gb584) (o := .cells #[.int .i64 a1_0, .int .i64 a1_1, .int .i64 a1_2, .int .i64 a1_3, .int .i64 a1_4, .string a1_5] 24 (0, 0)) (by (with_reducible repeat (first | refine bn_ ?_ _ | refine bd_ ?_ | refine ba_ ?_ _)); exact BK584.out)) (g := gb585) (o := .cells #[.int .i64 a2_0, .int .i64 a2_1, .int .i64 a2_2, .int .i64 a2_3, .int .i64 a2_4, .string a2_5] 24 (0, 0)) (by (with_reducible repeat (first | refine bn_ ?_ _ | refine bd_ ?_ | refine ba_ ?_ _)); exact BK585.out)) (below_size (by repeat (first | (with_reducible first | exact HB.out | apply wa_ | apply wn_ | apply wd_ | refine ws_ ?_ GE583.out | refine ws_ ?_ GE584.out | refine ws_ ?_ GE585.out) | exact HB.out)))); have n1_ := A_ (blk_below (g := gb583) (o := .cells #[.int .i64 a0_0, .int .i64 a0_1, .slice A0_2 l0_2.length c0_2] 46 (0, 0)) (by (with_reducible repeat (first | refine bn_ ?_ _ | refine bd_ ?_ | refine ba_ ?_ _)); exact BK583.out) hb); have n2_ := A_ (blk_below (g := gb584) (o := .cells #[.int .i64 a1_0, .int .i64 a1_1, .int .i64 a1_2, .int .i64 a1_3, .int .i64 a1_4, .string a1_5] 24 (0, 0)) (by (with_reducible repeat (first | refine bn_ ?_ _ | refine bd_ ?_ | refine ba_ ?_ _)); exact BK584.out) hb); have n3_ := A_ (blk_below (g := gb585) (o := .cells #[.int .i64 a2_0, .int .i64 a2_1, .int .i64 a2_2, .int .i64 a2_3, .int .i64 a2_4, .string a2_5] 24 (0, 0)) (by (with_reducible repeat (first | refine bn_ ?_ _ | refine bd_ ?_ | refine ba_ ?_ _)); exact BK585.out) hb); have n4_ := A_ (below_step (by repeat (first | (with_reducible first | exact HB.out | apply wa_ | apply wn_ | apply wd_ | refine ws_ ?_ GE583.out | refine ws_ ?_ GE584.out | refine ws_ ?_ GE585.out) | exact HB.out)) hb); clear BK583; clear BK584; clear BK585; clear HB; have HO594 := n0_; have BK583 := n1_; have BK584 := n2_; have BK585 := n3_; have HB := n4_; clear n0_ n1_ n2_ n3_ n4_; (try clear hb); (try clear hb2); (try clear hk); (try clear hi); (try clear ho0)) | ((with_reducible refine gate_dst (N := 7) rfl ?_); refine box_event ?hg (N := 7) ?hd (cs := #[.int .i64 0, .int .i64 0, .slice none 0 0]) (t := 46) ?hr ?_; (case hd => rfl); (case hg => rfl); (case hr => first | (go_simp; done) | (go_simp; rfl)); intro gb595 hg w45 hbox hb; have n0_ := A_ (Kd.R_below (by (with_reducible repeat (first | apply ra_ | apply rn_ | apply rd_)); exact HO594.out) hb); have n1_ := A_ (blk_below (g := gb583) (o := .cells #[.int .i64 a0_0, .int .i64 a0_1, .slice A0_2 l0_2.length c0_2] 46 (0, 0)) (by (with_reducible repeat (first | refine bn_ ?_ _ | refine bd_ ?_ | refine ba_ ?_ _)); exact BK583.out) hb); have n2_ := A_ (blk_below (g := gb584) (o := .cells #[.int .i64 a1_0, .int .i64 a1_1, .int .i64 a1_2, .int .i64 a1_3, .int .i64 a1_4, .string a1_5] 24 (0, 0)) (by (with_reducible repeat (first | refine bn_ ?_ _ | refine bd_ ?_ | refine ba_ ?_ _)); exact BK584.out) hb); have n3_ := A_ (blk_below (g := gb585) (o := .cells #[.int .i64 a2_0, .int .i64 a2_1, .int .i64 a2_2, .int .i64 a2_3, .int .i64 a2_4, .string a2_5] 24 (0, 0)) (by (with_reducible repeat (first | refine bn_ ?_ _ | refine bd_ ?_ | refine ba_ ?_ _)); exact BK585.out) hb); have n4_ := A_ (below_step (by repeat (first | (with_reducible first | exact HB.out | apply wa_ | apply wn_ | apply wd_ | refine ws_ ?_ GE583.out | refine ws_ ?_ GE584.out | refine ws_ ?_ GE585.out) | exact HB.out)) hb); have n5_ := A_ (hbox); have n6_ := A_ ((by rw [hg]; exact (below_size (by repeat (first | (with_reducible first | exact HB.out | apply wa_ | apply wn_ | apply wd_ | refine ws_ ?_ GE583.out | refine ws_ ?_ GE584.out | refine ws_ ?_ GE585.out) | exact HB.out))) : w.heap.size ≤ gb595)); have n7_ := A_ ((by rw [hg]; exact (below_size (by repeat (first | (with_reducible first | exact HB.out | apply wa_ | apply wn_ | apply wd_ | refine ws_ ?_ GE583.out | refine ws_ ?_ GE584.out | refine ws_ ?_ GE585.out) | exact HB.out))) : w.heap.size ≤ gb595)); have n8_ := A_ ((by rw [hg]; exact Nat.ne_of_lt (blk_lt (g := gb583) (o := .cells #[.int .i64 a0_0, .int .i64 a0_1, .slice A0_2 l0_2.length c0_2] 46 (0, 0)) (by (with_reducible repeat (first | refine bn_ ?_ _ | refine bd_ ?_ | refine ba_ ?_ _)); exact BK583.out)) : gb583 ≠ gb595)); have n9_ := A_ ((by rw [hg]; exact Nat.ne_of_gt (blk_lt (g := gb583) (o := .cells #[.int .i64 a0_0, .int .i64 a0_1, .slice A0_2 l0_2.length c0_2] 46 (0, 0)) (by (with_reducible repeat (first | refine bn_ ?_ _ | refine bd_ ?_ | refine ba_ ?_ _)); exact BK583.out)) : gb595 ≠ gb583)); have n10_ := A_ ((by rw [hg]; exact Nat.ne_of_lt (blk_lt (g := gb584) (o := .cells #[.int .i64 a1_0, .int .i64 a1_1, .int .i64 a1_2, .int .i64 a1_3, .int .i64 a1_4, .string a1_5] 24 (0, 0)) (by (with_reducible repeat (first | refine bn_ ?_ _ | refine bd_ ?_ | refine ba_ ?_ _)); exact BK584.out)) : gb584 ≠ gb595)); have n11_ := A_ ((by rw [hg]; exact Nat.ne_of_gt (blk_lt (g := gb584) (o := .cells #[.int .i64 a1_0, .int .i64 a1_1, .int .i64 a1_2, .int .i64 a1_3, .int .i64 a1_4, .string a1_5] 24 (0, 0)) (by (with_reducible repeat (first | refine bn_ ?_ _ | refine bd_ ?_ | refine ba_ ?_ _)); exact BK584.out)) : gb595 ≠ gb584)); have n12_ := A_ ((by rw [hg]; exact Nat.ne_of_lt (blk_lt (g := gb585) (o := .cells #[.int .i64 a2_0, .int .i64 a2_1, .int .i64 a2_2, .int .i64 a2_3, .int .i64 a2_4, .string a2_5] 24 (0, 0)) (by (with_reducible repeat (first | refine bn_ ?_ _ | refine bd_ ?_ | refine ba_ ?_ _)); exact BK585.out)) : gb585 ≠ gb595)); have n13_ := A_ ((by rw [hg]; exact Nat.ne_of_gt (blk_lt (g := gb585) (o := .cells #[.int .i64 a2_0, .int .i64 a2_1, .int .i64 a2_2, .int .i64 a2_3, .int .i64 a2_4, .string a2_5] 24 (0, 0)) (by (with_reducible repeat (first | refine bn_ ?_ _ | refine bd_ ?_ | refine ba_ ?_ _)); exact BK585.out)) : gb595 ≠ gb585)); clear HO594; clear BK583; clear BK584; clear BK585; clear HB; have HO594 := n0_; have BK583 := n1_; have BK584 := n2_; have BK585 := n3_; have HB := n4_; have BK595 := n5_; have GW595 := n6_; have GE595 := n7_; have NB583_595 := n8_; have NB595_583 := n9_; have NB584_595 := n10_; have NB595_584 := n11_; have NB585_595 := n12_; have NB595_585 := n13_; clear n0_ n1_ n2_ n3_ n4_ n5_ n6_ n7_ n8_ n9_ n10_ n11_ n12_ n13_; clear hb hbox hg; have hnb46 := NB595_583.out; have hnc46 := NB583_595.out; have hnb47 := NB595_584.out; have hnc47 := NB584_595.out; have hnb48 := NB595_585.out; have hnc48 := NB585_595.out; have hcz49_0 : w45.cell? ⟨gb595, 0, none⟩ = some (.int .i64 0) := (blk_cell BK595.out 0).trans rfl; have hcz49_1 : w45.cell? ⟨gb595, 1, none⟩ = some (.int .i64 0) := (blk_cell BK595.out 1).trans rfl; have hcz49_2 : w45.cell? ⟨gb595, 2, none⟩ = some (.slice none 0 0) := (blk_cell BK595.out 2).trans rfl; have hfz49_0 := blk_frozen BK595.out 0; have hfz49_1 := blk_frozen BK595.out 1; have hfz49_2 := blk_frozen BK595.out 2; obtain ⟨Ao50, co50, eo50⟩ := Kd.R_slice HO594.out; subst eo50; have hcz51_0 : w45.cell? ⟨gb584, 0, none⟩ = some (.int .i64 a1_0) := (blk_cell BK584.out 0).trans rfl; have hcz51_1 : w45.cell? ⟨gb584, 1, none⟩ = some (.int .i64 a1_1) := (blk_cell BK584.out 1).trans rfl; have hcz51_2 : w45.cell? ⟨gb584, 2, none⟩ = some (.int .i64 a1_2) := (blk_cell BK584.out 2).trans rfl; have hcz51_3 : w45.cell? ⟨gb584, 3, none⟩ = some (.int .i64 a1_3) := (blk_cell BK584.out 3).trans rfl; have hcz51_4 : w45.cell? ⟨gb584, 4, none⟩ = some (.int .i64 a1_4) := (blk_cell BK584.out 4).trans rfl; have hcz51_5 : w45.cell? ⟨gb584, 5, none⟩ = some (.string a1_5) := (blk_cell BK584.out 5).trans rfl; have hfz51_0 := blk_frozen BK584.out 0; have hfz51_1 := blk_frozen BK584.out 1; have hfz51_2 := blk_frozen BK584.out 2; have hfz51_3 := blk_frozen BK584.out 3; have hfz51_4 := blk_frozen BK584.out 4; have hfz51_5 := blk_frozen BK584.out 5) | ((with_reducible refine gate_callee (f := 52) rfl ?_); refine goesL_ (some 33) rfl rfl Try.func52 (by kernel_rfl) rfl #[.agg #[.int .i64 t590, .int .i64 t591, .slice Ao50 t592.length co50], .int .i64 a1_1] rfl (by (try simp only [m0_, m1_, m2_]); first | done | rfl) ?_; (with_reducible refine (queue_Find.calls t590 t591 _ _ t592 a1_1 t596 t597 t598 t599 t600 t601 t602 _ ?side1 ?side2 A37.out).mono ?_); (case side1 => refine (Kd.R_reads' (e := 24) (base := w.heap.size) (ok := fun k_ => ((True ∧ k_ ≠ gb584) ∧ k_ ≠ gb585)) (n := t592.length) (c := co50) ?_).2.2; exact (by (with_reducible repeat (first | apply ra_ | apply rn_ | apply rd_)); exact (Kd.R_mono (Kd.R_far (p := ⟨gb595, 2, none⟩) (Kd.R_far (p := ⟨gb595, 1, none⟩) (Kd.R_far (p := ⟨gb595, 0, none⟩) (Kd.R_types HO594.out BK595.out (by decide)) (fun _ hk => hk.2) (.int .i64 t590)) (fun _ hk => hk.2) (.int .i64 t591)) (fun _ hk => hk.2) (.slice Ao50 t592.length co50)) (fun _ h_ => h_.1)))); (case side2 => exact (Kd.R_reads' HO594.out).2.1); rintro e w52 ⟨rfl, hb⟩; refine ⟨_, rfl, ?_⟩; have n0_ := A_ (Kd.R_below (by (with_reducible repeat (first | apply ra_ | apply rn_ | apply rd_)); exact (Kd.R_mono (Kd.R_far (p := ⟨gb595, 2, none⟩) (Kd.R_far (p := ⟨gb595, 1, none⟩) (Kd.R_far (p := ⟨gb595, 0, none⟩) (Kd.R_types HO594.out BK595.out (by decide)) (fun _ hk => hk.2) (.int .i64 t590)) (fun _ hk => hk.2) (.int .i64 t591)) (fun _ hk => hk.2) (.slice Ao50 t592.length co50)) (fun _ h_ => h_.1))) hb); have n1_ := A_ (blk_below (g := gb583) (o := .cells #[.int .i64 a0_0, .int .i64 a0_1, .slice A0_2 l0_2.length c0_2] 46 (0, 0)) (by (with_reducible repeat (first | refine bn_ ?_ _ | refine bd_ ?_ | refine ba_ ?_ _)); refine blk_far ?_ NB583_595.out _; (with_reducible repeat (first | refine bn_ ?_ _ | refine bd_ ?_ | refine ba_ ?_ _)); refine blk_far ?_ NB583_595.out _; (with_reducible repeat (first | refine bn_ ?_ _ | refine bd_ ?_ | refine ba_ ?_ _)); refine blk_far ?_ NB583_595.out _; (with_reducible repeat (first | refine bn_ ?_ _ | refine bd_ ?_ | refine ba_ ?_ _)); exact BK583.out) hb); have n2_ := A_ (blk_below (g := gb584) (o := .cells #[.int .i64 a1_0, .int .i64 a1_1, .int .i64 a1_2, .int .i64 a1_3, .int .i64 a1_4, .string a1_5] 24 (0, 0)) (by (with_reducible repeat (first | refine bn_ ?_ _ | refine bd_ ?_ | refine ba_ ?_ _)); refine blk_far ?_ NB584_595.out _; (with_reducible repeat (first | refine bn_ ?_ _ | refine bd_ ?_ | refine ba_ ?_ _)); refine blk_far ?_ NB584_595.out _; (with_reducible repeat (first | refine bn_ ?_ _ | refine bd_ ?_ | refine ba_ ?_ _)); refine blk_far ?_ NB584_595.out _; (with_reducible repeat (first | refine bn_ ?_ _ | refine bd_ ?_ | refine ba_ ?_ _)); exact BK584.out) hb); have n3_ := A_ (blk_below (g := gb585) (o := .cells #[.int .i64 a2_0, .int .i64 a2_1, .int .i64 a2_2, .int .i64 a2_3, .int .i64 a2_4, .string a2_5] 24 (0, 0)) (by (with_reducible repeat (first | refine bn_ ?_ _ | refine bd_ ?_ | refine ba_ ?_ _)); refine blk_far ?_ NB585_595.out _; (with_reducible repeat (first | refine bn_ ?_ _ | refine bd_ ?_ | refine ba_ ?_ _)); refine blk_far ?_ NB585_595.out _; (with_reducible repeat (first | refine bn_ ?_ _ | refine bd_ ?_ | refine ba_ ?_ _)); refine blk_far ?_ NB585_595.out _; (with_reducible repeat (first | refine bn_ ?_ _ | refine bd_ ?_ | refine ba_ ?_ _)); exact BK585.out) hb); have n4_ := A_ (blk_below (g := gb595) (o := .cells #[.int .i64 t590, .int .i64 t591, .slice Ao50 t592.length co50] 46 (0, 0)) (by (with_reducible repeat (first | refine bn_ ?_ _ | refine bd_ ?_ | refine ba_ ?_ _)); refine blk_put (cs := #[.int .i64 t590, .int .i64 t591, .slice none 0 0]) ?_ 2 _ rfl; (with_reducible repeat (first | refine bn_ ?_ _ | refine bd_ ?_ | refine ba_ ?_ _)); refine blk_put (cs := #[.int .i64 t590, .int .i64 0, .slice none 0 0]) ?_ 1 _ rfl; (with_reducible repeat (first | refine bn_ ?_ _ | refine bd_ ?_ | refine ba_ ?_ _)); refine blk_put (cs := #[.int .i64 0, .int .i64 0, .slice none 0 0]) ?_ 0 _ rfl; (with_reducible repeat (first | refine bn_ ?_ _ | refine bd_ ?_ | refine ba_ ?_ _)); exact BK595.out) hb); have n5_ := A_ (below_step (by repeat (first | (with_reducible first | exact HB.out | apply wa_ | apply wn_ | apply wd_ | refine ws_ ?_ GE583.out | refine ws_ ?_ GE584.out | refine ws_ ?_ GE585.out | refine ws_ ?_ GE595.out) | exact HB.out)) hb); clear HO594; clear BK583; clear BK584; clear BK585; clear BK595; clear HB; have HO594 := n0_; have BK583 := n1_; have BK584 := n2_; have BK585 := n3_; have BK595 := n4_; have HB := n5_; clear n0_ n1_ n2_ n3_ n4_ n5_; (try clear hb); (try clear hb2); (try clear hk); (try clear hi)) | ((with_reducible refine gate_dst (N := 8) rfl ?_); refine box_event ?hg (N := 8) ?hd (cs := #[.int .i64 0, .int .i64 0, .int .i64 0, .int .i64 0, .int .i64 0, .string (⟨#[]⟩ : ByteArray)]) (t := 24) ?hr ?_; (case hd => rfl); (case hg => rfl); (case hr => first | (go_simp; done) | (go_simp; rfl)); intro gb603 hg w53 hbox hb; have n0_ := A_ (Kd.R_below (Kd.R_elderB (by (with_reducible repeat (first | apply ra_ | apply rn_ | apply rd_)); exact HO594.out) gb603 (Nat.le_of_eq hg.symm)) hb); have n1_ := A_ (blk_below (g := gb583) (o := .cells #[.int .i64 a0_0, .int .i64 a0_1, .slice A0_2 l0_2.length c0_2] 46 (0, 0)) (by (with_reducible repeat (first | refine bn_ ?_ _ | refine bd_ ?_ | refine ba_ ?_ _)); exact BK583.out) hb); have n2_ := A_ (blk_below (g := gb584) (o := .cells #[.int .i64 a1_0, .int .i64 a1_1, .int .i64 a1_2, .int .i64 a1_3, .int .i64 a1_4, .string a1_5] 24 (0, 0)) (by (with_reducible repeat (first | refine bn_ ?_ _ | refine bd_ ?_ | refine ba_ ?_ _)); exact BK584.out) hb); have n3_ := A_ (blk_below (g := gb585) (o := .cells #[.int .i64 a2_0, .int .i64 a2_1, .int .i64 a2_2, .int .i64 a2_3, .int .i64 a2_4, .string a2_5] 24 (0, 0)) (by (with_reducible repeat (first | refine bn_ ?_ _ | refine bd_ ?_ | refine ba_ ?_ _)); exact BK585.out) hb); have n4_ := A_ (blk_below (g := gb595) (o := .cells #[.int .i64 t590, .int .i64 t591, .slice Ao50 t592.length co50] 46 (0, 0)) (by (with_reducible repeat (first | refine bn_ ?_ _ | refine bd_ ?_ | refine ba_ ?_ _)); exact BK595.out) hb); have n5_ := A_ (below_step (by repeat (first | (with_reducible first | exact HB.out | apply wa_ | apply wn_ | apply wd_ | refine ws_ ?_ GE583.out | refine ws_ ?_ GE584.out | refine ws_ ?_ GE585.out | refine ws_ ?_ GE595.out) | exact HB.out)) hb); have n6_ := A_ (hbox); have n7_ := A_ ((by rw [hg]; exact (below_size (by repeat (first | (with_reducible first | exact HB.out | apply wa_ | apply wn_ | apply wd_ | refine ws_ ?_ GE583.out | refine ws_ ?_ GE584.out | refine ws_ ?_ GE585.out | refine ws_ ?_ GE595.out) | exact HB.out))) : w.heap.size ≤ gb603)); have n8_ := A_ ((by rw [hg]; exact (below_size (by repeat (first | (with_reducible first | exact HB.out | apply wa_ | apply wn_ | apply wd_ | refine ws_ ?_ GE583.out | refine ws_ ?_ GE584.out | refine ws_ ?_ GE585.out | refine ws_ ?_ GE595.out) | exact HB.out))) : w.heap.size ≤ gb603)); have n9_ := A_ ((by rw [hg]; exact Nat.ne_of_lt (blk_lt (g := gb583) (o := .cells #[.int .i64 a0_0, .int .i64 a0_1, .slice A0_2 l0_2.length c0_2] 46 (0, 0)) (by (with_reducible repeat (first | refine bn_ ?_ _ | refine bd_ ?_ | refine ba_ ?_ _)); exact BK583.out)) : gb583 ≠ gb603)); have n10_ := A_ ((by rw [hg]; exact Nat.ne_of_gt (blk_lt (g := gb583) (o := .cells #[.int .i64 a0_0, .int .i64 a0_1, .slice A0_2 l0_2.length c0_2] 46 (0, 0)) (by (with_reducible repeat (first | refine bn_ ?_ _ | refine bd_ ?_ | refine ba_ ?_ _)); exact BK583.out)) : gb603 ≠ gb583)); have n11_ := A_ ((by rw [hg]; exact Nat.ne_of_lt (blk_lt (g := gb584) (o := .cells #[.int .i64 a1_0, .int .i64 a1_1, .int .i64 a1_2, .int .i64 a1_3, .int .i64 a1_4, .string a1_5] 24 (0, 0)) (by (with_reducible repeat (first | refine bn_ ?_ _ | refine bd_ ?_ | refine ba_ ?_ _)); exact BK584.out)) : gb584 ≠ gb603)); have n12_ := A_ ((by rw [hg]; exact Nat.ne_of_gt (blk_lt (g := gb584) (o := .cells #[.int .i64 a1_0, .int .i64 a1_1, .int .i64 a1_2, .int .i64 a1_3, .int .i64 a1_4, .string a1_5] 24 (0, 0)) (by (with_reducible repeat (first | refine bn_ ?_ _ | refine bd_ ?_ | refine ba_ ?_ _)); exact BK584.out)) : gb603 ≠ gb584)); have n13_ := A_ ((by rw [hg]; exact Nat.ne_of_lt (blk_lt (g := gb585) (o := .cells #[.int .i64 a2_0, .int .i64 a2_1, .int .i64 a2_2, .int .i64 a2_3, .int .i64 a2_4, .string a2_5] 24 (0, 0)) (by (with_reducible repeat (first | refine bn_ ?_ _ | refine bd_ ?_ | refine ba_ ?_ _)); exact BK585.out)) : gb585 ≠ gb603)); have n14_ := A_ ((by rw [hg]; exact Nat.ne_of_gt (blk_lt (g := gb585) (o := .cells #[.int .i64 a2_0, .int .i64 a2_1, .int .i64 a2_2, .int .i64 a2_3, .int .i64 a2_4, .string a2_5] 24 (0, 0)) (by (with_reducible repeat (first | refine bn_ ?_ _ | refine bd_ ?_ | refine ba_ ?_ _)); exact BK585.out)) : gb603 ≠ gb585)); have n15_ := A_ ((by rw [hg]; exact Nat.ne_of_lt (blk_lt (g := gb595) (o := .cells #[.int .i64 t590, .int .i64 t591, .slice Ao50 t592.length co50] 46 (0, 0)) (by (with_reducible repeat (first | refine bn_ ?_ _ | refine bd_ ?_ | refine ba_ ?_ _)); exact BK595.out)) : gb595 ≠ gb603)); have n16_ := A_ ((by rw [hg]; exact Nat.ne_of_gt (blk_lt (g := gb595) (o := .cells #[.int .i64 t590, .int .i64 t591, .slice Ao50 t592.length co50] 46 (0, 0)) (by (with_reducible repeat (first | refine bn_ ?_ _ | refine bd_ ?_ | refine ba_ ?_ _)); exact BK595.out)) : gb603 ≠ gb595)); clear HO594; clear BK583; clear BK584; clear BK585; clear BK595; clear HB; have HO594 := n0_; have BK583 := n1_; have BK584 := n2_; have BK585 := n3_; have BK595 := n4_; have HB := n5_; have BK603 := n6_; have GW603 := n7_; have GE603 := n8_; have NB583_603 := n9_; have NB603_583 := n10_; have NB584_603 := n11_; have NB603_584 := n12_; have NB585_603 := n13_; have NB603_585 := n14_; have NB595_603 := n15_; have NB603_595 := n16_; clear n0_ n1_ n2_ n3_ n4_ n5_ n6_ n7_ n8_ n9_ n10_ n11_ n12_ n13_ n14_ n15_ n16_; clear hb hbox hg; have hnb54 := NB603_583.out; have hnc54 := NB583_603.out; have hnb55 := NB603_584.out; have hnc55 := NB584_603.out; have hnb56 := NB603_585.out; have hnc56 := NB585_603.out; have hnb57 := NB603_595.out; have hnc57 := NB595_603.out; have hcz58_0 : w53.cell? ⟨gb603, 0, none⟩ = some (.int .i64 0) := (blk_cell BK603.out 0).trans rfl; have hcz58_1 : w53.cell? ⟨gb603, 1, none⟩ = some (.int .i64 0) := (blk_cell BK603.out 1).trans rfl; have hcz58_2 : w53.cell? ⟨gb603, 2, none⟩ = some (.int .i64 0) := (blk_cell BK603.out 2).trans rfl; have hcz58_3 : w53.cell? ⟨gb603, 3, none⟩ = some (.int .i64 0) := (blk_cell BK603.out 3).trans rfl; have hcz58_4 : w53.cell? ⟨gb603, 4, none⟩ = some (.int .i64 0) := (blk_cell BK603.out 4).trans rfl; have hcz58_5 : w53.cell? ⟨gb603, 5, none⟩ = some (.string (⟨#[]⟩ : ByteArray)) := (blk_cell BK603.out 5).trans rfl; have hfz58_0 := blk_frozen BK603.out 0; have hfz58_1 := blk_frozen BK603.out 1; have hfz58_2 := blk_frozen BK603.out 2; have hfz58_3 := blk_frozen BK603.out 3; have hfz58_4 := blk_frozen BK603.out 4; have hfz58_5 := blk_frozen BK603.out 5))
        (try simp only [Act.put, s0_, s1_, s2_])
        go_cut [50] (fun v50 wc => ∃ (kq : Nat) (x50_37 : Bool), v50 = .bool x50_37 ∧ Aside0 (hopperlaw05_QueuePuts.j1 kq x50_37 a0_0 a0_1 l0_2 a1_0 a1_1 a1_2 a1_3 a1_4 a1_5 a2_0 a2_1 a2_2 a2_3 a2_4 a2_5 t590 t591 t592 = some r) ∧ Aside0 (kq ≤ kj3) ∧ Aside0 (Kd.R k24 24 wc w.heap.size (fun k_ => k_ ≠ gb584 ∧ k_ ≠ gb585 ∧ k_ ≠ gb603) (.slice Ao50 t592.length co50) t592) ∧ Aside0 (wc.heap[gb583]? = some (.cells #[.int .i64 a0_0, .int .i64 a0_1, (.slice A0_2 l0_2.length c0_2)] 46 (0, 0))) ∧ Aside0 (wc.heap[gb584]? = some (.cells #[.int .i64 a1_0, .int .i64 a1_1, .int .i64 a1_2, .int .i64 a1_3, .int .i64 a1_4, .string a1_5] 24 (0, 0))) ∧ Aside0 (wc.heap[gb585]? = some (.cells #[.int .i64 a2_0, .int .i64 a2_1, .int .i64 a2_2, .int .i64 a2_3, .int .i64 a2_4, .string a2_5] 24 (0, 0))) ∧ Aside0 (wc.heap[gb595]? = some (.cells #[.int .i64 t590, .int .i64 t591, (.slice Ao50 t592.length co50)] 46 (0, 0))) ∧ Aside0 (wc.heap[gb603]? = some (.cells #[.int .i64 t596, .int .i64 t597, .int .i64 t598, .int .i64 t599, .int .i64 t600, .string t601] 24 (0, 0))) ∧ Aside0 (Below w.heap.size w wc))
        case first =>
          have H := HC38.out
          clear HC38
          by_cases c59 : t602 = true
          rotate_left
          · replace c59 := Bool.eq_false_iff.mpr c59
            subst c59
            have H1 : (none) = some r := by rw [if_neg (show ¬ (false = true) by decide)] at H; exact H
            clear H
            have H := H1
            clear H1
            exact absurd H (by simp)
          subst c59
          have H1 : (if (!(t596 == a1_0) || (!(t597 == a1_1) || (!(t598 == a1_2) || (!(t599 == a1_3) || (!(t600 == a1_4) || (!(t601.toList == a1_5.toList))))))) = true then (none) else ((queue_Put.f t590 t591 t592 a1_0 a1_1 a1_2 a1_3 a1_4 a1_5).bind fun bt604 => ((hopperref05_Same.f kj3 bt604.1 bt604.2.1 bt604.2.2 t590 t591 t592).bind fun t609 => (hopperlaw05_QueuePuts.j1 kj3 (!t609) a0_0 a0_1 l0_2 a1_0 a1_1 a1_2 a1_3 a1_4 a1_5 a2_0 a2_1 a2_2 a2_3 a2_4 a2_5 t590 t591 t592)))) = some r := by rw [if_pos rfl] at H; exact H
          clear H
          have H := H1
          clear H1
          by_cases c60 : (!(t596 == a1_0) || (!(t597 == a1_1) || (!(t598 == a1_2) || (!(t599 == a1_3) || (!(t600 == a1_4) || (!(t601.toList == a1_5.toList))))))) = true
          · rw [if_pos c60] at H
            exact absurd H (by simp)
          rw [if_neg c60] at H
          have c60b0 : (!(t596 == a1_0) || (!(t597 == a1_1) || (!(t598 == a1_2) || (!(t599 == a1_3) || (!(t600 == a1_4) || (!(t601.toList == a1_5.toList))))))) = false := by simpa using c60
          clear c60
          (first | rw [c60b0] | (simp only [i64_w, i32_w]; rw [c60b0]) | skip)
          replace H := Option.bind_eq_some_iff.mp H
          obtain ⟨⟨t604, t605, t606⟩, A610, H⟩ := H
          try dsimp only at H
          have A61 := A_ A610
          clear A610
          replace H := Option.bind_eq_some_iff.mp H
          obtain ⟨t609, A620, H⟩ := H
          try dsimp only at H
          have A62 := A_ A620
          clear A620
          have H' := A_ H
          clear H
          try go_wp2
          have n0_ : Aside0 (Kd.R k24 24 ((((((w53.setCell ⟨gb603, 0, none⟩ (.int .i64 t596)).setCell ⟨gb603, 1, none⟩ (.int .i64 t597)).setCell ⟨gb603, 2, none⟩ (.int .i64 t598)).setCell ⟨gb603, 3, none⟩ (.int .i64 t599)).setCell ⟨gb603, 4, none⟩ (.int .i64 t600)).setCell ⟨gb603, 5, none⟩ (.string t601)) w.heap.size (fun k_ => k_ ≠ gb584 ∧ k_ ≠ gb585 ∧ k_ ≠ gb603) (.slice Ao50 t592.length co50) t592) := ⟨by (with_reducible repeat (first | apply ra_ | apply rn_ | apply rd_)); exact Kd.R_mono (f6_ (g := gb603) (Kd.R_mono HO594.out (fun k_ hk => (⟨hk, hk.2⟩ : _ ∧ k_ ≠ gb603))) (fun _ hk => hk.2) (.int .i64 t596) (.int .i64 t597) (.int .i64 t598) (.int .i64 t599) (.int .i64 t600) (.string t601)) (fun _ hk => ⟨hk.1.1.1.2, ⟨hk.1.1.2, hk.1.2⟩⟩)⟩; have n1_ : Aside0 (((((((w53.setCell ⟨gb603, 0, none⟩ (.int .i64 t596)).setCell ⟨gb603, 1, none⟩ (.int .i64 t597)).setCell ⟨gb603, 2, none⟩ (.int .i64 t598)).setCell ⟨gb603, 3, none⟩ (.int .i64 t599)).setCell ⟨gb603, 4, none⟩ (.int .i64 t600)).setCell ⟨gb603, 5, none⟩ (.string t601)).heap[gb583]? = some (.cells #[.int .i64 a0_0, .int .i64 a0_1, .slice A0_2 l0_2.length c0_2] 46 (0, 0))) := ⟨by (with_reducible repeat (first | refine bn_ ?_ _ | refine bd_ ?_ | refine ba_ ?_ _)); refine blk_far ?_ NB583_603.out _; (with_reducible repeat (first | refine bn_ ?_ _ | refine bd_ ?_ | refine ba_ ?_ _)); refine blk_far ?_ NB583_603.out _; (with_reducible repeat (first | refine bn_ ?_ _ | refine bd_ ?_ | refine ba_ ?_ _)); refine blk_far ?_ NB583_603.out _; (with_reducible repeat (first | refine bn_ ?_ _ | refine bd_ ?_ | refine ba_ ?_ _)); refine blk_far ?_ NB583_603.out _; (with_reducible repeat (first | refine bn_ ?_ _ | refine bd_ ?_ | refine ba_ ?_ _)); refine blk_far ?_ NB583_603.out _; (with_reducible repeat (first | refine bn_ ?_ _ | refine bd_ ?_ | refine ba_ ?_ _)); refine blk_far ?_ NB583_603.out _; (with_reducible repeat (first | refine bn_ ?_ _ | refine bd_ ?_ | refine ba_ ?_ _)); exact BK583.out⟩; have n2_ : Aside0 (((((((w53.setCell ⟨gb603, 0, none⟩ (.int .i64 t596)).setCell ⟨gb603, 1, none⟩ (.int .i64 t597)).setCell ⟨gb603, 2, none⟩ (.int .i64 t598)).setCell ⟨gb603, 3, none⟩ (.int .i64 t599)).setCell ⟨gb603, 4, none⟩ (.int .i64 t600)).setCell ⟨gb603, 5, none⟩ (.string t601)).heap[gb584]? = some (.cells #[.int .i64 a1_0, .int .i64 a1_1, .int .i64 a1_2, .int .i64 a1_3, .int .i64 a1_4, .string a1_5] 24 (0, 0))) := ⟨by (with_reducible repeat (first | refine bn_ ?_ _ | refine bd_ ?_ | refine ba_ ?_ _)); refine blk_far ?_ NB584_603.out _; (with_reducible repeat (first | refine bn_ ?_ _ | refine bd_ ?_ | refine ba_ ?_ _)); refine blk_far ?_ NB584_603.out _; (with_reducible repeat (first | refine bn_ ?_ _ | refine bd_ ?_ | refine ba_ ?_ _)); refine blk_far ?_ NB584_603.out _; (with_reducible repeat (first | refine bn_ ?_ _ | refine bd_ ?_ | refine ba_ ?_ _)); refine blk_far ?_ NB584_603.out _; (with_reducible repeat (first | refine bn_ ?_ _ | refine bd_ ?_ | refine ba_ ?_ _)); refine blk_far ?_ NB584_603.out _; (with_reducible repeat (first | refine bn_ ?_ _ | refine bd_ ?_ | refine ba_ ?_ _)); refine blk_far ?_ NB584_603.out _; (with_reducible repeat (first | refine bn_ ?_ _ | refine bd_ ?_ | refine ba_ ?_ _)); exact BK584.out⟩; have n3_ : Aside0 (((((((w53.setCell ⟨gb603, 0, none⟩ (.int .i64 t596)).setCell ⟨gb603, 1, none⟩ (.int .i64 t597)).setCell ⟨gb603, 2, none⟩ (.int .i64 t598)).setCell ⟨gb603, 3, none⟩ (.int .i64 t599)).setCell ⟨gb603, 4, none⟩ (.int .i64 t600)).setCell ⟨gb603, 5, none⟩ (.string t601)).heap[gb585]? = some (.cells #[.int .i64 a2_0, .int .i64 a2_1, .int .i64 a2_2, .int .i64 a2_3, .int .i64 a2_4, .string a2_5] 24 (0, 0))) := ⟨by (with_reducible repeat (first | refine bn_ ?_ _ | refine bd_ ?_ | refine ba_ ?_ _)); refine blk_far ?_ NB585_603.out _; (with_reducible repeat (first | refine bn_ ?_ _ | refine bd_ ?_ | refine ba_ ?_ _)); refine blk_far ?_ NB585_603.out _; (with_reducible repeat (first | refine bn_ ?_ _ | refine bd_ ?_ | refine ba_ ?_ _)); refine blk_far ?_ NB585_603.out _; (with_reducible repeat (first | refine bn_ ?_ _ | refine bd_ ?_ | refine ba_ ?_ _)); refine blk_far ?_ NB585_603.out _; (with_reducible repeat (first | refine bn_ ?_ _ | refine bd_ ?_ | refine ba_ ?_ _)); refine blk_far ?_ NB585_603.out _; (with_reducible repeat (first | refine bn_ ?_ _ | refine bd_ ?_ | refine ba_ ?_ _)); refine blk_far ?_ NB585_603.out _; (with_reducible repeat (first | refine bn_ ?_ _ | refine bd_ ?_ | refine ba_ ?_ _)); exact BK585.out⟩; have n4_ : Aside0 (((((((w53.setCell ⟨gb603, 0, none⟩ (.int .i64 t596)).setCell ⟨gb603, 1, none⟩ (.int .i64 t597)).setCell ⟨gb603, 2, none⟩ (.int .i64 t598)).setCell ⟨gb603, 3, none⟩ (.int .i64 t599)).setCell ⟨gb603, 4, none⟩ (.int .i64 t600)).setCell ⟨gb603, 5, none⟩ (.string t601)).heap[gb595]? = some (.cells #[.int .i64 t590, .int .i64 t591, .slice Ao50 t592.length co50] 46 (0, 0))) := ⟨by (with_reducible repeat (first | refine bn_ ?_ _ | refine bd_ ?_ | refine ba_ ?_ _)); refine blk_far ?_ NB595_603.out _; (with_reducible repeat (first | refine bn_ ?_ _ | refine bd_ ?_ | refine ba_ ?_ _)); refine blk_far ?_ NB595_603.out _; (with_reducible repeat (first | refine bn_ ?_ _ | refine bd_ ?_ | refine ba_ ?_ _)); refine blk_far ?_ NB595_603.out _; (with_reducible repeat (first | refine bn_ ?_ _ | refine bd_ ?_ | refine ba_ ?_ _)); refine blk_far ?_ NB595_603.out _; (with_reducible repeat (first | refine bn_ ?_ _ | refine bd_ ?_ | refine ba_ ?_ _)); refine blk_far ?_ NB595_603.out _; (with_reducible repeat (first | refine bn_ ?_ _ | refine bd_ ?_ | refine ba_ ?_ _)); refine blk_far ?_ NB595_603.out _; (with_reducible repeat (first | refine bn_ ?_ _ | refine bd_ ?_ | refine ba_ ?_ _)); exact BK595.out⟩; have n5_ : Aside0 (((((((w53.setCell ⟨gb603, 0, none⟩ (.int .i64 t596)).setCell ⟨gb603, 1, none⟩ (.int .i64 t597)).setCell ⟨gb603, 2, none⟩ (.int .i64 t598)).setCell ⟨gb603, 3, none⟩ (.int .i64 t599)).setCell ⟨gb603, 4, none⟩ (.int .i64 t600)).setCell ⟨gb603, 5, none⟩ (.string t601)).heap[gb603]? = some (.cells #[.int .i64 t596, .int .i64 t597, .int .i64 t598, .int .i64 t599, .int .i64 t600, .string t601] 24 (0, 0))) := ⟨by (with_reducible repeat (first | refine bn_ ?_ _ | refine bd_ ?_ | refine ba_ ?_ _)); refine blk_put (cs := #[.int .i64 t596, .int .i64 t597, .int .i64 t598, .int .i64 t599, .int .i64 t600, .string (⟨#[]⟩ : ByteArray)]) ?_ 5 _ rfl; (with_reducible repeat (first | refine bn_ ?_ _ | refine bd_ ?_ | refine ba_ ?_ _)); refine blk_put (cs := #[.int .i64 t596, .int .i64 t597, .int .i64 t598, .int .i64 t599, .int .i64 0, .string (⟨#[]⟩ : ByteArray)]) ?_ 4 _ rfl; (with_reducible repeat (first | refine bn_ ?_ _ | refine bd_ ?_ | refine ba_ ?_ _)); refine blk_put (cs := #[.int .i64 t596, .int .i64 t597, .int .i64 t598, .int .i64 0, .int .i64 0, .string (⟨#[]⟩ : ByteArray)]) ?_ 3 _ rfl; (with_reducible repeat (first | refine bn_ ?_ _ | refine bd_ ?_ | refine ba_ ?_ _)); refine blk_put (cs := #[.int .i64 t596, .int .i64 t597, .int .i64 0, .int .i64 0, .int .i64 0, .string (⟨#[]⟩ : ByteArray)]) ?_ 2 _ rfl; (with_reducible repeat (first | refine bn_ ?_ _ | refine bd_ ?_ | refine ba_ ?_ _)); refine blk_put (cs := #[.int .i64 t596, .int .i64 0, .int .i64 0, .int .i64 0, .int .i64 0, .string (⟨#[]⟩ : ByteArray)]) ?_ 1 _ rfl; (with_reducible repeat (first | refine bn_ ?_ _ | refine bd_ ?_ | refine ba_ ?_ _)); refine blk_put (cs := #[.int .i64 0, .int .i64 0, .int .i64 0, .int .i64 0, .int .i64 0, .string (⟨#[]⟩ : ByteArray)]) ?_ 0 _ rfl; (with_reducible repeat (first | refine bn_ ?_ _ | refine bd_ ?_ | refine ba_ ?_ _)); exact BK603.out⟩; have n6_ : Aside0 (Below w.heap.size w ((((((w53.setCell ⟨gb603, 0, none⟩ (.int .i64 t596)).setCell ⟨gb603, 1, none⟩ (.int .i64 t597)).setCell ⟨gb603, 2, none⟩ (.int .i64 t598)).setCell ⟨gb603, 3, none⟩ (.int .i64 t599)).setCell ⟨gb603, 4, none⟩ (.int .i64 t600)).setCell ⟨gb603, 5, none⟩ (.string t601))) := ⟨by repeat (first | (with_reducible first | exact HB.out | apply wa_ | apply wn_ | apply wd_ | refine ws_ ?_ GE583.out | refine ws_ ?_ GE584.out | refine ws_ ?_ GE585.out | refine ws_ ?_ GE595.out | refine ws_ ?_ GE603.out) | exact HB.out)⟩
          (try clear HO594)
          (try clear BK583)
          (try clear BK584)
          (try clear BK585)
          (try clear BK595)
          (try clear BK603)
          (try clear HB)
          generalize ((((((w53.setCell ⟨gb603, 0, none⟩ (.int .i64 t596)).setCell ⟨gb603, 1, none⟩ (.int .i64 t597)).setCell ⟨gb603, 2, none⟩ (.int .i64 t598)).setCell ⟨gb603, 3, none⟩ (.int .i64 t599)).setCell ⟨gb603, 4, none⟩ (.int .i64 t600)).setCell ⟨gb603, 5, none⟩ (.string t601)) = w63 at n0_ n1_ n2_ n3_ n4_ n5_ n6_ ⊢
          have HO594 := n0_; have BK583 := n1_; have BK584 := n2_; have BK585 := n3_; have BK595 := n4_; have BK603 := n5_; have HB := n6_; clear n0_ n1_ n2_ n3_ n4_ n5_ n6_; have n0_ := A_ (rd_ HO594.out); have n1_ := A_ (bd_ BK583.out); have n2_ := A_ (bd_ BK584.out); have n3_ := A_ (bd_ BK585.out); have n4_ := A_ (bd_ BK595.out); have n5_ := A_ (bd_ BK603.out); have n6_ := A_ (wd_ HB.out); clear HO594; clear BK583; clear BK584; clear BK585; clear BK595; clear BK603; clear HB; have HO594 := n0_; have BK583 := n1_; have BK584 := n2_; have BK585 := n3_; have BK595 := n4_; have BK603 := n5_; have HB := n6_; clear n0_ n1_ n2_ n3_ n4_ n5_ n6_
          refine start_ (n := 15) (S := fun w' => w'.cell? ⟨gb603, 0, none⟩ = some (.int .i64 t596) ∧ w'.cell? ⟨gb603, 1, none⟩ = some (.int .i64 t597) ∧ w'.cell? ⟨gb603, 2, none⟩ = some (.int .i64 t598) ∧ w'.cell? ⟨gb603, 3, none⟩ = some (.int .i64 t599) ∧ w'.cell? ⟨gb603, 4, none⟩ = some (.int .i64 t600) ∧ w'.cell? ⟨gb603, 5, none⟩ = some (.string t601) ∧ w'.cell? ⟨gb584, 0, none⟩ = some (.int .i64 a1_0) ∧ w'.cell? ⟨gb584, 1, none⟩ = some (.int .i64 a1_1) ∧ w'.cell? ⟨gb584, 2, none⟩ = some (.int .i64 a1_2) ∧ w'.cell? ⟨gb584, 3, none⟩ = some (.int .i64 a1_3) ∧ w'.cell? ⟨gb584, 4, none⟩ = some (.int .i64 a1_4) ∧ w'.cell? ⟨gb584, 5, none⟩ = some (.string a1_5) ∧ w'.cell? ⟨gb595, 0, none⟩ = some (.int .i64 t590) ∧ w'.cell? ⟨gb595, 1, none⟩ = some (.int .i64 t591) ∧ w'.cell? ⟨gb595, 2, none⟩ = some (.slice Ao50 t592.length co50)) (ds := []) #[F,F,F,F,F,F,F,F,F,F,F,F,F,F,F] (by kernel_rfl) rfl rfl ⟨(blk_cell BK603.out 0).trans rfl, (blk_cell BK603.out 1).trans rfl, (blk_cell BK603.out 2).trans rfl, (blk_cell BK603.out 3).trans rfl, (blk_cell BK603.out 4).trans rfl, (blk_cell BK603.out 5).trans rfl, (blk_cell BK584.out 0).trans rfl, (blk_cell BK584.out 1).trans rfl, (blk_cell BK584.out 2).trans rfl, (blk_cell BK584.out 3).trans rfl, (blk_cell BK584.out 4).trans rfl, (blk_cell BK584.out 5).trans rfl, (blk_cell BK595.out 0).trans rfl, (blk_cell BK595.out 1).trans rfl, (blk_cell BK595.out 2).trans rfl⟩ (fun hHeld => ?_); refine with_tabW hopperlaw05_QueuePuts.tab5 hopperlaw05_QueuePuts.bits5 (fun HT_ HW_ => ?_)
          generalize w63.drew = w64 at HO594 BK583 BK584 BK585 BK595 BK603 HB hHeld ⊢
          refine pure_ (i := 0) (N := some 36) (v := ?_) (a' := ?_) #[T,F,F,F,F,F,F,F,F,F,F,F,F,F,F] rfl rfl (any_of HT_.out (by kernel_rfl)) (fun _ _ _ h => h) (Or.inl ⟨by rfl, ?_⟩) ?_ ?_
          rotate_left
          · intro w'
            go_simp
            with_reducible rfl
          rotate_left
          · simp only [Act.put, s0_, s1_, s2_, i64_w, i32_w]
            rfl
          refine pure_ (i := 1) (N := some 37) (v := ?_) (a' := ?_) #[T,T,F,F,F,F,F,F,F,F,F,F,F,F,F] rfl rfl (any_of HT_.out (by kernel_rfl)) (fun _ _ _ h => h) (Or.inl ⟨by rfl, ?_⟩) ?_ ?_
          rotate_left
          · intro w'
            go_simp
            with_reducible rfl
          rotate_left
          · simp only [Act.put, s0_, s1_, s2_, i64_w, i32_w]
            rfl
          refine pure_ (i := 2) (N := some 38) (v := ?_) (a' := ?_) #[T,T,T,F,F,F,F,F,F,F,F,F,F,F,F] rfl rfl (any_of HT_.out (by kernel_rfl)) (fun _ _ _ h => h) (Or.inl ⟨by rfl, ?_⟩) ?_ ?_
          rotate_left
          · intro w'
            go_simp
            with_reducible rfl
          rotate_left
          · simp only [Act.put, s0_, s1_, s2_, i64_w, i32_w]
            rfl
          refine take_ (i := 3) (N := some 39) (v := ?_) (a' := ?_) #[T,T,T,T,F,F,F,F,F,F,F,F,F,F,F] rfl rfl (take_ofW HT_.out HW_.out (by kernel_rfl)) (fun _ _ _ h => h) (Or.inl ⟨by rfl, ?_⟩) hHeld ?_ ?_
          rotate_left
          · rintro w' ⟨s0, s1, s2, s3, s4, s5, s6, s7, s8, s9, s10, s11, s12, s13, s14⟩
            go_simp
            with_reducible rfl
          rotate_left
          · simp only [Act.put, s0_, s1_, s2_, i64_w, i32_w]
            rfl
          refine take_ (i := 4) (N := some 40) (v := ?_) (a' := ?_) #[T,T,T,T,T,F,F,F,F,F,F,F,F,F,F] rfl rfl (take_ofW HT_.out HW_.out (by kernel_rfl)) (fun _ _ _ h => h) (Or.inl ⟨by rfl, ?_⟩) hHeld ?_ ?_
          rotate_left
          · rintro w' ⟨s0, s1, s2, s3, s4, s5, s6, s7, s8, s9, s10, s11, s12, s13, s14⟩
            go_simp
            with_reducible rfl
          rotate_left
          · simp only [Act.put, s0_, s1_, s2_, i64_w, i32_w]
            rfl
          refine pure_ (i := 5) (N := some 41) (v := ?_) (a' := ?_) #[T,T,T,T,T,T,F,F,F,F,F,F,F,F,F] rfl rfl (any_of HT_.out (by kernel_rfl)) (fun _ _ _ h => h) (Or.inl ⟨by rfl, ?_⟩) ?_ ?_
          rotate_left
          · intro w'
            go_simp
            with_reducible rfl
          rotate_left
          · simp only [Act.put, s0_, s1_, s2_, i64_w, i32_w]
            rfl
          refine pure_ (i := 6) (N := some 42) (v := ?_) (a' := ?_) #[T,T,T,T,T,T,T,F,F,F,F,F,F,F,F] rfl rfl (any_of HT_.out (by kernel_rfl)) (fun _ _ _ h => h) (Or.inl ⟨by rfl, ?_⟩) ?_ ?_
          rotate_left
          · intro w'
            go_simp
            with_reducible rfl
          rotate_left
          · simp only [Act.put, s0_, s1_, s2_, i64_w, i32_w]
            rfl
          refine pure_ (i := 7) (N := some 43) (v := ?_) (a' := ?_) #[T,T,T,T,T,T,T,T,F,F,F,F,F,F,F] rfl rfl (any_of HT_.out (by kernel_rfl)) (fun _ _ _ h => h) (Or.inl ⟨by rfl, ?_⟩) ?_ ?_
          rotate_left
          · intro w'
            go_simp
            with_reducible rfl
          rotate_left
          · simp only [Act.put, s0_, s1_, s2_, i64_w, i32_w]
            rfl
          refine take_ (i := 8) (N := some 44) (v := ?_) (a' := ?_) #[T,T,T,T,T,T,T,T,T,F,F,F,F,F,F] rfl rfl (take_ofW HT_.out HW_.out (by kernel_rfl)) (fun _ _ _ h => h) (Or.inl ⟨by rfl, ?_⟩) hHeld ?_ ?_
          rotate_left
          · rintro w' ⟨s0, s1, s2, s3, s4, s5, s6, s7, s8, s9, s10, s11, s12, s13, s14⟩
            go_simp
            with_reducible rfl
          rotate_left
          · simp only [Act.put, s0_, s1_, s2_, i64_w, i32_w]
            rfl
          refine take_ (i := 9) (N := some 45) (v := ?_) (a' := ?_) #[T,T,T,T,T,T,T,T,T,T,F,F,F,F,F] rfl rfl (take_ofW HT_.out HW_.out (by kernel_rfl)) (fun _ _ _ h => h) (Or.inl ⟨by rfl, ?_⟩) hHeld ?_ ?_
          rotate_left
          · rintro w' ⟨s0, s1, s2, s3, s4, s5, s6, s7, s8, s9, s10, s11, s12, s13, s14⟩
            go_simp
            with_reducible rfl
          rotate_left
          · simp only [Act.put, s0_, s1_, s2_, i64_w, i32_w]
            rfl
          refine take_ (i := 11) (N := some 47) (v := ?_) (a' := ?_) #[T,T,T,T,T,T,T,T,T,T,F,T,F,F,F] rfl rfl (take_ofW HT_.out HW_.out (by kernel_rfl)) (fun _ _ _ h => h) (Or.inl ⟨by rfl, ?_⟩) hHeld ?_ ?_
          rotate_left
          · rintro w' ⟨s0, s1, s2, s3, s4, s5, s6, s7, s8, s9, s10, s11, s12, s13, s14⟩
            go_simp
            with_reducible rfl
          rotate_left
          · simp only [Act.put, s0_, s1_, s2_, i64_w, i32_w]
            rfl
          refine one_ (i := 10) (N := some 46) #[T,T,T,T,T,T,T,T,T,T,T,T,F,F,F] rfl rfl (one_of HT_.out (by kernel_rfl)) (by decide) (fun K hK => ?_)
          refine goes_ Try.func63 (by kernel_rfl) rfl #[.agg #[.int .i64 t590, .int .i64 t591, .slice Ao50 t592.length co50], .agg #[.int .i64 a1_0, .int .i64 a1_1, .int .i64 a1_2, .int .i64 a1_3, .int .i64 a1_4, .string a1_5]] (by rfl) rfl rfl (by (try simp only [m0_, m1_, m2_]); first | done | rfl) ?_
          with_reducible refine (queue_Put.calls t590 t591 _ _ t592 a1_0 a1_1 a1_2 a1_3 a1_4 a1_5 t604 t605 t606 _ ?side1 ?side2 A61.out).mono ?_
          (case side1 => repeat (first | exact (Kd.R_reads' HO594.out).2.2 | (with_reducible refine ca_ ?_ _) | (with_reducible refine cn_ ?_ _) | (with_reducible refine cd_ ?_)))
          (case side2 => exact (Kd.R_reads' HO594.out).2.1)
          rintro e w65 ⟨v607, rfl, ho0, hb⟩
          refine ⟨_, rfl, ?_⟩
          have n0_ := A_ (Kd.R_elder' (by (with_reducible repeat (first | apply ra_ | apply rn_ | apply rd_)); exact HO594.out) (Kd.R_base ho0) hb); have n1_ := A_ (Kd.R_lower (Kd.R_newB (Kd.R_newB (Kd.R_newB (Kd.R_new' ho0 (Kd.R_lt (by (with_reducible repeat (first | apply ra_ | apply rn_ | apply rd_)); exact HO594.out))) (g := gb584) (o := .cells #[.int .i64 a1_0, .int .i64 a1_1, .int .i64 a1_2, .int .i64 a1_3, .int .i64 a1_4, .string a1_5] 24 (0, 0)) (by (with_reducible repeat (first | refine bn_ ?_ _ | refine bd_ ?_ | refine ba_ ?_ _)); exact BK584.out)) (g := gb585) (o := .cells #[.int .i64 a2_0, .int .i64 a2_1, .int .i64 a2_2, .int .i64 a2_3, .int .i64 a2_4, .string a2_5] 24 (0, 0)) (by (with_reducible repeat (first | refine bn_ ?_ _ | refine bd_ ?_ | refine ba_ ?_ _)); exact BK585.out)) (g := gb603) (o := .cells #[.int .i64 t596, .int .i64 t597, .int .i64 t598, .int .i64 t599, .int .i64 t600, .string t601] 24 (0, 0)) (by (with_reducible repeat (first | refine bn_ ?_ _ | refine bd_ ?_ | refine ba_ ?_ _)); exact BK603.out)) (below_size (by repeat (first | (with_reducible first | exact HB.out | apply wa_ | apply wn_ | apply wd_ | refine ws_ ?_ GE583.out | refine ws_ ?_ GE584.out | refine ws_ ?_ GE585.out | refine ws_ ?_ GE595.out | refine ws_ ?_ GE603.out) | exact HB.out)))); have n2_ := A_ (blk_below (g := gb583) (o := .cells #[.int .i64 a0_0, .int .i64 a0_1, .slice A0_2 l0_2.length c0_2] 46 (0, 0)) (by (with_reducible repeat (first | refine bn_ ?_ _ | refine bd_ ?_ | refine ba_ ?_ _)); exact BK583.out) hb); have n3_ := A_ (blk_below (g := gb584) (o := .cells #[.int .i64 a1_0, .int .i64 a1_1, .int .i64 a1_2, .int .i64 a1_3, .int .i64 a1_4, .string a1_5] 24 (0, 0)) (by (with_reducible repeat (first | refine bn_ ?_ _ | refine bd_ ?_ | refine ba_ ?_ _)); exact BK584.out) hb); have n4_ := A_ (blk_below (g := gb585) (o := .cells #[.int .i64 a2_0, .int .i64 a2_1, .int .i64 a2_2, .int .i64 a2_3, .int .i64 a2_4, .string a2_5] 24 (0, 0)) (by (with_reducible repeat (first | refine bn_ ?_ _ | refine bd_ ?_ | refine ba_ ?_ _)); exact BK585.out) hb); have n5_ := A_ (blk_below (g := gb595) (o := .cells #[.int .i64 t590, .int .i64 t591, .slice Ao50 t592.length co50] 46 (0, 0)) (by (with_reducible repeat (first | refine bn_ ?_ _ | refine bd_ ?_ | refine ba_ ?_ _)); exact BK595.out) hb); have n6_ := A_ (blk_below (g := gb603) (o := .cells #[.int .i64 t596, .int .i64 t597, .int .i64 t598, .int .i64 t599, .int .i64 t600, .string t601] 24 (0, 0)) (by (with_reducible repeat (first | refine bn_ ?_ _ | refine bd_ ?_ | refine ba_ ?_ _)); exact BK603.out) hb); have n7_ := A_ (below_step (by repeat (first | (with_reducible first | exact HB.out | apply wa_ | apply wn_ | apply wd_ | refine ws_ ?_ GE583.out | refine ws_ ?_ GE584.out | refine ws_ ?_ GE585.out | refine ws_ ?_ GE595.out | refine ws_ ?_ GE603.out) | exact HB.out)) hb); clear HO594; clear BK583; clear BK584; clear BK585; clear BK595; clear BK603; clear HB; have HO594 := n0_; have HO608 := n1_; have BK583 := n2_; have BK584 := n3_; have BK585 := n4_; have BK595 := n5_; have BK603 := n6_; have HB := n7_; clear n0_ n1_ n2_ n3_ n4_ n5_ n6_ n7_
          (try clear hb)
          (try clear hb2)
          (try clear hk)
          (try clear hi)
          (try clear ho0)
          obtain ⟨Ao66, co66, eo66⟩ := Kd.R_slice HO608.out
          (first | subst eo66 | (injection eo66 with f1_ f2_ f3_; have f4_ := f1_.symm; have f5_ := f3_.symm; clear f1_ f2_ f3_; subst f4_; subst f5_))
          refine hK.out _ _ ⟨(blk_cell BK603.out 0).trans rfl, (blk_cell BK603.out 1).trans rfl, (blk_cell BK603.out 2).trans rfl, (blk_cell BK603.out 3).trans rfl, (blk_cell BK603.out 4).trans rfl, (blk_cell BK603.out 5).trans rfl, (blk_cell BK584.out 0).trans rfl, (blk_cell BK584.out 1).trans rfl, (blk_cell BK584.out 2).trans rfl, (blk_cell BK584.out 3).trans rfl, (blk_cell BK584.out 4).trans rfl, (blk_cell BK584.out 5).trans rfl, (blk_cell BK595.out 0).trans rfl, (blk_cell BK595.out 1).trans rfl, (blk_cell BK595.out 2).trans rfl⟩ (fun hHeld => ?_)
          clear hK K
          refine norm_ (a' := ?_) ?_ ?_
          rotate_left
          · show Act.put _ (some 46) _ = _
            simp only [Act.put, s0_, s1_, s2_, i64_w, i32_w]
            rfl
          refine one_ (i := 12) (N := some 48) #[T,T,T,T,T,T,T,T,T,T,T,T,T,F,F] rfl rfl (one_of HT_.out (by kernel_rfl)) (by decide) (fun K hK => ?_)
          refine goes_ Try.func62 (by kernel_rfl) rfl #[.agg #[.int .i64 t604, .int .i64 t605, .slice Ao66 t606.length co66], .agg #[.int .i64 t590, .int .i64 t591, .slice Ao50 t592.length co50]] (by rfl) rfl rfl (by (try simp only [m0_, m1_, m2_]); first | done | rfl) ?_
          with_reducible refine (hopperref05_Same.calls kj3 t604 t605 _ _ t606 t590 t591 _ _ t592 t609 _ ?side1 ?side2 ?side3 ?side4 A62.out).mono ?_
          (case side1 => repeat (first | exact (Kd.R_reads' HO608.out).2.2 | (with_reducible refine ca_ ?_ _) | (with_reducible refine cn_ ?_ _) | (with_reducible refine cd_ ?_)))
          (case side2 => exact (Kd.R_reads' HO608.out).2.1)
          (case side3 => repeat (first | exact (Kd.R_reads' HO594.out).2.2 | (with_reducible refine ca_ ?_ _) | (with_reducible refine cn_ ?_ _) | (with_reducible refine cd_ ?_)))
          (case side4 => exact (Kd.R_reads' HO594.out).2.1)
          rintro e w67 ⟨rfl, hb⟩
          refine ⟨_, rfl, ?_⟩
          have n0_ := A_ (Kd.R_below (by (with_reducible repeat (first | apply ra_ | apply rn_ | apply rd_)); exact HO594.out) hb); have n1_ := A_ (Kd.R_below (by (with_reducible repeat (first | apply ra_ | apply rn_ | apply rd_)); exact HO608.out) hb); have n2_ := A_ (blk_below BK583.out hb); have n3_ := A_ (blk_below BK584.out hb); have n4_ := A_ (blk_below BK585.out hb); have n5_ := A_ (blk_below BK595.out hb); have n6_ := A_ (blk_below BK603.out hb); have n7_ := A_ (below_step HB.out hb); clear HO594; clear HO608; clear BK583; clear BK584; clear BK585; clear BK595; clear BK603; clear HB; have HO594 := n0_; have HO608 := n1_; have BK583 := n2_; have BK584 := n3_; have BK585 := n4_; have BK595 := n5_; have BK603 := n6_; have HB := n7_; clear n0_ n1_ n2_ n3_ n4_ n5_ n6_ n7_
          (try clear hb)
          (try clear hb2)
          (try clear hk)
          (try clear hi)
          refine hK.out _ _ ⟨(blk_cell BK603.out 0).trans rfl, (blk_cell BK603.out 1).trans rfl, (blk_cell BK603.out 2).trans rfl, (blk_cell BK603.out 3).trans rfl, (blk_cell BK603.out 4).trans rfl, (blk_cell BK603.out 5).trans rfl, (blk_cell BK584.out 0).trans rfl, (blk_cell BK584.out 1).trans rfl, (blk_cell BK584.out 2).trans rfl, (blk_cell BK584.out 3).trans rfl, (blk_cell BK584.out 4).trans rfl, (blk_cell BK584.out 5).trans rfl, (blk_cell BK595.out 0).trans rfl, (blk_cell BK595.out 1).trans rfl, (blk_cell BK595.out 2).trans rfl⟩ (fun hHeld => ?_)
          clear hK K
          refine norm_ (a' := ?_) ?_ ?_
          rotate_left
          · show Act.put _ (some 48) _ = _
            simp only [Act.put, s0_, s1_, s2_, i64_w, i32_w]
            rfl
          refine pure_ (i := 13) (N := some 49) (v := ?_) (a' := ?_) #[T,T,T,T,T,T,T,T,T,T,T,T,T,T,F] rfl rfl (any_of HT_.out (by kernel_rfl)) (fun _ _ _ h => h) (Or.inl ⟨by rfl, ?_⟩) ?_ ?_
          rotate_left
          · intro w'
            go_simp
            with_reducible rfl
          rotate_left
          · simp only [Act.put, s0_, s1_, s2_, i64_w, i32_w]
            rfl
          refine pure_ (i := 14) (N := some 50) (v := ?_) (a' := ?_) #[T,T,T,T,T,T,T,T,T,T,T,T,T,T,T] rfl rfl (any_of HT_.out (by kernel_rfl)) (fun _ _ _ h => h) (Or.inl ⟨by rfl, ?_⟩) ?_ ?_
          rotate_left
          · intro w'
            go_simp
            with_reducible rfl
          rotate_left
          · simp only [Act.put, s0_, s1_, s2_, i64_w, i32_w]
            rfl
          refine done_ (done_of HT_.out (by kernel_rfl)) ?_
          try go_wp2
          go_meet
          case rel => exact ⟨_, (!t609), (by first | rfl | (simp; done) | (simp [*]; done)), H', ⟨by have := HJ3.out; first | omega | exact Nat.le_refl _⟩, ⟨by (with_reducible repeat (first | apply ra_ | apply rn_ | apply rd_)); exact Kd.R_mono HO594.out (fun _ hk => ⟨hk.1.1, ⟨hk.1.2.1, hk.1.2.2⟩⟩)⟩, ⟨by (with_reducible repeat (first | refine bn_ ?_ _ | refine bd_ ?_ | refine ba_ ?_ _)); exact BK583.out⟩, ⟨by (with_reducible repeat (first | refine bn_ ?_ _ | refine bd_ ?_ | refine ba_ ?_ _)); exact BK584.out⟩, ⟨by (with_reducible repeat (first | refine bn_ ?_ _ | refine bd_ ?_ | refine ba_ ?_ _)); exact BK585.out⟩, ⟨by (with_reducible repeat (first | refine bn_ ?_ _ | refine bd_ ?_ | refine ba_ ?_ _)); exact BK595.out⟩, ⟨by (with_reducible repeat (first | refine bn_ ?_ _ | refine bd_ ?_ | refine ba_ ?_ _)); exact BK603.out⟩, ⟨by repeat (first | (with_reducible first | exact HB.out | apply wa_ | apply wn_ | apply wd_ | refine ws_ ?_ GE583.out | refine ws_ ?_ GE584.out | refine ws_ ?_ GE585.out | refine ws_ ?_ GE595.out | refine ws_ ?_ GE603.out) | exact HB.out)⟩⟩
        case rest =>
          clear HC38; (try clear c1); (try clear c2); (try clear p2); (try clear c3); (try clear c4); (try clear c5); (try clear c6); (try clear c9); (try clear c11); (try clear c13); (try clear c14); (try clear c17); (try clear c22); (try clear c23); (try clear c26); (try clear c29); (try clear c30); (try clear c33); (try clear c39); (try clear c40); (try clear c42); (try clear c46); (try clear c47); (try clear c48); (try clear c50); (try clear c51); (try clear c52); (try clear c54); (try clear c55); (try clear c56); (try clear c57); (try clear c59); (try clear c60); (try clear c60b0); (try clear c62); (try clear c63); (try clear hcz15_0); (try clear hcz15_1); (try clear hcz15_2); (try clear hcz18_0); (try clear hcz18_1); (try clear hcz18_2); (try clear hcz18_3); (try clear hcz18_4); (try clear hcz18_5); (try clear hcz20_0); (try clear hcz20_1); (try clear hcz20_2); (try clear hcz20_3); (try clear hcz20_4); (try clear hcz20_5); (try clear hcz24_0); (try clear hcz24_1); (try clear hcz24_2); (try clear hcz27_0); (try clear hcz27_1); (try clear hcz27_2); (try clear hcz27_3); (try clear hcz27_4); (try clear hcz27_5); (try clear hcz31_0); (try clear hcz31_1); (try clear hcz31_2); (try clear hcz41_0); (try clear hcz41_1); (try clear hcz41_2); (try clear hcz43_0); (try clear hcz43_1); (try clear hcz43_2); (try clear hcz43_3); (try clear hcz43_4); (try clear hcz43_5); (try clear hcz49_0); (try clear hcz49_1); (try clear hcz49_2); (try clear hcz51_0); (try clear hcz51_1); (try clear hcz51_2); (try clear hcz51_3); (try clear hcz51_4); (try clear hcz51_5); (try clear hcz58_0); (try clear hcz58_1); (try clear hcz58_2); (try clear hcz58_3); (try clear hcz58_4); (try clear hcz58_5); (try clear hfz15_0); (try clear hfz15_1); (try clear hfz15_2); (try clear hfz18_0); (try clear hfz18_1); (try clear hfz18_2); (try clear hfz18_3); (try clear hfz18_4); (try clear hfz18_5); (try clear hfz20_0); (try clear hfz20_1); (try clear hfz20_2); (try clear hfz20_3); (try clear hfz20_4); (try clear hfz20_5); (try clear hfz24_0); (try clear hfz24_1); (try clear hfz24_2); (try clear hfz27_0); (try clear hfz27_1); (try clear hfz27_2); (try clear hfz27_3); (try clear hfz27_4); (try clear hfz27_5); (try clear hfz31_0); (try clear hfz31_1); (try clear hfz31_2); (try clear hfz41_0); (try clear hfz41_1); (try clear hfz41_2); (try clear hfz43_0); (try clear hfz43_1); (try clear hfz43_2); (try clear hfz43_3); (try clear hfz43_4); (try clear hfz43_5); (try clear hfz49_0); (try clear hfz49_1); (try clear hfz49_2); (try clear hfz51_0); (try clear hfz51_1); (try clear hfz51_2); (try clear hfz51_3); (try clear hfz51_4); (try clear hfz51_5); (try clear hfz58_0); (try clear hfz58_1); (try clear hfz58_2); (try clear hfz58_3); (try clear hfz58_4); (try clear hfz58_5); (try clear p2)
          obtain ⟨kq, x50_37, rfl, HA, HJ37, HO_596002, BK583, BK584, BK585, BK595, BK603, HB⟩ := hcut
          cases kq with
          | zero => exact absurd HA.out (by simp [hopperlaw05_QueuePuts.j1])
          | succ kj37 =>
            have H := HA.out
            clear HA
            simp only [hopperlaw05_QueuePuts.j1] at H
            by_cases c68 : x50_37 = true
            · subst c68
              have H1 : (none) = some r := by rw [if_pos rfl] at H; exact H
              clear H
              have H := H1
              clear H1
              exact absurd H (by simp)
            replace c68 := Bool.eq_false_iff.mpr c68
            subst c68
            have H1 : ((queue_Drop.f t590 t591 t592 a1_1).bind fun bt610 => ((queue_Find.f bt610.1 bt610.2.1 bt610.2.2 a1_1).bind fun bt615 => (if bt615.2.2.2.2.2.2 = true then (hopperlaw05_QueuePuts.j2 kj37 bt615.2.2.2.2.2.2 true a0_0 a0_1 l0_2 a1_0 a1_1 a1_2 a1_3 a1_4 a1_5 a2_0 a2_1 a2_2 a2_3 a2_4 a2_5) else ((queue_Check.f kj37 a0_0 a0_1 l0_2 16).bind fun t623 => (if t623 = true then ((hopperref04_Check.f a1_0 a1_1 a1_2 a1_3 a1_4 a1_5).bind fun t624 => (if t624 = true then ((hopperref04_Check.f a2_0 a2_1 a2_2 a2_3 a2_4 a2_5).bind fun t625 => (hopperlaw05_QueuePuts.j2 kj37 bt615.2.2.2.2.2.2 (!t625) a0_0 a0_1 l0_2 a1_0 a1_1 a1_2 a1_3 a1_4 a1_5 a2_0 a2_1 a2_2 a2_3 a2_4 a2_5)) else (hopperlaw05_QueuePuts.j2 kj37 bt615.2.2.2.2.2.2 true a0_0 a0_1 l0_2 a1_0 a1_1 a1_2 a1_3 a1_4 a1_5 a2_0 a2_1 a2_2 a2_3 a2_4 a2_5))) else (hopperlaw05_QueuePuts.j2 kj37 bt615.2.2.2.2.2.2 true a0_0 a0_1 l0_2 a1_0 a1_1 a1_2 a1_3 a1_4 a1_5 a2_0 a2_1 a2_2 a2_3 a2_4 a2_5)))))) = some r := by rw [if_neg (show ¬ (false = true) by decide)] at H; exact H
            clear H
            have H := H1
            clear H1
            replace H := Option.bind_eq_some_iff.mp H
            obtain ⟨⟨t610, t611, t612⟩, A690, H⟩ := H
            try dsimp only at H
            have A69 := A_ A690
            clear A690
            replace H := Option.bind_eq_some_iff.mp H
            obtain ⟨⟨t615, t616, t617, t618, t619, t620, t621⟩, A700, H⟩ := H
            try dsimp only at H
            have A70 := A_ A700
            clear A700
            have HC71 := A_ H
            clear H
            try go_wp2
            have n0_ := A_ (rd_ HO_596002.out); have n1_ := A_ (bd_ BK583.out); have n2_ := A_ (bd_ BK584.out); have n3_ := A_ (bd_ BK585.out); have n4_ := A_ (bd_ BK595.out); have n5_ := A_ (bd_ BK603.out); have n6_ := A_ (wd_ HB.out); clear HO_596002; clear BK583; clear BK584; clear BK585; clear BK595; clear BK603; clear HB; have HO_596002 := n0_; have BK583 := n1_; have BK584 := n2_; have BK585 := n3_; have BK595 := n4_; have BK603 := n5_; have HB := n6_; clear n0_ n1_ n2_ n3_ n4_ n5_ n6_
            refine start_ (n := 13) (S := fun w' => w'.cell? ⟨gb595, 0, none⟩ = some (.int .i64 t590) ∧ w'.cell? ⟨gb595, 1, none⟩ = some (.int .i64 t591) ∧ w'.cell? ⟨gb595, 2, none⟩ = some (.slice Ao50 t592.length co50) ∧ w'.cell? ⟨gb584, 0, none⟩ = some (.int .i64 a1_0) ∧ w'.cell? ⟨gb584, 1, none⟩ = some (.int .i64 a1_1) ∧ w'.cell? ⟨gb584, 2, none⟩ = some (.int .i64 a1_2) ∧ w'.cell? ⟨gb584, 3, none⟩ = some (.int .i64 a1_3) ∧ w'.cell? ⟨gb584, 4, none⟩ = some (.int .i64 a1_4) ∧ w'.cell? ⟨gb584, 5, none⟩ = some (.string a1_5)) (ds := []) #[F,F,F,F,F,F,F,F,F,F,F,F,F] (by kernel_rfl) rfl rfl ⟨(blk_cell BK595.out 0).trans rfl, (blk_cell BK595.out 1).trans rfl, (blk_cell BK595.out 2).trans rfl, (blk_cell BK584.out 0).trans rfl, (blk_cell BK584.out 1).trans rfl, (blk_cell BK584.out 2).trans rfl, (blk_cell BK584.out 3).trans rfl, (blk_cell BK584.out 4).trans rfl, (blk_cell BK584.out 5).trans rfl⟩ (fun hHeld => ?_); refine with_tabW hopperlaw05_QueuePuts.tab7 hopperlaw05_QueuePuts.bits7 (fun HT_ HW_ => ?_)
            generalize wc.drew = w72 at HO_596002 BK583 BK584 BK585 BK595 BK603 HB hHeld ⊢
            refine pure_ (i := 1) (N := some 53) (v := ?_) (a' := ?_) #[F,T,F,F,F,F,F,F,F,F,F,F,F] rfl rfl (any_of HT_.out (by kernel_rfl)) (fun _ _ _ h => h) (Or.inl ⟨by rfl, ?_⟩) ?_ ?_
            rotate_left
            · intro w'
              go_simp
              with_reducible rfl
            rotate_left
            · simp only [Act.put, s0_, s1_, s2_, i64_w, i32_w]
              rfl
            refine pure_ (i := 4) (N := some 56) (v := ?_) (a' := ?_) #[F,T,F,F,T,F,F,F,F,F,F,F,F] rfl rfl (any_of HT_.out (by kernel_rfl)) (fun _ _ _ h => h) (Or.inl ⟨by rfl, ?_⟩) ?_ ?_
            rotate_left
            · intro w'
              go_simp
              with_reducible rfl
            rotate_left
            · simp only [Act.put, s0_, s1_, s2_, i64_w, i32_w]
              rfl
            refine take_ (i := 0) (N := some 52) (v := ?_) (a' := ?_) #[T,T,F,F,T,F,F,F,F,F,F,F,F] rfl rfl (take_ofW HT_.out HW_.out (by kernel_rfl)) (fun _ _ _ h => h) (Or.inl ⟨by rfl, ?_⟩) hHeld ?_ ?_
            rotate_left
            · rintro w' ⟨s0, s1, s2, s3, s4, s5, s6, s7, s8⟩
              go_simp
              with_reducible rfl
            rotate_left
            · simp only [Act.put, s0_, s1_, s2_, i64_w, i32_w]
              rfl
            refine take_ (i := 2) (N := some 54) (v := ?_) (a' := ?_) #[T,T,T,F,T,F,F,F,F,F,F,F,F] rfl rfl (take_ofW HT_.out HW_.out (by kernel_rfl)) (fun _ _ _ h => h) (Or.inl ⟨by rfl, ?_⟩) hHeld ?_ ?_
            rotate_left
            · rintro w' ⟨s0, s1, s2, s3, s4, s5, s6, s7, s8⟩
              go_simp
              with_reducible rfl
            rotate_left
            · simp only [Act.put, s0_, s1_, s2_, i64_w, i32_w]
              rfl
            refine take_ (i := 5) (N := some 57) (v := ?_) (a' := ?_) #[T,T,T,F,T,T,F,F,F,F,F,F,F] rfl rfl (take_ofW HT_.out HW_.out (by kernel_rfl)) (fun _ _ _ h => h) (Or.inl ⟨by rfl, ?_⟩) hHeld ?_ ?_
            rotate_left
            · rintro w' ⟨s0, s1, s2, s3, s4, s5, s6, s7, s8⟩
              go_simp
              with_reducible rfl
            rotate_left
            · simp only [Act.put, s0_, s1_, s2_, i64_w, i32_w]
              rfl
            refine join_ (σ := Value × Nat) 2 #[T,T,T,T,T,T,T,T,T,T,T,F,F] (fun s_ => [(55, .agg #[.int .i64 t610, .int .i64 t611, s_.1]), (58, .tuple #[.agg #[.int .i64 t615, .int .i64 t616, .int .i64 t617, .int .i64 t618, .int .i64 t619, .string t620], .bool t621]), (10, .pointer (some ⟨s_.2, 0, none⟩)), (51, .tuple #[.agg #[.int .i64 t615, .int .i64 t616, .int .i64 t617, .int .i64 t618, .int .i64 t619, .string t620], .bool t621]), (59, .agg #[.int .i64 t615, .int .i64 t616, .int .i64 t617, .int .i64 t618, .int .i64 t619, .string t620]), (60, .bool t621)]) (fun s_ w' => (w'.cell? ⟨gb595, 0, none⟩ = some (.int .i64 t590) ∧ w'.cell? ⟨gb595, 1, none⟩ = some (.int .i64 t591) ∧ w'.cell? ⟨gb595, 2, none⟩ = some (.slice Ao50 t592.length co50) ∧ w'.cell? ⟨gb584, 0, none⟩ = some (.int .i64 a1_0) ∧ w'.cell? ⟨gb584, 1, none⟩ = some (.int .i64 a1_1) ∧ w'.cell? ⟨gb584, 2, none⟩ = some (.int .i64 a1_2) ∧ w'.cell? ⟨gb584, 3, none⟩ = some (.int .i64 a1_3) ∧ w'.cell? ⟨gb584, 4, none⟩ = some (.int .i64 a1_4) ∧ w'.cell? ⟨gb584, 5, none⟩ = some (.string a1_5)) ∧ (Kd.R k24 24 w' w.heap.size (fun k_ => some k_ ≠ (.slice Ao50 t592.length co50 : Value).ownBlock ∧ k_ ≠ gb584 ∧ k_ ≠ gb585 ∧ k_ ≠ gb603 ∧ k_ ≠ s_.2) s_.1 t612) ∧ (Kd.R k24 24 w' w.heap.size (fun k_ => some k_ ≠ (s_.1 : Value).ownBlock ∧ k_ ≠ gb584 ∧ k_ ≠ gb585 ∧ k_ ≠ gb603 ∧ k_ ≠ s_.2) (.slice Ao50 t592.length co50) t592) ∧ (w'.heap[gb583]? = some (.cells #[.int .i64 a0_0, .int .i64 a0_1, .slice A0_2 l0_2.length c0_2] 46 (0, 0))) ∧ (w'.heap[gb584]? = some (.cells #[.int .i64 a1_0, .int .i64 a1_1, .int .i64 a1_2, .int .i64 a1_3, .int .i64 a1_4, .string a1_5] 24 (0, 0))) ∧ (w'.heap[gb585]? = some (.cells #[.int .i64 a2_0, .int .i64 a2_1, .int .i64 a2_2, .int .i64 a2_3, .int .i64 a2_4, .string a2_5] 24 (0, 0))) ∧ (w'.heap[gb595]? = some (.cells #[.int .i64 t590, .int .i64 t591, .slice Ao50 t592.length co50] 46 (0, 0))) ∧ (w'.heap[gb603]? = some (.cells #[.int .i64 t596, .int .i64 t597, .int .i64 t598, .int .i64 t599, .int .i64 t600, .string t601] 24 (0, 0))) ∧ (w'.heap[s_.2]? = some (.cells #[.int .i64 0, .int .i64 0, .int .i64 0, .int .i64 0, .int .i64 0, .string (⟨#[]⟩ : ByteArray)] 24 (0, 0))) ∧ (w.heap.size ≤ s_.2) ∧ (w.heap.size ≤ s_.2) ∧ (gb583 ≠ s_.2) ∧ (s_.2 ≠ gb583) ∧ (gb584 ≠ s_.2) ∧ (s_.2 ≠ gb584) ∧ (gb585 ≠ s_.2) ∧ (s_.2 ≠ gb585) ∧ (gb595 ≠ s_.2) ∧ (s_.2 ≠ gb595) ∧ (gb603 ≠ s_.2) ∧ (s_.2 ≠ gb603) ∧ (Below w.heap.size w w')) ?_ ?_
            rotate_left
            · intro hCont
              refine two_ (i := 3) (j := 10) (Ni := some 55) (Nj := some 10) #[T,T,T,T,T,T,F,F,F,F,F,F,F] #[T,T,T,F,T,T,F,F,F,F,T,F,F] rfl rfl rfl rfl (two_of HT_.out (by kernel_rfl)) (by decide) (by decide) (fun K hK => ?_) (fun K hK => ?_)
              · skip
                refine goes_ Try.func65 (by kernel_rfl) rfl #[.agg #[.int .i64 t590, .int .i64 t591, .slice Ao50 t592.length co50], .int .i64 a1_1] (by rfl) rfl rfl (by (try simp only [m0_, m1_, m2_]); first | done | rfl) ?_
                with_reducible refine (queue_Drop.calls t590 t591 _ _ t592 a1_1 t610 t611 t612 _ ?side1 ?side2 A69.out).mono ?_
                (case side1 => repeat (first | exact (Kd.R_reads' HO_596002.out).2.2 | (with_reducible refine ca_ ?_ _) | (with_reducible refine cn_ ?_ _) | (with_reducible refine cd_ ?_)))
                (case side2 => exact (Kd.R_reads' HO_596002.out).2.1)
                rintro e w73 ⟨v613, rfl, ho0, hb⟩
                refine ⟨_, rfl, ?_⟩
                have n0_ := A_ (Kd.R_elder' (by (with_reducible repeat (first | apply ra_ | apply rn_ | apply rd_)); exact HO_596002.out) (Kd.R_base ho0) hb); have n1_ := A_ (Kd.R_lower (Kd.R_newB (Kd.R_newB (Kd.R_newB (Kd.R_new' ho0 (Kd.R_lt (by (with_reducible repeat (first | apply ra_ | apply rn_ | apply rd_)); exact HO_596002.out))) (g := gb584) (o := .cells #[.int .i64 a1_0, .int .i64 a1_1, .int .i64 a1_2, .int .i64 a1_3, .int .i64 a1_4, .string a1_5] 24 (0, 0)) (by (with_reducible repeat (first | refine bn_ ?_ _ | refine bd_ ?_ | refine ba_ ?_ _)); exact BK584.out)) (g := gb585) (o := .cells #[.int .i64 a2_0, .int .i64 a2_1, .int .i64 a2_2, .int .i64 a2_3, .int .i64 a2_4, .string a2_5] 24 (0, 0)) (by (with_reducible repeat (first | refine bn_ ?_ _ | refine bd_ ?_ | refine ba_ ?_ _)); exact BK585.out)) (g := gb603) (o := .cells #[.int .i64 t596, .int .i64 t597, .int .i64 t598, .int .i64 t599, .int .i64 t600, .string t601] 24 (0, 0)) (by (with_reducible repeat (first | refine bn_ ?_ _ | refine bd_ ?_ | refine ba_ ?_ _)); exact BK603.out)) (below_size (by repeat (first | (with_reducible first | exact HB.out | apply wa_ | apply wn_ | apply wd_ | refine ws_ ?_ GE583.out | refine ws_ ?_ GE584.out | refine ws_ ?_ GE585.out | refine ws_ ?_ GE595.out | refine ws_ ?_ GE603.out) | exact HB.out)))); have n2_ := A_ (blk_below (g := gb583) (o := .cells #[.int .i64 a0_0, .int .i64 a0_1, .slice A0_2 l0_2.length c0_2] 46 (0, 0)) (by (with_reducible repeat (first | refine bn_ ?_ _ | refine bd_ ?_ | refine ba_ ?_ _)); exact BK583.out) hb); have n3_ := A_ (blk_below (g := gb584) (o := .cells #[.int .i64 a1_0, .int .i64 a1_1, .int .i64 a1_2, .int .i64 a1_3, .int .i64 a1_4, .string a1_5] 24 (0, 0)) (by (with_reducible repeat (first | refine bn_ ?_ _ | refine bd_ ?_ | refine ba_ ?_ _)); exact BK584.out) hb); have n4_ := A_ (blk_below (g := gb585) (o := .cells #[.int .i64 a2_0, .int .i64 a2_1, .int .i64 a2_2, .int .i64 a2_3, .int .i64 a2_4, .string a2_5] 24 (0, 0)) (by (with_reducible repeat (first | refine bn_ ?_ _ | refine bd_ ?_ | refine ba_ ?_ _)); exact BK585.out) hb); have n5_ := A_ (blk_below (g := gb595) (o := .cells #[.int .i64 t590, .int .i64 t591, .slice Ao50 t592.length co50] 46 (0, 0)) (by (with_reducible repeat (first | refine bn_ ?_ _ | refine bd_ ?_ | refine ba_ ?_ _)); exact BK595.out) hb); have n6_ := A_ (blk_below (g := gb603) (o := .cells #[.int .i64 t596, .int .i64 t597, .int .i64 t598, .int .i64 t599, .int .i64 t600, .string t601] 24 (0, 0)) (by (with_reducible repeat (first | refine bn_ ?_ _ | refine bd_ ?_ | refine ba_ ?_ _)); exact BK603.out) hb); have n7_ := A_ (below_step (by repeat (first | (with_reducible first | exact HB.out | apply wa_ | apply wn_ | apply wd_ | refine ws_ ?_ GE583.out | refine ws_ ?_ GE584.out | refine ws_ ?_ GE585.out | refine ws_ ?_ GE595.out | refine ws_ ?_ GE603.out) | exact HB.out)) hb); clear HO_596002; clear BK583; clear BK584; clear BK585; clear BK595; clear BK603; clear HB; have HO_596002 := n0_; have HO614 := n1_; have BK583 := n2_; have BK584 := n3_; have BK585 := n4_; have BK595 := n5_; have BK603 := n6_; have HB := n7_; clear n0_ n1_ n2_ n3_ n4_ n5_ n6_ n7_
                (try clear hb)
                (try clear hb2)
                (try clear hk)
                (try clear hi)
                (try clear ho0)
                obtain ⟨Ao74, co74, eo74⟩ := Kd.R_slice HO614.out
                (first | subst eo74 | (injection eo74 with f1_ f2_ f3_; have f4_ := f1_.symm; have f5_ := f3_.symm; clear f1_ f2_ f3_; subst f4_; subst f5_))
                refine hK.out _ _ ⟨(blk_cell BK595.out 0).trans rfl, (blk_cell BK595.out 1).trans rfl, (blk_cell BK595.out 2).trans rfl, (blk_cell BK584.out 0).trans rfl, (blk_cell BK584.out 1).trans rfl, (blk_cell BK584.out 2).trans rfl, (blk_cell BK584.out 3).trans rfl, (blk_cell BK584.out 4).trans rfl, (blk_cell BK584.out 5).trans rfl⟩ (fun hHeld => ?_)
                clear hK K
                refine norm_ (a' := ?_) ?_ ?_
                rotate_left
                · show Act.put _ (some 55) _ = _
                  simp only [Act.put, s0_, s1_, s2_, i64_w, i32_w]
                  rfl
                refine two_ (i := 6) (j := 10) (Ni := some 58) (Nj := some 10) #[T,T,T,T,T,T,T,F,F,F,F,F,F] #[T,T,T,T,T,T,F,F,F,F,T,F,F] rfl rfl rfl rfl (two_of HT_.out (by kernel_rfl)) (by decide) (by decide) (fun K hK => ?_) (fun K hK => ?_)
                · skip
                  refine goes_ Try.func52 (by kernel_rfl) rfl #[.agg #[.int .i64 t610, .int .i64 t611, .slice Ao74 t612.length co74], .int .i64 a1_1] (by rfl) rfl rfl (by (try simp only [m0_, m1_, m2_]); first | done | rfl) ?_
                  with_reducible refine (queue_Find.calls t610 t611 _ _ t612 a1_1 t615 t616 t617 t618 t619 t620 t621 _ ?side1 ?side2 A70.out).mono ?_
                  (case side1 => repeat (first | exact (Kd.R_reads' HO614.out).2.2 | (with_reducible refine ca_ ?_ _) | (with_reducible refine cn_ ?_ _) | (with_reducible refine cd_ ?_)))
                  (case side2 => exact (Kd.R_reads' HO614.out).2.1)
                  rintro e w75 ⟨rfl, hb⟩
                  refine ⟨_, rfl, ?_⟩
                  have n0_ := A_ (Kd.R_below (by (with_reducible repeat (first | apply ra_ | apply rn_ | apply rd_)); exact HO_596002.out) hb); have n1_ := A_ (Kd.R_below (by (with_reducible repeat (first | apply ra_ | apply rn_ | apply rd_)); exact HO614.out) hb); have n2_ := A_ (blk_below (g := gb583) (o := .cells #[.int .i64 a0_0, .int .i64 a0_1, .slice A0_2 l0_2.length c0_2] 46 (0, 0)) (by (with_reducible repeat (first | refine bn_ ?_ _ | refine bd_ ?_ | refine ba_ ?_ _)); exact BK583.out) hb); have n3_ := A_ (blk_below (g := gb584) (o := .cells #[.int .i64 a1_0, .int .i64 a1_1, .int .i64 a1_2, .int .i64 a1_3, .int .i64 a1_4, .string a1_5] 24 (0, 0)) (by (with_reducible repeat (first | refine bn_ ?_ _ | refine bd_ ?_ | refine ba_ ?_ _)); exact BK584.out) hb); have n4_ := A_ (blk_below (g := gb585) (o := .cells #[.int .i64 a2_0, .int .i64 a2_1, .int .i64 a2_2, .int .i64 a2_3, .int .i64 a2_4, .string a2_5] 24 (0, 0)) (by (with_reducible repeat (first | refine bn_ ?_ _ | refine bd_ ?_ | refine ba_ ?_ _)); exact BK585.out) hb); have n5_ := A_ (blk_below (g := gb595) (o := .cells #[.int .i64 t590, .int .i64 t591, .slice Ao50 t592.length co50] 46 (0, 0)) (by (with_reducible repeat (first | refine bn_ ?_ _ | refine bd_ ?_ | refine ba_ ?_ _)); exact BK595.out) hb); have n6_ := A_ (blk_below (g := gb603) (o := .cells #[.int .i64 t596, .int .i64 t597, .int .i64 t598, .int .i64 t599, .int .i64 t600, .string t601] 24 (0, 0)) (by (with_reducible repeat (first | refine bn_ ?_ _ | refine bd_ ?_ | refine ba_ ?_ _)); exact BK603.out) hb); have n7_ := A_ (below_step (by repeat (first | (with_reducible first | exact HB.out | apply wa_ | apply wn_ | apply wd_ | refine ws_ ?_ GE583.out | refine ws_ ?_ GE584.out | refine ws_ ?_ GE585.out | refine ws_ ?_ GE595.out | refine ws_ ?_ GE603.out) | exact HB.out)) hb); clear HO_596002; clear HO614; clear BK583; clear BK584; clear BK585; clear BK595; clear BK603; clear HB; have HO_596002 := n0_; have HO614 := n1_; have BK583 := n2_; have BK584 := n3_; have BK585 := n4_; have BK595 := n5_; have BK603 := n6_; have HB := n7_; clear n0_ n1_ n2_ n3_ n4_ n5_ n6_ n7_
                  (try clear hb)
                  (try clear hb2)
                  (try clear hk)
                  (try clear hi)
                  refine hK.out _ _ ⟨(blk_cell BK595.out 0).trans rfl, (blk_cell BK595.out 1).trans rfl, (blk_cell BK595.out 2).trans rfl, (blk_cell BK584.out 0).trans rfl, (blk_cell BK584.out 1).trans rfl, (blk_cell BK584.out 2).trans rfl, (blk_cell BK584.out 3).trans rfl, (blk_cell BK584.out 4).trans rfl, (blk_cell BK584.out 5).trans rfl⟩ (fun hHeld => ?_)
                  clear hK K
                  refine norm_ (a' := ?_) ?_ ?_
                  rotate_left
                  · show Act.put _ (some 58) _ = _
                    simp only [Act.put, s0_, s1_, s2_, i64_w, i32_w]
                    rfl
                  refine pure_ (i := 7) (N := some 51) (v := ?_) (a' := ?_) #[T,T,T,T,T,T,T,T,F,F,F,F,F] rfl rfl (any_of HT_.out (by kernel_rfl)) (fun _ _ _ h => h) (Or.inl ⟨by rfl, ?_⟩) ?_ ?_
                  rotate_left
                  · intro w'
                    go_simp
                    with_reducible rfl
                  rotate_left
                  · simp only [Act.put, s0_, s1_, s2_, i64_w, i32_w]
                    rfl
                  refine pure_ (i := 8) (N := some 59) (v := ?_) (a' := ?_) #[T,T,T,T,T,T,T,T,T,F,F,F,F] rfl rfl (any_of HT_.out (by kernel_rfl)) (fun _ _ _ h => h) (Or.inl ⟨by rfl, ?_⟩) ?_ ?_
                  rotate_left
                  · intro w'
                    go_simp
                    with_reducible rfl
                  rotate_left
                  · simp only [Act.put, s0_, s1_, s2_, i64_w, i32_w]
                    rfl
                  refine pure_ (i := 9) (N := some 60) (v := ?_) (a' := ?_) #[T,T,T,T,T,T,T,T,T,T,F,F,F] rfl rfl (any_of HT_.out (by kernel_rfl)) (fun _ _ _ h => h) (Or.inl ⟨by rfl, ?_⟩) ?_ ?_
                  rotate_left
                  · intro w'
                    go_simp
                    with_reducible rfl
                  rotate_left
                  · simp only [Act.put, s0_, s1_, s2_, i64_w, i32_w]
                    rfl
                  refine one_ (i := 10) (N := some 10) #[T,T,T,T,T,T,T,T,T,T,T,F,F] rfl rfl (one_of HT_.out (by kernel_rfl)) (by decide) (fun K hK => ?_)
                  refine box_step ?hg (N := 10) ?hd (cs := #[.int .i64 0, .int .i64 0, .int .i64 0, .int .i64 0, .int .i64 0, .string (⟨#[]⟩ : ByteArray)]) (t := 24) ?hr ?_; (case hd => rfl); (case hg => rfl); (case hr => first | (go_simp; done) | (go_simp; rfl))
                  intro gb622 hg w76 hbox hb
                  have n0_ := A_ (Kd.R_below (Kd.R_elderB (by (with_reducible repeat (first | apply ra_ | apply rn_ | apply rd_)); exact HO_596002.out) gb622 (Nat.le_of_eq hg.symm)) hb); have n1_ := A_ (Kd.R_below (Kd.R_elderB (by (with_reducible repeat (first | apply ra_ | apply rn_ | apply rd_)); exact HO614.out) gb622 (Nat.le_of_eq hg.symm)) hb); have n2_ := A_ (blk_below (g := gb583) (o := .cells #[.int .i64 a0_0, .int .i64 a0_1, .slice A0_2 l0_2.length c0_2] 46 (0, 0)) (by (with_reducible repeat (first | refine bn_ ?_ _ | refine bd_ ?_ | refine ba_ ?_ _)); exact BK583.out) hb); have n3_ := A_ (blk_below (g := gb584) (o := .cells #[.int .i64 a1_0, .int .i64 a1_1, .int .i64 a1_2, .int .i64 a1_3, .int .i64 a1_4, .string a1_5] 24 (0, 0)) (by (with_reducible repeat (first | refine bn_ ?_ _ | refine bd_ ?_ | refine ba_ ?_ _)); exact BK584.out) hb); have n4_ := A_ (blk_below (g := gb585) (o := .cells #[.int .i64 a2_0, .int .i64 a2_1, .int .i64 a2_2, .int .i64 a2_3, .int .i64 a2_4, .string a2_5] 24 (0, 0)) (by (with_reducible repeat (first | refine bn_ ?_ _ | refine bd_ ?_ | refine ba_ ?_ _)); exact BK585.out) hb); have n5_ := A_ (blk_below (g := gb595) (o := .cells #[.int .i64 t590, .int .i64 t591, .slice Ao50 t592.length co50] 46 (0, 0)) (by (with_reducible repeat (first | refine bn_ ?_ _ | refine bd_ ?_ | refine ba_ ?_ _)); exact BK595.out) hb); have n6_ := A_ (blk_below (g := gb603) (o := .cells #[.int .i64 t596, .int .i64 t597, .int .i64 t598, .int .i64 t599, .int .i64 t600, .string t601] 24 (0, 0)) (by (with_reducible repeat (first | refine bn_ ?_ _ | refine bd_ ?_ | refine ba_ ?_ _)); exact BK603.out) hb); have n7_ := A_ (below_step (by repeat (first | (with_reducible first | exact HB.out | apply wa_ | apply wn_ | apply wd_ | refine ws_ ?_ GE583.out | refine ws_ ?_ GE584.out | refine ws_ ?_ GE585.out | refine ws_ ?_ GE595.out | refine ws_ ?_ GE603.out) | exact HB.out)) hb); have n8_ := A_ (hbox); have n9_ := A_ ((by rw [hg]; exact (below_size (by repeat (first | (with_reducible first | exact HB.out | apply wa_ | apply wn_ | apply wd_ | refine ws_ ?_ GE583.out | refine ws_ ?_ GE584.out | refine ws_ ?_ GE585.out | refine ws_ ?_ GE595.out | refine ws_ ?_ GE603.out) | exact HB.out))) : w.heap.size ≤ gb622)); have n10_ := A_ ((by rw [hg]; exact (below_size (by repeat (first | (with_reducible first | exact HB.out | apply wa_ | apply wn_ | apply wd_ | refine ws_ ?_ GE583.out | refine ws_ ?_ GE584.out | refine ws_ ?_ GE585.out | refine ws_ ?_ GE595.out | refine ws_ ?_ GE603.out) | exact HB.out))) : w.heap.size ≤ gb622)); have n11_ := A_ ((by rw [hg]; exact Nat.ne_of_lt (blk_lt (g := gb583) (o := .cells #[.int .i64 a0_0, .int .i64 a0_1, .slice A0_2 l0_2.length c0_2] 46 (0, 0)) (by (with_reducible repeat (first | refine bn_ ?_ _ | refine bd_ ?_ | refine ba_ ?_ _)); exact BK583.out)) : gb583 ≠ gb622)); have n12_ := A_ ((by rw [hg]; exact Nat.ne_of_gt (blk_lt (g := gb583) (o := .cells #[.int .i64 a0_0, .int .i64 a0_1, .slice A0_2 l0_2.length c0_2] 46 (0, 0)) (by (with_reducible repeat (first | refine bn_ ?_ _ | refine bd_ ?_ | refine ba_ ?_ _)); exact BK583.out)) : gb622 ≠ gb583)); have n13_ := A_ ((by rw [hg]; exact Nat.ne_of_lt (blk_lt (g := gb584) (o := .cells #[.int .i64 a1_0, .int .i64 a1_1, .int .i64 a1_2, .int .i64 a1_3, .int .i64 a1_4, .string a1_5] 24 (0, 0)) (by (with_reducible repeat (first | refine bn_ ?_ _ | refine bd_ ?_ | refine ba_ ?_ _)); exact BK584.out)) : gb584 ≠ gb622)); have n14_ := A_ ((by rw [hg]; exact Nat.ne_of_gt (blk_lt (g := gb584) (o := .cells #[.int .i64 a1_0, .int .i64 a1_1, .int .i64 a1_2, .int .i64 a1_3, .int .i64 a1_4, .string a1_5] 24 (0, 0)) (by (with_reducible repeat (first | refine bn_ ?_ _ | refine bd_ ?_ | refine ba_ ?_ _)); exact BK584.out)) : gb622 ≠ gb584)); have n15_ := A_ ((by rw [hg]; exact Nat.ne_of_lt (blk_lt (g := gb585) (o := .cells #[.int .i64 a2_0, .int .i64 a2_1, .int .i64 a2_2, .int .i64 a2_3, .int .i64 a2_4, .string a2_5] 24 (0, 0)) (by (with_reducible repeat (first | refine bn_ ?_ _ | refine bd_ ?_ | refine ba_ ?_ _)); exact BK585.out)) : gb585 ≠ gb622)); have n16_ := A_ ((by rw [hg]; exact Nat.ne_of_gt (blk_lt (g := gb585) (o := .cells #[.int .i64 a2_0, .int .i64 a2_1, .int .i64 a2_2, .int .i64 a2_3, .int .i64 a2_4, .string a2_5] 24 (0, 0)) (by (with_reducible repeat (first | refine bn_ ?_ _ | refine bd_ ?_ | refine ba_ ?_ _)); exact BK585.out)) : gb622 ≠ gb585)); have n17_ := A_ ((by rw [hg]; exact Nat.ne_of_lt (blk_lt (g := gb595) (o := .cells #[.int .i64 t590, .int .i64 t591, .slice Ao50 t592.length co50] 46 (0, 0)) (by (with_reducible repeat (first | refine bn_ ?_ _ | refine bd_ ?_ | refine ba_ ?_ _)); exact BK595.out)) : gb595 ≠ gb622)); have n18_ := A_ ((by rw [hg]; exact Nat.ne_of_gt (blk_lt (g := gb595) (o := .cells #[.int .i64 t590, .int .i64 t591, .slice Ao50 t592.length co50] 46 (0, 0)) (by (with_reducible repeat (first | refine bn_ ?_ _ | refine bd_ ?_ | refine ba_ ?_ _)); exact BK595.out)) : gb622 ≠ gb595)); have n19_ := A_ ((by rw [hg]; exact Nat.ne_of_lt (blk_lt (g := gb603) (o := .cells #[.int .i64 t596, .int .i64 t597, .int .i64 t598, .int .i64 t599, .int .i64 t600, .string t601] 24 (0, 0)) (by (with_reducible repeat (first | refine bn_ ?_ _ | refine bd_ ?_ | refine ba_ ?_ _)); exact BK603.out)) : gb603 ≠ gb622)); have n20_ := A_ ((by rw [hg]; exact Nat.ne_of_gt (blk_lt (g := gb603) (o := .cells #[.int .i64 t596, .int .i64 t597, .int .i64 t598, .int .i64 t599, .int .i64 t600, .string t601] 24 (0, 0)) (by (with_reducible repeat (first | refine bn_ ?_ _ | refine bd_ ?_ | refine ba_ ?_ _)); exact BK603.out)) : gb622 ≠ gb603)); clear HO_596002; clear HO614; clear BK583; clear BK584; clear BK585; clear BK595; clear BK603; clear HB; have HO_596002 := n0_; have HO614 := n1_; have BK583 := n2_; have BK584 := n3_; have BK585 := n4_; have BK595 := n5_; have BK603 := n6_; have HB := n7_; have BK622 := n8_; have GW622 := n9_; have GE622 := n10_; have NB583_622 := n11_; have NB622_583 := n12_; have NB584_622 := n13_; have NB622_584 := n14_; have NB585_622 := n15_; have NB622_585 := n16_; have NB595_622 := n17_; have NB622_595 := n18_; have NB603_622 := n19_; have NB622_603 := n20_; clear n0_ n1_ n2_ n3_ n4_ n5_ n6_ n7_ n8_ n9_ n10_ n11_ n12_ n13_ n14_ n15_ n16_ n17_ n18_ n19_ n20_; clear hb hbox hg
                  refine hK.out _ _ ⟨(blk_cell BK595.out 0).trans rfl, (blk_cell BK595.out 1).trans rfl, (blk_cell BK595.out 2).trans rfl, (blk_cell BK584.out 0).trans rfl, (blk_cell BK584.out 1).trans rfl, (blk_cell BK584.out 2).trans rfl, (blk_cell BK584.out 3).trans rfl, (blk_cell BK584.out 4).trans rfl, (blk_cell BK584.out 5).trans rfl⟩ (fun hHeld => ?_)
                  clear hK K
                  refine norm_ (a' := ?_) ?_ ?_
                  rotate_left
                  · show Act.put _ (some 10) _ = _
                    simp only [Act.put, s0_, s1_, s2_, i64_w, i32_w]
                    rfl
                  exact norm_ (by simp only [putAll, Act.put, s0_, s1_, s2_]) (hCont (.slice Ao74 t612.length co74, gb622) _ ⟨hHeld, (by (with_reducible repeat (first | apply ra_ | apply rn_ | apply rd_)); exact Kd.R_mono HO614.out (fun _ hk => ⟨hk.1.1.1.1.2, ⟨hk.1.1.1.2, ⟨hk.1.1.2, ⟨hk.1.2, hk.2⟩⟩⟩⟩)), (by (with_reducible repeat (first | apply ra_ | apply rn_ | apply rd_)); exact Kd.R_mono HO_596002.out (fun _ hk => ⟨hk.1.2, ⟨hk.1.1.1, ⟨hk.1.1.2.1, ⟨hk.1.1.2.2, hk.2⟩⟩⟩⟩)), (by (with_reducible repeat (first | refine bn_ ?_ _ | refine bd_ ?_ | refine ba_ ?_ _)); exact BK583.out), (by (with_reducible repeat (first | refine bn_ ?_ _ | refine bd_ ?_ | refine ba_ ?_ _)); exact BK584.out), (by (with_reducible repeat (first | refine bn_ ?_ _ | refine bd_ ?_ | refine ba_ ?_ _)); exact BK585.out), (by (with_reducible repeat (first | refine bn_ ?_ _ | refine bd_ ?_ | refine ba_ ?_ _)); exact BK595.out), (by (with_reducible repeat (first | refine bn_ ?_ _ | refine bd_ ?_ | refine ba_ ?_ _)); exact BK603.out), (by (with_reducible repeat (first | refine bn_ ?_ _ | refine bd_ ?_ | refine ba_ ?_ _)); exact BK622.out), GW622.out, GE622.out, NB583_622.out, NB622_583.out, NB584_622.out, NB622_584.out, NB585_622.out, NB622_585.out, NB595_622.out, NB622_595.out, NB603_622.out, NB622_603.out, (by repeat (first | (with_reducible first | exact HB.out | apply wa_ | apply wn_ | apply wd_ | refine ws_ ?_ GE583.out | refine ws_ ?_ GE584.out | refine ws_ ?_ GE585.out | refine ws_ ?_ GE595.out | refine ws_ ?_ GE603.out | refine ws_ ?_ GE622.out) | exact HB.out))⟩)
                · skip
                  refine box_step ?hg (N := 10) ?hd (cs := #[.int .i64 0, .int .i64 0, .int .i64 0, .int .i64 0, .int .i64 0, .string (⟨#[]⟩ : ByteArray)]) (t := 24) ?hr ?_; (case hd => rfl); (case hg => rfl); (case hr => first | (go_simp; done) | (go_simp; rfl))
                  intro gb622 hg w74 hbox hb
                  have n0_ := A_ (Kd.R_below (Kd.R_elderB (by (with_reducible repeat (first | apply ra_ | apply rn_ | apply rd_)); exact HO_596002.out) gb622 (Nat.le_of_eq hg.symm)) hb); have n1_ := A_ (Kd.R_below (Kd.R_elderB (by (with_reducible repeat (first | apply ra_ | apply rn_ | apply rd_)); exact HO614.out) gb622 (Nat.le_of_eq hg.symm)) hb); have n2_ := A_ (blk_below (g := gb583) (o := .cells #[.int .i64 a0_0, .int .i64 a0_1, .slice A0_2 l0_2.length c0_2] 46 (0, 0)) (by (with_reducible repeat (first | refine bn_ ?_ _ | refine bd_ ?_ | refine ba_ ?_ _)); exact BK583.out) hb); have n3_ := A_ (blk_below (g := gb584) (o := .cells #[.int .i64 a1_0, .int .i64 a1_1, .int .i64 a1_2, .int .i64 a1_3, .int .i64 a1_4, .string a1_5] 24 (0, 0)) (by (with_reducible repeat (first | refine bn_ ?_ _ | refine bd_ ?_ | refine ba_ ?_ _)); exact BK584.out) hb); have n4_ := A_ (blk_below (g := gb585) (o := .cells #[.int .i64 a2_0, .int .i64 a2_1, .int .i64 a2_2, .int .i64 a2_3, .int .i64 a2_4, .string a2_5] 24 (0, 0)) (by (with_reducible repeat (first | refine bn_ ?_ _ | refine bd_ ?_ | refine ba_ ?_ _)); exact BK585.out) hb); have n5_ := A_ (blk_below (g := gb595) (o := .cells #[.int .i64 t590, .int .i64 t591, .slice Ao50 t592.length co50] 46 (0, 0)) (by (with_reducible repeat (first | refine bn_ ?_ _ | refine bd_ ?_ | refine ba_ ?_ _)); exact BK595.out) hb); have n6_ := A_ (blk_below (g := gb603) (o := .cells #[.int .i64 t596, .int .i64 t597, .int .i64 t598, .int .i64 t599, .int .i64 t600, .string t601] 24 (0, 0)) (by (with_reducible repeat (first | refine bn_ ?_ _ | refine bd_ ?_ | refine ba_ ?_ _)); exact BK603.out) hb); have n7_ := A_ (below_step (by repeat (first | (with_reducible first | exact HB.out | apply wa_ | apply wn_ | apply wd_ | refine ws_ ?_ GE583.out | refine ws_ ?_ GE584.out | refine ws_ ?_ GE585.out | refine ws_ ?_ GE595.out | refine ws_ ?_ GE603.out) | exact HB.out)) hb); have n8_ := A_ (hbox); have n9_ := A_ ((by rw [hg]; exact (below_size (by repeat (first | (with_reducible first | exact HB.out | apply wa_ | apply wn_ | apply wd_ | refine ws_ ?_ GE583.out | refine ws_ ?_ GE584.out | refine ws_ ?_ GE585.out | refine ws_ ?_ GE595.out | refine ws_ ?_ GE603.out) | exact HB.out))) : w.heap.size ≤ gb622)); have n10_ := A_ ((by rw [hg]; exact (below_size (by repeat (first | (with_reducible first | exact HB.out | apply wa_ | apply wn_ | apply wd_ | refine ws_ ?_ GE583.out | refine ws_ ?_ GE584.out | refine ws_ ?_ GE585.out | refine ws_ ?_ GE595.out | refine ws_ ?_ GE603.out) | exact HB.out))) : w.heap.size ≤ gb622)); have n11_ := A_ ((by rw [hg]; exact Nat.ne_of_lt (blk_lt (g := gb583) (o := .cells #[.int .i64 a0_0, .int .i64 a0_1, .slice A0_2 l0_2.length c0_2] 46 (0, 0)) (by (with_reducible repeat (first | refine bn_ ?_ _ | refine bd_ ?_ | refine ba_ ?_ _)); exact BK583.out)) : gb583 ≠ gb622)); have n12_ := A_ ((by rw [hg]; exact Nat.ne_of_gt (blk_lt (g := gb583) (o := .cells #[.int .i64 a0_0, .int .i64 a0_1, .slice A0_2 l0_2.length c0_2] 46 (0, 0)) (by (with_reducible repeat (first | refine bn_ ?_ _ | refine bd_ ?_ | refine ba_ ?_ _)); exact BK583.out)) : gb622 ≠ gb583)); have n13_ := A_ ((by rw [hg]; exact Nat.ne_of_lt (blk_lt (g := gb584) (o := .cells #[.int .i64 a1_0, .int .i64 a1_1, .int .i64 a1_2, .int .i64 a1_3, .int .i64 a1_4, .string a1_5] 24 (0, 0)) (by (with_reducible repeat (first | refine bn_ ?_ _ | refine bd_ ?_ | refine ba_ ?_ _)); exact BK584.out)) : gb584 ≠ gb622)); have n14_ := A_ ((by rw [hg]; exact Nat.ne_of_gt (blk_lt (g := gb584) (o := .cells #[.int .i64 a1_0, .int .i64 a1_1, .int .i64 a1_2, .int .i64 a1_3, .int .i64 a1_4, .string a1_5] 24 (0, 0)) (by (with_reducible repeat (first | refine bn_ ?_ _ | refine bd_ ?_ | refine ba_ ?_ _)); exact BK584.out)) : gb622 ≠ gb584)); have n15_ := A_ ((by rw [hg]; exact Nat.ne_of_lt (blk_lt (g := gb585) (o := .cells #[.int .i64 a2_0, .int .i64 a2_1, .int .i64 a2_2, .int .i64 a2_3, .int .i64 a2_4, .string a2_5] 24 (0, 0)) (by (with_reducible repeat (first | refine bn_ ?_ _ | refine bd_ ?_ | refine ba_ ?_ _)); exact BK585.out)) : gb585 ≠ gb622)); have n16_ := A_ ((by rw [hg]; exact Nat.ne_of_gt (blk_lt (g := gb585) (o := .cells #[.int .i64 a2_0, .int .i64 a2_1, .int .i64 a2_2, .int .i64 a2_3, .int .i64 a2_4, .string a2_5] 24 (0, 0)) (by (with_reducible repeat (first | refine bn_ ?_ _ | refine bd_ ?_ | refine ba_ ?_ _)); exact BK585.out)) : gb622 ≠ gb585)); have n17_ := A_ ((by rw [hg]; exact Nat.ne_of_lt (blk_lt (g := gb595) (o := .cells #[.int .i64 t590, .int .i64 t591, .slice Ao50 t592.length co50] 46 (0, 0)) (by (with_reducible repeat (first | refine bn_ ?_ _ | refine bd_ ?_ | refine ba_ ?_ _)); exact BK595.out)) : gb595 ≠ gb622)); have n18_ := A_ ((by rw [hg]; exact Nat.ne_of_gt (blk_lt (g := gb595) (o := .cells #[.int .i64 t590, .int .i64 t591, .slice Ao50 t592.length co50] 46 (0, 0)) (by (with_reducible repeat (first | refine bn_ ?_ _ | refine bd_ ?_ | refine ba_ ?_ _)); exact BK595.out)) : gb622 ≠ gb595)); have n19_ := A_ ((by rw [hg]; exact Nat.ne_of_lt (blk_lt (g := gb603) (o := .cells #[.int .i64 t596, .int .i64 t597, .int .i64 t598, .int .i64 t599, .int .i64 t600, .string t601] 24 (0, 0)) (by (with_reducible repeat (first | refine bn_ ?_ _ | refine bd_ ?_ | refine ba_ ?_ _)); exact BK603.out)) : gb603 ≠ gb622)); have n20_ := A_ ((by rw [hg]; exact Nat.ne_of_gt (blk_lt (g := gb603) (o := .cells #[.int .i64 t596, .int .i64 t597, .int .i64 t598, .int .i64 t599, .int .i64 t600, .string t601] 24 (0, 0)) (by (with_reducible repeat (first | refine bn_ ?_ _ | refine bd_ ?_ | refine ba_ ?_ _)); exact BK603.out)) : gb622 ≠ gb603)); clear HO_596002; clear HO614; clear BK583; clear BK584; clear BK585; clear BK595; clear BK603; clear HB; have HO_596002 := n0_; have HO614 := n1_; have BK583 := n2_; have BK584 := n3_; have BK585 := n4_; have BK595 := n5_; have BK603 := n6_; have HB := n7_; have BK622 := n8_; have GW622 := n9_; have GE622 := n10_; have NB583_622 := n11_; have NB622_583 := n12_; have NB584_622 := n13_; have NB622_584 := n14_; have NB585_622 := n15_; have NB622_585 := n16_; have NB595_622 := n17_; have NB622_595 := n18_; have NB603_622 := n19_; have NB622_603 := n20_; clear n0_ n1_ n2_ n3_ n4_ n5_ n6_ n7_ n8_ n9_ n10_ n11_ n12_ n13_ n14_ n15_ n16_ n17_ n18_ n19_ n20_; clear hb hbox hg
                  obtain ⟨Ao75, co75, eo75⟩ := Kd.R_slice HO614.out
                  (first | subst eo75 | (injection eo75 with f1_ f2_ f3_; have f4_ := f1_.symm; have f5_ := f3_.symm; clear f1_ f2_ f3_; subst f4_; subst f5_))
                  refine hK.out _ _ ⟨(blk_cell BK595.out 0).trans rfl, (blk_cell BK595.out 1).trans rfl, (blk_cell BK595.out 2).trans rfl, (blk_cell BK584.out 0).trans rfl, (blk_cell BK584.out 1).trans rfl, (blk_cell BK584.out 2).trans rfl, (blk_cell BK584.out 3).trans rfl, (blk_cell BK584.out 4).trans rfl, (blk_cell BK584.out 5).trans rfl⟩ (fun hHeld => ?_)
                  clear hK K
                  refine norm_ (a' := ?_) ?_ ?_
                  rotate_left
                  · show Act.put _ (some 10) _ = _
                    simp only [Act.put, s0_, s1_, s2_, i64_w, i32_w]
                    rfl
                  refine one_ (i := 6) (N := some 58) #[T,T,T,T,T,T,T,F,F,F,T,F,F] rfl rfl (one_of HT_.out (by kernel_rfl)) (by decide) (fun K hK => ?_)
                  refine goes_ Try.func52 (by kernel_rfl) rfl #[.agg #[.int .i64 t610, .int .i64 t611, .slice Ao75 t612.length co75], .int .i64 a1_1] (by rfl) rfl rfl (by (try simp only [m0_, m1_, m2_]); first | done | rfl) ?_
                  with_reducible refine (queue_Find.calls t610 t611 _ _ t612 a1_1 t615 t616 t617 t618 t619 t620 t621 _ ?side1 ?side2 A70.out).mono ?_
                  (case side1 => repeat (first | exact (Kd.R_reads' HO614.out).2.2 | (with_reducible refine ca_ ?_ _) | (with_reducible refine cn_ ?_ _) | (with_reducible refine cd_ ?_)))
                  (case side2 => exact (Kd.R_reads' HO614.out).2.1)
                  rintro e w76 ⟨rfl, hb⟩
                  refine ⟨_, rfl, ?_⟩
                  have n0_ := A_ (Kd.R_below HO_596002.out hb); have n1_ := A_ (Kd.R_below (by (with_reducible repeat (first | apply ra_ | apply rn_ | apply rd_)); exact HO614.out) hb); have n2_ := A_ (blk_below BK583.out hb); have n3_ := A_ (blk_below BK584.out hb); have n4_ := A_ (blk_below BK585.out hb); have n5_ := A_ (blk_below BK595.out hb); have n6_ := A_ (blk_below BK603.out hb); have n7_ := A_ (blk_below BK622.out hb); have n8_ := A_ (below_step HB.out hb); clear HO_596002; clear HO614; clear BK583; clear BK584; clear BK585; clear BK595; clear BK603; clear BK622; clear HB; have HO_596002 := n0_; have HO614 := n1_; have BK583 := n2_; have BK584 := n3_; have BK585 := n4_; have BK595 := n5_; have BK603 := n6_; have BK622 := n7_; have HB := n8_; clear n0_ n1_ n2_ n3_ n4_ n5_ n6_ n7_ n8_
                  (try clear hb)
                  (try clear hb2)
                  (try clear hk)
                  (try clear hi)
                  refine hK.out _ _ ⟨(blk_cell BK595.out 0).trans rfl, (blk_cell BK595.out 1).trans rfl, (blk_cell BK595.out 2).trans rfl, (blk_cell BK584.out 0).trans rfl, (blk_cell BK584.out 1).trans rfl, (blk_cell BK584.out 2).trans rfl, (blk_cell BK584.out 3).trans rfl, (blk_cell BK584.out 4).trans rfl, (blk_cell BK584.out 5).trans rfl⟩ (fun hHeld => ?_)
                  clear hK K
                  refine norm_ (a' := ?_) ?_ ?_
                  rotate_left
                  · show Act.put _ (some 58) _ = _
                    simp only [Act.put, s0_, s1_, s2_, i64_w, i32_w]
                    rfl
                  refine pure_ (i := 7) (N := some 51) (v := ?_) (a' := ?_) #[T,T,T,T,T,T,T,T,F,F,T,F,F] rfl rfl (any_of HT_.out (by kernel_rfl)) (fun _ _ _ h => h) (Or.inl ⟨by rfl, ?_⟩) ?_ ?_
                  rotate_left
                  · intro w'
                    go_simp
                    with_reducible rfl
                  rotate_left
                  · simp only [Act.put, s0_, s1_, s2_, i64_w, i32_w]
                    rfl
                  refine pure_ (i := 8) (N := some 59) (v := ?_) (a' := ?_) #[T,T,T,T,T,T,T,T,T,F,T,F,F] rfl rfl (any_of HT_.out (by kernel_rfl)) (fun _ _ _ h => h) (Or.inl ⟨by rfl, ?_⟩) ?_ ?_
                  rotate_left
                  · intro w'
                    go_simp
                    with_reducible rfl
                  rotate_left
                  · simp only [Act.put, s0_, s1_, s2_, i64_w, i32_w]
                    rfl
                  refine pure_ (i := 9) (N := some 60) (v := ?_) (a' := ?_) #[T,T,T,T,T,T,T,T,T,T,T,F,F] rfl rfl (any_of HT_.out (by kernel_rfl)) (fun _ _ _ h => h) (Or.inl ⟨by rfl, ?_⟩) ?_ ?_
                  rotate_left
                  · intro w'
                    go_simp
                    with_reducible rfl
                  rotate_left
                  · simp only [Act.put, s0_, s1_, s2_, i64_w, i32_w]
                    rfl
                  exact norm_ (by simp only [putAll, Act.put, s0_, s1_, s2_]) (hCont (.slice Ao75 t612.length co75, gb622) _ ⟨hHeld, (by (with_reducible repeat (first | apply ra_ | apply rn_ | apply rd_)); exact Kd.R_mono HO614.out (fun _ hk => ⟨hk.1.1.1.1.2, ⟨hk.1.1.1.2, ⟨hk.1.1.2, ⟨hk.1.2, hk.2⟩⟩⟩⟩)), (by (with_reducible repeat (first | apply ra_ | apply rn_ | apply rd_)); exact Kd.R_mono HO_596002.out (fun _ hk => ⟨hk.1.2, ⟨hk.1.1.1, ⟨hk.1.1.2.1, ⟨hk.1.1.2.2, hk.2⟩⟩⟩⟩)), (by (with_reducible repeat (first | refine bn_ ?_ _ | refine bd_ ?_ | refine ba_ ?_ _)); exact BK583.out), (by (with_reducible repeat (first | refine bn_ ?_ _ | refine bd_ ?_ | refine ba_ ?_ _)); exact BK584.out), (by (with_reducible repeat (first | refine bn_ ?_ _ | refine bd_ ?_ | refine ba_ ?_ _)); exact BK585.out), (by (with_reducible repeat (first | refine bn_ ?_ _ | refine bd_ ?_ | refine ba_ ?_ _)); exact BK595.out), (by (with_reducible repeat (first | refine bn_ ?_ _ | refine bd_ ?_ | refine ba_ ?_ _)); exact BK603.out), (by (with_reducible repeat (first | refine bn_ ?_ _ | refine bd_ ?_ | refine ba_ ?_ _)); exact BK622.out), GW622.out, GE622.out, NB583_622.out, NB622_583.out, NB584_622.out, NB622_584.out, NB585_622.out, NB622_585.out, NB595_622.out, NB622_595.out, NB603_622.out, NB622_603.out, (by repeat (first | (with_reducible first | exact HB.out | apply wa_ | apply wn_ | apply wd_ | refine ws_ ?_ GE583.out | refine ws_ ?_ GE584.out | refine ws_ ?_ GE585.out | refine ws_ ?_ GE595.out | refine ws_ ?_ GE603.out | refine ws_ ?_ GE622.out) | exact HB.out))⟩)
              · skip
                refine box_step ?hg (N := 10) ?hd (cs := #[.int .i64 0, .int .i64 0, .int .i64 0, .int .i64 0, .int .i64 0, .string (⟨#[]⟩ : ByteArray)]) (t := 24) ?hr ?_; (case hd => rfl); (case hg => rfl); (case hr => first | (go_simp; done) | (go_simp; rfl))
                intro gb622 hg w73 hbox hb
                have n0_ := A_ (Kd.R_below (Kd.R_elderB (by (with_reducible repeat (first | apply ra_ | apply rn_ | apply rd_)); exact HO_596002.out) gb622 (Nat.le_of_eq hg.symm)) hb); have n1_ := A_ (blk_below BK583.out hb); have n2_ := A_ (blk_below BK584.out hb); have n3_ := A_ (blk_below BK585.out hb); have n4_ := A_ (blk_below BK595.out hb); have n5_ := A_ (blk_below BK603.out hb); have n6_ := A_ (below_step HB.out hb); have n7_ := A_ (hbox); have n8_ := A_ ((by rw [hg]; exact (below_size (by repeat (first | (with_reducible first | exact HB.out | apply wa_ | apply wn_ | apply wd_ | refine ws_ ?_ GE583.out | refine ws_ ?_ GE584.out | refine ws_ ?_ GE585.out | refine ws_ ?_ GE595.out | refine ws_ ?_ GE603.out) | exact HB.out))) : w.heap.size ≤ gb622)); have n9_ := A_ ((by rw [hg]; exact (below_size (by repeat (first | (with_reducible first | exact HB.out | apply wa_ | apply wn_ | apply wd_ | refine ws_ ?_ GE583.out | refine ws_ ?_ GE584.out | refine ws_ ?_ GE585.out | refine ws_ ?_ GE595.out | refine ws_ ?_ GE603.out) | exact HB.out))) : w.heap.size ≤ gb622)); have n10_ := A_ ((by rw [hg]; exact Nat.ne_of_lt (blk_lt (g := gb583) (o := .cells #[.int .i64 a0_0, .int .i64 a0_1, .slice A0_2 l0_2.length c0_2] 46 (0, 0)) (by (with_reducible repeat (first | refine bn_ ?_ _ | refine bd_ ?_ | refine ba_ ?_ _)); exact BK583.out)) : gb583 ≠ gb622)); have n11_ := A_ ((by rw [hg]; exact Nat.ne_of_gt (blk_lt (g := gb583) (o := .cells #[.int .i64 a0_0, .int .i64 a0_1, .slice A0_2 l0_2.length c0_2] 46 (0, 0)) (by (with_reducible repeat (first | refine bn_ ?_ _ | refine bd_ ?_ | refine ba_ ?_ _)); exact BK583.out)) : gb622 ≠ gb583)); have n12_ := A_ ((by rw [hg]; exact Nat.ne_of_lt (blk_lt (g := gb584) (o := .cells #[.int .i64 a1_0, .int .i64 a1_1, .int .i64 a1_2, .int .i64 a1_3, .int .i64 a1_4, .string a1_5] 24 (0, 0)) (by (with_reducible repeat (first | refine bn_ ?_ _ | refine bd_ ?_ | refine ba_ ?_ _)); exact BK584.out)) : gb584 ≠ gb622)); have n13_ := A_ ((by rw [hg]; exact Nat.ne_of_gt (blk_lt (g := gb584) (o := .cells #[.int .i64 a1_0, .int .i64 a1_1, .int .i64 a1_2, .int .i64 a1_3, .int .i64 a1_4, .string a1_5] 24 (0, 0)) (by (with_reducible repeat (first | refine bn_ ?_ _ | refine bd_ ?_ | refine ba_ ?_ _)); exact BK584.out)) : gb622 ≠ gb584)); have n14_ := A_ ((by rw [hg]; exact Nat.ne_of_lt (blk_lt (g := gb585) (o := .cells #[.int .i64 a2_0, .int .i64 a2_1, .int .i64 a2_2, .int .i64 a2_3, .int .i64 a2_4, .string a2_5] 24 (0, 0)) (by (with_reducible repeat (first | refine bn_ ?_ _ | refine bd_ ?_ | refine ba_ ?_ _)); exact BK585.out)) : gb585 ≠ gb622)); have n15_ := A_ ((by rw [hg]; exact Nat.ne_of_gt (blk_lt (g := gb585) (o := .cells #[.int .i64 a2_0, .int .i64 a2_1, .int .i64 a2_2, .int .i64 a2_3, .int .i64 a2_4, .string a2_5] 24 (0, 0)) (by (with_reducible repeat (first | refine bn_ ?_ _ | refine bd_ ?_ | refine ba_ ?_ _)); exact BK585.out)) : gb622 ≠ gb585)); have n16_ := A_ ((by rw [hg]; exact Nat.ne_of_lt (blk_lt (g := gb595) (o := .cells #[.int .i64 t590, .int .i64 t591, .slice Ao50 t592.length co50] 46 (0, 0)) (by (with_reducible repeat (first | refine bn_ ?_ _ | refine bd_ ?_ | refine ba_ ?_ _)); exact BK595.out)) : gb595 ≠ gb622)); have n17_ := A_ ((by rw [hg]; exact Nat.ne_of_gt (blk_lt (g := gb595) (o := .cells #[.int .i64 t590, .int .i64 t591, .slice Ao50 t592.length co50] 46 (0, 0)) (by (with_reducible repeat (first | refine bn_ ?_ _ | refine bd_ ?_ | refine ba_ ?_ _)); exact BK595.out)) : gb622 ≠ gb595)); have n18_ := A_ ((by rw [hg]; exact Nat.ne_of_lt (blk_lt (g := gb603) (o := .cells #[.int .i64 t596, .int .i64 t597, .int .i64 t598, .int .i64 t599, .int .i64 t600, .string t601] 24 (0, 0)) (by (with_reducible repeat (first | refine bn_ ?_ _ | refine bd_ ?_ | refine ba_ ?_ _)); exact BK603.out)) : gb603 ≠ gb622)); have n19_ := A_ ((by rw [hg]; exact Nat.ne_of_gt (blk_lt (g := gb603) (o := .cells #[.int .i64 t596, .int .i64 t597, .int .i64 t598, .int .i64 t599, .int .i64 t600, .string t601] 24 (0, 0)) (by (with_reducible repeat (first | refine bn_ ?_ _ | refine bd_ ?_ | refine ba_ ?_ _)); exact BK603.out)) : gb622 ≠ gb603)); clear HO_596002; clear BK583; clear BK584; clear BK585; clear BK595; clear BK603; clear HB; have HO_596002 := n0_; have BK583 := n1_; have BK584 := n2_; have BK585 := n3_; have BK595 := n4_; have BK603 := n5_; have HB := n6_; have BK622 := n7_; have GW622 := n8_; have GE622 := n9_; have NB583_622 := n10_; have NB622_583 := n11_; have NB584_622 := n12_; have NB622_584 := n13_; have NB585_622 := n14_; have NB622_585 := n15_; have NB595_622 := n16_; have NB622_595 := n17_; have NB603_622 := n18_; have NB622_603 := n19_; clear n0_ n1_ n2_ n3_ n4_ n5_ n6_ n7_ n8_ n9_ n10_ n11_ n12_ n13_ n14_ n15_ n16_ n17_ n18_ n19_; clear hb hbox hg
                refine hK.out _ _ ⟨(blk_cell BK595.out 0).trans rfl, (blk_cell BK595.out 1).trans rfl, (blk_cell BK595.out 2).trans rfl, (blk_cell BK584.out 0).trans rfl, (blk_cell BK584.out 1).trans rfl, (blk_cell BK584.out 2).trans rfl, (blk_cell BK584.out 3).trans rfl, (blk_cell BK584.out 4).trans rfl, (blk_cell BK584.out 5).trans rfl⟩ (fun hHeld => ?_)
                clear hK K
                refine norm_ (a' := ?_) ?_ ?_
                rotate_left
                · show Act.put _ (some 10) _ = _
                  simp only [Act.put, s0_, s1_, s2_, i64_w, i32_w]
                  rfl
                refine one_ (i := 3) (N := some 55) #[T,T,T,T,T,T,F,F,F,F,T,F,F] rfl rfl (one_of HT_.out (by kernel_rfl)) (by decide) (fun K hK => ?_)
                refine goes_ Try.func65 (by kernel_rfl) rfl #[.agg #[.int .i64 t590, .int .i64 t591, .slice Ao50 t592.length co50], .int .i64 a1_1] (by rfl) rfl rfl (by (try simp only [m0_, m1_, m2_]); first | done | rfl) ?_
                with_reducible refine (queue_Drop.calls t590 t591 _ _ t592 a1_1 t610 t611 t612 _ ?side1 ?side2 A69.out).mono ?_
                (case side1 => repeat (first | exact (Kd.R_reads' HO_596002.out).2.2 | (with_reducible refine ca_ ?_ _) | (with_reducible refine cn_ ?_ _) | (with_reducible refine cd_ ?_)))
                (case side2 => exact (Kd.R_reads' HO_596002.out).2.1)
                rintro e w74 ⟨v613, rfl, ho0, hb⟩
                refine ⟨_, rfl, ?_⟩
                have n0_ := A_ (Kd.R_elder' (by (with_reducible repeat (first | apply ra_ | apply rn_ | apply rd_)); exact HO_596002.out) (Kd.R_base ho0) hb); have n1_ := A_ (Kd.R_lower (Kd.R_newB (Kd.R_newB (Kd.R_newB (Kd.R_newB (Kd.R_new' ho0 (Kd.R_lt (by (with_reducible repeat (first | apply ra_ | apply rn_ | apply rd_)); exact HO_596002.out))) (g := gb584) (o := .cells #[.int .i64 a1_0, .int .i64 a1_1, .int .i64 a1_2, .int .i64 a1_3, .int .i64 a1_4, .string a1_5] 24 (0, 0)) (by (with_reducible repeat (first | refine bn_ ?_ _ | refine bd_ ?_ | refine ba_ ?_ _)); exact BK584.out)) (g := gb585) (o := .cells #[.int .i64 a2_0, .int .i64 a2_1, .int .i64 a2_2, .int .i64 a2_3, .int .i64 a2_4, .string a2_5] 24 (0, 0)) (by (with_reducible repeat (first | refine bn_ ?_ _ | refine bd_ ?_ | refine ba_ ?_ _)); exact BK585.out)) (g := gb603) (o := .cells #[.int .i64 t596, .int .i64 t597, .int .i64 t598, .int .i64 t599, .int .i64 t600, .string t601] 24 (0, 0)) (by (with_reducible repeat (first | refine bn_ ?_ _ | refine bd_ ?_ | refine ba_ ?_ _)); exact BK603.out)) (g := gb622) (o := .cells #[.int .i64 0, .int .i64 0, .int .i64 0, .int .i64 0, .int .i64 0, .string (⟨#[]⟩ : ByteArray)] 24 (0, 0)) (by (with_reducible repeat (first | refine bn_ ?_ _ | refine bd_ ?_ | refine ba_ ?_ _)); exact BK622.out)) (below_size (by repeat (first | (with_reducible first | exact HB.out | apply wa_ | apply wn_ | apply wd_ | refine ws_ ?_ GE583.out | refine ws_ ?_ GE584.out | refine ws_ ?_ GE585.out | refine ws_ ?_ GE595.out | refine ws_ ?_ GE603.out | refine ws_ ?_ GE622.out) | exact HB.out)))); have n2_ := A_ (blk_below BK583.out hb); have n3_ := A_ (blk_below BK584.out hb); have n4_ := A_ (blk_below BK585.out hb); have n5_ := A_ (blk_below BK595.out hb); have n6_ := A_ (blk_below BK603.out hb); have n7_ := A_ (blk_below BK622.out hb); have n8_ := A_ (below_step HB.out hb); clear HO_596002; clear BK583; clear BK584; clear BK585; clear BK595; clear BK603; clear BK622; clear HB; have HO_596002 := n0_; have HO614 := n1_; have BK583 := n2_; have BK584 := n3_; have BK585 := n4_; have BK595 := n5_; have BK603 := n6_; have BK622 := n7_; have HB := n8_; clear n0_ n1_ n2_ n3_ n4_ n5_ n6_ n7_ n8_
                (try clear hb)
                (try clear hb2)
                (try clear hk)
                (try clear hi)
                (try clear ho0)
                obtain ⟨Ao75, co75, eo75⟩ := Kd.R_slice HO614.out
                (first | subst eo75 | (injection eo75 with f1_ f2_ f3_; have f4_ := f1_.symm; have f5_ := f3_.symm; clear f1_ f2_ f3_; subst f4_; subst f5_))
                refine hK.out _ _ ⟨(blk_cell BK595.out 0).trans rfl, (blk_cell BK595.out 1).trans rfl, (blk_cell BK595.out 2).trans rfl, (blk_cell BK584.out 0).trans rfl, (blk_cell BK584.out 1).trans rfl, (blk_cell BK584.out 2).trans rfl, (blk_cell BK584.out 3).trans rfl, (blk_cell BK584.out 4).trans rfl, (blk_cell BK584.out 5).trans rfl⟩ (fun hHeld => ?_)
                clear hK K
                refine norm_ (a' := ?_) ?_ ?_
                rotate_left
                · show Act.put _ (some 55) _ = _
                  simp only [Act.put, s0_, s1_, s2_, i64_w, i32_w]
                  rfl
                refine one_ (i := 6) (N := some 58) #[T,T,T,T,T,T,T,F,F,F,T,F,F] rfl rfl (one_of HT_.out (by kernel_rfl)) (by decide) (fun K hK => ?_)
                refine goes_ Try.func52 (by kernel_rfl) rfl #[.agg #[.int .i64 t610, .int .i64 t611, .slice Ao75 t612.length co75], .int .i64 a1_1] (by rfl) rfl rfl (by (try simp only [m0_, m1_, m2_]); first | done | rfl) ?_
                with_reducible refine (queue_Find.calls t610 t611 _ _ t612 a1_1 t615 t616 t617 t618 t619 t620 t621 _ ?side1 ?side2 A70.out).mono ?_
                (case side1 => repeat (first | exact (Kd.R_reads' HO614.out).2.2 | (with_reducible refine ca_ ?_ _) | (with_reducible refine cn_ ?_ _) | (with_reducible refine cd_ ?_)))
                (case side2 => exact (Kd.R_reads' HO614.out).2.1)
                rintro e w76 ⟨rfl, hb⟩
                refine ⟨_, rfl, ?_⟩
                have n0_ := A_ (Kd.R_below HO_596002.out hb); have n1_ := A_ (Kd.R_below (by (with_reducible repeat (first | apply ra_ | apply rn_ | apply rd_)); exact HO614.out) hb); have n2_ := A_ (blk_below BK583.out hb); have n3_ := A_ (blk_below BK584.out hb); have n4_ := A_ (blk_below BK585.out hb); have n5_ := A_ (blk_below BK595.out hb); have n6_ := A_ (blk_below BK603.out hb); have n7_ := A_ (blk_below BK622.out hb); have n8_ := A_ (below_step HB.out hb); clear HO_596002; clear HO614; clear BK583; clear BK584; clear BK585; clear BK595; clear BK603; clear BK622; clear HB; have HO_596002 := n0_; have HO614 := n1_; have BK583 := n2_; have BK584 := n3_; have BK585 := n4_; have BK595 := n5_; have BK603 := n6_; have BK622 := n7_; have HB := n8_; clear n0_ n1_ n2_ n3_ n4_ n5_ n6_ n7_ n8_
                (try clear hb)
                (try clear hb2)
                (try clear hk)
                (try clear hi)
                refine hK.out _ _ ⟨(blk_cell BK595.out 0).trans rfl, (blk_cell BK595.out 1).trans rfl, (blk_cell BK595.out 2).trans rfl, (blk_cell BK584.out 0).trans rfl, (blk_cell BK584.out 1).trans rfl, (blk_cell BK584.out 2).trans rfl, (blk_cell BK584.out 3).trans rfl, (blk_cell BK584.out 4).trans rfl, (blk_cell BK584.out 5).trans rfl⟩ (fun hHeld => ?_)
                clear hK K
                refine norm_ (a' := ?_) ?_ ?_
                rotate_left
                · show Act.put _ (some 58) _ = _
                  simp only [Act.put, s0_, s1_, s2_, i64_w, i32_w]
                  rfl
                refine pure_ (i := 7) (N := some 51) (v := ?_) (a' := ?_) #[T,T,T,T,T,T,T,T,F,F,T,F,F] rfl rfl (any_of HT_.out (by kernel_rfl)) (fun _ _ _ h => h) (Or.inl ⟨by rfl, ?_⟩) ?_ ?_
                rotate_left
                · intro w'
                  go_simp
                  with_reducible rfl
                rotate_left
                · simp only [Act.put, s0_, s1_, s2_, i64_w, i32_w]
                  rfl
                refine pure_ (i := 8) (N := some 59) (v := ?_) (a' := ?_) #[T,T,T,T,T,T,T,T,T,F,T,F,F] rfl rfl (any_of HT_.out (by kernel_rfl)) (fun _ _ _ h => h) (Or.inl ⟨by rfl, ?_⟩) ?_ ?_
                rotate_left
                · intro w'
                  go_simp
                  with_reducible rfl
                rotate_left
                · simp only [Act.put, s0_, s1_, s2_, i64_w, i32_w]
                  rfl
                refine pure_ (i := 9) (N := some 60) (v := ?_) (a' := ?_) #[T,T,T,T,T,T,T,T,T,T,T,F,F] rfl rfl (any_of HT_.out (by kernel_rfl)) (fun _ _ _ h => h) (Or.inl ⟨by rfl, ?_⟩) ?_ ?_
                rotate_left
                · intro w'
                  go_simp
                  with_reducible rfl
                rotate_left
                · simp only [Act.put, s0_, s1_, s2_, i64_w, i32_w]
                  rfl
                exact norm_ (by simp only [putAll, Act.put, s0_, s1_, s2_]) (hCont (.slice Ao75 t612.length co75, gb622) _ ⟨hHeld, (by (with_reducible repeat (first | apply ra_ | apply rn_ | apply rd_)); exact Kd.R_mono HO614.out (fun _ hk => ⟨hk.1.1.1.1.2, ⟨hk.1.1.1.2, ⟨hk.1.1.2, ⟨hk.1.2, hk.2⟩⟩⟩⟩)), (by (with_reducible repeat (first | apply ra_ | apply rn_ | apply rd_)); exact Kd.R_mono HO_596002.out (fun _ hk => ⟨hk.2, ⟨hk.1.1.1, ⟨hk.1.1.2.1, ⟨hk.1.1.2.2, hk.1.2⟩⟩⟩⟩)), (by (with_reducible repeat (first | refine bn_ ?_ _ | refine bd_ ?_ | refine ba_ ?_ _)); exact BK583.out), (by (with_reducible repeat (first | refine bn_ ?_ _ | refine bd_ ?_ | refine ba_ ?_ _)); exact BK584.out), (by (with_reducible repeat (first | refine bn_ ?_ _ | refine bd_ ?_ | refine ba_ ?_ _)); exact BK585.out), (by (with_reducible repeat (first | refine bn_ ?_ _ | refine bd_ ?_ | refine ba_ ?_ _)); exact BK595.out), (by (with_reducible repeat (first | refine bn_ ?_ _ | refine bd_ ?_ | refine ba_ ?_ _)); exact BK603.out), (by (with_reducible repeat (first | refine bn_ ?_ _ | refine bd_ ?_ | refine ba_ ?_ _)); exact BK622.out), GW622.out, GE622.out, NB583_622.out, NB622_583.out, NB584_622.out, NB622_584.out, NB585_622.out, NB622_585.out, NB595_622.out, NB622_595.out, NB603_622.out, NB622_603.out, (by repeat (first | (with_reducible first | exact HB.out | apply wa_ | apply wn_ | apply wd_ | refine ws_ ?_ GE583.out | refine ws_ ?_ GE584.out | refine ws_ ?_ GE585.out | refine ws_ ?_ GE595.out | refine ws_ ?_ GE603.out | refine ws_ ?_ GE622.out) | exact HB.out))⟩)
            rintro ⟨v613, gb622⟩ w77 ⟨hS_, h0_, h1_, h2_, h3_, h4_, h5_, h6_, h7_, h8_, h9_, h10_, h11_, h12_, h13_, h14_, h15_, h16_, h17_, h18_, h19_, h20_⟩
            have n0_ : Aside0 (Kd.R k24 24 w77 w.heap.size (fun k_ => some k_ ≠ (.slice Ao50 t592.length co50 : Value).ownBlock ∧ k_ ≠ gb584 ∧ k_ ≠ gb585 ∧ k_ ≠ gb603 ∧ k_ ≠ gb622) v613 t612) := ⟨h0_⟩; have n1_ : Aside0 (Kd.R k24 24 w77 w.heap.size (fun k_ => some k_ ≠ (v613 : Value).ownBlock ∧ k_ ≠ gb584 ∧ k_ ≠ gb585 ∧ k_ ≠ gb603 ∧ k_ ≠ gb622) (.slice Ao50 t592.length co50) t592) := ⟨h1_⟩; have n2_ : Aside0 (w77.heap[gb583]? = some (.cells #[.int .i64 a0_0, .int .i64 a0_1, .slice A0_2 l0_2.length c0_2] 46 (0, 0))) := ⟨h2_⟩; have n3_ : Aside0 (w77.heap[gb584]? = some (.cells #[.int .i64 a1_0, .int .i64 a1_1, .int .i64 a1_2, .int .i64 a1_3, .int .i64 a1_4, .string a1_5] 24 (0, 0))) := ⟨h3_⟩; have n4_ : Aside0 (w77.heap[gb585]? = some (.cells #[.int .i64 a2_0, .int .i64 a2_1, .int .i64 a2_2, .int .i64 a2_3, .int .i64 a2_4, .string a2_5] 24 (0, 0))) := ⟨h4_⟩; have n5_ : Aside0 (w77.heap[gb595]? = some (.cells #[.int .i64 t590, .int .i64 t591, .slice Ao50 t592.length co50] 46 (0, 0))) := ⟨h5_⟩; have n6_ : Aside0 (w77.heap[gb603]? = some (.cells #[.int .i64 t596, .int .i64 t597, .int .i64 t598, .int .i64 t599, .int .i64 t600, .string t601] 24 (0, 0))) := ⟨h6_⟩; have n7_ : Aside0 (w77.heap[gb622]? = some (.cells #[.int .i64 0, .int .i64 0, .int .i64 0, .int .i64 0, .int .i64 0, .string (⟨#[]⟩ : ByteArray)] 24 (0, 0))) := ⟨h7_⟩; have n8_ : Aside0 (w.heap.size ≤ gb622) := ⟨h8_⟩; have n9_ : Aside0 (w.heap.size ≤ gb622) := ⟨h9_⟩; have n10_ : Aside0 (gb583 ≠ gb622) := ⟨h10_⟩; have n11_ : Aside0 (gb622 ≠ gb583) := ⟨h11_⟩; have n12_ : Aside0 (gb584 ≠ gb622) := ⟨h12_⟩; have n13_ : Aside0 (gb622 ≠ gb584) := ⟨h13_⟩; have n14_ : Aside0 (gb585 ≠ gb622) := ⟨h14_⟩; have n15_ : Aside0 (gb622 ≠ gb585) := ⟨h15_⟩; have n16_ : Aside0 (gb595 ≠ gb622) := ⟨h16_⟩; have n17_ : Aside0 (gb622 ≠ gb595) := ⟨h17_⟩; have n18_ : Aside0 (gb603 ≠ gb622) := ⟨h18_⟩; have n19_ : Aside0 (gb622 ≠ gb603) := ⟨h19_⟩; have n20_ : Aside0 (Below w.heap.size w w77) := ⟨h20_⟩; clear HO_596002; clear BK583; clear BK584; clear BK585; clear BK595; clear BK603; clear HB; clear h0_ h1_ h2_ h3_ h4_ h5_ h6_ h7_ h8_ h9_ h10_ h11_ h12_ h13_ h14_ h15_ h16_ h17_ h18_ h19_ h20_; have HO614 := n0_; have HO_596002 := n1_; have BK583 := n2_; have BK584 := n3_; have BK585 := n4_; have BK595 := n5_; have BK603 := n6_; have BK622 := n7_; have GW622 := n8_; have GE622 := n9_; have NB583_622 := n10_; have NB622_583 := n11_; have NB584_622 := n12_; have NB622_584 := n13_; have NB585_622 := n14_; have NB622_585 := n15_; have NB595_622 := n16_; have NB622_595 := n17_; have NB603_622 := n18_; have NB622_603 := n19_; have HB := n20_; clear n0_ n1_ n2_ n3_ n4_ n5_ n6_ n7_ n8_ n9_ n10_ n11_ n12_ n13_ n14_ n15_ n16_ n17_ n18_ n19_ n20_
            have hHeld : w77.cell? ⟨gb595, 0, none⟩ = some (.int .i64 t590) ∧ w77.cell? ⟨gb595, 1, none⟩ = some (.int .i64 t591) ∧ w77.cell? ⟨gb595, 2, none⟩ = some (.slice Ao50 t592.length co50) ∧ w77.cell? ⟨gb584, 0, none⟩ = some (.int .i64 a1_0) ∧ w77.cell? ⟨gb584, 1, none⟩ = some (.int .i64 a1_1) ∧ w77.cell? ⟨gb584, 2, none⟩ = some (.int .i64 a1_2) ∧ w77.cell? ⟨gb584, 3, none⟩ = some (.int .i64 a1_3) ∧ w77.cell? ⟨gb584, 4, none⟩ = some (.int .i64 a1_4) ∧ w77.cell? ⟨gb584, 5, none⟩ = some (.string a1_5) := hS_
            refine norm_ (a' := ?_) ?_ ?_
            rotate_left
            · simp only [putAll, Act.put, s0_, s1_, s2_]
              rfl
            refine one_ (i := 11) (N := none) #[T,T,T,T,T,T,T,T,T,T,T,T,F] rfl rfl (one_of HT_.out (by kernel_rfl)) (by decide) (fun K hK => ?_)
            have hs78 : w77.cell? ⟨gb622, 0, none⟩ = some (.int .i64 0) := (blk_cell BK622.out 0).trans rfl
            have hfs78 := blk_frozen BK622.out 0
            have hns78_0 := NB583_622.out
            have hns78_1 := NB584_622.out
            have hns78_2 := NB585_622.out
            have hns78_3 := NB595_622.out
            have hns78_4 := NB603_622.out
            have hms78_0 := NB622_583.out
            have hms78_1 := NB622_584.out
            have hms78_2 := NB622_585.out
            have hms78_3 := NB622_595.out
            have hms78_4 := NB622_603.out
            have hs79 : w77.cell? ⟨gb622, 1, none⟩ = some (.int .i64 0) := (blk_cell BK622.out 1).trans rfl
            have hfs79 := blk_frozen BK622.out 1
            have hns79_0 := NB583_622.out
            have hns79_1 := NB584_622.out
            have hns79_2 := NB585_622.out
            have hns79_3 := NB595_622.out
            have hns79_4 := NB603_622.out
            have hms79_0 := NB622_583.out
            have hms79_1 := NB622_584.out
            have hms79_2 := NB622_585.out
            have hms79_3 := NB622_595.out
            have hms79_4 := NB622_603.out
            have hs80 : w77.cell? ⟨gb622, 2, none⟩ = some (.int .i64 0) := (blk_cell BK622.out 2).trans rfl
            have hfs80 := blk_frozen BK622.out 2
            have hns80_0 := NB583_622.out
            have hns80_1 := NB584_622.out
            have hns80_2 := NB585_622.out
            have hns80_3 := NB595_622.out
            have hns80_4 := NB603_622.out
            have hms80_0 := NB622_583.out
            have hms80_1 := NB622_584.out
            have hms80_2 := NB622_585.out
            have hms80_3 := NB622_595.out
            have hms80_4 := NB622_603.out
            have hs81 : w77.cell? ⟨gb622, 3, none⟩ = some (.int .i64 0) := (blk_cell BK622.out 3).trans rfl
            have hfs81 := blk_frozen BK622.out 3
            have hns81_0 := NB583_622.out
            have hns81_1 := NB584_622.out
            have hns81_2 := NB585_622.out
            have hns81_3 := NB595_622.out
            have hns81_4 := NB603_622.out
            have hms81_0 := NB622_583.out
            have hms81_1 := NB622_584.out
            have hms81_2 := NB622_585.out
            have hms81_3 := NB622_595.out
            have hms81_4 := NB622_603.out
            have hs82 : w77.cell? ⟨gb622, 4, none⟩ = some (.int .i64 0) := (blk_cell BK622.out 4).trans rfl
            have hfs82 := blk_frozen BK622.out 4
            have hns82_0 := NB583_622.out
            have hns82_1 := NB584_622.out
            have hns82_2 := NB585_622.out
            have hns82_3 := NB595_622.out
            have hns82_4 := NB603_622.out
            have hms82_0 := NB622_583.out
            have hms82_1 := NB622_584.out
            have hms82_2 := NB622_585.out
            have hms82_3 := NB622_595.out
            have hms82_4 := NB622_603.out
            have hs83 : w77.cell? ⟨gb622, 5, none⟩ = some (.string (⟨#[]⟩ : ByteArray)) := (blk_cell BK622.out 5).trans rfl
            have hfs83 := blk_frozen BK622.out 5
            have hns83_0 := NB583_622.out
            have hns83_1 := NB584_622.out
            have hns83_2 := NB585_622.out
            have hns83_3 := NB595_622.out
            have hns83_4 := NB603_622.out
            have hms83_0 := NB622_583.out
            have hms83_1 := NB622_584.out
            have hms83_2 := NB622_585.out
            have hms83_3 := NB622_595.out
            have hms83_4 := NB622_603.out
            refine skip_ (w1 := ?_) (by rfl) rfl ?_ ?_
            rotate_left
            · go_simp
              rfl
            refine hK.out _ _ ⟨((cell_far (p := ⟨gb622, _, none⟩) NB595_622.out _).trans (((cell_far (p := ⟨gb622, _, none⟩) NB595_622.out _).trans (((cell_far (p := ⟨gb622, _, none⟩) NB595_622.out _).trans (((cell_far (p := ⟨gb622, _, none⟩) NB595_622.out _).trans (((cell_far (p := ⟨gb622, _, none⟩) NB595_622.out _).trans (((cell_far (p := ⟨gb622, _, none⟩) NB595_622.out _).trans (hHeld.1)))))))))))), ((cell_far (p := ⟨gb622, _, none⟩) NB595_622.out _).trans (((cell_far (p := ⟨gb622, _, none⟩) NB595_622.out _).trans (((cell_far (p := ⟨gb622, _, none⟩) NB595_622.out _).trans (((cell_far (p := ⟨gb622, _, none⟩) NB595_622.out _).trans (((cell_far (p := ⟨gb622, _, none⟩) NB595_622.out _).trans (((cell_far (p := ⟨gb622, _, none⟩) NB595_622.out _).trans (hHeld.2.1)))))))))))), ((cell_far (p := ⟨gb622, _, none⟩) NB595_622.out _).trans (((cell_far (p := ⟨gb622, _, none⟩) NB595_622.out _).trans (((cell_far (p := ⟨gb622, _, none⟩) NB595_622.out _).trans (((cell_far (p := ⟨gb622, _, none⟩) NB595_622.out _).trans (((cell_far (p := ⟨gb622, _, none⟩) NB595_622.out _).trans (((cell_far (p := ⟨gb622, _, none⟩) NB595_622.out _).trans (hHeld.2.2.1)))))))))))), ((cell_far (p := ⟨gb622, _, none⟩) NB584_622.out _).trans (((cell_far (p := ⟨gb622, _, none⟩) NB584_622.out _).trans (((cell_far (p := ⟨gb622, _, none⟩) NB584_622.out _).trans (((cell_far (p := ⟨gb622, _, none⟩) NB584_622.out _).trans (((cell_far (p := ⟨gb622, _, none⟩) NB584_622.out _).trans (((cell_far (p := ⟨gb622, _, none⟩) NB584_622.out _).trans (hHeld.2.2.2.1)))))))))))), ((cell_far (p := ⟨gb622, _, none⟩) NB584_622.out _).trans (((cell_far (p := ⟨gb622, _, none⟩) NB584_622.out _).trans (((cell_far (p := ⟨gb622, _, none⟩) NB584_622.out _).trans (((cell_far (p := ⟨gb622, _, none⟩) NB584_622.out _).trans (((cell_far (p := ⟨gb622, _, none⟩) NB584_622.out _).trans (((cell_far (p := ⟨gb622, _, none⟩) NB584_622.out _).trans (hHeld.2.2.2.2.1)))))))))))), ((cell_far (p := ⟨gb622, _, none⟩) NB584_622.out _).trans (((cell_far (p := ⟨gb622, _, none⟩) NB584_622.out _).trans (((cell_far (p := ⟨gb622, _, none⟩) NB584_622.out _).trans (((cell_far (p := ⟨gb622, _, none⟩) NB584_622.out _).trans (((cell_far (p := ⟨gb622, _, none⟩) NB584_622.out _).trans (((cell_far (p := ⟨gb622, _, none⟩) NB584_622.out _).trans (hHeld.2.2.2.2.2.1)))))))))))), ((cell_far (p := ⟨gb622, _, none⟩) NB584_622.out _).trans (((cell_far (p := ⟨gb622, _, none⟩) NB584_622.out _).trans (((cell_far (p := ⟨gb622, _, none⟩) NB584_622.out _).trans (((cell_far (p := ⟨gb622, _, none⟩) NB584_622.out _).trans (((cell_far (p := ⟨gb622, _, none⟩) NB584_622.out _).trans (((cell_far (p := ⟨gb622, _, none⟩) NB584_622.out _).trans (hHeld.2.2.2.2.2.2.1)))))))))))), ((cell_far (p := ⟨gb622, _, none⟩) NB584_622.out _).trans (((cell_far (p := ⟨gb622, _, none⟩) NB584_622.out _).trans (((cell_far (p := ⟨gb622, _, none⟩) NB584_622.out _).trans (((cell_far (p := ⟨gb622, _, none⟩) NB584_622.out _).trans (((cell_far (p := ⟨gb622, _, none⟩) NB584_622.out _).trans (((cell_far (p := ⟨gb622, _, none⟩) NB584_622.out _).trans (hHeld.2.2.2.2.2.2.2.1)))))))))))), ((cell_far (p := ⟨gb622, _, none⟩) NB584_622.out _).trans (((cell_far (p := ⟨gb622, _, none⟩) NB584_622.out _).trans (((cell_far (p := ⟨gb622, _, none⟩) NB584_622.out _).trans (((cell_far (p := ⟨gb622, _, none⟩) NB584_622.out _).trans (((cell_far (p := ⟨gb622, _, none⟩) NB584_622.out _).trans (((cell_far (p := ⟨gb622, _, none⟩) NB584_622.out _).trans (hHeld.2.2.2.2.2.2.2.2))))))))))))⟩ (fun hHeld => ?_)
            clear hK K
            refine pure_ (i := 12) (N := some 11) (v := ?_) (a' := ?_) #[T,T,T,T,T,T,T,T,T,T,T,T,T] rfl rfl (any_of HT_.out (by kernel_rfl)) (fun _ _ _ h => h) (Or.inl ⟨by rfl, ?_⟩) ?_ ?_
            rotate_left
            · intro w'
              go_simp
              with_reducible rfl
            rotate_left
            · simp only [Act.put, s0_, s1_, s2_, i64_w, i32_w]
              rfl
            refine done_ (done_of HT_.out (by kernel_rfl)) ?_
            go_upto_region 8 with (fail)
            go_cut [76] (fun v76 wc => ∃ (kq : Nat) (x76_70 : Bool), v76 = .bool x76_70 ∧ Aside0 (hopperlaw05_QueuePuts.j2 kq t621 x76_70 a0_0 a0_1 l0_2 a1_0 a1_1 a1_2 a1_3 a1_4 a1_5 a2_0 a2_1 a2_2 a2_3 a2_4 a2_5 = some r) ∧ Aside0 (kq ≤ kj37) ∧ Aside0 (Kd.R k24 24 wc w.heap.size (fun k_ => k_ ≠ gb584 ∧ k_ ≠ gb585 ∧ k_ ≠ gb603 ∧ k_ ≠ gb622) (.slice Ao50 t592.length co50) t592) ∧ Aside0 (wc.heap[gb583]? = some (.cells #[.int .i64 a0_0, .int .i64 a0_1, (.slice A0_2 l0_2.length c0_2)] 46 (0, 0))) ∧ Aside0 (wc.heap[gb584]? = some (.cells #[.int .i64 a1_0, .int .i64 a1_1, .int .i64 a1_2, .int .i64 a1_3, .int .i64 a1_4, .string a1_5] 24 (0, 0))) ∧ Aside0 (wc.heap[gb585]? = some (.cells #[.int .i64 a2_0, .int .i64 a2_1, .int .i64 a2_2, .int .i64 a2_3, .int .i64 a2_4, .string a2_5] 24 (0, 0))) ∧ Aside0 (wc.heap[gb595]? = some (.cells #[.int .i64 t590, .int .i64 t591, (.slice Ao50 t592.length co50)] 46 (0, 0))) ∧ Aside0 (wc.heap[gb603]? = some (.cells #[.int .i64 t596, .int .i64 t597, .int .i64 t598, .int .i64 t599, .int .i64 t600, .string t601] 24 (0, 0))) ∧ Aside0 (wc.heap[gb622]? = some (.cells #[.int .i64 t615, .int .i64 t616, .int .i64 t617, .int .i64 t618, .int .i64 t619, .string t620] 24 (0, 0))) ∧ Aside0 (Below w.heap.size w wc))
            case first =>
              have H := HC71.out
              clear HC71
              by_cases c84 : t621 = true
              · subst c84
                have H1 : (hopperlaw05_QueuePuts.j2 kj37 true true a0_0 a0_1 l0_2 a1_0 a1_1 a1_2 a1_3 a1_4 a1_5 a2_0 a2_1 a2_2 a2_3 a2_4 a2_5) = some r := by rw [if_pos rfl] at H; exact H
                clear H
                have H := H1
                clear H1
                have H' := A_ H
                clear H
                go_wp2
                go_meet
                case rel => exact ⟨_, (true), (by first | rfl | (simp; done) | (simp [*]; done)), H', ⟨by have := HJ3.out; have := HJ37.out; first | omega | exact Nat.le_refl _⟩, ⟨by (with_reducible repeat (first | apply ra_ | apply rn_ | apply rd_)); exact Kd.R_mono (f6_ (g := gb622) (Kd.R_mono HO_596002.out (fun k_ hk => (⟨hk, hk.2.2.2.2⟩ : _ ∧ k_ ≠ gb622))) (fun _ hk => hk.2) (.int .i64 t615) (.int .i64 t616) (.int .i64 t617) (.int .i64 t618) (.int .i64 t619) (.string t620)) (fun _ hk => ⟨hk.1.2.1, ⟨hk.1.2.2.1, ⟨hk.1.2.2.2.1, hk.1.2.2.2.2⟩⟩⟩)⟩, ⟨by (with_reducible repeat (first | refine bn_ ?_ _ | refine bd_ ?_ | refine ba_ ?_ _)); refine blk_far ?_ NB583_622.out _; (with_reducible repeat (first | refine bn_ ?_ _ | refine bd_ ?_ | refine ba_ ?_ _)); refine blk_far ?_ NB583_622.out _; (with_reducible repeat (first | refine bn_ ?_ _ | refine bd_ ?_ | refine ba_ ?_ _)); refine blk_far ?_ NB583_622.out _; (with_reducible repeat (first | refine bn_ ?_ _ | refine bd_ ?_ | refine ba_ ?_ _)); refine blk_far ?_ NB583_622.out _; (with_reducible repeat (first | refine bn_ ?_ _ | refine bd_ ?_ | refine ba_ ?_ _)); refine blk_far ?_ NB583_622.out _; (with_reducible repeat (first | refine bn_ ?_ _ | refine bd_ ?_ | refine ba_ ?_ _)); refine blk_far ?_ NB583_622.out _; (with_reducible repeat (first | refine bn_ ?_ _ | refine bd_ ?_ | refine ba_ ?_ _)); exact BK583.out⟩, ⟨by (with_reducible repeat (first | refine bn_ ?_ _ | refine bd_ ?_ | refine ba_ ?_ _)); refine blk_far ?_ NB584_622.out _; (with_reducible repeat (first | refine bn_ ?_ _ | refine bd_ ?_ | refine ba_ ?_ _)); refine blk_far ?_ NB584_622.out _; (with_reducible repeat (first | refine bn_ ?_ _ | refine bd_ ?_ | refine ba_ ?_ _)); refine blk_far ?_ NB584_622.out _; (with_reducible repeat (first | refine bn_ ?_ _ | refine bd_ ?_ | refine ba_ ?_ _)); refine blk_far ?_ NB584_622.out _; (with_reducible repeat (first | refine bn_ ?_ _ | refine bd_ ?_ | refine ba_ ?_ _)); refine blk_far ?_ NB584_622.out _; (with_reducible repeat (first | refine bn_ ?_ _ | refine bd_ ?_ | refine ba_ ?_ _)); refine blk_far ?_ NB584_622.out _; (with_reducible repeat (first | refine bn_ ?_ _ | refine bd_ ?_ | refine ba_ ?_ _)); exact BK584.out⟩, ⟨by (with_reducible repeat (first | refine bn_ ?_ _ | refine bd_ ?_ | refine ba_ ?_ _)); refine blk_far ?_ NB585_622.out _; (with_reducible repeat (first | refine bn_ ?_ _ | refine bd_ ?_ | refine ba_ ?_ _)); refine blk_far ?_ NB585_622.out _; (with_reducible repeat (first | refine bn_ ?_ _ | refine bd_ ?_ | refine ba_ ?_ _)); refine blk_far ?_ NB585_622.out _; (with_reducible repeat (first | refine bn_ ?_ _ | refine bd_ ?_ | refine ba_ ?_ _)); refine blk_far ?_ NB585_622.out _; (with_reducible repeat (first | refine bn_ ?_ _ | refine bd_ ?_ | refine ba_ ?_ _)); refine blk_far ?_ NB585_622.out _; (with_reducible repeat (first | refine bn_ ?_ _ | refine bd_ ?_ | refine ba_ ?_ _)); refine blk_far ?_ NB585_622.out _; (with_reducible repeat (first | refine bn_ ?_ _ | refine bd_ ?_ | refine ba_ ?_ _)); exact BK585.out⟩, ⟨by (with_reducible repeat (first | refine bn_ ?_ _ | refine bd_ ?_ | refine ba_ ?_ _)); refine blk_far ?_ NB595_622.out _; (with_reducible repeat (first | refine bn_ ?_ _ | refine bd_ ?_ | refine ba_ ?_ _)); refine blk_far ?_ NB595_622.out _; (with_reducible repeat (first | refine bn_ ?_ _ | refine bd_ ?_ | refine ba_ ?_ _)); refine blk_far ?_ NB595_622.out _; (with_reducible repeat (first | refine bn_ ?_ _ | refine bd_ ?_ | refine ba_ ?_ _)); refine blk_far ?_ NB595_622.out _; (with_reducible repeat (first | refine bn_ ?_ _ | refine bd_ ?_ | refine ba_ ?_ _)); refine blk_far ?_ NB595_622.out _; (with_reducible repeat (first | refine bn_ ?_ _ | refine bd_ ?_ | refine ba_ ?_ _)); refine blk_far ?_ NB595_622.out _; (with_reducible repeat (first | refine bn_ ?_ _ | refine bd_ ?_ | refine ba_ ?_ _)); exact BK595.out⟩, ⟨by (with_reducible repeat (first | refine bn_ ?_ _ | refine bd_ ?_ | refine ba_ ?_ _)); refine blk_far ?_ NB603_622.out _; (with_reducible repeat (first | refine bn_ ?_ _ | refine bd_ ?_ | refine ba_ ?_ _)); refine blk_far ?_ NB603_622.out _; (with_reducible repeat (first | refine bn_ ?_ _ | refine bd_ ?_ | refine ba_ ?_ _)); refine blk_far ?_ NB603_622.out _; (with_reducible repeat (first | refine bn_ ?_ _ | refine bd_ ?_ | refine ba_ ?_ _)); refine blk_far ?_ NB603_622.out _; (with_reducible repeat (first | refine bn_ ?_ _ | refine bd_ ?_ | refine ba_ ?_ _)); refine blk_far ?_ NB603_622.out _; (with_reducible repeat (first | refine bn_ ?_ _ | refine bd_ ?_ | refine ba_ ?_ _)); refine blk_far ?_ NB603_622.out _; (with_reducible repeat (first | refine bn_ ?_ _ | refine bd_ ?_ | refine ba_ ?_ _)); exact BK603.out⟩, ⟨by (with_reducible repeat (first | refine bn_ ?_ _ | refine bd_ ?_ | refine ba_ ?_ _)); refine blk_put (cs := #[.int .i64 t615, .int .i64 t616, .int .i64 t617, .int .i64 t618, .int .i64 t619, .string (⟨#[]⟩ : ByteArray)]) ?_ 5 _ rfl; (with_reducible repeat (first | refine bn_ ?_ _ | refine bd_ ?_ | refine ba_ ?_ _)); refine blk_put (cs := #[.int .i64 t615, .int .i64 t616, .int .i64 t617, .int .i64 t618, .int .i64 0, .string (⟨#[]⟩ : ByteArray)]) ?_ 4 _ rfl; (with_reducible repeat (first | refine bn_ ?_ _ | refine bd_ ?_ | refine ba_ ?_ _)); refine blk_put (cs := #[.int .i64 t615, .int .i64 t616, .int .i64 t617, .int .i64 0, .int .i64 0, .string (⟨#[]⟩ : ByteArray)]) ?_ 3 _ rfl; (with_reducible repeat (first | refine bn_ ?_ _ | refine bd_ ?_ | refine ba_ ?_ _)); refine blk_put (cs := #[.int .i64 t615, .int .i64 t616, .int .i64 0, .int .i64 0, .int .i64 0, .string (⟨#[]⟩ : ByteArray)]) ?_ 2 _ rfl; (with_reducible repeat (first | refine bn_ ?_ _ | refine bd_ ?_ | refine ba_ ?_ _)); refine blk_put (cs := #[.int .i64 t615, .int .i64 0, .int .i64 0, .int .i64 0, .int .i64 0, .string (⟨#[]⟩ : ByteArray)]) ?_ 1 _ rfl; (with_reducible repeat (first | refine bn_ ?_ _ | refine bd_ ?_ | refine ba_ ?_ _)); refine blk_put (cs := #[.int .i64 0, .int .i64 0, .int .i64 0, .int .i64 0, .int .i64 0, .string (⟨#[]⟩ : ByteArray)]) ?_ 0 _ rfl; (with_reducible repeat (first | refine bn_ ?_ _ | refine bd_ ?_ | refine ba_ ?_ _)); exact BK622.out⟩, ⟨by repeat (first | (with_reducible first | exact HB.out | apply wa_ | apply wn_ | apply wd_ | refine ws_ ?_ GE583.out | refine ws_ ?_ GE584.out | refine ws_ ?_ GE585.out | refine ws_ ?_ GE595.out | refine ws_ ?_ GE603.out | refine ws_ ?_ GE622.out) | exact HB.out)⟩⟩
              replace c84 := Bool.eq_false_iff.mpr c84
              subst c84
              have H1 : ((queue_Check.f kj37 a0_0 a0_1 l0_2 16).bind fun t623 => (if t623 = true then ((hopperref04_Check.f a1_0 a1_1 a1_2 a1_3 a1_4 a1_5).bind fun t624 => (if t624 = true then ((hopperref04_Check.f a2_0 a2_1 a2_2 a2_3 a2_4 a2_5).bind fun t625 => (hopperlaw05_QueuePuts.j2 kj37 false (!t625) a0_0 a0_1 l0_2 a1_0 a1_1 a1_2 a1_3 a1_4 a1_5 a2_0 a2_1 a2_2 a2_3 a2_4 a2_5)) else (hopperlaw05_QueuePuts.j2 kj37 false true a0_0 a0_1 l0_2 a1_0 a1_1 a1_2 a1_3 a1_4 a1_5 a2_0 a2_1 a2_2 a2_3 a2_4 a2_5))) else (hopperlaw05_QueuePuts.j2 kj37 false true a0_0 a0_1 l0_2 a1_0 a1_1 a1_2 a1_3 a1_4 a1_5 a2_0 a2_1 a2_2 a2_3 a2_4 a2_5))) = some r := by rw [if_neg (show ¬ (false = true) by decide)] at H; exact H
              clear H
              have H := H1
              clear H1
              replace H := Option.bind_eq_some_iff.mp H
              obtain ⟨t623, A850, H⟩ := H
              try dsimp only at H
              have A85 := A_ A850
              clear A850
              by_cases c86 : t623 = true
              · subst c86
                have H1 : ((hopperref04_Check.f a1_0 a1_1 a1_2 a1_3 a1_4 a1_5).bind fun t624 => (if t624 = true then ((hopperref04_Check.f a2_0 a2_1 a2_2 a2_3 a2_4 a2_5).bind fun t625 => (hopperlaw05_QueuePuts.j2 kj37 false (!t625) a0_0 a0_1 l0_2 a1_0 a1_1 a1_2 a1_3 a1_4 a1_5 a2_0 a2_1 a2_2 a2_3 a2_4 a2_5)) else (hopperlaw05_QueuePuts.j2 kj37 false true a0_0 a0_1 l0_2 a1_0 a1_1 a1_2 a1_3 a1_4 a1_5 a2_0 a2_1 a2_2 a2_3 a2_4 a2_5))) = some r := by rw [if_pos rfl] at H; exact H
                clear H
                have H := H1
                clear H1
                replace H := Option.bind_eq_some_iff.mp H
                obtain ⟨t624, A870, H⟩ := H
                try dsimp only at H
                have A87 := A_ A870
                clear A870
                by_cases c88 : t624 = true
                · subst c88
                  have H1 : ((hopperref04_Check.f a2_0 a2_1 a2_2 a2_3 a2_4 a2_5).bind fun t625 => (hopperlaw05_QueuePuts.j2 kj37 false (!t625) a0_0 a0_1 l0_2 a1_0 a1_1 a1_2 a1_3 a1_4 a1_5 a2_0 a2_1 a2_2 a2_3 a2_4 a2_5)) = some r := by rw [if_pos rfl] at H; exact H
                  clear H
                  have H := H1
                  clear H1
                  replace H := Option.bind_eq_some_iff.mp H
                  obtain ⟨t625, A890, H⟩ := H
                  try dsimp only at H
                  have A89 := A_ A890
                  clear A890
                  have H' := A_ H
                  clear H; have hnb90 := NB583_584.out; have hnc90 := NB584_583.out; have hnb91 := NB583_585.out; have hnc91 := NB585_583.out; have hnb92 := NB583_595.out; have hnc92 := NB595_583.out; have hnb93 := NB583_603.out; have hnc93 := NB603_583.out; have hnb94 := NB583_622.out; have hnc94 := NB622_583.out; have hcz95_0 : w77.cell? ⟨gb583, 0, none⟩ = some (.int .i64 a0_0) := (blk_cell BK583.out 0).trans rfl; have hcz95_1 : w77.cell? ⟨gb583, 1, none⟩ = some (.int .i64 a0_1) := (blk_cell BK583.out 1).trans rfl; have hcz95_2 : w77.cell? ⟨gb583, 2, none⟩ = some (.slice A0_2 l0_2.length c0_2) := (blk_cell BK583.out 2).trans rfl; have hfz95_0 := blk_frozen BK583.out 0; have hfz95_1 := blk_frozen BK583.out 1; have hfz95_2 := blk_frozen BK583.out 2
                  go_wp2_with (first | (go_at_call 54; (with_reducible refine (queue_Check.calls kj37 a0_0 a0_1 _ _ l0_2 16 true _ ?side1 ?side2 A85.out).mono ?_); (case side1 => exact Kd.C_below HR0_2.out (by repeat (first | (with_reducible first | exact HB.out | apply wa_ | apply wn_ | apply wd_ | refine ws_ ?_ GE583.out | refine ws_ ?_ GE584.out | refine ws_ ?_ GE585.out | refine ws_ ?_ GE595.out | refine ws_ ?_ GE603.out | refine ws_ ?_ GE622.out) | exact HB.out))); (case side2 => exact HC0_2.out); rintro e w96 ⟨rfl, hb⟩; have n0_ := A_ (Kd.R_below (by (with_reducible repeat (first | apply ra_ | apply rn_ | apply rd_)); exact (Kd.R_mono (f6_ (g := gb622) (Kd.R_mono HO_596002.out (fun k_ hk => (⟨hk, hk.2.2.2.2⟩ : _ ∧ k_ ≠ gb622))) (fun _ hk => hk.2) (.int .i64 t615) (.int .i64 t616) (.int .i64 t617) (.int .i64 t618) (.int .i64 t619) (.string t620)) (fun _ h_ => h_.1))) hb); have n1_ := A_ (Kd.R_below (by (with_reducible repeat (first | apply ra_ | apply rn_ | apply rd_)); exact (Kd.R_mono (f6_ (g := gb622) (Kd.R_mono HO614.out (fun k_ hk => (⟨hk, hk.2.2.2.2⟩ : _ ∧ k_ ≠ gb622))) (fun _ hk => hk.2) (.int .i64 t615) (.int .i64 t616) (.int .i64 t617) (.int .i64 t618) (.int .i64 t619) (.string t620)) (fun _ h_ => h_.1))) hb); have n2_ := A_ (blk_below (g := gb583) (o := .cells #[.int .i64 a0_0, .int .i64 a0_1, .slice A0_2 l0_2.length c0_2] 46 (0, 0)) (by (with_reducible repeat (first | refine bn_ ?_ _ | refine bd_ ?_ | refine ba_ ?_ _)); refine blk_far ?_ NB583_622.out _; (with_reducible repeat (first | refine bn_ ?_ _ | refine bd_ ?_ | refine ba_ ?_ _)); refine blk_far ?_ NB583_622.out _; (with_reducible repeat (first | refine bn_ ?_ _ | refine bd_ ?_ | refine ba_ ?_ _)); refine blk_far ?_ NB583_622.out _; (with_reducible repeat (first | refine bn_ ?_ _ | refine bd_ ?_ | refine ba_ ?_ _)); refine blk_far ?_ NB583_622.out _; (with_reducible repeat (first | refine bn_ ?_ _ | refine bd_ ?_ | refine ba_ ?_ _)); refine blk_far ?_ NB583_622.out _; (with_reducible repeat (first | refine bn_ ?_ _ | refine bd_ ?_ | refine ba_ ?_ _)); refine blk_far ?_ NB583_622.out _; (with_reducible repeat (first | refine bn_ ?_ _ | refine bd_ ?_ | refine ba_ ?_ _)); exact BK583.out) hb); have n3_ := A_ (blk_below (g := gb584) (o := .cells #[.int .i64 a1_0, .int .i64 a1_1, .int .i64 a1_2, .int .i64 a1_3, .int .i64 a1_4, .string a1_5] 24 (0, 0)) (by (with_reducible repeat (first | refine bn_ ?_ _ | refine bd_ ?_ | refine ba_ ?_ _)); refine blk_far ?_ NB584_622.out _; (with_reducible repeat (first | refine bn_ ?_ _ | refine bd_ ?_ | refine ba_ ?_ _)); refine blk_far ?_ NB584_622.out _; (with_reducible repeat (first | refine bn_ ?_ _ | refine bd_ ?_ | refine ba_ ?_ _)); refine blk_far ?_ NB584_622.out _; (with_reducible repeat (first | refine bn_ ?_ _ | refine bd_ ?_ | refine ba_ ?_ _)); refine blk_far ?_ NB584_622.out _; (with_reducible repeat (first | refine bn_ ?_ _ | refine bd_ ?_ | refine ba_ ?_ _)); refine blk_far ?_ NB584_622.out _; (with_reducible repeat (first | refine bn_ ?_ _ | refine bd_ ?_ | refine ba_ ?_ _)); refine blk_far ?_ NB584_622.out _; (with_reducible repeat (first | refine bn_ ?_ _ | refine bd_ ?_ | refine ba_ ?_ _)); exact BK584.out) hb); have n4_ := A_ (blk_below (g := gb585) (o := .cells #[.int .i64 a2_0, .int .i64 a2_1, .int .i64 a2_2, .int .i64 a2_3, .int .i64 a2_4, .string a2_5] 24 (0, 0)) (by (with_reducible repeat (first | refine bn_ ?_ _ | refine bd_ ?_ | refine ba_ ?_ _)); refine blk_far ?_ NB585_622.out _; (with_reducible repeat (first | refine bn_ ?_ _ | refine bd_ ?_ | refine ba_ ?_ _)); refine blk_far ?_ NB585_622.out _; (with_reducible repeat (first | refine bn_ ?_ _ | refine bd_ ?_ | refine ba_ ?_ _)); refine blk_far ?_ NB585_622.out _; (with_reducible repeat (first | refine bn_ ?_ _ | refine bd_ ?_ | refine ba_ ?_ _)); refine blk_far ?_ NB585_622.out _; (with_reducible repeat (first | refine bn_ ?_ _ | refine bd_ ?_ | refine ba_ ?_ _)); refine blk_far ?_ NB585_622.out _; (with_reducible repeat (first | refine bn_ ?_ _ | refine bd_ ?_ | refine ba_ ?_ _)); refine blk_far ?_ NB585_622.out _; (with_reducible repeat (first | refine bn_ ?_ _ | refine bd_ ?_ | refine ba_ ?_ _)); exact BK585.out) hb); have n5_ := A_ (blk_below (g := gb595) (o := .cells #[.int .i64 t590, .int .i64 t591, .slice Ao50 t592.length co50] 46 (0, 0)) (by (with_reducible repeat (first | refine bn_ ?_ _ | refine bd_ ?_ | refine ba_ ?_ _)); refine blk_far ?_ NB595_622.out _; (with_reducible repeat (first | refine bn_ ?_ _ | refine bd_ ?_ | refine ba_ ?_ _)); refine blk_far ?_ NB595_622.out _; (with_reducible repeat (first | refine bn_ ?_ _ | refine bd_ ?_ | refine ba_ ?_ _)); refine blk_far ?_ NB595_622.out _; (with_reducible repeat (first | refine bn_ ?_ _ | refine bd_ ?_ | refine ba_ ?_ _)); refine blk_far ?_ NB595_622.out _; (with_reducible repeat (first | refine bn_ ?_ _ | refine bd_ ?_ | refine ba_ ?_ _)); refine blk_far ?_ NB595_622.out _; (with_reducible repeat (first | refine bn_ ?_ _ | refine bd_ ?_ | refine ba_ ?_ _)); refine blk_far ?_ NB595_622.out _; (with_reducible repeat (first | refine bn_ ?_ _ | refine bd_ ?_ | refine ba_ ?_ _)); exact BK595.out) hb); have n6_ := A_ (blk_below (g := gb603) (o := .cells #[.int .i64 t596, .int .i64 t597, .int .i64 t598, .int .i64 t599, .int .i64 t600, .string t601] 24 (0, 0)) (by (with_reducible repeat (first | refine bn_ ?_ _ | refine bd_ ?_ | refine ba_ ?_ _)); refine blk_far ?_ NB603_622.out _; (with_reducible repeat (first | refine bn_ ?_ _ | refine bd_ ?_ | refine ba_ ?_ _)); refine blk_far ?_ NB603_622.out _; (with_reducible repeat (first | refine bn_ ?_ _ | refine bd_ ?_ | refine ba_ ?_ _)); refine blk_far ?_ NB603_622.out _; (with_reducible repeat (first | refine bn_ ?_ _ | refine bd_ ?_ | refine ba_ ?_ _)); refine blk_far ?_ NB603_622.out _; (with_reducible repeat (first | refine bn_ ?_ _ | refine bd_ ?_ | refine ba_ ?_ _)); refine blk_far ?_ NB603_622.out _; (with_reducible repeat (first | refine bn_ ?_ _ | refine bd_ ?_ | refine ba_ ?_ _)); refine blk_far ?_ NB603_622.out _; (with_reducible repeat (first | refine bn_ ?_ _ | refine bd_ ?_ | refine ba_ ?_ _)); exact BK603.out) hb); have n7_ := A_ (blk_below (g := gb622) (o := .cells #[.int .i64 t615, .int .i64 t616, .int .i64 t617, .int .i64 t618, .int .i64 t619, .string t620] 24 (0, 0)) (by (with_reducible repeat (first | refine bn_ ?_ _ | refine bd_ ?_ | refine ba_ ?_ _)); refine blk_put (cs := #[.int .i64 t615, .int .i64 t616, .int .i64 t617, .int .i64 t618, .int .i64 t619, .string (⟨#[]⟩ : ByteArray)]) ?_ 5 _ rfl; (with_reducible repeat (first | refine bn_ ?_ _ | refine bd_ ?_ | refine ba_ ?_ _)); refine blk_put (cs := #[.int .i64 t615, .int .i64 t616, .int .i64 t617, .int .i64 t618, .int .i64 0, .string (⟨#[]⟩ : ByteArray)]) ?_ 4 _ rfl; (with_reducible repeat (first | refine bn_ ?_ _ | refine bd_ ?_ | refine ba_ ?_ _)); refine blk_put (cs := #[.int .i64 t615, .int .i64 t616, .int .i64 t617, .int .i64 0, .int .i64 0, .string (⟨#[]⟩ : ByteArray)]) ?_ 3 _ rfl; (with_reducible repeat (first | refine bn_ ?_ _ | refine bd_ ?_ | refine ba_ ?_ _)); refine blk_put (cs := #[.int .i64 t615, .int .i64 t616, .int .i64 0, .int .i64 0, .int .i64 0, .string (⟨#[]⟩ : ByteArray)]) ?_ 2 _ rfl; (with_reducible repeat (first | refine bn_ ?_ _ | refine bd_ ?_ | refine ba_ ?_ _)); refine blk_put (cs := #[.int .i64 t615, .int .i64 0, .int .i64 0, .int .i64 0, .int .i64 0, .string (⟨#[]⟩ : ByteArray)]) ?_ 1 _ rfl; (with_reducible repeat (first | refine bn_ ?_ _ | refine bd_ ?_ | refine ba_ ?_ _)); refine blk_put (cs := #[.int .i64 0, .int .i64 0, .int .i64 0, .int .i64 0, .int .i64 0, .string (⟨#[]⟩ : ByteArray)]) ?_ 0 _ rfl; (with_reducible repeat (first | refine bn_ ?_ _ | refine bd_ ?_ | refine ba_ ?_ _)); exact BK622.out) hb); have n8_ := A_ (below_step (by repeat (first | (with_reducible first | exact HB.out | apply wa_ | apply wn_ | apply wd_ | refine ws_ ?_ GE583.out | refine ws_ ?_ GE584.out | refine ws_ ?_ GE585.out | refine ws_ ?_ GE595.out | refine ws_ ?_ GE603.out | refine ws_ ?_ GE622.out) | exact HB.out)) hb); clear HO_596002; clear HO614; clear BK583; clear BK584; clear BK585; clear BK595; clear BK603; clear BK622; clear HB; have HO_596002 := n0_; have HO614 := n1_; have BK583 := n2_; have BK584 := n3_; have BK585 := n4_; have BK595 := n5_; have BK603 := n6_; have BK622 := n7_; have HB := n8_; clear n0_ n1_ n2_ n3_ n4_ n5_ n6_ n7_ n8_; (try clear hb); (try clear hb2); (try clear hk); (try clear hi); have hnb97 := NB584_585.out; have hnc97 := NB585_584.out; have hnb98 := NB584_595.out; have hnc98 := NB595_584.out; have hnb99 := NB584_603.out; have hnc99 := NB603_584.out; have hnb100 := NB584_622.out; have hnc100 := NB622_584.out; have hcz101_0 : w96.cell? ⟨gb584, 0, none⟩ = some (.int .i64 a1_0) := (blk_cell BK584.out 0).trans rfl; have hcz101_1 : w96.cell? ⟨gb584, 1, none⟩ = some (.int .i64 a1_1) := (blk_cell BK584.out 1).trans rfl; have hcz101_2 : w96.cell? ⟨gb584, 2, none⟩ = some (.int .i64 a1_2) := (blk_cell BK584.out 2).trans rfl; have hcz101_3 : w96.cell? ⟨gb584, 3, none⟩ = some (.int .i64 a1_3) := (blk_cell BK584.out 3).trans rfl; have hcz101_4 : w96.cell? ⟨gb584, 4, none⟩ = some (.int .i64 a1_4) := (blk_cell BK584.out 4).trans rfl; have hcz101_5 : w96.cell? ⟨gb584, 5, none⟩ = some (.string a1_5) := (blk_cell BK584.out 5).trans rfl; have hfz101_0 := blk_frozen BK584.out 0; have hfz101_1 := blk_frozen BK584.out 1; have hfz101_2 := blk_frozen BK584.out 2; have hfz101_3 := blk_frozen BK584.out 3; have hfz101_4 := blk_frozen BK584.out 4; have hfz101_5 := blk_frozen BK584.out 5) | (go_at_call 67; (with_reducible refine (hopperref04_Check.calls a1_0 a1_1 a1_2 a1_3 a1_4 a1_5 true _ A87.out).mono ?_); rintro e w102 ⟨rfl, hb⟩; have n0_ := A_ (Kd.R_below (by (with_reducible repeat (first | apply ra_ | apply rn_ | apply rd_)); exact HO_596002.out) hb); have n1_ := A_ (Kd.R_below (by (with_reducible repeat (first | apply ra_ | apply rn_ | apply rd_)); exact HO614.out) hb); have n2_ := A_ (blk_below (g := gb583) (o := .cells #[.int .i64 a0_0, .int .i64 a0_1, .slice A0_2 l0_2.length c0_2] 46 (0, 0)) (by (with_reducible repeat (first | refine bn_ ?_ _ | refine bd_ ?_ | refine ba_ ?_ _)); exact BK583.out) hb); have n3_ := A_ (blk_below (g := gb584) (o := .cells #[.int .i64 a1_0, .int .i64 a1_1, .int .i64 a1_2, .int .i64 a1_3, .int .i64 a1_4, .string a1_5] 24 (0, 0)) (by (with_reducible repeat (first | refine bn_ ?_ _ | refine bd_ ?_ | refine ba_ ?_ _)); exact BK584.out) hb); have n4_ := A_ (blk_below (g := gb585) (o := .cells #[.int .i64 a2_0, .int .i64 a2_1, .int .i64 a2_2, .int .i64 a2_3, .int .i64 a2_4, .string a2_5] 24 (0, 0)) (by (with_reducible repeat (first | refine bn_ ?_ _ | refine bd_ ?_ | refine ba_ ?_ _)); exact BK585.out) hb); have n5_ := A_ (blk_below (g := gb595) (o := .cells #[.int .i64 t590, .int .i64 t591, .slice Ao50 t592.length co50] 46 (0, 0)) (by (with_reducible repeat (first | refine bn_ ?_ _ | refine bd_ ?_ | refine ba_ ?_ _)); exact BK595.out) hb); have n6_ := A_ (blk_below (g := gb603) (o := .cells #[.int .i64 t596, .int .i64 t597, .int .i64 t598, .int .i64 t599, .int .i64 t600, .string t601] 24 (0, 0)) (by (with_reducible repeat (first | refine bn_ ?_ _ | refine bd_ ?_ | refine ba_ ?_ _)); exact BK603.out) hb); have n7_ := A_ (blk_below (g := gb622) (o := .cells #[.int .i64 t615, .int .i64 t616, .int .i64 t617, .int .i64 t618, .int .i64 t619, .string t620] 24 (0, 0)) (by (with_reducible repeat (first | refine bn_ ?_ _ | refine bd_ ?_ | refine ba_ ?_ _)); exact BK622.out) hb); have n8_ := A_ (below_step (by repeat (first | (with_reducible first | exact HB.out | apply wa_ | apply wn_ | apply wd_ | refine ws_ ?_ GE583.out | refine ws_ ?_ GE584.out | refine ws_ ?_ GE585.out | refine ws_ ?_ GE595.out | refine ws_ ?_ GE603.out | refine ws_ ?_ GE622.out) | exact HB.out)) hb); clear HO_596002; clear HO614; clear BK583; clear BK584; clear BK585; clear BK595; clear BK603; clear BK622; clear HB; have HO_596002 := n0_; have HO614 := n1_; have BK583 := n2_; have BK584 := n3_; have BK585 := n4_; have BK595 := n5_; have BK603 := n6_; have BK622 := n7_; have HB := n8_; clear n0_ n1_ n2_ n3_ n4_ n5_ n6_ n7_ n8_; (try clear hb); (try clear hb2); (try clear hk); (try clear hi); have hnb103 := NB585_595.out; have hnc103 := NB595_585.out; have hnb104 := NB585_603.out; have hnc104 := NB603_585.out; have hnb105 := NB585_622.out; have hnc105 := NB622_585.out; have hcz106_0 : w102.cell? ⟨gb585, 0, none⟩ = some (.int .i64 a2_0) := (blk_cell BK585.out 0).trans rfl; have hcz106_1 : w102.cell? ⟨gb585, 1, none⟩ = some (.int .i64 a2_1) := (blk_cell BK585.out 1).trans rfl; have hcz106_2 : w102.cell? ⟨gb585, 2, none⟩ = some (.int .i64 a2_2) := (blk_cell BK585.out 2).trans rfl; have hcz106_3 : w102.cell? ⟨gb585, 3, none⟩ = some (.int .i64 a2_3) := (blk_cell BK585.out 3).trans rfl; have hcz106_4 : w102.cell? ⟨gb585, 4, none⟩ = some (.int .i64 a2_4) := (blk_cell BK585.out 4).trans rfl; have hcz106_5 : w102.cell? ⟨gb585, 5, none⟩ = some (.string a2_5) := (blk_cell BK585.out 5).trans rfl; have hfz106_0 := blk_frozen BK585.out 0; have hfz106_1 := blk_frozen BK585.out 1; have hfz106_2 := blk_frozen BK585.out 2; have hfz106_3 := blk_frozen BK585.out 3; have hfz106_4 := blk_frozen BK585.out 4; have hfz106_5 := blk_frozen BK585.out 5) | (go_at_call 67; (with_reducible refine (hopperref04_Check.calls a2_0 a2_1 a2_2 a2_3 a2_4 a2_5 t625 _ A89.out).mono ?_); rintro e w107 ⟨rfl, hb⟩; have n0_ := A_ (Kd.R_below (by (with_reducible repeat (first | apply ra_ | apply rn_ | apply rd_)); exact HO_596002.out) hb); have n1_ := A_ (Kd.R_below (by (with_reducible repeat (first | apply ra_ | apply rn_ | apply rd_)); exact HO614.out) hb); have n2_ := A_ (blk_below (g := gb583) (o := .cells #[.int .i64 a0_0, .int .i64 a0_1, .slice A0_2 l0_2.length c0_2] 46 (0, 0)) (by (with_reducible repeat (first | refine bn_ ?_ _ | refine bd_ ?_ | refine ba_ ?_ _)); exact BK583.out) hb); have n3_ := A_ (blk_below (g := gb584) (o := .cells #[.int .i64 a1_0, .int .i64 a1_1, .int .i64 a1_2, .int .i64 a1_3, .int .i64 a1_4, .string a1_5] 24 (0, 0)) (by (with_reducible repeat (first | refine bn_ ?_ _ | refine bd_ ?_ | refine ba_ ?_ _)); exact BK584.out) hb); have n4_ := A_ (blk_below (g := gb585) (o := .cells #[.int .i64 a2_0, .int .i64 a2_1, .int .i64 a2_2, .int .i64 a2_3, .int .i64 a2_4, .string a2_5] 24 (0, 0)) (by (with_reducible repeat (first | refine bn_ ?_ _ | refine bd_ ?_ | refine ba_ ?_ _)); exact BK585.out) hb); have n5_ := A_ (blk_below (g := gb595) (o := .cells #[.int .i64 t590, .int .i64 t591, .slice Ao50 t592.length co50] 46 (0, 0)) (by (with_reducible repeat (first | refine bn_ ?_ _ | refine bd_ ?_ | refine ba_ ?_ _)); exact BK595.out) hb); have n6_ := A_ (blk_below (g := gb603) (o := .cells #[.int .i64 t596, .int .i64 t597, .int .i64 t598, .int .i64 t599, .int .i64 t600, .string t601] 24 (0, 0)) (by (with_reducible repeat (first | refine bn_ ?_ _ | refine bd_ ?_ | refine ba_ ?_ _)); exact BK603.out) hb); have n7_ := A_ (blk_below (g := gb622) (o := .cells #[.int .i64 t615, .int .i64 t616, .int .i64 t617, .int .i64 t618, .int .i64 t619, .string t620] 24 (0, 0)) (by (with_reducible repeat (first | refine bn_ ?_ _ | refine bd_ ?_ | refine ba_ ?_ _)); exact BK622.out) hb); have n8_ := A_ (below_step (by repeat (first | (with_reducible first | exact HB.out | apply wa_ | apply wn_ | apply wd_ | refine ws_ ?_ GE583.out | refine ws_ ?_ GE584.out | refine ws_ ?_ GE585.out | refine ws_ ?_ GE595.out | refine ws_ ?_ GE603.out | refine ws_ ?_ GE622.out) | exact HB.out)) hb); clear HO_596002; clear HO614; clear BK583; clear BK584; clear BK585; clear BK595; clear BK603; clear BK622; clear HB; have HO_596002 := n0_; have HO614 := n1_; have BK583 := n2_; have BK584 := n3_; have BK585 := n4_; have BK595 := n5_; have BK603 := n6_; have BK622 := n7_; have HB := n8_; clear n0_ n1_ n2_ n3_ n4_ n5_ n6_ n7_ n8_; (try clear hb); (try clear hb2); (try clear hk); (try clear hi)))
                  go_meet
                  case rel => exact ⟨_, (!t625), (by first | rfl | (simp; done) | (simp [*]; done)), H', ⟨by have := HJ3.out; have := HJ37.out; first | omega | exact Nat.le_refl _⟩, ⟨by (with_reducible repeat (first | apply ra_ | apply rn_ | apply rd_)); exact Kd.R_mono HO_596002.out (fun _ hk => ⟨hk.2.1, ⟨hk.2.2.1, ⟨hk.2.2.2.1, hk.2.2.2.2⟩⟩⟩)⟩, ⟨by (with_reducible repeat (first | refine bn_ ?_ _ | refine bd_ ?_ | refine ba_ ?_ _)); exact BK583.out⟩, ⟨by (with_reducible repeat (first | refine bn_ ?_ _ | refine bd_ ?_ | refine ba_ ?_ _)); exact BK584.out⟩, ⟨by (with_reducible repeat (first | refine bn_ ?_ _ | refine bd_ ?_ | refine ba_ ?_ _)); exact BK585.out⟩, ⟨by (with_reducible repeat (first | refine bn_ ?_ _ | refine bd_ ?_ | refine ba_ ?_ _)); exact BK595.out⟩, ⟨by (with_reducible repeat (first | refine bn_ ?_ _ | refine bd_ ?_ | refine ba_ ?_ _)); exact BK603.out⟩, ⟨by (with_reducible repeat (first | refine bn_ ?_ _ | refine bd_ ?_ | refine ba_ ?_ _)); exact BK622.out⟩, ⟨by repeat (first | (with_reducible first | exact HB.out | apply wa_ | apply wn_ | apply wd_ | refine ws_ ?_ GE583.out | refine ws_ ?_ GE584.out | refine ws_ ?_ GE585.out | refine ws_ ?_ GE595.out | refine ws_ ?_ GE603.out | refine ws_ ?_ GE622.out) | exact HB.out)⟩⟩
                · replace c88 := Bool.eq_false_iff.mpr c88
                  subst c88
                  have H1 : (hopperlaw05_QueuePuts.j2 kj37 false true a0_0 a0_1 l0_2 a1_0 a1_1 a1_2 a1_3 a1_4 a1_5 a2_0 a2_1 a2_2 a2_3 a2_4 a2_5) = some r := by rw [if_neg (show ¬ (false = true) by decide)] at H; exact H
                  clear H
                  have H := H1
                  clear H1
                  have H' := A_ H
                  clear H; have hnb108 := NB583_584.out; have hnc108 := NB584_583.out; have hnb109 := NB583_585.out; have hnc109 := NB585_583.out; have hnb110 := NB583_595.out; have hnc110 := NB595_583.out; have hnb111 := NB583_603.out; have hnc111 := NB603_583.out; have hnb112 := NB583_622.out; have hnc112 := NB622_583.out; have hcz113_0 : w77.cell? ⟨gb583, 0, none⟩ = some (.int .i64 a0_0) := (blk_cell BK583.out 0).trans rfl; have hcz113_1 : w77.cell? ⟨gb583, 1, none⟩ = some (.int .i64 a0_1) := (blk_cell BK583.out 1).trans rfl; have hcz113_2 : w77.cell? ⟨gb583, 2, none⟩ = some (.slice A0_2 l0_2.length c0_2) := (blk_cell BK583.out 2).trans rfl; have hfz113_0 := blk_frozen BK583.out 0; have hfz113_1 := blk_frozen BK583.out 1; have hfz113_2 := blk_frozen BK583.out 2
                  go_wp2_with (first | (go_at_call 54; (with_reducible refine (queue_Check.calls kj37 a0_0 a0_1 _ _ l0_2 16 true _ ?side1 ?side2 A85.out).mono ?_); (case side1 => exact Kd.C_below HR0_2.out (by repeat (first | (with_reducible first | exact HB.out | apply wa_ | apply wn_ | apply wd_ | refine ws_ ?_ GE583.out | refine ws_ ?_ GE584.out | refine ws_ ?_ GE585.out | refine ws_ ?_ GE595.out | refine ws_ ?_ GE603.out | refine ws_ ?_ GE622.out) | exact HB.out))); (case side2 => exact HC0_2.out); rintro e w114 ⟨rfl, hb⟩; have n0_ := A_ (Kd.R_below (by (with_reducible repeat (first | apply ra_ | apply rn_ | apply rd_)); exact (Kd.R_mono (f6_ (g := gb622) (Kd.R_mono HO_596002.out (fun k_ hk => (⟨hk, hk.2.2.2.2⟩ : _ ∧ k_ ≠ gb622))) (fun _ hk => hk.2) (.int .i64 t615) (.int .i64 t616) (.int .i64 t617) (.int .i64 t618) (.int .i64 t619) (.string t620)) (fun _ h_ => h_.1))) hb); have n1_ := A_ (Kd.R_below (by (with_reducible repeat (first | apply ra_ | apply rn_ | apply rd_)); exact (Kd.R_mono (f6_ (g := gb622) (Kd.R_mono HO614.out (fun k_ hk => (⟨hk, hk.2.2.2.2⟩ : _ ∧ k_ ≠ gb622))) (fun _ hk => hk.2) (.int .i64 t615) (.int .i64 t616) (.int .i64 t617) (.int .i64 t618) (.int .i64 t619) (.string t620)) (fun _ h_ => h_.1))) hb); have n2_ := A_ (blk_below (g := gb583) (o := .cells #[.int .i64 a0_0, .int .i64 a0_1, .slice A0_2 l0_2.length c0_2] 46 (0, 0)) (by (with_reducible repeat (first | refine bn_ ?_ _ | refine bd_ ?_ | refine ba_ ?_ _)); refine blk_far ?_ NB583_622.out _; (with_reducible repeat (first | refine bn_ ?_ _ | refine bd_ ?_ | refine ba_ ?_ _)); refine blk_far ?_ NB583_622.out _; (with_reducible repeat (first | refine bn_ ?_ _ | refine bd_ ?_ | refine ba_ ?_ _)); refine blk_far ?_ NB583_622.out _; (with_reducible repeat (first | refine bn_ ?_ _ | refine bd_ ?_ | refine ba_ ?_ _)); refine blk_far ?_ NB583_622.out _; (with_reducible repeat (first | refine bn_ ?_ _ | refine bd_ ?_ | refine ba_ ?_ _)); refine blk_far ?_ NB583_622.out _; (with_reducible repeat (first | refine bn_ ?_ _ | refine bd_ ?_ | refine ba_ ?_ _)); refine blk_far ?_ NB583_622.out _; (with_reducible repeat (first | refine bn_ ?_ _ | refine bd_ ?_ | refine ba_ ?_ _)); exact BK583.out) hb); have n3_ := A_ (blk_below (g := gb584) (o := .cells #[.int .i64 a1_0, .int .i64 a1_1, .int .i64 a1_2, .int .i64 a1_3, .int .i64 a1_4, .string a1_5] 24 (0, 0)) (by (with_reducible repeat (first | refine bn_ ?_ _ | refine bd_ ?_ | refine ba_ ?_ _)); refine blk_far ?_ NB584_622.out _; (with_reducible repeat (first | refine bn_ ?_ _ | refine bd_ ?_ | refine ba_ ?_ _)); refine blk_far ?_ NB584_622.out _; (with_reducible repeat (first | refine bn_ ?_ _ | refine bd_ ?_ | refine ba_ ?_ _)); refine blk_far ?_ NB584_622.out _; (with_reducible repeat (first | refine bn_ ?_ _ | refine bd_ ?_ | refine ba_ ?_ _)); refine blk_far ?_ NB584_622.out _; (with_reducible repeat (first | refine bn_ ?_ _ | refine bd_ ?_ | refine ba_ ?_ _)); refine blk_far ?_ NB584_622.out _; (with_reducible repeat (first | refine bn_ ?_ _ | refine bd_ ?_ | refine ba_ ?_ _)); refine blk_far ?_ NB584_622.out _; (with_reducible repeat (first | refine bn_ ?_ _ | refine bd_ ?_ | refine ba_ ?_ _)); exact BK584.out) hb); have n4_ := A_ (blk_below (g := gb585) (o := .cells #[.int .i64 a2_0, .int .i64 a2_1, .int .i64 a2_2, .int .i64 a2_3, .int .i64 a2_4, .string a2_5] 24 (0, 0)) (by (with_reducible repeat (first | refine bn_ ?_ _ | refine bd_ ?_ | refine ba_ ?_ _)); refine blk_far ?_ NB585_622.out _; (with_reducible repeat (first | refine bn_ ?_ _ | refine bd_ ?_ | refine ba_ ?_ _)); refine blk_far ?_ NB585_622.out _; (with_reducible repeat (first | refine bn_ ?_ _ | refine bd_ ?_ | refine ba_ ?_ _)); refine blk_far ?_ NB585_622.out _; (with_reducible repeat (first | refine bn_ ?_ _ | refine bd_ ?_ | refine ba_ ?_ _)); refine blk_far ?_ NB585_622.out _; (with_reducible repeat (first | refine bn_ ?_ _ | refine bd_ ?_ | refine ba_ ?_ _)); refine blk_far ?_ NB585_622.out _; (with_reducible repeat (first | refine bn_ ?_ _ | refine bd_ ?_ | refine ba_ ?_ _)); refine blk_far ?_ NB585_622.out _; (with_reducible repeat (first | refine bn_ ?_ _ | refine bd_ ?_ | refine ba_ ?_ _)); exact BK585.out) hb); have n5_ := A_ (blk_below (g := gb595) (o := .cells #[.int .i64 t590, .int .i64 t591, .slice Ao50 t592.length co50] 46 (0, 0)) (by (with_reducible repeat (first | refine bn_ ?_ _ | refine bd_ ?_ | refine ba_ ?_ _)); refine blk_far ?_ NB595_622.out _; (with_reducible repeat (first | refine bn_ ?_ _ | refine bd_ ?_ | refine ba_ ?_ _)); refine blk_far ?_ NB595_622.out _; (with_reducible repeat (first | refine bn_ ?_ _ | refine bd_ ?_ | refine ba_ ?_ _)); refine blk_far ?_ NB595_622.out _; (with_reducible repeat (first | refine bn_ ?_ _ | refine bd_ ?_ | refine ba_ ?_ _)); refine blk_far ?_ NB595_622.out _; (with_reducible repeat (first | refine bn_ ?_ _ | refine bd_ ?_ | refine ba_ ?_ _)); refine blk_far ?_ NB595_622.out _; (with_reducible repeat (first | refine bn_ ?_ _ | refine bd_ ?_ | refine ba_ ?_ _)); refine blk_far ?_ NB595_622.out _; (with_reducible repeat (first | refine bn_ ?_ _ | refine bd_ ?_ | refine ba_ ?_ _)); exact BK595.out) hb); have n6_ := A_ (blk_below (g := gb603) (o := .cells #[.int .i64 t596, .int .i64 t597, .int .i64 t598, .int .i64 t599, .int .i64 t600, .string t601] 24 (0, 0)) (by (with_reducible repeat (first | refine bn_ ?_ _ | refine bd_ ?_ | refine ba_ ?_ _)); refine blk_far ?_ NB603_622.out _; (with_reducible repeat (first | refine bn_ ?_ _ | refine bd_ ?_ | refine ba_ ?_ _)); refine blk_far ?_ NB603_622.out _; (with_reducible repeat (first | refine bn_ ?_ _ | refine bd_ ?_ | refine ba_ ?_ _)); refine blk_far ?_ NB603_622.out _; (with_reducible repeat (first | refine bn_ ?_ _ | refine bd_ ?_ | refine ba_ ?_ _)); refine blk_far ?_ NB603_622.out _; (with_reducible repeat (first | refine bn_ ?_ _ | refine bd_ ?_ | refine ba_ ?_ _)); refine blk_far ?_ NB603_622.out _; (with_reducible repeat (first | refine bn_ ?_ _ | refine bd_ ?_ | refine ba_ ?_ _)); refine blk_far ?_ NB603_622.out _; (with_reducible repeat (first | refine bn_ ?_ _ | refine bd_ ?_ | refine ba_ ?_ _)); exact BK603.out) hb); have n7_ := A_ (blk_below (g := gb622) (o := .cells #[.int .i64 t615, .int .i64 t616, .int .i64 t617, .int .i64 t618, .int .i64 t619, .string t620] 24 (0, 0)) (by (with_reducible repeat (first | refine bn_ ?_ _ | refine bd_ ?_ | refine ba_ ?_ _)); refine blk_put (cs := #[.int .i64 t615, .int .i64 t616, .int .i64 t617, .int .i64 t618, .int .i64 t619, .string (⟨#[]⟩ : ByteArray)]) ?_ 5 _ rfl; (with_reducible repeat (first | refine bn_ ?_ _ | refine bd_ ?_ | refine ba_ ?_ _)); refine blk_put (cs := #[.int .i64 t615, .int .i64 t616, .int .i64 t617, .int .i64 t618, .int .i64 0, .string (⟨#[]⟩ : ByteArray)]) ?_ 4 _ rfl; (with_reducible repeat (first | refine bn_ ?_ _ | refine bd_ ?_ | refine ba_ ?_ _)); refine blk_put (cs := #[.int .i64 t615, .int .i64 t616, .int .i64 t617, .int .i64 0, .int .i64 0, .string (⟨#[]⟩ : ByteArray)]) ?_ 3 _ rfl; (with_reducible repeat (first | refine bn_ ?_ _ | refine bd_ ?_ | refine ba_ ?_ _)); refine blk_put (cs := #[.int .i64 t615, .int .i64 t616, .int .i64 0, .int .i64 0, .int .i64 0, .string (⟨#[]⟩ : ByteArray)]) ?_ 2 _ rfl; (with_reducible repeat (first | refine bn_ ?_ _ | refine bd_ ?_ | refine ba_ ?_ _)); refine blk_put (cs := #[.int .i64 t615, .int .i64 0, .int .i64 0, .int .i64 0, .int .i64 0, .string (⟨#[]⟩ : ByteArray)]) ?_ 1 _ rfl; (with_reducible repeat (first | refine bn_ ?_ _ | refine bd_ ?_ | refine ba_ ?_ _)); refine blk_put (cs := #[.int .i64 0, .int .i64 0, .int .i64 0, .int .i64 0, .int .i64 0, .string (⟨#[]⟩ : ByteArray)]) ?_ 0 _ rfl; (with_reducible repeat (first | refine bn_ ?_ _ | refine bd_ ?_ | refine ba_ ?_ _)); exact BK622.out) hb); have n8_ := A_ (below_step (by repeat (first | (with_reducible first | exact HB.out | apply wa_ | apply wn_ | apply wd_ | refine ws_ ?_ GE583.out | refine ws_ ?_ GE584.out | refine ws_ ?_ GE585.out | refine ws_ ?_ GE595.out | refine ws_ ?_ GE603.out | refine ws_ ?_ GE622.out) | exact HB.out)) hb); clear HO_596002; clear HO614; clear BK583; clear BK584; clear BK585; clear BK595; clear BK603; clear BK622; clear HB; have HO_596002 := n0_; have HO614 := n1_; have BK583 := n2_; have BK584 := n3_; have BK585 := n4_; have BK595 := n5_; have BK603 := n6_; have BK622 := n7_; have HB := n8_; clear n0_ n1_ n2_ n3_ n4_ n5_ n6_ n7_ n8_; (try clear hb); (try clear hb2); (try clear hk); (try clear hi); have hnb115 := NB584_585.out; have hnc115 := NB585_584.out; have hnb116 := NB584_595.out; have hnc116 := NB595_584.out; have hnb117 := NB584_603.out; have hnc117 := NB603_584.out; have hnb118 := NB584_622.out; have hnc118 := NB622_584.out; have hcz119_0 : w114.cell? ⟨gb584, 0, none⟩ = some (.int .i64 a1_0) := (blk_cell BK584.out 0).trans rfl; have hcz119_1 : w114.cell? ⟨gb584, 1, none⟩ = some (.int .i64 a1_1) := (blk_cell BK584.out 1).trans rfl; have hcz119_2 : w114.cell? ⟨gb584, 2, none⟩ = some (.int .i64 a1_2) := (blk_cell BK584.out 2).trans rfl; have hcz119_3 : w114.cell? ⟨gb584, 3, none⟩ = some (.int .i64 a1_3) := (blk_cell BK584.out 3).trans rfl; have hcz119_4 : w114.cell? ⟨gb584, 4, none⟩ = some (.int .i64 a1_4) := (blk_cell BK584.out 4).trans rfl; have hcz119_5 : w114.cell? ⟨gb584, 5, none⟩ = some (.string a1_5) := (blk_cell BK584.out 5).trans rfl; have hfz119_0 := blk_frozen BK584.out 0; have hfz119_1 := blk_frozen BK584.out 1; have hfz119_2 := blk_frozen BK584.out 2; have hfz119_3 := blk_frozen BK584.out 3; have hfz119_4 := blk_frozen BK584.out 4; have hfz119_5 := blk_frozen BK584.out 5) | (go_at_call 67; (with_reducible refine (hopperref04_Check.calls a1_0 a1_1 a1_2 a1_3 a1_4 a1_5 false _ A87.out).mono ?_); rintro e w120 ⟨rfl, hb⟩; have n0_ := A_ (Kd.R_below (by (with_reducible repeat (first | apply ra_ | apply rn_ | apply rd_)); exact HO_596002.out) hb); have n1_ := A_ (Kd.R_below (by (with_reducible repeat (first | apply ra_ | apply rn_ | apply rd_)); exact HO614.out) hb); have n2_ := A_ (blk_below (g := gb583) (o := .cells #[.int .i64 a0_0, .int .i64 a0_1, .slice A0_2 l0_2.length c0_2] 46 (0, 0)) (by (with_reducible repeat (first | refine bn_ ?_ _ | refine bd_ ?_ | refine ba_ ?_ _)); exact BK583.out) hb); have n3_ := A_ (blk_below (g := gb584) (o := .cells #[.int .i64 a1_0, .int .i64 a1_1, .int .i64 a1_2, .int .i64 a1_3, .int .i64 a1_4, .string a1_5] 24 (0, 0)) (by (with_reducible repeat (first | refine bn_ ?_ _ | refine bd_ ?_ | refine ba_ ?_ _)); exact BK584.out) hb); have n4_ := A_ (blk_below (g := gb585) (o := .cells #[.int .i64 a2_0, .int .i64 a2_1, .int .i64 a2_2, .int .i64 a2_3, .int .i64 a2_4, .string a2_5] 24 (0, 0)) (by (with_reducible repeat (first | refine bn_ ?_ _ | refine bd_ ?_ | refine ba_ ?_ _)); exact BK585.out) hb); have n5_ := A_ (blk_below (g := gb595) (o := .cells #[.int .i64 t590, .int .i64 t591, .slice Ao50 t592.length co50] 46 (0, 0)) (by (with_reducible repeat (first | refine bn_ ?_ _ | refine bd_ ?_ | refine ba_ ?_ _)); exact BK595.out) hb); have n6_ := A_ (blk_below (g := gb603) (o := .cells #[.int .i64 t596, .int .i64 t597, .int .i64 t598, .int .i64 t599, .int .i64 t600, .string t601] 24 (0, 0)) (by (with_reducible repeat (first | refine bn_ ?_ _ | refine bd_ ?_ | refine ba_ ?_ _)); exact BK603.out) hb); have n7_ := A_ (blk_below (g := gb622) (o := .cells #[.int .i64 t615, .int .i64 t616, .int .i64 t617, .int .i64 t618, .int .i64 t619, .string t620] 24 (0, 0)) (by (with_reducible repeat (first | refine bn_ ?_ _ | refine bd_ ?_ | refine ba_ ?_ _)); exact BK622.out) hb); have n8_ := A_ (below_step (by repeat (first | (with_reducible first | exact HB.out | apply wa_ | apply wn_ | apply wd_ | refine ws_ ?_ GE583.out | refine ws_ ?_ GE584.out | refine ws_ ?_ GE585.out | refine ws_ ?_ GE595.out | refine ws_ ?_ GE603.out | refine ws_ ?_ GE622.out) | exact HB.out)) hb); clear HO_596002; clear HO614; clear BK583; clear BK584; clear BK585; clear BK595; clear BK603; clear BK622; clear HB; have HO_596002 := n0_; have HO614 := n1_; have BK583 := n2_; have BK584 := n3_; have BK585 := n4_; have BK595 := n5_; have BK603 := n6_; have BK622 := n7_; have HB := n8_; clear n0_ n1_ n2_ n3_ n4_ n5_ n6_ n7_ n8_; (try clear hb); (try clear hb2); (try clear hk); (try clear hi)))
                  go_meet
                  case rel => exact ⟨_, (true), (by first | rfl | (simp; done) | (simp [*]; done)), H', ⟨by have := HJ3.out; have := HJ37.out; first | omega | exact Nat.le_refl _⟩, ⟨by (with_reducible repeat (first | apply ra_ | apply rn_ | apply rd_)); exact Kd.R_mono HO_596002.out (fun _ hk => ⟨hk.2.1, ⟨hk.2.2.1, ⟨hk.2.2.2.1, hk.2.2.2.2⟩⟩⟩)⟩, ⟨by (with_reducible repeat (first | refine bn_ ?_ _ | refine bd_ ?_ | refine ba_ ?_ _)); exact BK583.out⟩, ⟨by (with_reducible repeat (first | refine bn_ ?_ _ | refine bd_ ?_ | refine ba_ ?_ _)); exact BK584.out⟩, ⟨by (with_reducible repeat (first | refine bn_ ?_ _ | refine bd_ ?_ | refine ba_ ?_ _)); exact BK585.out⟩, ⟨by (with_reducible repeat (first | refine bn_ ?_ _ | refine bd_ ?_ | refine ba_ ?_ _)); exact BK595.out⟩, ⟨by (with_reducible repeat (first | refine bn_ ?_ _ | refine bd_ ?_ | refine ba_ ?_ _)); exact BK603.out⟩, ⟨by (with_reducible repeat (first | refine bn_ ?_ _ | refine bd_ ?_ | refine ba_ ?_ _)); exact BK622.out⟩, ⟨by repeat (first | (with_reducible first | exact HB.out | apply wa_ | apply wn_ | apply wd_ | refine ws_ ?_ GE583.out | refine ws_ ?_ GE584.out | refine ws_ ?_ GE585.out | refine ws_ ?_ GE595.out | refine ws_ ?_ GE603.out | refine ws_ ?_ GE622.out) | exact HB.out)⟩⟩
              · replace c86 := Bool.eq_false_iff.mpr c86
                subst c86
                have H1 : (hopperlaw05_QueuePuts.j2 kj37 false true a0_0 a0_1 l0_2 a1_0 a1_1 a1_2 a1_3 a1_4 a1_5 a2_0 a2_1 a2_2 a2_3 a2_4 a2_5) = some r := by rw [if_neg (show ¬ (false = true) by decide)] at H; exact H
                clear H
                have H := H1
                clear H1
                have H' := A_ H
                clear H; have hnb121 := NB583_584.out; have hnc121 := NB584_583.out; have hnb122 := NB583_585.out; have hnc122 := NB585_583.out; have hnb123 := NB583_595.out; have hnc123 := NB595_583.out; have hnb124 := NB583_603.out; have hnc124 := NB603_583.out; have hnb125 := NB583_622.out; have hnc125 := NB622_583.out; have hcz126_0 : w77.cell? ⟨gb583, 0, none⟩ = some (.int .i64 a0_0) := (blk_cell BK583.out 0).trans rfl; have hcz126_1 : w77.cell? ⟨gb583, 1, none⟩ = some (.int .i64 a0_1) := (blk_cell BK583.out 1).trans rfl; have hcz126_2 : w77.cell? ⟨gb583, 2, none⟩ = some (.slice A0_2 l0_2.length c0_2) := (blk_cell BK583.out 2).trans rfl; have hfz126_0 := blk_frozen BK583.out 0; have hfz126_1 := blk_frozen BK583.out 1; have hfz126_2 := blk_frozen BK583.out 2
                go_wp2_with (first | (go_at_call 54; (with_reducible refine (queue_Check.calls kj37 a0_0 a0_1 _ _ l0_2 16 false _ ?side1 ?side2 A85.out).mono ?_); (case side1 => exact Kd.C_below HR0_2.out (by repeat (first | (with_reducible first | exact HB.out | apply wa_ | apply wn_ | apply wd_ | refine ws_ ?_ GE583.out | refine ws_ ?_ GE584.out | refine ws_ ?_ GE585.out | refine ws_ ?_ GE595.out | refine ws_ ?_ GE603.out | refine ws_ ?_ GE622.out) | exact HB.out))); (case side2 => exact HC0_2.out); rintro e w127 ⟨rfl, hb⟩; have n0_ := A_ (Kd.R_below (by (with_reducible repeat (first | apply ra_ | apply rn_ | apply rd_)); exact (Kd.R_mono (f6_ (g := gb622) (Kd.R_mono HO_596002.out (fun k_ hk => (⟨hk, hk.2.2.2.2⟩ : _ ∧ k_ ≠ gb622))) (fun _ hk => hk.2) (.int .i64 t615) (.int .i64 t616) (.int .i64 t617) (.int .i64 t618) (.int .i64 t619) (.string t620)) (fun _ h_ => h_.1))) hb); have n1_ := A_ (Kd.R_below (by (with_reducible repeat (first | apply ra_ | apply rn_ | apply rd_)); exact (Kd.R_mono (f6_ (g := gb622) (Kd.R_mono HO614.out (fun k_ hk => (⟨hk, hk.2.2.2.2⟩ : _ ∧ k_ ≠ gb622))) (fun _ hk => hk.2) (.int .i64 t615) (.int .i64 t616) (.int .i64 t617) (.int .i64 t618) (.int .i64 t619) (.string t620)) (fun _ h_ => h_.1))) hb); have n2_ := A_ (blk_below (g := gb583) (o := .cells #[.int .i64 a0_0, .int .i64 a0_1, .slice A0_2 l0_2.length c0_2] 46 (0, 0)) (by (with_reducible repeat (first | refine bn_ ?_ _ | refine bd_ ?_ | refine ba_ ?_ _)); refine blk_far ?_ NB583_622.out _; (with_reducible repeat (first | refine bn_ ?_ _ | refine bd_ ?_ | refine ba_ ?_ _)); refine blk_far ?_ NB583_622.out _; (with_reducible repeat (first | refine bn_ ?_ _ | refine bd_ ?_ | refine ba_ ?_ _)); refine blk_far ?_ NB583_622.out _; (with_reducible repeat (first | refine bn_ ?_ _ | refine bd_ ?_ | refine ba_ ?_ _)); refine blk_far ?_ NB583_622.out _; (with_reducible repeat (first | refine bn_ ?_ _ | refine bd_ ?_ | refine ba_ ?_ _)); refine blk_far ?_ NB583_622.out _; (with_reducible repeat (first | refine bn_ ?_ _ | refine bd_ ?_ | refine ba_ ?_ _)); refine blk_far ?_ NB583_622.out _; (with_reducible repeat (first | refine bn_ ?_ _ | refine bd_ ?_ | refine ba_ ?_ _)); exact BK583.out) hb); have n3_ := A_ (blk_below (g := gb584) (o := .cells #[.int .i64 a1_0, .int .i64 a1_1, .int .i64 a1_2, .int .i64 a1_3, .int .i64 a1_4, .string a1_5] 24 (0, 0)) (by (with_reducible repeat (first | refine bn_ ?_ _ | refine bd_ ?_ | refine ba_ ?_ _)); refine blk_far ?_ NB584_622.out _; (with_reducible repeat (first | refine bn_ ?_ _ | refine bd_ ?_ | refine ba_ ?_ _)); refine blk_far ?_ NB584_622.out _; (with_reducible repeat (first | refine bn_ ?_ _ | refine bd_ ?_ | refine ba_ ?_ _)); refine blk_far ?_ NB584_622.out _; (with_reducible repeat (first | refine bn_ ?_ _ | refine bd_ ?_ | refine ba_ ?_ _)); refine blk_far ?_ NB584_622.out _; (with_reducible repeat (first | refine bn_ ?_ _ | refine bd_ ?_ | refine ba_ ?_ _)); refine blk_far ?_ NB584_622.out _; (with_reducible repeat (first | refine bn_ ?_ _ | refine bd_ ?_ | refine ba_ ?_ _)); refine blk_far ?_ NB584_622.out _; (with_reducible repeat (first | refine bn_ ?_ _ | refine bd_ ?_ | refine ba_ ?_ _)); exact BK584.out) hb); have n4_ := A_ (blk_below (g := gb585) (o := .cells #[.int .i64 a2_0, .int .i64 a2_1, .int .i64 a2_2, .int .i64 a2_3, .int .i64 a2_4, .string a2_5] 24 (0, 0)) (by (with_reducible repeat (first | refine bn_ ?_ _ | refine bd_ ?_ | refine ba_ ?_ _)); refine blk_far ?_ NB585_622.out _; (with_reducible repeat (first | refine bn_ ?_ _ | refine bd_ ?_ | refine ba_ ?_ _)); refine blk_far ?_ NB585_622.out _; (with_reducible repeat (first | refine bn_ ?_ _ | refine bd_ ?_ | refine ba_ ?_ _)); refine blk_far ?_ NB585_622.out _; (with_reducible repeat (first | refine bn_ ?_ _ | refine bd_ ?_ | refine ba_ ?_ _)); refine blk_far ?_ NB585_622.out _; (with_reducible repeat (first | refine bn_ ?_ _ | refine bd_ ?_ | refine ba_ ?_ _)); refine blk_far ?_ NB585_622.out _; (with_reducible repeat (first | refine bn_ ?_ _ | refine bd_ ?_ | refine ba_ ?_ _)); refine blk_far ?_ NB585_622.out _; (with_reducible repeat (first | refine bn_ ?_ _ | refine bd_ ?_ | refine ba_ ?_ _)); exact BK585.out) hb); have n5_ := A_ (blk_below (g := gb595) (o := .cells #[.int .i64 t590, .int .i64 t591, .slice Ao50 t592.length co50] 46 (0, 0)) (by (with_reducible repeat (first | refine bn_ ?_ _ | refine bd_ ?_ | refine ba_ ?_ _)); refine blk_far ?_ NB595_622.out _; (with_reducible repeat (first | refine bn_ ?_ _ | refine bd_ ?_ | refine ba_ ?_ _)); refine blk_far ?_ NB595_622.out _; (with_reducible repeat (first | refine bn_ ?_ _ | refine bd_ ?_ | refine ba_ ?_ _)); refine blk_far ?_ NB595_622.out _; (with_reducible repeat (first | refine bn_ ?_ _ | refine bd_ ?_ | refine ba_ ?_ _)); refine blk_far ?_ NB595_622.out _; (with_reducible repeat (first | refine bn_ ?_ _ | refine bd_ ?_ | refine ba_ ?_ _)); refine blk_far ?_ NB595_622.out _; (with_reducible repeat (first | refine bn_ ?_ _ | refine bd_ ?_ | refine ba_ ?_ _)); refine blk_far ?_ NB595_622.out _; (with_reducible repeat (first | refine bn_ ?_ _ | refine bd_ ?_ | refine ba_ ?_ _)); exact BK595.out) hb); have n6_ := A_ (blk_below (g := gb603) (o := .cells #[.int .i64 t596, .int .i64 t597, .int .i64 t598, .int .i64 t599, .int .i64 t600, .string t601] 24 (0, 0)) (by (with_reducible repeat (first | refine bn_ ?_ _ | refine bd_ ?_ | refine ba_ ?_ _)); refine blk_far ?_ NB603_622.out _; (with_reducible repeat (first | refine bn_ ?_ _ | refine bd_ ?_ | refine ba_ ?_ _)); refine blk_far ?_ NB603_622.out _; (with_reducible repeat (first | refine bn_ ?_ _ | refine bd_ ?_ | refine ba_ ?_ _)); refine blk_far ?_ NB603_622.out _; (with_reducible repeat (first | refine bn_ ?_ _ | refine bd_ ?_ | refine ba_ ?_ _)); refine blk_far ?_ NB603_622.out _; (with_reducible repeat (first | refine bn_ ?_ _ | refine bd_ ?_ | refine ba_ ?_ _)); refine blk_far ?_ NB603_622.out _; (with_reducible repeat (first | refine bn_ ?_ _ | refine bd_ ?_ | refine ba_ ?_ _)); refine blk_far ?_ NB603_622.out _; (with_reducible repeat (first | refine bn_ ?_ _ | refine bd_ ?_ | refine ba_ ?_ _)); exact BK603.out) hb); have n7_ := A_ (blk_below (g := gb622) (o := .cells #[.int .i64 t615, .int .i64 t616, .int .i64 t617, .int .i64 t618, .int .i64 t619, .string t620] 24 (0, 0)) (by (with_reducible repeat (first | refine bn_ ?_ _ | refine bd_ ?_ | refine ba_ ?_ _)); refine blk_put (cs := #[.int .i64 t615, .int .i64 t616, .int .i64 t617, .int .i64 t618, .int .i64 t619, .string (⟨#[]⟩ : ByteArray)]) ?_ 5 _ rfl; (with_reducible repeat (first | refine bn_ ?_ _ | refine bd_ ?_ | refine ba_ ?_ _)); refine blk_put (cs := #[.int .i64 t615, .int .i64 t616, .int .i64 t617, .int .i64 t618, .int .i64 0, .string (⟨#[]⟩ : ByteArray)]) ?_ 4 _ rfl; (with_reducible repeat (first | refine bn_ ?_ _ | refine bd_ ?_ | refine ba_ ?_ _)); refine blk_put (cs := #[.int .i64 t615, .int .i64 t616, .int .i64 t617, .int .i64 0, .int .i64 0, .string (⟨#[]⟩ : ByteArray)]) ?_ 3 _ rfl; (with_reducible repeat (first | refine bn_ ?_ _ | refine bd_ ?_ | refine ba_ ?_ _)); refine blk_put (cs := #[.int .i64 t615, .int .i64 t616, .int .i64 0, .int .i64 0, .int .i64 0, .string (⟨#[]⟩ : ByteArray)]) ?_ 2 _ rfl; (with_reducible repeat (first | refine bn_ ?_ _ | refine bd_ ?_ | refine ba_ ?_ _)); refine blk_put (cs := #[.int .i64 t615, .int .i64 0, .int .i64 0, .int .i64 0, .int .i64 0, .string (⟨#[]⟩ : ByteArray)]) ?_ 1 _ rfl; (with_reducible repeat (first | refine bn_ ?_ _ | refine bd_ ?_ | refine ba_ ?_ _)); refine blk_put (cs := #[.int .i64 0, .int .i64 0, .int .i64 0, .int .i64 0, .int .i64 0, .string (⟨#[]⟩ : ByteArray)]) ?_ 0 _ rfl; (with_reducible repeat (first | refine bn_ ?_ _ | refine bd_ ?_ | refine ba_ ?_ _)); exact BK622.out) hb); have n8_ := A_ (below_step (by repeat (first | (with_reducible first | exact HB.out | apply wa_ | apply wn_ | apply wd_ | refine ws_ ?_ GE583.out | refine ws_ ?_ GE584.out | refine ws_ ?_ GE585.out | refine ws_ ?_ GE595.out | refine ws_ ?_ GE603.out | refine ws_ ?_ GE622.out) | exact HB.out)) hb); clear HO_596002; clear HO614; clear BK583; clear BK584; clear BK585; clear BK595; clear BK603; clear BK622; clear HB; have HO_596002 := n0_; have HO614 := n1_; have BK583 := n2_; have BK584 := n3_; have BK585 := n4_; have BK595 := n5_; have BK603 := n6_; have BK622 := n7_; have HB := n8_; clear n0_ n1_ n2_ n3_ n4_ n5_ n6_ n7_ n8_; (try clear hb); (try clear hb2); (try clear hk); (try clear hi)))
                go_meet
                case rel => exact ⟨_, (true), (by first | rfl | (simp; done) | (simp [*]; done)), H', ⟨by have := HJ3.out; have := HJ37.out; first | omega | exact Nat.le_refl _⟩, ⟨by (with_reducible repeat (first | apply ra_ | apply rn_ | apply rd_)); exact Kd.R_mono HO_596002.out (fun _ hk => ⟨hk.2.1, ⟨hk.2.2.1, ⟨hk.2.2.2.1, hk.2.2.2.2⟩⟩⟩)⟩, ⟨by (with_reducible repeat (first | refine bn_ ?_ _ | refine bd_ ?_ | refine ba_ ?_ _)); exact BK583.out⟩, ⟨by (with_reducible repeat (first | refine bn_ ?_ _ | refine bd_ ?_ | refine ba_ ?_ _)); exact BK584.out⟩, ⟨by (with_reducible repeat (first | refine bn_ ?_ _ | refine bd_ ?_ | refine ba_ ?_ _)); exact BK585.out⟩, ⟨by (with_reducible repeat (first | refine bn_ ?_ _ | refine bd_ ?_ | refine ba_ ?_ _)); exact BK595.out⟩, ⟨by (with_reducible repeat (first | refine bn_ ?_ _ | refine bd_ ?_ | refine ba_ ?_ _)); exact BK603.out⟩, ⟨by (with_reducible repeat (first | refine bn_ ?_ _ | refine bd_ ?_ | refine ba_ ?_ _)); exact BK622.out⟩, ⟨by repeat (first | (with_reducible first | exact HB.out | apply wa_ | apply wn_ | apply wd_ | refine ws_ ?_ GE583.out | refine ws_ ?_ GE584.out | refine ws_ ?_ GE585.out | refine ws_ ?_ GE595.out | refine ws_ ?_ GE603.out | refine ws_ ?_ GE622.out) | exact HB.out)⟩⟩
            case rest =>
              clear HC71; (try clear c1); (try clear p2); (try clear c5); (try clear c6); (try clear c8); (try clear c9); (try clear c10); (try clear c11); (try clear c12); (try clear c52); (try clear c65); (try clear c84); (try clear c86); (try clear c88); (try clear c90); (try clear c91); (try clear c92); (try clear c93); (try clear c94); (try clear c97); (try clear c98); (try clear c99); (try clear c100); (try clear c103); (try clear c104); (try clear c105); (try clear c108); (try clear c109); (try clear c110); (try clear c111); (try clear c112); (try clear c115); (try clear c116); (try clear c117); (try clear c118); (try clear c121); (try clear c122); (try clear c123); (try clear c124); (try clear c125); (try clear hcz101_0); (try clear hcz101_1); (try clear hcz101_2); (try clear hcz101_3); (try clear hcz101_4); (try clear hcz101_5); (try clear hcz106_0); (try clear hcz106_1); (try clear hcz106_2); (try clear hcz106_3); (try clear hcz106_4); (try clear hcz106_5); (try clear hcz113_0); (try clear hcz113_1); (try clear hcz113_2); (try clear hcz119_0); (try clear hcz119_1); (try clear hcz119_2); (try clear hcz119_3); (try clear hcz119_4); (try clear hcz119_5); (try clear hcz126_0); (try clear hcz126_1); (try clear hcz126_2); (try clear hcz95_0); (try clear hcz95_1); (try clear hcz95_2); (try clear hfz101_0); (try clear hfz101_1); (try clear hfz101_2); (try clear hfz101_3); (try clear hfz101_4); (try clear hfz101_5); (try clear hfz106_0); (try clear hfz106_1); (try clear hfz106_2); (try clear hfz106_3); (try clear hfz106_4); (try clear hfz106_5); (try clear hfz113_0); (try clear hfz113_1); (try clear hfz113_2); (try clear hfz119_0); (try clear hfz119_1); (try clear hfz119_2); (try clear hfz119_3); (try clear hfz119_4); (try clear hfz119_5); (try clear hfz126_0); (try clear hfz126_1); (try clear hfz126_2); (try clear hfz95_0); (try clear hfz95_1); (try clear hfz95_2)
              obtain ⟨kq, x76_70, rfl, HA, HJ70, HO_596002, BK583, BK584, BK585, BK595, BK603, BK622, HB⟩ := hcut
              cases kq with
              | zero => exact absurd HA.out (by simp [hopperlaw05_QueuePuts.j2])
              | succ kj70 =>
                have H := HA.out
                clear HA
                simp only [hopperlaw05_QueuePuts.j2] at H
                by_cases c128 : x76_70 = true
                · subst c128
                  have H1 : (if t621 = true then (none) else ((hopperlaw05_live.f kj70).bind fun t626 => (some t626))) = some r := by rw [if_pos rfl] at H; exact H
                  clear H
                  have H := H1
                  clear H1
                  by_cases c129 : t621 = true
                  · subst c129
                    have H1 : (none) = some r := by rw [if_pos rfl] at H; exact H
                    clear H
                    have H := H1
                    clear H1
                    exact absurd H (by simp)
                  replace c129 := Bool.eq_false_iff.mpr c129
                  subst c129
                  have H1 : ((hopperlaw05_live.f kj70).bind fun t626 => (some t626)) = some r := by rw [if_neg (show ¬ (false = true) by decide)] at H; exact H
                  clear H
                  have H := H1
                  clear H1
                  replace H := Option.bind_eq_some_iff.mp H
                  obtain ⟨t626, A1300, H⟩ := H
                  replace H : (some t626) = some r := H
                  have A130 := A_ A1300
                  clear A1300
                  obtain rfl := Option.some.inj H
                  go_wp2_with (first | (go_at_call 51; (with_reducible refine (hopperlaw05_live.calls kj70  t626 _ A130.out).mono ?_); rintro e w131 ⟨rfl, hb⟩; have n0_ := A_ (Kd.R_below (by (with_reducible repeat (first | apply ra_ | apply rn_ | apply rd_)); exact HO_596002.out) hb); have n1_ := A_ (blk_below (g := gb583) (o := .cells #[.int .i64 a0_0, .int .i64 a0_1, .slice A0_2 l0_2.length c0_2] 46 (0, 0)) (by (with_reducible repeat (first | refine bn_ ?_ _ | refine bd_ ?_ | refine ba_ ?_ _)); exact BK583.out) hb); have n2_ := A_ (blk_below (g := gb584) (o := .cells #[.int .i64 a1_0, .int .i64 a1_1, .int .i64 a1_2, .int .i64 a1_3, .int .i64 a1_4, .string a1_5] 24 (0, 0)) (by (with_reducible repeat (first | refine bn_ ?_ _ | refine bd_ ?_ | refine ba_ ?_ _)); exact BK584.out) hb); have n3_ := A_ (blk_below (g := gb585) (o := .cells #[.int .i64 a2_0, .int .i64 a2_1, .int .i64 a2_2, .int .i64 a2_3, .int .i64 a2_4, .string a2_5] 24 (0, 0)) (by (with_reducible repeat (first | refine bn_ ?_ _ | refine bd_ ?_ | refine ba_ ?_ _)); exact BK585.out) hb); have n4_ := A_ (blk_below (g := gb595) (o := .cells #[.int .i64 t590, .int .i64 t591, .slice Ao50 t592.length co50] 46 (0, 0)) (by (with_reducible repeat (first | refine bn_ ?_ _ | refine bd_ ?_ | refine ba_ ?_ _)); exact BK595.out) hb); have n5_ := A_ (blk_below (g := gb603) (o := .cells #[.int .i64 t596, .int .i64 t597, .int .i64 t598, .int .i64 t599, .int .i64 t600, .string t601] 24 (0, 0)) (by (with_reducible repeat (first | refine bn_ ?_ _ | refine bd_ ?_ | refine ba_ ?_ _)); exact BK603.out) hb); have n6_ := A_ (blk_below (g := gb622) (o := .cells #[.int .i64 t615, .int .i64 t616, .int .i64 t617, .int .i64 t618, .int .i64 t619, .string t620] 24 (0, 0)) (by (with_reducible repeat (first | refine bn_ ?_ _ | refine bd_ ?_ | refine ba_ ?_ _)); exact BK622.out) hb); have n7_ := A_ (below_step (by repeat (first | (with_reducible first | exact HB.out | apply wa_ | apply wn_ | apply wd_ | refine ws_ ?_ GE583.out | refine ws_ ?_ GE584.out | refine ws_ ?_ GE585.out | refine ws_ ?_ GE595.out | refine ws_ ?_ GE603.out | refine ws_ ?_ GE622.out) | exact HB.out)) hb); clear HO_596002; clear BK583; clear BK584; clear BK585; clear BK595; clear BK603; clear BK622; clear HB; have HO_596002 := n0_; have BK583 := n1_; have BK584 := n2_; have BK585 := n3_; have BK595 := n4_; have BK603 := n5_; have BK622 := n6_; have HB := n7_; clear n0_ n1_ n2_ n3_ n4_ n5_ n6_ n7_; (try clear hb); (try clear hb2); (try clear hk); (try clear hi)))
                  go_ret
                  exact ⟨by first | rfl | (simp [errW_none, errW_some] <;> rfl) | (simp [*, errW_none, errW_some] <;> rfl), by repeat (first | (with_reducible first | exact HB.out | apply wa_ | apply wn_ | apply wd_ | refine ws_ ?_ GE583.out | refine ws_ ?_ GE584.out | refine ws_ ?_ GE585.out | refine ws_ ?_ GE595.out | refine ws_ ?_ GE603.out | refine ws_ ?_ GE622.out) | exact HB.out)⟩
                · replace c128 := Bool.eq_false_iff.mpr c128
                  subst c128
                  have H1 : (if a1_1 = a2_1 then ((hopperlaw05_live.f kj70).bind fun t627 => (some t627)) else ((queue_Put.f a0_0 a0_1 l0_2 a1_0 a1_1 a1_2 a1_3 a1_4 a1_5).bind fun bt628 => ((queue_Put.f bt628.1 bt628.2.1 bt628.2.2 a2_0 a2_1 a2_2 a2_3 a2_4 a2_5).bind fun bt633 => ((queue_Put.f a0_0 a0_1 l0_2 a2_0 a2_1 a2_2 a2_3 a2_4 a2_5).bind fun bt638 => ((queue_Put.f bt638.1 bt638.2.1 bt638.2.2 a1_0 a1_1 a1_2 a1_3 a1_4 a1_5).bind fun bt643 => ((hopperref05_Same.f kj70 bt633.1 bt633.2.1 bt633.2.2 bt643.1 bt643.2.1 bt643.2.2).bind fun t648 => (if t648 = true then ((hopperlaw05_live.f kj70).bind fun t649 => (some t649)) else (none)))))))) = some r := by rw [if_neg (show ¬ (false = true) by decide)] at H; exact H
                  clear H
                  have H := H1
                  clear H1
                  by_cases c132 : a1_1 = a2_1
                  · rw [if_pos c132] at H
                    have c132b0 : (a1_1 == a2_1) = true := beq_iff_eq.mpr c132
                    have c132b1 : (a1_1 != a2_1) = false := bne_eq_false_iff_eq.mpr c132
                    clear c132
                    replace H := Option.bind_eq_some_iff.mp H
                    obtain ⟨t627, A1330, H⟩ := H
                    replace H : (some t627) = some r := H
                    have A133 := A_ A1330
                    clear A1330
                    obtain rfl := Option.some.inj H
                    try go_wp2
                    have n0_ := A_ (rd_ HO_596002.out); have n1_ := A_ (bd_ BK583.out); have n2_ := A_ (bd_ BK584.out); have n3_ := A_ (bd_ BK585.out); have n4_ := A_ (bd_ BK595.out); have n5_ := A_ (bd_ BK603.out); have n6_ := A_ (bd_ BK622.out); have n7_ := A_ (wd_ HB.out); clear HO_596002; clear BK583; clear BK584; clear BK585; clear BK595; clear BK603; clear BK622; clear HB; have HO_596002 := n0_; have BK583 := n1_; have BK584 := n2_; have BK585 := n3_; have BK595 := n4_; have BK603 := n5_; have BK622 := n6_; have HB := n7_; clear n0_ n1_ n2_ n3_ n4_ n5_ n6_ n7_
                    refine start_ (n := 22) (S := fun w' => w'.cell? ⟨gb584, 0, none⟩ = some (.int .i64 a1_0) ∧ w'.cell? ⟨gb584, 1, none⟩ = some (.int .i64 a1_1) ∧ w'.cell? ⟨gb584, 2, none⟩ = some (.int .i64 a1_2) ∧ w'.cell? ⟨gb584, 3, none⟩ = some (.int .i64 a1_3) ∧ w'.cell? ⟨gb584, 4, none⟩ = some (.int .i64 a1_4) ∧ w'.cell? ⟨gb584, 5, none⟩ = some (.string a1_5) ∧ w'.cell? ⟨gb585, 0, none⟩ = some (.int .i64 a2_0) ∧ w'.cell? ⟨gb585, 1, none⟩ = some (.int .i64 a2_1) ∧ w'.cell? ⟨gb585, 2, none⟩ = some (.int .i64 a2_2) ∧ w'.cell? ⟨gb585, 3, none⟩ = some (.int .i64 a2_3) ∧ w'.cell? ⟨gb585, 4, none⟩ = some (.int .i64 a2_4) ∧ w'.cell? ⟨gb585, 5, none⟩ = some (.string a2_5)) (ds := []) #[F,F,F,F,F,F,F,F,F,F,F,F,F,F,F,F,F,F,F,F,F,F] (by kernel_rfl) rfl rfl ⟨(blk_cell BK584.out 0).trans rfl, (blk_cell BK584.out 1).trans rfl, (blk_cell BK584.out 2).trans rfl, (blk_cell BK584.out 3).trans rfl, (blk_cell BK584.out 4).trans rfl, (blk_cell BK584.out 5).trans rfl, (blk_cell BK585.out 0).trans rfl, (blk_cell BK585.out 1).trans rfl, (blk_cell BK585.out 2).trans rfl, (blk_cell BK585.out 3).trans rfl, (blk_cell BK585.out 4).trans rfl, (blk_cell BK585.out 5).trans rfl⟩ (fun hHeld => ?_); refine with_tabW hopperlaw05_QueuePuts.tab10 hopperlaw05_QueuePuts.bits10 (fun HT_ HW_ => ?_)
                    generalize wc.drew = w134 at HO_596002 BK583 BK584 BK585 BK595 BK603 BK622 HB hHeld ⊢
                    refine pure_ (i := 0) (N := some 82) (v := ?_) (a' := ?_) #[T,F,F,F,F,F,F,F,F,F,F,F,F,F,F,F,F,F,F,F,F,F] rfl rfl (any_of HT_.out (by kernel_rfl)) (fun _ _ _ h => h) (Or.inl ⟨by rfl, ?_⟩) ?_ ?_
                    rotate_left
                    · intro w'
                      go_simp
                      with_reducible rfl
                    rotate_left
                    · simp only [Act.put, s0_, s1_, s2_, i64_w, i32_w]
                      rfl
                    refine pure_ (i := 2) (N := some 84) (v := ?_) (a' := ?_) #[T,F,T,F,F,F,F,F,F,F,F,F,F,F,F,F,F,F,F,F,F,F] rfl rfl (any_of HT_.out (by kernel_rfl)) (fun _ _ _ h => h) (Or.inl ⟨by rfl, ?_⟩) ?_ ?_
                    rotate_left
                    · intro w'
                      go_simp
                      with_reducible rfl
                    rotate_left
                    · simp only [Act.put, s0_, s1_, s2_, i64_w, i32_w]
                      rfl
                    refine take_ (i := 1) (N := some 83) (v := ?_) (a' := ?_) #[T,T,T,F,F,F,F,F,F,F,F,F,F,F,F,F,F,F,F,F,F,F] rfl rfl (take_ofW HT_.out HW_.out (by kernel_rfl)) (fun _ _ _ h => h) (Or.inl ⟨by rfl, ?_⟩) hHeld ?_ ?_
                    rotate_left
                    · rintro w' ⟨s0, s1, s2, s3, s4, s5, s6, s7, s8, s9, s10, s11⟩
                      go_simp
                      with_reducible rfl
                    rotate_left
                    · simp only [Act.put, s0_, s1_, s2_, i64_w, i32_w]
                      rfl
                    refine take_ (i := 3) (N := some 85) (v := ?_) (a' := ?_) #[T,T,T,T,F,F,F,F,F,F,F,F,F,F,F,F,F,F,F,F,F,F] rfl rfl (take_ofW HT_.out HW_.out (by kernel_rfl)) (fun _ _ _ h => h) (Or.inl ⟨by rfl, ?_⟩) hHeld ?_ ?_
                    rotate_left
                    · rintro w' ⟨s0, s1, s2, s3, s4, s5, s6, s7, s8, s9, s10, s11⟩
                      go_simp
                      with_reducible rfl
                    rotate_left
                    · simp only [Act.put, s0_, s1_, s2_, i64_w, i32_w]
                      rfl
                    refine pure_ (i := 4) (N := some 86) (v := ?_) (a' := ?_) #[T,T,T,T,T,F,F,F,F,F,F,F,F,F,F,F,F,F,F,F,F,F] rfl rfl (any_of HT_.out (by kernel_rfl)) (fun _ _ _ h => h) (Or.inl ⟨by rfl, ?_⟩) ?_ ?_
                    rotate_left
                    · intro w'
                      go_simp
                      with_reducible rfl
                    rotate_left
                    · simp only [Act.put, s0_, s1_, s2_, i64_w, i32_w]
                      rfl
                    refine pure_ (i := 5) (N := some 87) (v := ?_) (a' := ?_) #[T,T,T,T,T,T,F,F,F,F,F,F,F,F,F,F,F,F,F,F,F,F] rfl rfl (any_of HT_.out (by kernel_rfl)) (fun _ _ _ h => h) (Or.inl ⟨by rfl, ?_⟩) ?_ ?_
                    rotate_left
                    · intro w'
                      go_simp
                      with_reducible rfl
                    rotate_left
                    · simp only [Act.put, s0_, s1_, s2_, i64_w, i32_w]
                      rfl
                    refine pure_ (i := 6) (N := some 88) (v := undef) (a' := ?_) #[T,T,T,T,T,T,T,F,F,F,F,F,F,F,F,F,F,F,F,F,F,F] rfl rfl (any_of HT_.out (by kernel_rfl)) (fun _ _ _ h => h) (Or.inr ⟨by rfl, rfl⟩) ?_ ?_
                    rotate_left
                    · simp only [Act.put, s0_, s1_, s2_, i64_w, i32_w]
                      rfl
                    refine pure_ (i := 7) (N := some 89) (v := undef) (a' := ?_) #[T,T,T,T,T,T,T,T,F,F,F,F,F,F,F,F,F,F,F,F,F,F] rfl rfl (any_of HT_.out (by kernel_rfl)) (fun _ _ _ h => h) (Or.inr ⟨by rfl, rfl⟩) ?_ ?_
                    rotate_left
                    · simp only [Act.put, s0_, s1_, s2_, i64_w, i32_w]
                      rfl
                    refine pure_ (i := 8) (N := some 90) (v := undef) (a' := ?_) #[T,T,T,T,T,T,T,T,T,F,F,F,F,F,F,F,F,F,F,F,F,F] rfl rfl (any_of HT_.out (by kernel_rfl)) (fun _ _ _ h => h) (Or.inr ⟨by rfl, rfl⟩) ?_ ?_
                    rotate_left
                    · simp only [Act.put, s0_, s1_, s2_, i64_w, i32_w]
                      rfl
                    refine pure_ (i := 9) (N := some 91) (v := undef) (a' := ?_) #[T,T,T,T,T,T,T,T,T,T,F,F,F,F,F,F,F,F,F,F,F,F] rfl rfl (any_of HT_.out (by kernel_rfl)) (fun _ _ _ h => h) (Or.inr ⟨by rfl, rfl⟩) ?_ ?_
                    rotate_left
                    · simp only [Act.put, s0_, s1_, s2_, i64_w, i32_w]
                      rfl
                    refine pure_ (i := 10) (N := some 92) (v := undef) (a' := ?_) #[T,T,T,T,T,T,T,T,T,T,T,F,F,F,F,F,F,F,F,F,F,F] rfl rfl (any_of HT_.out (by kernel_rfl)) (fun _ _ _ h => h) (Or.inr ⟨by rfl, rfl⟩) ?_ ?_
                    rotate_left
                    · simp only [Act.put, s0_, s1_, s2_, i64_w, i32_w]
                      rfl
                    refine pure_ (i := 11) (N := some 93) (v := undef) (a' := ?_) #[T,T,T,T,T,T,T,T,T,T,T,T,F,F,F,F,F,F,F,F,F,F] rfl rfl (any_of HT_.out (by kernel_rfl)) (fun _ _ _ h => h) (Or.inr ⟨by rfl, rfl⟩) ?_ ?_
                    rotate_left
                    · simp only [Act.put, s0_, s1_, s2_, i64_w, i32_w]
                      rfl
                    refine pure_ (i := 12) (N := some 94) (v := undef) (a' := ?_) #[T,T,T,T,T,T,T,T,T,T,T,T,T,F,F,F,F,F,F,F,F,F] rfl rfl (any_of HT_.out (by kernel_rfl)) (fun _ _ _ h => h) (Or.inr ⟨by rfl, rfl⟩) ?_ ?_
                    rotate_left
                    · simp only [Act.put, s0_, s1_, s2_, i64_w, i32_w]
                      rfl
                    refine pure_ (i := 13) (N := some 95) (v := undef) (a' := ?_) #[T,T,T,T,T,T,T,T,T,T,T,T,T,T,F,F,F,F,F,F,F,F] rfl rfl (any_of HT_.out (by kernel_rfl)) (fun _ _ _ h => h) (Or.inr ⟨by rfl, rfl⟩) ?_ ?_
                    rotate_left
                    · simp only [Act.put, s0_, s1_, s2_, i64_w, i32_w]
                      rfl
                    refine pure_ (i := 14) (N := some 96) (v := undef) (a' := ?_) #[T,T,T,T,T,T,T,T,T,T,T,T,T,T,T,F,F,F,F,F,F,F] rfl rfl (any_of HT_.out (by kernel_rfl)) (fun _ _ _ h => h) (Or.inr ⟨by rfl, rfl⟩) ?_ ?_
                    rotate_left
                    · simp only [Act.put, s0_, s1_, s2_, i64_w, i32_w]
                      rfl
                    refine pure_ (i := 15) (N := some 97) (v := undef) (a' := ?_) #[T,T,T,T,T,T,T,T,T,T,T,T,T,T,T,T,F,F,F,F,F,F] rfl rfl (any_of HT_.out (by kernel_rfl)) (fun _ _ _ h => h) (Or.inr ⟨by rfl, rfl⟩) ?_ ?_
                    rotate_left
                    · simp only [Act.put, s0_, s1_, s2_, i64_w, i32_w]
                      rfl
                    refine pure_ (i := 16) (N := some 98) (v := undef) (a' := ?_) #[T,T,T,T,T,T,T,T,T,T,T,T,T,T,T,T,T,F,F,F,F,F] rfl rfl (any_of HT_.out (by kernel_rfl)) (fun _ _ _ h => h) (Or.inr ⟨by rfl, rfl⟩) ?_ ?_
                    rotate_left
                    · simp only [Act.put, s0_, s1_, s2_, i64_w, i32_w]
                      rfl
                    refine pure_ (i := 17) (N := some 99) (v := ?_) (a' := ?_) #[T,T,T,T,T,T,T,T,T,T,T,T,T,T,T,T,T,T,F,F,F,F] rfl rfl (any_of HT_.out (by kernel_rfl)) (fun _ _ _ h => h) (Or.inl ⟨by rfl, ?_⟩) ?_ ?_
                    rotate_left
                    · intro w'
                      go_simp
                      with_reducible rfl
                    rotate_left
                    · simp only [Act.put, s0_, s1_, s2_, i64_w, i32_w]
                      rfl
                    refine pure_ (i := 18) (N := some 100) (v := ?_) (a' := ?_) #[T,T,T,T,T,T,T,T,T,T,T,T,T,T,T,T,T,T,T,F,F,F] rfl rfl (any_of HT_.out (by kernel_rfl)) (fun _ _ _ h => h) (Or.inl ⟨by rfl, ?_⟩) ?_ ?_
                    rotate_left
                    · intro w'
                      go_simp
                      with_reducible rfl
                    rotate_left
                    · simp only [Act.put, s0_, s1_, s2_, i64_w, i32_w]
                      rfl
                    refine one_ (i := 19) (N := some 101) #[T,T,T,T,T,T,T,T,T,T,T,T,T,T,T,T,T,T,T,T,F,F] rfl rfl (one_of HT_.out (by kernel_rfl)) (by decide) (fun K hK => ?_)
                    refine goes_ Try.func51 (by kernel_rfl) rfl #[] (by rfl) rfl rfl (by (try simp only [m0_, m1_, m2_]); first | done | rfl) ?_
                    with_reducible refine (hopperlaw05_live.calls kj70  t627 _ A133.out).mono ?_
                    rintro e w135 ⟨rfl, hb⟩
                    refine ⟨_, rfl, ?_⟩
                    have n0_ := A_ (Kd.R_below (by (with_reducible repeat (first | apply ra_ | apply rn_ | apply rd_)); exact HO_596002.out) hb); have n1_ := A_ (blk_below (g := gb583) (o := .cells #[.int .i64 a0_0, .int .i64 a0_1, .slice A0_2 l0_2.length c0_2] 46 (0, 0)) (by (with_reducible repeat (first | refine bn_ ?_ _ | refine bd_ ?_ | refine ba_ ?_ _)); exact BK583.out) hb); have n2_ := A_ (blk_below (g := gb584) (o := .cells #[.int .i64 a1_0, .int .i64 a1_1, .int .i64 a1_2, .int .i64 a1_3, .int .i64 a1_4, .string a1_5] 24 (0, 0)) (by (with_reducible repeat (first | refine bn_ ?_ _ | refine bd_ ?_ | refine ba_ ?_ _)); exact BK584.out) hb); have n3_ := A_ (blk_below (g := gb585) (o := .cells #[.int .i64 a2_0, .int .i64 a2_1, .int .i64 a2_2, .int .i64 a2_3, .int .i64 a2_4, .string a2_5] 24 (0, 0)) (by (with_reducible repeat (first | refine bn_ ?_ _ | refine bd_ ?_ | refine ba_ ?_ _)); exact BK585.out) hb); have n4_ := A_ (blk_below (g := gb595) (o := .cells #[.int .i64 t590, .int .i64 t591, .slice Ao50 t592.length co50] 46 (0, 0)) (by (with_reducible repeat (first | refine bn_ ?_ _ | refine bd_ ?_ | refine ba_ ?_ _)); exact BK595.out) hb); have n5_ := A_ (blk_below (g := gb603) (o := .cells #[.int .i64 t596, .int .i64 t597, .int .i64 t598, .int .i64 t599, .int .i64 t600, .string t601] 24 (0, 0)) (by (with_reducible repeat (first | refine bn_ ?_ _ | refine bd_ ?_ | refine ba_ ?_ _)); exact BK603.out) hb); have n6_ := A_ (blk_below (g := gb622) (o := .cells #[.int .i64 t615, .int .i64 t616, .int .i64 t617, .int .i64 t618, .int .i64 t619, .string t620] 24 (0, 0)) (by (with_reducible repeat (first | refine bn_ ?_ _ | refine bd_ ?_ | refine ba_ ?_ _)); exact BK622.out) hb); have n7_ := A_ (below_step (by repeat (first | (with_reducible first | exact HB.out | apply wa_ | apply wn_ | apply wd_ | refine ws_ ?_ GE583.out | refine ws_ ?_ GE584.out | refine ws_ ?_ GE585.out | refine ws_ ?_ GE595.out | refine ws_ ?_ GE603.out | refine ws_ ?_ GE622.out) | exact HB.out)) hb); clear HO_596002; clear BK583; clear BK584; clear BK585; clear BK595; clear BK603; clear BK622; clear HB; have HO_596002 := n0_; have BK583 := n1_; have BK584 := n2_; have BK585 := n3_; have BK595 := n4_; have BK603 := n5_; have BK622 := n6_; have HB := n7_; clear n0_ n1_ n2_ n3_ n4_ n5_ n6_ n7_
                    (try clear hb)
                    (try clear hb2)
                    (try clear hk)
                    (try clear hi)
                    refine hK.out _ _ ⟨(blk_cell BK584.out 0).trans rfl, (blk_cell BK584.out 1).trans rfl, (blk_cell BK584.out 2).trans rfl, (blk_cell BK584.out 3).trans rfl, (blk_cell BK584.out 4).trans rfl, (blk_cell BK584.out 5).trans rfl, (blk_cell BK585.out 0).trans rfl, (blk_cell BK585.out 1).trans rfl, (blk_cell BK585.out 2).trans rfl, (blk_cell BK585.out 3).trans rfl, (blk_cell BK585.out 4).trans rfl, (blk_cell BK585.out 5).trans rfl⟩ (fun hHeld => ?_)
                    clear hK K
                    refine norm_ (a' := ?_) ?_ ?_
                    rotate_left
                    · show Act.put _ (some 101) _ = _
                      simp only [Act.put, s0_, s1_, s2_, i64_w, i32_w]
                      rfl
                    refine pure_ (i := 20) (N := some 102) (v := ?_) (a' := ?_) #[T,T,T,T,T,T,T,T,T,T,T,T,T,T,T,T,T,T,T,T,T,F] rfl rfl (any_of HT_.out (by kernel_rfl)) (fun _ _ _ h => h) (Or.inl ⟨by rfl, ?_⟩) ?_ ?_
                    rotate_left
                    · intro w'
                      go_simp
                      with_reducible rfl
                    rotate_left
                    · simp only [Act.put, s0_, s1_, s2_, i64_w, i32_w]
                      rfl
                    refine pure_ (i := 21) (N := some 6) (v := ?_) (a' := ?_) #[T,T,T,T,T,T,T,T,T,T,T,T,T,T,T,T,T,T,T,T,T,T] rfl rfl (any_of HT_.out (by kernel_rfl)) (fun _ _ _ h => h) (Or.inl ⟨by rfl, ?_⟩) ?_ ?_
                    rotate_left
                    · intro w'
                      go_simp
                      with_reducible rfl
                    rotate_left
                    · simp only [Act.put, s0_, s1_, s2_, i64_w, i32_w]
                      rfl
                    refine done_ (done_of HT_.out (by kernel_rfl)) ?_
                    try go_wp2
                    go_ret
                    exact ⟨by first | rfl | (simp [errW_none, errW_some] <;> rfl) | (simp [*, errW_none, errW_some] <;> rfl), by repeat (first | (with_reducible first | exact HB.out | apply wa_ | apply wn_ | apply wd_ | refine ws_ ?_ GE583.out | refine ws_ ?_ GE584.out | refine ws_ ?_ GE585.out | refine ws_ ?_ GE595.out | refine ws_ ?_ GE603.out | refine ws_ ?_ GE622.out) | exact HB.out)⟩
                  · rw [if_neg c132] at H
                    have c132b0 : (a1_1 == a2_1) = false := beq_eq_false_iff_ne.mpr c132
                    have c132b1 : (a1_1 != a2_1) = true := bne_iff_ne.mpr c132
                    replace H := Option.bind_eq_some_iff.mp H
                    obtain ⟨⟨t628, t629, t630⟩, A1360, H⟩ := H
                    try dsimp only at H
                    have A136 := A_ A1360
                    clear A1360
                    replace H := Option.bind_eq_some_iff.mp H
                    obtain ⟨⟨t633, t634, t635⟩, A1370, H⟩ := H
                    try dsimp only at H
                    have A137 := A_ A1370
                    clear A1370
                    replace H := Option.bind_eq_some_iff.mp H
                    obtain ⟨⟨t638, t639, t640⟩, A1380, H⟩ := H
                    try dsimp only at H
                    have A138 := A_ A1380
                    clear A1380
                    replace H := Option.bind_eq_some_iff.mp H
                    obtain ⟨⟨t643, t644, t645⟩, A1390, H⟩ := H
                    try dsimp only at H
                    have A139 := A_ A1390
                    clear A1390
                    replace H := Option.bind_eq_some_iff.mp H
                    obtain ⟨t648, A1400, H⟩ := H
                    try dsimp only at H
                    have A140 := A_ A1400
                    clear A1400
                    by_cases c141 : t648 = true
                    rotate_left
                    · replace c141 := Bool.eq_false_iff.mpr c141
                      subst c141
                      have H1 : (none) = some r := by rw [if_neg (show ¬ (false = true) by decide)] at H; exact H
                      clear H
                      have H := H1
                      clear H1
                      exact absurd H (by simp)

                    subst c141
                    have H1 : ((hopperlaw05_live.f kj70).bind fun t649 => (some t649)) = some r := by rw [if_pos rfl] at H; exact H
                    clear H
                    have H := H1
                    clear H1
                    replace H := Option.bind_eq_some_iff.mp H
                    obtain ⟨t649, A1420, H⟩ := H
                    replace H : (some t649) = some r := H
                    have A142 := A_ A1420
                    clear A1420
                    obtain rfl := Option.some.inj H
                    try go_wp2
                    have n0_ := A_ (rd_ HO_596002.out); have n1_ := A_ (bd_ BK583.out); have n2_ := A_ (bd_ BK584.out); have n3_ := A_ (bd_ BK585.out); have n4_ := A_ (bd_ BK595.out); have n5_ := A_ (bd_ BK603.out); have n6_ := A_ (bd_ BK622.out); have n7_ := A_ (wd_ HB.out); clear HO_596002; clear BK583; clear BK584; clear BK585; clear BK595; clear BK603; clear BK622; clear HB; have HO_596002 := n0_; have BK583 := n1_; have BK584 := n2_; have BK585 := n3_; have BK595 := n4_; have BK603 := n5_; have BK622 := n6_; have HB := n7_; clear n0_ n1_ n2_ n3_ n4_ n5_ n6_ n7_
                    refine start_ (n := 22) (S := fun w' => w'.cell? ⟨gb584, 0, none⟩ = some (.int .i64 a1_0) ∧ w'.cell? ⟨gb584, 1, none⟩ = some (.int .i64 a1_1) ∧ w'.cell? ⟨gb584, 2, none⟩ = some (.int .i64 a1_2) ∧ w'.cell? ⟨gb584, 3, none⟩ = some (.int .i64 a1_3) ∧ w'.cell? ⟨gb584, 4, none⟩ = some (.int .i64 a1_4) ∧ w'.cell? ⟨gb584, 5, none⟩ = some (.string a1_5) ∧ w'.cell? ⟨gb585, 0, none⟩ = some (.int .i64 a2_0) ∧ w'.cell? ⟨gb585, 1, none⟩ = some (.int .i64 a2_1) ∧ w'.cell? ⟨gb585, 2, none⟩ = some (.int .i64 a2_2) ∧ w'.cell? ⟨gb585, 3, none⟩ = some (.int .i64 a2_3) ∧ w'.cell? ⟨gb585, 4, none⟩ = some (.int .i64 a2_4) ∧ w'.cell? ⟨gb585, 5, none⟩ = some (.string a2_5) ∧ w'.cell? ⟨gb583, 0, none⟩ = some (.int .i64 a0_0) ∧ w'.cell? ⟨gb583, 1, none⟩ = some (.int .i64 a0_1) ∧ w'.cell? ⟨gb583, 2, none⟩ = some (.slice A0_2 l0_2.length c0_2)) (ds := []) #[F,F,F,F,F,F,F,F,F,F,F,F,F,F,F,F,F,F,F,F,F,F] (by kernel_rfl) rfl rfl ⟨(blk_cell BK584.out 0).trans rfl, (blk_cell BK584.out 1).trans rfl, (blk_cell BK584.out 2).trans rfl, (blk_cell BK584.out 3).trans rfl, (blk_cell BK584.out 4).trans rfl, (blk_cell BK584.out 5).trans rfl, (blk_cell BK585.out 0).trans rfl, (blk_cell BK585.out 1).trans rfl, (blk_cell BK585.out 2).trans rfl, (blk_cell BK585.out 3).trans rfl, (blk_cell BK585.out 4).trans rfl, (blk_cell BK585.out 5).trans rfl, (blk_cell BK583.out 0).trans rfl, (blk_cell BK583.out 1).trans rfl, (blk_cell BK583.out 2).trans rfl⟩ (fun hHeld => ?_); refine with_tabW hopperlaw05_QueuePuts.tab10 hopperlaw05_QueuePuts.bits10 (fun HT_ HW_ => ?_)
                    generalize wc.drew = w143 at HO_596002 BK583 BK584 BK585 BK595 BK603 BK622 HB hHeld ⊢
                    refine pure_ (i := 0) (N := some 82) (v := ?_) (a' := ?_) #[T,F,F,F,F,F,F,F,F,F,F,F,F,F,F,F,F,F,F,F,F,F] rfl rfl (any_of HT_.out (by kernel_rfl)) (fun _ _ _ h => h) (Or.inl ⟨by rfl, ?_⟩) ?_ ?_
                    rotate_left
                    · intro w'
                      go_simp
                      with_reducible rfl
                    rotate_left
                    · simp only [Act.put, s0_, s1_, s2_, i64_w, i32_w]
                      rfl
                    refine pure_ (i := 2) (N := some 84) (v := ?_) (a' := ?_) #[T,F,T,F,F,F,F,F,F,F,F,F,F,F,F,F,F,F,F,F,F,F] rfl rfl (any_of HT_.out (by kernel_rfl)) (fun _ _ _ h => h) (Or.inl ⟨by rfl, ?_⟩) ?_ ?_
                    rotate_left
                    · intro w'
                      go_simp
                      with_reducible rfl
                    rotate_left
                    · simp only [Act.put, s0_, s1_, s2_, i64_w, i32_w]
                      rfl
                    refine take_ (i := 1) (N := some 83) (v := ?_) (a' := ?_) #[T,T,T,F,F,F,F,F,F,F,F,F,F,F,F,F,F,F,F,F,F,F] rfl rfl (take_ofW HT_.out HW_.out (by kernel_rfl)) (fun _ _ _ h => h) (Or.inl ⟨by rfl, ?_⟩) hHeld ?_ ?_
                    rotate_left
                    · rintro w' ⟨s0, s1, s2, s3, s4, s5, s6, s7, s8, s9, s10, s11, s12, s13, s14⟩
                      go_simp
                      with_reducible rfl
                    rotate_left
                    · simp only [Act.put, s0_, s1_, s2_, i64_w, i32_w]
                      rfl
                    refine take_ (i := 3) (N := some 85) (v := ?_) (a' := ?_) #[T,T,T,T,F,F,F,F,F,F,F,F,F,F,F,F,F,F,F,F,F,F] rfl rfl (take_ofW HT_.out HW_.out (by kernel_rfl)) (fun _ _ _ h => h) (Or.inl ⟨by rfl, ?_⟩) hHeld ?_ ?_
                    rotate_left
                    · rintro w' ⟨s0, s1, s2, s3, s4, s5, s6, s7, s8, s9, s10, s11, s12, s13, s14⟩
                      go_simp
                      with_reducible rfl
                    rotate_left
                    · simp only [Act.put, s0_, s1_, s2_, i64_w, i32_w]
                      rfl
                    refine pure_ (i := 4) (N := some 86) (v := ?_) (a' := ?_) #[T,T,T,T,T,F,F,F,F,F,F,F,F,F,F,F,F,F,F,F,F,F] rfl rfl (any_of HT_.out (by kernel_rfl)) (fun _ _ _ h => h) (Or.inl ⟨by rfl, ?_⟩) ?_ ?_
                    rotate_left
                    · intro w'
                      go_simp
                      with_reducible rfl
                    rotate_left
                    · simp only [Act.put, s0_, s1_, s2_, i64_w, i32_w]
                      rfl
                    refine pure_ (i := 5) (N := some 87) (v := ?_) (a' := ?_) #[T,T,T,T,T,T,F,F,F,F,F,F,F,F,F,F,F,F,F,F,F,F] rfl rfl (any_of HT_.out (by kernel_rfl)) (fun _ _ _ h => h) (Or.inl ⟨by rfl, ?_⟩) ?_ ?_
                    rotate_left
                    · intro w'
                      go_simp
                      with_reducible rfl
                    rotate_left
                    · simp only [Act.put, s0_, s1_, s2_, i64_w, i32_w]
                      rfl
                    refine take_ (i := 6) (N := some 88) (v := ?_) (a' := ?_) #[T,T,T,T,T,T,T,F,F,F,F,F,F,F,F,F,F,F,F,F,F,F] rfl rfl (take_ofW HT_.out HW_.out (by kernel_rfl)) (fun _ _ _ h => h) (Or.inl ⟨by rfl, ?_⟩) hHeld ?_ ?_
                    rotate_left
                    · rintro w' ⟨s0, s1, s2, s3, s4, s5, s6, s7, s8, s9, s10, s11, s12, s13, s14⟩
                      go_simp
                      with_reducible rfl
                    rotate_left
                    · simp only [Act.put, s0_, s1_, s2_, i64_w, i32_w]
                      rfl
                    refine take_ (i := 7) (N := some 89) (v := ?_) (a' := ?_) #[T,T,T,T,T,T,T,T,F,F,F,F,F,F,F,F,F,F,F,F,F,F] rfl rfl (take_ofW HT_.out HW_.out (by kernel_rfl)) (fun _ _ _ h => h) (Or.inl ⟨by rfl, ?_⟩) hHeld ?_ ?_
                    rotate_left
                    · rintro w' ⟨s0, s1, s2, s3, s4, s5, s6, s7, s8, s9, s10, s11, s12, s13, s14⟩
                      go_simp
                      with_reducible rfl
                    rotate_left
                    · simp only [Act.put, s0_, s1_, s2_, i64_w, i32_w]
                      rfl
                    refine take_ (i := 9) (N := some 91) (v := ?_) (a' := ?_) #[T,T,T,T,T,T,T,T,F,T,F,F,F,F,F,F,F,F,F,F,F,F] rfl rfl (take_ofW HT_.out HW_.out (by kernel_rfl)) (fun _ _ _ h => h) (Or.inl ⟨by rfl, ?_⟩) hHeld ?_ ?_
                    rotate_left
                    · rintro w' ⟨s0, s1, s2, s3, s4, s5, s6, s7, s8, s9, s10, s11, s12, s13, s14⟩
                      go_simp
                      with_reducible rfl
                    rotate_left
                    · simp only [Act.put, s0_, s1_, s2_, i64_w, i32_w]
                      rfl
                    refine take_ (i := 11) (N := some 93) (v := ?_) (a' := ?_) #[T,T,T,T,T,T,T,T,F,T,F,T,F,F,F,F,F,F,F,F,F,F] rfl rfl (take_ofW HT_.out HW_.out (by kernel_rfl)) (fun _ _ _ h => h) (Or.inl ⟨by rfl, ?_⟩) hHeld ?_ ?_
                    rotate_left
                    · rintro w' ⟨s0, s1, s2, s3, s4, s5, s6, s7, s8, s9, s10, s11, s12, s13, s14⟩
                      go_simp
                      with_reducible rfl
                    rotate_left
                    · simp only [Act.put, s0_, s1_, s2_, i64_w, i32_w]
                      rfl
                    refine take_ (i := 12) (N := some 94) (v := ?_) (a' := ?_) #[T,T,T,T,T,T,T,T,F,T,F,T,T,F,F,F,F,F,F,F,F,F] rfl rfl (take_ofW HT_.out HW_.out (by kernel_rfl)) (fun _ _ _ h => h) (Or.inl ⟨by rfl, ?_⟩) hHeld ?_ ?_
                    rotate_left
                    · rintro w' ⟨s0, s1, s2, s3, s4, s5, s6, s7, s8, s9, s10, s11, s12, s13, s14⟩
                      go_simp
                      with_reducible rfl
                    rotate_left
                    · simp only [Act.put, s0_, s1_, s2_, i64_w, i32_w]
                      rfl
                    refine take_ (i := 14) (N := some 96) (v := ?_) (a' := ?_) #[T,T,T,T,T,T,T,T,F,T,F,T,T,F,T,F,F,F,F,F,F,F] rfl rfl (take_ofW HT_.out HW_.out (by kernel_rfl)) (fun _ _ _ h => h) (Or.inl ⟨by rfl, ?_⟩) hHeld ?_ ?_
                    rotate_left
                    · rintro w' ⟨s0, s1, s2, s3, s4, s5, s6, s7, s8, s9, s10, s11, s12, s13, s14⟩
                      go_simp
                      with_reducible rfl
                    rotate_left
                    · simp only [Act.put, s0_, s1_, s2_, i64_w, i32_w]
                      rfl
                    refine one_ (i := 8) (N := some 90) #[T,T,T,T,T,T,T,T,T,T,F,T,T,F,T,F,F,F,F,F,F,F] rfl rfl (one_of HT_.out (by kernel_rfl)) (by decide) (fun K hK => ?_)
                    refine goes_ Try.func63 (by kernel_rfl) rfl #[.agg #[.int .i64 a0_0, .int .i64 a0_1, .slice A0_2 l0_2.length c0_2], .agg #[.int .i64 a1_0, .int .i64 a1_1, .int .i64 a1_2, .int .i64 a1_3, .int .i64 a1_4, .string a1_5]] (by rfl) rfl rfl (by (try simp only [m0_, m1_, m2_]); first | done | rfl) ?_
                    with_reducible refine (queue_Put.calls a0_0 a0_1 _ _ l0_2 a1_0 a1_1 a1_2 a1_3 a1_4 a1_5 t628 t629 t630 _ ?side1 ?side2 A136.out).mono ?_
                    (case side1 => repeat (first | exact (Kd.C_below HR0_2.out HB.out) | (with_reducible refine ca_ ?_ _) | (with_reducible refine cn_ ?_ _) | (with_reducible refine cd_ ?_)))
                    (case side2 => exact HC0_2.out)
                    rintro e w144 ⟨v631, rfl, ho0, hb⟩
                    refine ⟨_, rfl, ?_⟩
                    have n0_ := A_ (Kd.R_elder' (by (with_reducible repeat (first | apply ra_ | apply rn_ | apply rd_)); exact HO_596002.out) (Kd.R_base ho0) hb); have n1_ := A_ (Kd.R_lower (Kd.R_newB (Kd.R_newB (Kd.R_newB (Kd.R_newB (Kd.R_new' ho0 (Kd.R_lt (by (with_reducible repeat (first | apply ra_ | apply rn_ | apply rd_)); exact HO_596002.out))) (g := gb584) (o := .cells #[.int .i64 a1_0, .int .i64 a1_1, .int .i64 a1_2, .int .i64 a1_3, .int .i64 a1_4, .string a1_5] 24 (0, 0)) (by (with_reducible repeat (first | refine bn_ ?_ _ | refine bd_ ?_ | refine ba_ ?_ _)); exact BK584.out)) (g := gb585) (o := .cells #[.int .i64 a2_0, .int .i64 a2_1, .int .i64 a2_2, .int .i64 a2_3, .int .i64 a2_4, .string a2_5] 24 (0, 0)) (by (with_reducible repeat (first | refine bn_ ?_ _ | refine bd_ ?_ | refine ba_ ?_ _)); exact BK585.out)) (g := gb603) (o := .cells #[.int .i64 t596, .int .i64 t597, .int .i64 t598, .int .i64 t599, .int .i64 t600, .string t601] 24 (0, 0)) (by (with_reducible repeat (first | refine bn_ ?_ _ | refine bd_ ?_ | refine ba_ ?_ _)); exact BK603.out)) (g := gb622) (o := .cells #[.int .i64 t615, .int .i64 t616, .int .i64 t617, .int .i64 t618, .int .i64 t619, .string t620] 24 (0, 0)) (by (with_reducible repeat (first | refine bn_ ?_ _ | refine bd_ ?_ | refine ba_ ?_ _)); exact BK622.out)) (below_size (by repeat (first | (with_reducible first | exact HB.out | apply wa_ | apply wn_ | apply wd_ | refine ws_ ?_ GE583.out | refine ws_ ?_ GE584.out | refine ws_ ?_ GE585.out | refine ws_ ?_ GE595.out | refine ws_ ?_ GE603.out | refine ws_ ?_ GE622.out) | exact HB.out)))); have n2_ := A_ (blk_below (g := gb583) (o := .cells #[.int .i64 a0_0, .int .i64 a0_1, .slice A0_2 l0_2.length c0_2] 46 (0, 0)) (by (with_reducible repeat (first | refine bn_ ?_ _ | refine bd_ ?_ | refine ba_ ?_ _)); exact BK583.out) hb); have n3_ := A_ (blk_below (g := gb584) (o := .cells #[.int .i64 a1_0, .int .i64 a1_1, .int .i64 a1_2, .int .i64 a1_3, .int .i64 a1_4, .string a1_5] 24 (0, 0)) (by (with_reducible repeat (first | refine bn_ ?_ _ | refine bd_ ?_ | refine ba_ ?_ _)); exact BK584.out) hb); have n4_ := A_ (blk_below (g := gb585) (o := .cells #[.int .i64 a2_0, .int .i64 a2_1, .int .i64 a2_2, .int .i64 a2_3, .int .i64 a2_4, .string a2_5] 24 (0, 0)) (by (with_reducible repeat (first | refine bn_ ?_ _ | refine bd_ ?_ | refine ba_ ?_ _)); exact BK585.out) hb); have n5_ := A_ (blk_below (g := gb595) (o := .cells #[.int .i64 t590, .int .i64 t591, .slice Ao50 t592.length co50] 46 (0, 0)) (by (with_reducible repeat (first | refine bn_ ?_ _ | refine bd_ ?_ | refine ba_ ?_ _)); exact BK595.out) hb); have n6_ := A_ (blk_below (g := gb603) (o := .cells #[.int .i64 t596, .int .i64 t597, .int .i64 t598, .int .i64 t599, .int .i64 t600, .string t601] 24 (0, 0)) (by (with_reducible repeat (first | refine bn_ ?_ _ | refine bd_ ?_ | refine ba_ ?_ _)); exact BK603.out) hb); have n7_ := A_ (blk_below (g := gb622) (o := .cells #[.int .i64 t615, .int .i64 t616, .int .i64 t617, .int .i64 t618, .int .i64 t619, .string t620] 24 (0, 0)) (by (with_reducible repeat (first | refine bn_ ?_ _ | refine bd_ ?_ | refine ba_ ?_ _)); exact BK622.out) hb); have n8_ := A_ (below_step (by repeat (first | (with_reducible first | exact HB.out | apply wa_ | apply wn_ | apply wd_ | refine ws_ ?_ GE583.out | refine ws_ ?_ GE584.out | refine ws_ ?_ GE585.out | refine ws_ ?_ GE595.out | refine ws_ ?_ GE603.out | refine ws_ ?_ GE622.out) | exact HB.out)) hb); clear HO_596002; clear BK583; clear BK584; clear BK585; clear BK595; clear BK603; clear BK622; clear HB; have HO_596002 := n0_; have HO632 := n1_; have BK583 := n2_; have BK584 := n3_; have BK585 := n4_; have BK595 := n5_; have BK603 := n6_; have BK622 := n7_; have HB := n8_; clear n0_ n1_ n2_ n3_ n4_ n5_ n6_ n7_ n8_
                    (try clear hb)
                    (try clear hb2)
                    (try clear hk)
                    (try clear hi)
                    (try clear ho0)
                    obtain ⟨Ao145, co145, eo145⟩ := Kd.R_slice HO632.out
                    (first | subst eo145 | (injection eo145 with f1_ f2_ f3_; have f4_ := f1_.symm; have f5_ := f3_.symm; clear f1_ f2_ f3_; subst f4_; subst f5_))
                    refine hK.out _ _ ⟨(blk_cell BK584.out 0).trans rfl, (blk_cell BK584.out 1).trans rfl, (blk_cell BK584.out 2).trans rfl, (blk_cell BK584.out 3).trans rfl, (blk_cell BK584.out 4).trans rfl, (blk_cell BK584.out 5).trans rfl, (blk_cell BK585.out 0).trans rfl, (blk_cell BK585.out 1).trans rfl, (blk_cell BK585.out 2).trans rfl, (blk_cell BK585.out 3).trans rfl, (blk_cell BK585.out 4).trans rfl, (blk_cell BK585.out 5).trans rfl, (blk_cell BK583.out 0).trans rfl, (blk_cell BK583.out 1).trans rfl, (blk_cell BK583.out 2).trans rfl⟩ (fun hHeld => ?_)
                    clear hK K
                    refine norm_ (a' := ?_) ?_ ?_
                    rotate_left
                    · show Act.put _ (some 90) _ = _
                      simp only [Act.put, s0_, s1_, s2_, i64_w, i32_w]
                      rfl
                    refine one_ (i := 10) (N := some 92) #[T,T,T,T,T,T,T,T,T,T,T,T,T,F,T,F,F,F,F,F,F,F] rfl rfl (one_of HT_.out (by kernel_rfl)) (by decide) (fun K hK => ?_)
                    refine goes_ Try.func63 (by kernel_rfl) rfl #[.agg #[.int .i64 t628, .int .i64 t629, .slice Ao145 t630.length co145], .agg #[.int .i64 a2_0, .int .i64 a2_1, .int .i64 a2_2, .int .i64 a2_3, .int .i64 a2_4, .string a2_5]] (by rfl) rfl rfl (by (try simp only [m0_, m1_, m2_]); first | done | rfl) ?_
                    with_reducible refine (queue_Put.calls t628 t629 _ _ t630 a2_0 a2_1 a2_2 a2_3 a2_4 a2_5 t633 t634 t635 _ ?side1 ?side2 A137.out).mono ?_
                    (case side1 => repeat (first | exact (Kd.R_reads' HO632.out).2.2 | (with_reducible refine ca_ ?_ _) | (with_reducible refine cn_ ?_ _) | (with_reducible refine cd_ ?_)))
                    (case side2 => exact (Kd.R_reads' HO632.out).2.1)
                    rintro e w146 ⟨v636, rfl, ho0, hb⟩
                    refine ⟨_, rfl, ?_⟩
                    have n0_ := A_ (Kd.R_elder' (by (with_reducible repeat (first | apply ra_ | apply rn_ | apply rd_)); exact HO_596002.out) (Kd.R_base ho0) hb); have n1_ := A_ (Kd.R_elder' (by (with_reducible repeat (first | apply ra_ | apply rn_ | apply rd_)); exact HO632.out) (Kd.R_base ho0) hb); have n2_ := A_ (Kd.R_lower (Kd.R_newB (Kd.R_newB (Kd.R_newB (Kd.R_newB (Kd.R_new' (Kd.R_new' ho0 (Kd.R_lt (by (with_reducible repeat (first | apply ra_ | apply rn_ | apply rd_)); exact HO_596002.out))) (Kd.R_lt (by (with_reducible repeat (first | apply ra_ | apply rn_ | apply rd_)); exact HO632.out))) (g := gb584) (o := .cells #[.int .i64 a1_0, .int .i64 a1_1, .int .i64 a1_2, .int .i64 a1_3, .int .i64 a1_4, .string a1_5] 24 (0, 0)) (by (with_reducible repeat (first | refine bn_ ?_ _ | refine bd_ ?_ | refine ba_ ?_ _)); exact BK584.out)) (g := gb585) (o := .cells #[.int .i64 a2_0, .int .i64 a2_1, .int .i64 a2_2, .int .i64 a2_3, .int .i64 a2_4, .string a2_5] 24 (0, 0)) (by (with_reducible repeat (first | refine bn_ ?_ _ | refine bd_ ?_ | refine ba_ ?_ _)); exact BK585.out)) (g := gb603) (o := .cells #[.int .i64 t596, .int .i64 t597, .int .i64 t598, .int .i64 t599, .int .i64 t600, .string t601] 24 (0, 0)) (by (with_reducible repeat (first | refine bn_ ?_ _ | refine bd_ ?_ | refine ba_ ?_ _)); exact BK603.out)) (g := gb622) (o := .cells #[.int .i64 t615, .int .i64 t616, .int .i64 t617, .int .i64 t618, .int .i64 t619, .string t620] 24 (0, 0)) (by (with_reducible repeat (first | refine bn_ ?_ _ | refine bd_ ?_ | refine ba_ ?_ _)); exact BK622.out)) (below_size (by repeat (first | (with_reducible first | exact HB.out | apply wa_ | apply wn_ | apply wd_ | refine ws_ ?_ GE583.out | refine ws_ ?_ GE584.out | refine ws_ ?_ GE585.out | refine ws_ ?_ GE595.out | refine ws_ ?_ GE603.out | refine ws_ ?_ GE622.out) | exact HB.out)))); have n3_ := A_ (blk_below BK583.out hb); have n4_ := A_ (blk_below BK584.out hb); have n5_ := A_ (blk_below BK585.out hb); have n6_ := A_ (blk_below BK595.out hb); have n7_ := A_ (blk_below BK603.out hb); have n8_ := A_ (blk_below BK622.out hb); have n9_ := A_ (below_step HB.out hb); clear HO_596002; clear HO632; clear BK583; clear BK584; clear BK585; clear BK595; clear BK603; clear BK622; clear HB; have HO_596002 := n0_; have HO632 := n1_; have HO637 := n2_; have BK583 := n3_; have BK584 := n4_; have BK585 := n5_; have BK595 := n6_; have BK603 := n7_; have BK622 := n8_; have HB := n9_; clear n0_ n1_ n2_ n3_ n4_ n5_ n6_ n7_ n8_ n9_
                    (try clear hb)
                    (try clear hb2)
                    (try clear hk)
                    (try clear hi)
                    (try clear ho0)
                    refine hK.out _ _ ⟨(blk_cell BK584.out 0).trans rfl, (blk_cell BK584.out 1).trans rfl, (blk_cell BK584.out 2).trans rfl, (blk_cell BK584.out 3).trans rfl, (blk_cell BK584.out 4).trans rfl, (blk_cell BK584.out 5).trans rfl, (blk_cell BK585.out 0).trans rfl, (blk_cell BK585.out 1).trans rfl, (blk_cell BK585.out 2).trans rfl, (blk_cell BK585.out 3).trans rfl, (blk_cell BK585.out 4).trans rfl, (blk_cell BK585.out 5).trans rfl, (blk_cell BK583.out 0).trans rfl, (blk_cell BK583.out 1).trans rfl, (blk_cell BK583.out 2).trans rfl⟩ (fun hHeld => ?_)
                    clear hK K
                    refine norm_ (a' := ?_) ?_ ?_
                    rotate_left
                    · show Act.put _ (some 92) _ = _
                      simp only [Act.put, s0_, s1_, s2_, i64_w, i32_w]
                      rfl
                    refine one_ (i := 13) (N := some 95) #[T,T,T,T,T,T,T,T,T,T,T,T,T,T,T,F,F,F,F,F,F,F] rfl rfl (one_of HT_.out (by kernel_rfl)) (by decide) (fun K hK => ?_)
                    refine goes_ Try.func63 (by kernel_rfl) rfl #[.agg #[.int .i64 a0_0, .int .i64 a0_1, .slice A0_2 l0_2.length c0_2], .agg #[.int .i64 a2_0, .int .i64 a2_1, .int .i64 a2_2, .int .i64 a2_3, .int .i64 a2_4, .string a2_5]] (by rfl) rfl rfl (by (try simp only [m0_, m1_, m2_]); first | done | rfl) ?_
                    with_reducible refine (queue_Put.calls a0_0 a0_1 _ _ l0_2 a2_0 a2_1 a2_2 a2_3 a2_4 a2_5 t638 t639 t640 _ ?side1 ?side2 A138.out).mono ?_
                    (case side1 => repeat (first | exact (Kd.C_below HR0_2.out HB.out) | (with_reducible refine ca_ ?_ _) | (with_reducible refine cn_ ?_ _) | (with_reducible refine cd_ ?_)))
                    (case side2 => exact HC0_2.out)
                    rintro e w147 ⟨v641, rfl, ho0, hb⟩
                    refine ⟨_, rfl, ?_⟩
                    have n0_ := A_ (Kd.R_elder' (by (with_reducible repeat (first | apply ra_ | apply rn_ | apply rd_)); exact HO_596002.out) (Kd.R_base ho0) hb); have n1_ := A_ (Kd.R_elder' (by (with_reducible repeat (first | apply ra_ | apply rn_ | apply rd_)); exact HO632.out) (Kd.R_base ho0) hb); have n2_ := A_ (Kd.R_elder' (by (with_reducible repeat (first | apply ra_ | apply rn_ | apply rd_)); exact HO637.out) (Kd.R_base ho0) hb); have n3_ := A_ (Kd.R_lower (Kd.R_newB (Kd.R_newB (Kd.R_newB (Kd.R_newB (Kd.R_new' (Kd.R_new' (Kd.R_new' ho0 (Kd.R_lt (by (with_reducible repeat (first | apply ra_ | apply rn_ | apply rd_)); exact HO_596002.out))) (Kd.R_lt (by (with_reducible repeat (first | apply ra_ | apply rn_ | apply rd_)); exact HO632.out))) (Kd.R_lt (by (with_reducible repeat (first | apply ra_ | apply rn_ | apply rd_)); exact HO637.out))) (g := gb584) (o := .cells #[.int .i64 a1_0, .int .i64 a1_1, .int .i64 a1_2, .int .i64 a1_3, .int .i64 a1_4, .string a1_5] 24 (0, 0)) (by (with_reducible repeat (first | refine bn_ ?_ _ | refine bd_ ?_ | refine ba_ ?_ _)); exact BK584.out)) (g := gb585) (o := .cells #[.int .i64 a2_0, .int .i64 a2_1, .int .i64 a2_2, .int .i64 a2_3, .int .i64 a2_4, .string a2_5] 24 (0, 0)) (by (with_reducible repeat (first | refine bn_ ?_ _ | refine bd_ ?_ | refine ba_ ?_ _)); exact BK585.out)) (g := gb603) (o := .cells #[.int .i64 t596, .int .i64 t597, .int .i64 t598, .int .i64 t599, .int .i64 t600, .string t601] 24 (0, 0)) (by (with_reducible repeat (first | refine bn_ ?_ _ | refine bd_ ?_ | refine ba_ ?_ _)); exact BK603.out)) (g := gb622) (o := .cells #[.int .i64 t615, .int .i64 t616, .int .i64 t617, .int .i64 t618, .int .i64 t619, .string t620] 24 (0, 0)) (by (with_reducible repeat (first | refine bn_ ?_ _ | refine bd_ ?_ | refine ba_ ?_ _)); exact BK622.out)) (below_size (by repeat (first | (with_reducible first | exact HB.out | apply wa_ | apply wn_ | apply wd_ | refine ws_ ?_ GE583.out | refine ws_ ?_ GE584.out | refine ws_ ?_ GE585.out | refine ws_ ?_ GE595.out | refine ws_ ?_ GE603.out | refine ws_ ?_ GE622.out) | exact HB.out)))); have n4_ := A_ (blk_below BK583.out hb); have n5_ := A_ (blk_below BK584.out hb); have n6_ := A_ (blk_below BK585.out hb); have n7_ := A_ (blk_below BK595.out hb); have n8_ := A_ (blk_below BK603.out hb); have n9_ := A_ (blk_below BK622.out hb); have n10_ := A_ (below_step HB.out hb); clear HO_596002; clear HO632; clear HO637; clear BK583; clear BK584; clear BK585; clear BK595; clear BK603; clear BK622; clear HB; have HO_596002 := n0_; have HO632 := n1_; have HO637 := n2_; have HO642 := n3_; have BK583 := n4_; have BK584 := n5_; have BK585 := n6_; have BK595 := n7_; have BK603 := n8_; have BK622 := n9_; have HB := n10_; clear n0_ n1_ n2_ n3_ n4_ n5_ n6_ n7_ n8_ n9_ n10_
                    (try clear hb)
                    (try clear hb2)
                    (try clear hk)
                    (try clear hi)
                    (try clear ho0)
                    obtain ⟨Ao148, co148, eo148⟩ := Kd.R_slice HO642.out
                    (first | subst eo148 | (injection eo148 with f1_ f2_ f3_; have f4_ := f1_.symm; have f5_ := f3_.symm; clear f1_ f2_ f3_; subst f4_; subst f5_))
                    refine hK.out _ _ ⟨(blk_cell BK584.out 0).trans rfl, (blk_cell BK584.out 1).trans rfl, (blk_cell BK584.out 2).trans rfl, (blk_cell BK584.out 3).trans rfl, (blk_cell BK584.out 4).trans rfl, (blk_cell BK584.out 5).trans rfl, (blk_cell BK585.out 0).trans rfl, (blk_cell BK585.out 1).trans rfl, (blk_cell BK585.out 2).trans rfl, (blk_cell BK585.out 3).trans rfl, (blk_cell BK585.out 4).trans rfl, (blk_cell BK585.out 5).trans rfl, (blk_cell BK583.out 0).trans rfl, (blk_cell BK583.out 1).trans rfl, (blk_cell BK583.out 2).trans rfl⟩ (fun hHeld => ?_)
                    clear hK K
                    refine norm_ (a' := ?_) ?_ ?_
                    rotate_left
                    · show Act.put _ (some 95) _ = _
                      simp only [Act.put, s0_, s1_, s2_, i64_w, i32_w]
                      rfl
                    refine one_ (i := 15) (N := some 97) #[T,T,T,T,T,T,T,T,T,T,T,T,T,T,T,T,F,F,F,F,F,F] rfl rfl (one_of HT_.out (by kernel_rfl)) (by decide) (fun K hK => ?_)
                    refine goes_ Try.func63 (by kernel_rfl) rfl #[.agg #[.int .i64 t638, .int .i64 t639, .slice Ao148 t640.length co148], .agg #[.int .i64 a1_0, .int .i64 a1_1, .int .i64 a1_2, .int .i64 a1_3, .int .i64 a1_4, .string a1_5]] (by rfl) rfl rfl (by (try simp only [m0_, m1_, m2_]); first | done | rfl) ?_
                    with_reducible refine (queue_Put.calls t638 t639 _ _ t640 a1_0 a1_1 a1_2 a1_3 a1_4 a1_5 t643 t644 t645 _ ?side1 ?side2 A139.out).mono ?_
                    (case side1 => repeat (first | exact (Kd.R_reads' HO642.out).2.2 | (with_reducible refine ca_ ?_ _) | (with_reducible refine cn_ ?_ _) | (with_reducible refine cd_ ?_)))
                    (case side2 => exact (Kd.R_reads' HO642.out).2.1)
                    rintro e w149 ⟨v646, rfl, ho0, hb⟩
                    refine ⟨_, rfl, ?_⟩
                    have n0_ := A_ (Kd.R_elder' (by (with_reducible repeat (first | apply ra_ | apply rn_ | apply rd_)); exact HO_596002.out) (Kd.R_base ho0) hb); have n1_ := A_ (Kd.R_elder' (by (with_reducible repeat (first | apply ra_ | apply rn_ | apply rd_)); exact HO632.out) (Kd.R_base ho0) hb); have n2_ := A_ (Kd.R_elder' (by (with_reducible repeat (first | apply ra_ | apply rn_ | apply rd_)); exact HO637.out) (Kd.R_base ho0) hb); have n3_ := A_ (Kd.R_elder' (by (with_reducible repeat (first | apply ra_ | apply rn_ | apply rd_)); exact HO642.out) (Kd.R_base ho0) hb); have n4_ := A_ (Kd.R_lower (Kd.R_newB (Kd.R_newB (Kd.R_newB (Kd.R_newB (Kd.R_new' (Kd.R_new' (Kd.R_new' (Kd.R_new' ho0 (Kd.R_lt (by (with_reducible repeat (first | apply ra_ | apply rn_ | apply rd_)); exact HO_596002.out))) (Kd.R_lt (by (with_reducible repeat (first | apply ra_ | apply rn_ | apply rd_)); exact HO632.out))) (Kd.R_lt (by (with_reducible repeat (first | apply ra_ | apply rn_ | apply rd_)); exact HO637.out))) (Kd.R_lt (by (with_reducible repeat (first | apply ra_ | apply rn_ | apply rd_)); exact HO642.out))) (g := gb584) (o := .cells #[.int .i64 a1_0, .int .i64 a1_1, .int .i64 a1_2, .int .i64 a1_3, .int .i64 a1_4, .string a1_5] 24 (0, 0)) (by (with_reducible repeat (first | refine bn_ ?_ _ | refine bd_ ?_ | refine ba_ ?_ _)); exact BK584.out)) (g := gb585) (o := .cells #[.int .i64 a2_0, .int .i64 a2_1, .int .i64 a2_2, .int .i64 a2_3, .int .i64 a2_4, .string a2_5] 24 (0, 0)) (by (with_reducible repeat (first | refine bn_ ?_ _ | refine bd_ ?_ | refine ba_ ?_ _)); exact BK585.out)) (g := gb603) (o := .cells #[.int .i64 t596, .int .i64 t597, .int .i64 t598, .int .i64 t599, .int .i64 t600, .string t601] 24 (0, 0)) (by (with_reducible repeat (first | refine bn_ ?_ _ | refine bd_ ?_ | refine ba_ ?_ _)); exact BK603.out)) (g := gb622) (o := .cells #[.int .i64 t615, .int .i64 t616, .int .i64 t617, .int .i64 t618, .int .i64 t619, .string t620] 24 (0, 0)) (by (with_reducible repeat (first | refine bn_ ?_ _ | refine bd_ ?_ | refine ba_ ?_ _)); exact BK622.out)) (below_size (by repeat (first | (with_reducible first | exact HB.out | apply wa_ | apply wn_ | apply wd_ | refine ws_ ?_ GE583.out | refine ws_ ?_ GE584.out | refine ws_ ?_ GE585.out | refine ws_ ?_ GE595.out | refine ws_ ?_ GE603.out | refine ws_ ?_ GE622.out) | exact HB.out)))); have n5_ := A_ (blk_below BK583.out hb); have n6_ := A_ (blk_below BK584.out hb); have n7_ := A_ (blk_below BK585.out hb); have n8_ := A_ (blk_below BK595.out hb); have n9_ := A_ (blk_below BK603.out hb); have n10_ := A_ (blk_below BK622.out hb); have n11_ := A_ (below_step HB.out hb); clear HO_596002; clear HO632; clear HO637; clear HO642; clear BK583; clear BK584; clear BK585; clear BK595; clear BK603; clear BK622; clear HB; have HO_596002 := n0_; have HO632 := n1_; have HO637 := n2_; have HO642 := n3_; have HO647 := n4_; have BK583 := n5_; have BK584 := n6_; have BK585 := n7_; have BK595 := n8_; have BK603 := n9_; have BK622 := n10_; have HB := n11_; clear n0_ n1_ n2_ n3_ n4_ n5_ n6_ n7_ n8_ n9_ n10_ n11_
                    (try clear hb)
                    (try clear hb2)
                    (try clear hk)
                    (try clear hi)
                    (try clear ho0)
                    obtain ⟨Ao150, co150, eo150⟩ := Kd.R_slice HO637.out
                    (first | subst eo150 | (injection eo150 with f1_ f2_ f3_; have f4_ := f1_.symm; have f5_ := f3_.symm; clear f1_ f2_ f3_; subst f4_; subst f5_))
                    obtain ⟨Ao151, co151, eo151⟩ := Kd.R_slice HO647.out
                    (first | subst eo151 | (injection eo151 with f1_ f2_ f3_; have f4_ := f1_.symm; have f5_ := f3_.symm; clear f1_ f2_ f3_; subst f4_; subst f5_))
                    refine hK.out _ _ ⟨(blk_cell BK584.out 0).trans rfl, (blk_cell BK584.out 1).trans rfl, (blk_cell BK584.out 2).trans rfl, (blk_cell BK584.out 3).trans rfl, (blk_cell BK584.out 4).trans rfl, (blk_cell BK584.out 5).trans rfl, (blk_cell BK585.out 0).trans rfl, (blk_cell BK585.out 1).trans rfl, (blk_cell BK585.out 2).trans rfl, (blk_cell BK585.out 3).trans rfl, (blk_cell BK585.out 4).trans rfl, (blk_cell BK585.out 5).trans rfl, (blk_cell BK583.out 0).trans rfl, (blk_cell BK583.out 1).trans rfl, (blk_cell BK583.out 2).trans rfl⟩ (fun hHeld => ?_)
                    clear hK K
                    refine norm_ (a' := ?_) ?_ ?_
                    rotate_left
                    · show Act.put _ (some 97) _ = _
                      simp only [Act.put, s0_, s1_, s2_, i64_w, i32_w]
                      rfl
                    refine one_ (i := 16) (N := some 98) #[T,T,T,T,T,T,T,T,T,T,T,T,T,T,T,T,T,F,F,F,F,F] rfl rfl (one_of HT_.out (by kernel_rfl)) (by decide) (fun K hK => ?_)
                    refine goes_ Try.func62 (by kernel_rfl) rfl #[.agg #[.int .i64 t633, .int .i64 t634, .slice Ao150 t635.length co150], .agg #[.int .i64 t643, .int .i64 t644, .slice Ao151 t645.length co151]] (by rfl) rfl rfl (by (try simp only [m0_, m1_, m2_]); first | done | rfl) ?_
                    with_reducible refine (hopperref05_Same.calls kj70 t633 t634 _ _ t635 t643 t644 _ _ t645 true _ ?side1 ?side2 ?side3 ?side4 A140.out).mono ?_
                    (case side1 => repeat (first | exact (Kd.R_reads' HO637.out).2.2 | (with_reducible refine ca_ ?_ _) | (with_reducible refine cn_ ?_ _) | (with_reducible refine cd_ ?_)))
                    (case side2 => exact (Kd.R_reads' HO637.out).2.1)
                    (case side3 => repeat (first | exact (Kd.R_reads' HO647.out).2.2 | (with_reducible refine ca_ ?_ _) | (with_reducible refine cn_ ?_ _) | (with_reducible refine cd_ ?_)))
                    (case side4 => exact (Kd.R_reads' HO647.out).2.1)
                    rintro e w152 ⟨rfl, hb⟩
                    refine ⟨_, rfl, ?_⟩
                    have n0_ := A_ (Kd.R_below HO_596002.out hb); have n1_ := A_ (Kd.R_below (by (with_reducible repeat (first | apply ra_ | apply rn_ | apply rd_)); exact HO632.out) hb); have n2_ := A_ (Kd.R_below (by (with_reducible repeat (first | apply ra_ | apply rn_ | apply rd_)); exact HO637.out) hb); have n3_ := A_ (Kd.R_below (by (with_reducible repeat (first | apply ra_ | apply rn_ | apply rd_)); exact HO642.out) hb); have n4_ := A_ (Kd.R_below (by (with_reducible repeat (first | apply ra_ | apply rn_ | apply rd_)); exact HO647.out) hb); have n5_ := A_ (blk_below BK583.out hb); have n6_ := A_ (blk_below BK584.out hb); have n7_ := A_ (blk_below BK585.out hb); have n8_ := A_ (blk_below BK595.out hb); have n9_ := A_ (blk_below BK603.out hb); have n10_ := A_ (blk_below BK622.out hb); have n11_ := A_ (below_step HB.out hb); clear HO_596002; clear HO632; clear HO637; clear HO642; clear HO647; clear BK583; clear BK584; clear BK585; clear BK595; clear BK603; clear BK622; clear HB; have HO_596002 := n0_; have HO632 := n1_; have HO637 := n2_; have HO642 := n3_; have HO647 := n4_; have BK583 := n5_; have BK584 := n6_; have BK585 := n7_; have BK595 := n8_; have BK603 := n9_; have BK622 := n10_; have HB := n11_; clear n0_ n1_ n2_ n3_ n4_ n5_ n6_ n7_ n8_ n9_ n10_ n11_
                    (try clear hb)
                    (try clear hb2)
                    (try clear hk)
                    (try clear hi)
                    refine hK.out _ _ ⟨(blk_cell BK584.out 0).trans rfl, (blk_cell BK584.out 1).trans rfl, (blk_cell BK584.out 2).trans rfl, (blk_cell BK584.out 3).trans rfl, (blk_cell BK584.out 4).trans rfl, (blk_cell BK584.out 5).trans rfl, (blk_cell BK585.out 0).trans rfl, (blk_cell BK585.out 1).trans rfl, (blk_cell BK585.out 2).trans rfl, (blk_cell BK585.out 3).trans rfl, (blk_cell BK585.out 4).trans rfl, (blk_cell BK585.out 5).trans rfl, (blk_cell BK583.out 0).trans rfl, (blk_cell BK583.out 1).trans rfl, (blk_cell BK583.out 2).trans rfl⟩ (fun hHeld => ?_)
                    clear hK K
                    refine norm_ (a' := ?_) ?_ ?_
                    rotate_left
                    · show Act.put _ (some 98) _ = _
                      simp only [Act.put, s0_, s1_, s2_, i64_w, i32_w]
                      rfl
                    refine pure_ (i := 17) (N := some 99) (v := ?_) (a' := ?_) #[T,T,T,T,T,T,T,T,T,T,T,T,T,T,T,T,T,T,F,F,F,F] rfl rfl (any_of HT_.out (by kernel_rfl)) (fun _ _ _ h => h) (Or.inl ⟨by rfl, ?_⟩) ?_ ?_
                    rotate_left
                    · intro w'
                      go_simp
                      with_reducible rfl
                    rotate_left
                    · simp only [Act.put, s0_, s1_, s2_, i64_w, i32_w]
                      rfl
                    refine pure_ (i := 18) (N := some 100) (v := ?_) (a' := ?_) #[T,T,T,T,T,T,T,T,T,T,T,T,T,T,T,T,T,T,T,F,F,F] rfl rfl (any_of HT_.out (by kernel_rfl)) (fun _ _ _ h => h) (Or.inl ⟨by rfl, ?_⟩) ?_ ?_
                    rotate_left
                    · intro w'
                      go_simp
                      with_reducible rfl
                    rotate_left
                    · simp only [Act.put, s0_, s1_, s2_, i64_w, i32_w]
                      rfl
                    refine one_ (i := 19) (N := some 101) #[T,T,T,T,T,T,T,T,T,T,T,T,T,T,T,T,T,T,T,T,F,F] rfl rfl (one_of HT_.out (by kernel_rfl)) (by decide) (fun K hK => ?_)
                    refine goes_ Try.func51 (by kernel_rfl) rfl #[] (by rfl) rfl rfl (by (try simp only [m0_, m1_, m2_]); first | done | rfl) ?_
                    with_reducible refine (hopperlaw05_live.calls kj70  t649 _ A142.out).mono ?_
                    rintro e w153 ⟨rfl, hb⟩
                    refine ⟨_, rfl, ?_⟩
                    have n0_ := A_ (Kd.R_below HO_596002.out hb); have n1_ := A_ (Kd.R_below (by (with_reducible repeat (first | apply ra_ | apply rn_ | apply rd_)); exact HO632.out) hb); have n2_ := A_ (Kd.R_below (by (with_reducible repeat (first | apply ra_ | apply rn_ | apply rd_)); exact HO637.out) hb); have n3_ := A_ (Kd.R_below (by (with_reducible repeat (first | apply ra_ | apply rn_ | apply rd_)); exact HO642.out) hb); have n4_ := A_ (Kd.R_below (by (with_reducible repeat (first | apply ra_ | apply rn_ | apply rd_)); exact HO647.out) hb); have n5_ := A_ (blk_below BK583.out hb); have n6_ := A_ (blk_below BK584.out hb); have n7_ := A_ (blk_below BK585.out hb); have n8_ := A_ (blk_below BK595.out hb); have n9_ := A_ (blk_below BK603.out hb); have n10_ := A_ (blk_below BK622.out hb); have n11_ := A_ (below_step HB.out hb); clear HO_596002; clear HO632; clear HO637; clear HO642; clear HO647; clear BK583; clear BK584; clear BK585; clear BK595; clear BK603; clear BK622; clear HB; have HO_596002 := n0_; have HO632 := n1_; have HO637 := n2_; have HO642 := n3_; have HO647 := n4_; have BK583 := n5_; have BK584 := n6_; have BK585 := n7_; have BK595 := n8_; have BK603 := n9_; have BK622 := n10_; have HB := n11_; clear n0_ n1_ n2_ n3_ n4_ n5_ n6_ n7_ n8_ n9_ n10_ n11_
                    (try clear hb)
                    (try clear hb2)
                    (try clear hk)
                    (try clear hi)
                    refine hK.out _ _ ⟨(blk_cell BK584.out 0).trans rfl, (blk_cell BK584.out 1).trans rfl, (blk_cell BK584.out 2).trans rfl, (blk_cell BK584.out 3).trans rfl, (blk_cell BK584.out 4).trans rfl, (blk_cell BK584.out 5).trans rfl, (blk_cell BK585.out 0).trans rfl, (blk_cell BK585.out 1).trans rfl, (blk_cell BK585.out 2).trans rfl, (blk_cell BK585.out 3).trans rfl, (blk_cell BK585.out 4).trans rfl, (blk_cell BK585.out 5).trans rfl, (blk_cell BK583.out 0).trans rfl, (blk_cell BK583.out 1).trans rfl, (blk_cell BK583.out 2).trans rfl⟩ (fun hHeld => ?_)
                    clear hK K
                    refine norm_ (a' := ?_) ?_ ?_
                    rotate_left
                    · show Act.put _ (some 101) _ = _
                      simp only [Act.put, s0_, s1_, s2_, i64_w, i32_w]
                      rfl
                    refine pure_ (i := 20) (N := some 102) (v := ?_) (a' := ?_) #[T,T,T,T,T,T,T,T,T,T,T,T,T,T,T,T,T,T,T,T,T,F] rfl rfl (any_of HT_.out (by kernel_rfl)) (fun _ _ _ h => h) (Or.inl ⟨by rfl, ?_⟩) ?_ ?_
                    rotate_left
                    · intro w'
                      go_simp
                      with_reducible rfl
                    rotate_left
                    · simp only [Act.put, s0_, s1_, s2_, i64_w, i32_w]
                      rfl
                    refine pure_ (i := 21) (N := some 6) (v := ?_) (a' := ?_) #[T,T,T,T,T,T,T,T,T,T,T,T,T,T,T,T,T,T,T,T,T,T] rfl rfl (any_of HT_.out (by kernel_rfl)) (fun _ _ _ h => h) (Or.inl ⟨by rfl, ?_⟩) ?_ ?_
                    rotate_left
                    · intro w'
                      go_simp
                      with_reducible rfl
                    rotate_left
                    · simp only [Act.put, s0_, s1_, s2_, i64_w, i32_w]
                      rfl
                    refine done_ (done_of HT_.out (by kernel_rfl)) ?_
                    try go_wp2
                    go_ret
                    exact ⟨by first | rfl | (simp [errW_none, errW_some] <;> rfl) | (simp [*, errW_none, errW_some] <;> rfl), by repeat (first | (with_reducible first | exact HB.out | apply wa_ | apply wn_ | apply wd_ | refine ws_ ?_ GE583.out | refine ws_ ?_ GE584.out | refine ws_ ?_ GE585.out | refine ws_ ?_ GE595.out | refine ws_ ?_ GE603.out | refine ws_ ?_ GE622.out) | exact HB.out)⟩
open Go.Proofs.Ytehncbhmdgdkjaa.Row (okI okB okS okL) in
/-- THE ONE PURE STATEMENT of hopperlaw05_QueuePuts. -/
def hopperlaw05_QueuePuts.Pure : Prop := ∀ (a0_0 : Int) (a0_1 : Int) (l0_2 : List (S24)) (a1_0 : Int) (a1_1 : Int) (a1_2 : Int) (a1_3 : Int) (a1_4 : Int) (a1_5 : ByteArray) (a2_0 : Int) (a2_1 : Int) (a2_2 : Int) (a2_3 : Int) (a2_4 : Int) (a2_5 : ByteArray), ok46 (⟨a0_0, a0_1, l0_2⟩ : S46) → ok24 (⟨a1_0, a1_1, a1_2, a1_3, a1_4, a1_5⟩ : S24) → ok24 (⟨a2_0, a2_1, a2_2, a2_3, a2_4, a2_5⟩ : S24) → ∃ k, hopperlaw05_QueuePuts.f k a0_0 a0_1 l0_2 a1_0 a1_1 a1_2 a1_3 a1_4 a1_5 a2_0 a2_1 a2_2 a2_3 a2_4 a2_5 = some true

end Go.Proofs.Ytehncbhmdgdkjaa.Q
