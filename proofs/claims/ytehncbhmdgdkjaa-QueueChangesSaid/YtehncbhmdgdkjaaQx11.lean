/- Written by this session's own program over the kit's print: functions of Go told as plain functions, or the row of one statement; proved for every input, with no condition of ours. -/
import Derived.Test.YtehncbhmdgdkjaaQx0
import Derived.Test.YtehncbhmdgdkjaaQx2
namespace Go.Proofs.Ytehncbhmdgdkjaa.Q
open Go.RowKit Go.Proofs.YtehncbhmdgdkjaaW.PrintWords Go.Proofs.YtehncbhmdgdkjaaW.PrintLast Go.Proofs.YtehncbhmdgdkjaaW.PrintMore
attribute [local go_sem] max2_int min2_int max_two min_two max_three min_three max_four min_four   -- for this text's walks alone
set_option linter.unusedVariables false
set_option linter.unusedSimpArgs false

/-! ### hopperref05_Find: function 53 -/
def hopperref05_Find.l0 : Nat → Int → Int → Int → Int → List (S24) → Option (Int × Int × Int × Int × Int × ByteArray × Bool)
 | 0, _, _, _, _, _ => none
 | k + 1, x1, x6, x326000, x326001, x326002 => if x6 < (x326002.length : Int) then (if 0 ≤ x6 then (if ((rd_T24 x326002 x6).f1) = x1 then (some ((rd_T24 x326002 x6).f0, (rd_T24 x326002 x6).f1, (rd_T24 x326002 x6).f2, (rd_T24 x326002 x6).f3, (rd_T24 x326002 x6).f4, (rd_T24 x326002 x6).f5, true)) else (hopperref05_Find.l0 k x1 (wrap64 (x6 + 1)) x326000 x326001 x326002)) else (none)) else (some (0, 0, 0, 0, 0, (⟨#[]⟩ : ByteArray), false))
def hopperref05_Find.f (k : Nat) (a0_0 : Int) (a0_1 : Int) (l0_2 : List (S24)) (a1 : Int) : Option (Int × Int × Int × Int × Int × ByteArray × Bool) := hopperref05_Find.l0 k a1 0 a0_0 a0_1 l0_2
theorem hopperref05_Find.mono_l : ∀ k, (∀ y0 y1 y2 y3 y4, LeO (hopperref05_Find.l0 k y0 y1 y2 y3 y4) (hopperref05_Find.l0 (k + 1) y0 y1 y2 y3 y4))
 | 0 => fun _ _ _ _ _ r h => by simp [hopperref05_Find.l0] at h
 | k + 1 => by
  have ih0 := hopperref05_Find.mono_l k
  · intro y0 y1 y2 y3 y4
    unfold hopperref05_Find.l0
    repeat' first
    | (with_reducible exact ih0 _ _ _ _ _)
    | (with_reducible exact LeO.refl _)
    | (with_reducible exact LeO.none _)
    | (with_reducible refine LeO.ite ?_ ?_)
    | (with_reducible refine LeO.bind ?_ (fun _ => ?_))
    | exact ih0 _ _ _ _ _
    | exact LeO.none _
    | refine LeO.ite ?_ ?_
    | refine LeO.bind ?_ (fun _ => ?_)
theorem hopperref05_Find.mono : ∀ a0 a1 a2 a3 k, LeO (hopperref05_Find.f k a0 a1 a2 a3) (hopperref05_Find.f (k + 1) a0 a1 a2 a3) := by
 intro a0 a1 a2 a3 k
 have ih0 := hopperref05_Find.mono_l k
 unfold hopperref05_Find.f
 repeat' first
  | (with_reducible exact ih0 _ _ _ _ _)
  | (with_reducible exact LeO.refl _)
  | (with_reducible exact LeO.none _)
  | (with_reducible refine LeO.ite ?_ ?_)
  | (with_reducible refine LeO.bind ?_ (fun _ => ?_))
  | exact ih0 _ _ _ _ _
  | exact LeO.none _
  | refine LeO.ite ?_ ?_
  | refine LeO.bind ?_ (fun _ => ?_)
set_option maxHeartbeats 8000000 in
set_option maxRecDepth 100000 in
theorem hopperref05_Find.calls (k : Nat) (a0_0 : Int) (a0_1 : Int) (A0_2 : Option Addr) (c0_2 : Nat) (l0_2 : List (S24)) (a1 : Int) (r1 : Int) (r2 : Int) (r3 : Int) (r4 : Int) (r5 : Int) (r6 : ByteArray) (r7 : Bool) (w : World) (hr0_2 : Kd.C k24 w A0_2 l0_2.length l0_2) (hc0_2 : l0_2.length ≤ c0_2) (h : hopperref05_Find.f k a0_0 a0_1 l0_2 a1 = some (r1, r2, r3, r4, r5, r6, r7)) :
 Calls Try.prog 53 #[.agg #[.int .i64 a0_0, .int .i64 a0_1, .slice A0_2 l0_2.length c0_2], .int .i64 a1] w fun e w' => e = .returned (.tuple #[.agg #[.int .i64 r1, .int .i64 r2, .int .i64 r3, .int .i64 r4, .int .i64 r5, .string r6], .bool r7]) ∧ Below w.heap.size w w' := by
 have hu46 := Try.underlying46
 have hu24 := Try.underlying24
 have HR0_2 := A_ hr0_2
 have HC0_2 := A_ hc0_2
 clear hr0_2 hc0_2; have HB := A_ (Below.refl w.heap.size w)
 have H : (hopperref05_Find.l0 k a1 0 a0_0 a0_1 l0_2) = some (r1, r2, r3, r4, r5, r6, r7) := h
 clear h
 have H' := A_ H
 clear H
 go_enter Try.func53, Try.ntmps53
 go_wp2_with (first | ((with_reducible refine gate_dst (N := 2) rfl ?_); refine box_event ?hg (N := 2) ?hd (cs := #[.int .i64 a0_0, .int .i64 a0_1, .slice A0_2 l0_2.length c0_2]) (t := 46) ?hr ?_; (case hd => rfl); (case hg => rfl); (case hr => first | (go_simp; done) | (go_simp; rfl)); intro gb325 hg w3 hbox hb; have n0_ := A_ (below_step bw_ hb); have n1_ := A_ (hbox); have n2_ := A_ (gz_ (w := w) hg); have n3_ := A_ (gz_ (w := w) hg); replace HB := n0_; have BK325 := n1_; have GW325 := n2_; have GE325 := n3_; clear n0_ n1_ n2_ n3_; clear hb hbox hg) | ((with_reducible refine gate_dst (N := 4) rfl ?_); refine box_event ?hg (N := 4) ?hd (cs := #[.int .i64 0, .int .i64 0, .int .i64 0, .int .i64 0, .int .i64 0, .string (⟨#[]⟩ : ByteArray)]) (t := 24) ?hr ?_; (case hd => rfl); (case hg => rfl); (case hr => first | (go_simp; done) | (go_simp; rfl)); intro gb326 hg w4 hbox hb; have n0_ := A_ (kb_ BK325 hb); have n1_ := A_ (below_step bw_ hb); have n2_ := A_ (hbox); have n3_ := A_ (gz_ (w := w) hg); have n4_ := A_ (gz_ (w := w) hg); have n5_ := A_ (nl_ BK325 hg); have n6_ := A_ (ng_ BK325 hg); replace BK325 := n0_; replace HB := n1_; have BK326 := n2_; have GW326 := n3_; have GE326 := n4_; have NB325_326 := n5_; have NB326_325 := n6_; clear n0_ n1_ n2_ n3_ n4_ n5_ n6_; clear hb hbox hg))
 go_loopg [6] k (fun kq v6 w' => ∃ (x6_1 : Int) (x327000_1 : Int) (x327001_1 : Int) (x327002_1 : Int) (x327003_1 : Int) (x327004_1 : Int) (x327005_1 : ByteArray), v6 = .int .i64 x6_1 ∧ Aside0 (hopperref05_Find.l0 kq a1 x6_1 a0_0 a0_1 l0_2 = some (r1, r2, r3, r4, r5, r6, r7)) ∧ Aside0 (kq ≤ k) ∧ Aside0 (w'.heap[gb325]? = some (.cells #[.int .i64 a0_0, .int .i64 a0_1, (.slice A0_2 l0_2.length c0_2)] 46 (0, 0))) ∧ Aside0 (w'.heap[gb326]? = some (.cells #[.int .i64 x327000_1, .int .i64 x327001_1, .int .i64 x327002_1, .int .i64 x327003_1, .int .i64 x327004_1, .string x327005_1] 24 (0, 0))) ∧ Aside0 (Below w.heap.size w w'))
 case atStart => exact ⟨(0), (0), (0), (0), (0), (0), ((⟨#[]⟩ : ByteArray)), (by first | rfl | (simp; done) | (simp [*]; done)), H', ⟨Nat.le_refl _⟩, ⟨bk_⟩, ⟨bk_⟩, ⟨by repeat (first | (with_reducible first | exact HB.out | apply wa_ | apply wn_ | apply wd_ | refine ws_ ?_ GE325.out | refine ws_ ?_ GE326.out) | exact HB.out)⟩⟩
 case round =>
  clear H'; (try clear p2)
  obtain ⟨x6_1, x327000_1, x327001_1, x327002_1, x327003_1, x327004_1, x327005_1, rfl, HA, HK1, BK325, BK326, HB⟩ := hrel
  cases gk with
  | zero => exact absurd HA.out (by simp [hopperref05_Find.l0])
  | succ k1 =>
   have H := HA.out
   clear HA
   simp only [hopperref05_Find.l0] at H
   by_cases c5 : x6_1 < (l0_2.length : Int)
   · rw [if_pos c5] at H
     have c5b0 : decide (x6_1 < (l0_2.length : Int)) = true := decide_eq_true c5
     clear c5
     by_cases c6 : 0 ≤ x6_1
     rotate_left
     · rw [if_neg c6] at H
       exact absurd H (by simp)
     rw [if_pos c6] at H
     have c6b0 : decide (0 ≤ x6_1) = true := decide_eq_true c6
     clear c6
     by_cases c7 : ((rd_T24 l0_2 x6_1).f1) = a1
     · rw [if_pos c7] at H
       have c7b0 : (((rd_T24 l0_2 x6_1).f1) == a1) = true := beq_iff_eq.mpr c7
       have c7b1 : (((rd_T24 l0_2 x6_1).f1) != a1) = false := bne_eq_false_iff_eq.mpr c7
       clear c7
       simp only [Option.some.injEq, Prod.mk.injEq] at H
       obtain ⟨rfl, rfl, rfl, rfl, rfl, rfl, rfl⟩ := H
       have hnb8 := NB325_326.out; have hnc8 := NB326_325.out; have hcz9_0 : wr.cell? ⟨gb325, 0, none⟩ = some (.int .i64 a0_0) := e_ BK325 0; have hcz9_1 : wr.cell? ⟨gb325, 1, none⟩ = some (.int .i64 a0_1) := e_ BK325 1; have hcz9_2 : wr.cell? ⟨gb325, 2, none⟩ = some (.slice A0_2 l0_2.length c0_2) := e_ BK325 2; obtain ⟨hfz9_0, hfz9_1, hfz9_2⟩ := z3_ BK325
       have p327 : 0 ≤ (x6_1 : Int) := of_decide_eq_true (by first | (with_reducible assumption) | assumption)
       have q327 : x6_1 < (l0_2.length : Int) := of_decide_eq_true (by first | (with_reducible assumption) | assumption)
       obtain ⟨ad327, e327, hx327_0, hx327_1, hx327_2, hx327_3, hx327_4, hx327_5⟩ := at_T24 HR0_2.out x6_1 p327 q327
       cases e327
       replace hx327_0 := on_ HB.out hx327_0
       replace hx327_1 := on_ HB.out hx327_1
       replace hx327_2 := on_ HB.out hx327_2
       replace hx327_3 := on_ HB.out hx327_3
       replace hx327_4 := on_ HB.out hx327_4
       replace hx327_5 := on_ HB.out hx327_5
       replace p327 := eq_true p327
       replace q327 := eq_true q327
       have p328 : 0 ≤ (x6_1 : Int) := of_decide_eq_true (by first | (with_reducible assumption) | assumption)
       have q328 : x6_1 < (l0_2.length : Int) := of_decide_eq_true (by first | (with_reducible assumption) | assumption)
       obtain ⟨ad328, e328, hx328_0, hx328_1, hx328_2, hx328_3, hx328_4, hx328_5⟩ := at_T24 HR0_2.out x6_1 p328 q328
       obtain rfl : ad327 = ad328 := (by injection e328)
       replace hx328_0 := on_ HB.out hx328_0
       replace hx328_1 := on_ HB.out hx328_1
       replace hx328_2 := on_ HB.out hx328_2
       replace hx328_3 := on_ HB.out hx328_3
       replace hx328_4 := on_ HB.out hx328_4
       replace hx328_5 := on_ HB.out hx328_5
       replace p328 := eq_true p328
       replace q328 := eq_true q328
       have hcz10_0 : wr.cell? ⟨gb326, 0, none⟩ = some (.int .i64 x327000_1) := e_ BK326 0; have hcz10_1 : wr.cell? ⟨gb326, 1, none⟩ = some (.int .i64 x327001_1) := e_ BK326 1; have hcz10_2 : wr.cell? ⟨gb326, 2, none⟩ = some (.int .i64 x327002_1) := e_ BK326 2; have hcz10_3 : wr.cell? ⟨gb326, 3, none⟩ = some (.int .i64 x327003_1) := e_ BK326 3; have hcz10_4 : wr.cell? ⟨gb326, 4, none⟩ = some (.int .i64 x327004_1) := e_ BK326 4; have hcz10_5 : wr.cell? ⟨gb326, 5, none⟩ = some (.string x327005_1) := e_ BK326 5; obtain ⟨hfz10_0, hfz10_1, hfz10_2, hfz10_3, hfz10_4, hfz10_5⟩ := z6_ BK326
       go_wp2
       refine bodyPost_ret (results_ct rfl _ _ gb326 24 #[.int .i64 ((rd_T24 l0_2 x6_1).f0), .int .i64 ((rd_T24 l0_2 x6_1).f1), .int .i64 ((rd_T24 l0_2 x6_1).f2), .int .i64 ((rd_T24 l0_2 x6_1).f3), .int .i64 ((rd_T24 l0_2 x6_1).f4), .string ((rd_T24 l0_2 x6_1).f5)] (0, 0) _ rfl (by exact pk_ (b6_ BK326.out)) Try.underlying24 rfl (by kernel_rfl)) rfl ?_
       exact ⟨by first | rfl | (simp [errW_none, errW_some] <;> rfl) | (simp [*, errW_none, errW_some] <;> rfl), by repeat (first | (with_reducible first | exact HB.out | apply wa_ | apply wn_ | apply wd_ | refine ws_ ?_ GE325.out | refine ws_ ?_ GE326.out) | exact HB.out)⟩
     · rw [if_neg c7] at H
       have c7b0 : (((rd_T24 l0_2 x6_1).f1) == a1) = false := beq_eq_false_iff_ne.mpr c7
       have c7b1 : (((rd_T24 l0_2 x6_1).f1) != a1) = true := bne_iff_ne.mpr c7
       have H' := A_ H
       clear H; have hnb11 := NB325_326.out; have hnc11 := NB326_325.out; have hcz12_0 : wr.cell? ⟨gb325, 0, none⟩ = some (.int .i64 a0_0) := e_ BK325 0; have hcz12_1 : wr.cell? ⟨gb325, 1, none⟩ = some (.int .i64 a0_1) := e_ BK325 1; have hcz12_2 : wr.cell? ⟨gb325, 2, none⟩ = some (.slice A0_2 l0_2.length c0_2) := e_ BK325 2; obtain ⟨hfz12_0, hfz12_1, hfz12_2⟩ := z3_ BK325
       have p327 : 0 ≤ (x6_1 : Int) := of_decide_eq_true (by first | (with_reducible assumption) | assumption)
       have q327 : x6_1 < (l0_2.length : Int) := of_decide_eq_true (by first | (with_reducible assumption) | assumption)
       obtain ⟨ad327, e327, hx327_0, hx327_1, hx327_2, hx327_3, hx327_4, hx327_5⟩ := at_T24 HR0_2.out x6_1 p327 q327
       cases e327
       replace hx327_0 := on_ HB.out hx327_0
       replace hx327_1 := on_ HB.out hx327_1
       replace hx327_2 := on_ HB.out hx327_2
       replace hx327_3 := on_ HB.out hx327_3
       replace hx327_4 := on_ HB.out hx327_4
       replace hx327_5 := on_ HB.out hx327_5
       replace p327 := eq_true p327
       replace q327 := eq_true q327
       go_wp2
       go_roundg k1
       case measure => have := HK1.out; omega
       case rel => exact ⟨(wrap64 (x6_1 + 1)), (x327000_1), (x327001_1), (x327002_1), (x327003_1), (x327004_1), (x327005_1), (by first | rfl | (simp; done) | (simp [*]; done)), H', ⟨by have := HK1.out; omega⟩, ⟨bk_⟩, ⟨bk_⟩, ⟨by repeat (first | (with_reducible first | exact HB.out | apply wa_ | apply wn_ | apply wd_ | refine ws_ ?_ GE325.out | refine ws_ ?_ GE326.out) | exact HB.out)⟩⟩
   · rw [if_neg c5] at H
     have c5b0 : decide (x6_1 < (l0_2.length : Int)) = false := decide_eq_false c5
     clear c5
     simp only [Option.some.injEq, Prod.mk.injEq] at H
     obtain ⟨rfl, rfl, rfl, rfl, rfl, rfl, rfl⟩ := H
     have hnb13 := NB325_326.out; have hnc13 := NB326_325.out; have hcz14_0 : wr.cell? ⟨gb325, 0, none⟩ = some (.int .i64 a0_0) := e_ BK325 0; have hcz14_1 : wr.cell? ⟨gb325, 1, none⟩ = some (.int .i64 a0_1) := e_ BK325 1; have hcz14_2 : wr.cell? ⟨gb325, 2, none⟩ = some (.slice A0_2 l0_2.length c0_2) := e_ BK325 2; obtain ⟨hfz14_0, hfz14_1, hfz14_2⟩ := z3_ BK325; have hcz15_0 : wr.cell? ⟨gb326, 0, none⟩ = some (.int .i64 x327000_1) := e_ BK326 0; have hcz15_1 : wr.cell? ⟨gb326, 1, none⟩ = some (.int .i64 x327001_1) := e_ BK326 1; have hcz15_2 : wr.cell? ⟨gb326, 2, none⟩ = some (.int .i64 x327002_1) := e_ BK326 2; have hcz15_3 : wr.cell? ⟨gb326, 3, none⟩ = some (.int .i64 x327003_1) := e_ BK326 3; have hcz15_4 : wr.cell? ⟨gb326, 4, none⟩ = some (.int .i64 x327004_1) := e_ BK326 4; have hcz15_5 : wr.cell? ⟨gb326, 5, none⟩ = some (.string x327005_1) := e_ BK326 5; obtain ⟨hfz15_0, hfz15_1, hfz15_2, hfz15_3, hfz15_4, hfz15_5⟩ := z6_ BK326
     go_wp2
     refine bodyPost_ret (results_ct rfl _ _ gb326 24 #[.int .i64 0, .int .i64 0, .int .i64 0, .int .i64 0, .int .i64 0, .string (⟨#[]⟩ : ByteArray)] (0, 0) _ rfl (by exact pk_ (b6_ BK326.out)) Try.underlying24 rfl (by kernel_rfl)) rfl ?_
     exact ⟨by first | rfl | (simp [errW_none, errW_some] <;> rfl) | (simp [*, errW_none, errW_some] <;> rfl), by repeat (first | (with_reducible first | exact HB.out | apply wa_ | apply wn_ | apply wd_ | refine ws_ ?_ GE325.out | refine ws_ ?_ GE326.out) | exact HB.out)⟩

/-! ### hopperref03_bytes: function 161 -/
def hopperref03_bytes.f : Nat → Int → Option (ByteArray)
 | 0, _ => none
 | k + 1, a0 => (some (([(Int.tmod a0 256) % 256] : List Int) : List Int)).bind fun y329 => (if a0 ≥ 256 then ((hopperref03_bytes.f k (wrap64 (Int.tdiv a0 256))).bind fun t332 => (if t332.size + (strOfNums y329).size ≤ 9223372036854775807 then (some (t332 ++ (strOfNums y329))) else (none))) else (some (strOfNums y329)))
theorem hopperref03_bytes.mono_l : ∀ k, (∀ y0, LeO (hopperref03_bytes.f k y0) (hopperref03_bytes.f (k + 1) y0))
 | 0 => fun _ r h => by simp [hopperref03_bytes.f] at h
 | k + 1 => by
  have ih0 := hopperref03_bytes.mono_l k
  · intro y0
    unfold hopperref03_bytes.f
    repeat' first
    | (with_reducible exact ih0 _)
    | (with_reducible exact LeO.refl _)
    | (with_reducible exact LeO.none _)
    | (with_reducible refine LeO.ite ?_ ?_)
    | (with_reducible refine LeO.bind ?_ (fun _ => ?_))
    | exact ih0 _
    | exact LeO.none _
    | refine LeO.ite ?_ ?_
    | refine LeO.bind ?_ (fun _ => ?_)
theorem hopperref03_bytes.mono : ∀ a0 k, LeO (hopperref03_bytes.f k a0) (hopperref03_bytes.f (k + 1) a0) := by
 intro a0 k
 have ih0 := hopperref03_bytes.mono_l k
 exact ih0 a0
set_option maxHeartbeats 8000000 in
set_option maxRecDepth 100000 in
theorem hopperref03_bytes.calls (k : Nat) : ∀ (a0 : Int) (r : ByteArray) (w : World) (h : hopperref03_bytes.f k a0 = some r),
 Calls Try.prog 161 #[.int .i64 a0] w fun e w' => e = .returned (.string r) ∧ Below w.heap.size w w' := by
 induction k using Nat.strongRecOn with
 | _ k ih =>
 intro a0 r w h
 cases k with
 | zero => exact absurd h (by simp [hopperref03_bytes.f])
 | succ k =>
 simp only [hopperref03_bytes.f] at h
 have HB := A_ (Below.refl w.heap.size w)
 have H : ((some (([(Int.tmod a0 256) % 256] : List Int) : List Int)).bind fun y329 => (if a0 ≥ 256 then ((hopperref03_bytes.f k (wrap64 (Int.tdiv a0 256))).bind fun t332 => (if t332.size + (strOfNums y329).size ≤ 9223372036854775807 then (some (t332 ++ (strOfNums y329))) else (none))) else (some (strOfNums y329)))) = some r := h
 clear h
 obtain ⟨y329, hy329⟩ : ∃ y_ : List Int, y_ = (([(Int.tmod a0 256) % 256] : List Int)) := ⟨_, rfl⟩
 replace H : (if a0 ≥ 256 then ((hopperref03_bytes.f k (wrap64 (Int.tdiv a0 256))).bind fun t332 => (if t332.size + (strOfNums y329).size ≤ 9223372036854775807 then (some (t332 ++ (strOfNums y329))) else (none))) else (some (strOfNums y329))) = some r := by first | (rw [hy329]; with_reducible exact H) | (have H2_ := (Option.bind_some _ _).symm.trans H; rw [hy329]; with_reducible exact H2_) | (have H2_ := (Option.bind_some _ _).symm.trans H; with_reducible exact H2_) | with_reducible exact H | (rw [hy329]; exact H) | exact H
 have Ny329 := A_ hy329
 clear hy329
 by_cases c2 : a0 ≥ 256
 rotate_left
 · rw [if_neg c2] at H
   have c2b0 : decide (256 ≤ a0) = false := decide_eq_false c2
   clear c2
   obtain rfl := Option.some.inj H
   go_enter Try.func161, Try.ntmps161
   go_wp2_with (first | ((with_reducible refine gate_dst (N := 7) rfl ?_); refine Kd.R_lit (Kd.int .u8) _ 5 ?hg (N := 7) ?hd (xs := ([(Int.tmod a0 256) % 256] : List Int)) (inner := [.int .u8 ((Int.tmod a0 256) % 256)]) (ok := fun _ => True) (okp := fun _ => True) ?hr ?hp (fun _ hk => hk) trivial (Below.refl _ _) (Nat.le_refl _) (by simp) ?_; (case hd => rfl); (case hg => rfl); (case hr => first | (go_simp; done) | (go_simp; rfl)); (case hp => exact (Reps.one (show Kd.M (Kd.int .u8) _ _ _ ((Int.tmod a0 256) % 256) [.int .u8 ((Int.tmod a0 256) % 256)] from rfl) (Reps.none _ _))); intro v330 w9 ho10 hb hg_ hnew_; clear hg_ hnew_; (first | rw [← Ny329.out] at ho10 | (simp only [Int.reduceToNat] at ho10; rw [← Ny329.out] at ho10)); have HO331 := A_ (Kd.R_lower ho10 (below_size bw_)); replace HB := A_ (below_step bw_ hb); clear hb ho10; have hcv11 := own_string (P := Try.prog) Try.underlying162 Try.underlying5 Try.underlying9 (Kd.own_of_R HO331.out)))
   go_ret
   exact ⟨by first | rfl | (simp [errW_none, errW_some] <;> rfl) | (simp [*, errW_none, errW_some] <;> rfl), by repeat (first | (with_reducible first | exact HB.out | apply wa_ | apply wn_ | apply wd_) | exact HB.out)⟩

 rw [if_pos c2] at H
 have c2b0 : decide (256 ≤ a0) = true := decide_eq_true c2
 clear c2
 replace H := Option.bind_eq_some_iff.mp H
 obtain ⟨t332, A30, H⟩ := H
 try dsimp only at H
 have A3 := A_ A30
 clear A30
 by_cases c4 : t332.size + (strOfNums y329).size ≤ 9223372036854775807
 · rw [if_pos c4] at H
   have c4b0 := eq_true c4
   have c4b1 : decide (t332.size + (strOfNums y329).size ≤ 9223372036854775807) = true := decide_eq_true c4
   try have c4b2 : (9223372036854775807 < t332.size + (strOfNums y329).size) = False := eq_false (Nat.not_lt.2 c4)
   obtain rfl := Option.some.inj H
   go_enter Try.func161, Try.ntmps161
   go_wp2_with (first | ((with_reducible refine gate_dst (N := 7) rfl ?_); refine Kd.R_lit (Kd.int .u8) _ 5 ?hg (N := 7) ?hd (xs := ([(Int.tmod a0 256) % 256] : List Int)) (inner := [.int .u8 ((Int.tmod a0 256) % 256)]) (ok := fun _ => True) (okp := fun _ => True) ?hr ?hp (fun _ hk => hk) trivial (Below.refl _ _) (Nat.le_refl _) (by simp) ?_; (case hd => rfl); (case hg => rfl); (case hr => first | (go_simp; done) | (go_simp; rfl)); (case hp => exact (Reps.one (show Kd.M (Kd.int .u8) _ _ _ ((Int.tmod a0 256) % 256) [.int .u8 ((Int.tmod a0 256) % 256)] from rfl) (Reps.none _ _))); intro v330 w5 ho6 hb hg_ hnew_; clear hg_ hnew_; (first | rw [← Ny329.out] at ho6 | (simp only [Int.reduceToNat] at ho6; rw [← Ny329.out] at ho6)); have HO331 := A_ (Kd.R_lower ho6 (below_size bw_)); replace HB := A_ (below_step bw_ hb); clear hb ho6; have hcv7 := own_string (P := Try.prog) Try.underlying162 Try.underlying5 Try.underlying9 (Kd.own_of_R HO331.out)) | ((with_reducible refine gate_callee (f := 161) rfl ?_); refine goesL_ (some 13) rfl rfl Try.func161 (by kernel_rfl) rfl #[.int .i64 (wrap64 (Int.tdiv a0 256))] rfl (by (try simp only [m0_, m1_, m2_]); first | done | rfl) ?_; (with_reducible refine (ih k (by omega) (wrap64 (Int.tdiv a0 256)) t332 _ A3.out).mono ?_); rintro e w8 ⟨rfl, hb⟩; refine ⟨_, rfl, ?_⟩; replace HO331 := A_ (Kd.R_below (pr_ HO331.out) hb); replace HB := A_ (below_step bw_ hb); (try clear hb); (try clear hb2); (try clear hk); (try clear hi)))
   go_ret
   exact ⟨by first | rfl | (simp [errW_none, errW_some] <;> rfl) | (simp [*, errW_none, errW_some] <;> rfl), by repeat (first | (with_reducible first | exact HB.out | apply wa_ | apply wn_ | apply wd_) | exact HB.out)⟩
 · rw [if_neg c4] at H
   exact absurd H (by simp)
/-! ### hopperref03_Number: function 148 -/
def hopperref03_Number.f (k : Nat) (a0 : Int) : Option (ByteArray) := if a0 < 0 then (some (⟨#[]⟩ : ByteArray)) else ((hopperref03_bytes.f k a0).bind fun t333 => ((some (([((t333.size : Int)) % 256] : List Int) : List Int)).bind fun y334 => (if (strOfNums y334).size + t333.size ≤ 9223372036854775807 then (some ((strOfNums y334) ++ t333)) else (none))))
theorem hopperref03_Number.mono : ∀ a0 k, LeO (hopperref03_Number.f k a0) (hopperref03_Number.f (k + 1) a0) := by
  intro a0 k
  unfold hopperref03_Number.f
  repeat' first
      | (with_reducible exact hopperref03_bytes.mono _ _)
      | (with_reducible exact LeO.refl _)
      | (with_reducible exact LeO.none _)
      | (with_reducible refine LeO.ite ?_ ?_)
      | (with_reducible refine LeO.bind ?_ (fun _ => ?_))
      | exact hopperref03_bytes.mono _ _
      | exact LeO.none _
      | refine LeO.ite ?_ ?_
      | refine LeO.bind ?_ (fun _ => ?_)
set_option maxHeartbeats 8000000 in
set_option maxRecDepth 100000 in
theorem hopperref03_Number.calls (k : Nat) (a0 : Int) (r : ByteArray) (w : World) (h : hopperref03_Number.f k a0 = some r) :
    Calls Try.prog 148 #[.int .i64 a0] w fun e w' => e = .returned (.string r) ∧ Below w.heap.size w w' := by
  have HB := Aside0.mk (Below.refl w.heap.size w)
  have H : (if a0 < 0 then (some (⟨#[]⟩ : ByteArray)) else ((hopperref03_bytes.f k a0).bind fun t333 => ((some (([((t333.size : Int)) % 256] : List Int) : List Int)).bind fun y334 => (if (strOfNums y334).size + t333.size ≤ 9223372036854775807 then (some ((strOfNums y334) ++ t333)) else (none))))) = some r := h
  clear h
  by_cases c2 : a0 < 0
  · rw [if_pos c2] at H
    have c2b0 : decide (a0 < 0) = true := decide_eq_true c2
    clear c2
    obtain rfl := Option.some.inj H
    go_enter Try.func148, Try.ntmps148
    go_wp2
    go_ret
    exact ⟨by first | rfl | (simp [errW_none, errW_some] <;> rfl) | (simp [*, errW_none, errW_some] <;> rfl), by repeat (first | (with_reducible first | exact HB.out | apply below_alloc | apply pw_below_drewN | apply below_drew1) | exact HB.out)⟩
  · rw [if_neg c2] at H
    have c2b0 : decide (a0 < 0) = false := decide_eq_false c2
    clear c2
    replace H := Option.bind_eq_some_iff.mp H
    obtain ⟨t333, A30, H⟩ := H
    replace H : ((some (([((t333.size : Int)) % 256] : List Int) : List Int)).bind fun y334 => (if (strOfNums y334).size + t333.size ≤ 9223372036854775807 then (some ((strOfNums y334) ++ t333)) else (none))) = some r := H
    have A3 := Aside0.mk A30
    clear A30
    obtain ⟨y334, hy334⟩ : ∃ y_ : List Int, y_ = (([((t333.size : Int)) % 256] : List Int)) := ⟨_, rfl⟩
    replace H : (if (strOfNums y334).size + t333.size ≤ 9223372036854775807 then (some ((strOfNums y334) ++ t333)) else (none)) = some r := by first | (rw [hy334]; with_reducible exact H) | (have H2_ := (Option.bind_some _ _).symm.trans H; rw [hy334]; with_reducible exact H2_) | (have H2_ := (Option.bind_some _ _).symm.trans H; with_reducible exact H2_) | with_reducible exact H | (rw [hy334]; exact H) | exact H
    have Ny334 := Aside0.mk hy334
    clear hy334
    by_cases c4 : (strOfNums y334).size + t333.size ≤ 9223372036854775807
    · rw [if_pos c4] at H
      have c4b0 := eq_true c4
      have c4b1 : decide ((strOfNums y334).size + t333.size ≤ 9223372036854775807) = true := decide_eq_true c4
      try have c4b2 : (9223372036854775807 < (strOfNums y334).size + t333.size) = False := eq_false (Nat.not_lt.2 c4)
      obtain rfl := Option.some.inj H
      go_enter Try.func148, Try.ntmps148
      go_wp2_with (first | ((with_reducible refine gate_callee (f := 161) rfl ?_); refine goesL_ (some 7) rfl rfl Try.func161 (by kernel_rfl) rfl #[.int .i64 a0] rfl (by (try simp only [List.map_toArray, List.map_cons, List.map_nil]); first | done | rfl | (simp only [List.length_drop, List.length_take]; rfl)) ?_; (with_reducible refine (hopperref03_bytes.calls k a0 t333 _ A3.out).mono ?_); rintro e w5 ⟨rfl, hb⟩; refine ⟨_, rfl, ?_⟩; have n0_ := Aside0.mk (below_step (by repeat (first | (with_reducible first | exact HB.out | apply below_alloc | apply pw_below_drewN | apply below_drew1) | exact HB.out)) hb); clear HB; have HB := n0_; clear n0_; (try clear hb); (try clear hb2); (try clear hk); (try clear hi)) | ((with_reducible refine gate_dst (N := 11) rfl ?_); refine Kd.R_lit (Kd.int .u8) _ 5 ?hg (N := 11) ?hd (xs := ([((t333.size : Int)) % 256] : List Int)) (inner := [.int .u8 (((t333.size : Int)) % 256)]) (ok := fun _ => True) (okp := fun _ => True) ?hr ?hp (fun _ hk => hk) trivial (Below.refl _ _) (Nat.le_refl _) (by simp) ?_; (case hd => rfl); (case hg => rfl); (case hr => first | (go_simp; done) | (go_simp; rfl)); (case hp => exact (Reps.one (show Kd.M (Kd.int .u8) _ _ _ (((t333.size : Int)) % 256) [.int .u8 (((t333.size : Int)) % 256)] from rfl) (Reps.none _ _))); intro v335 w6 ho7 hb hg_ hnew_; clear hg_ hnew_; (first | rw [← Ny334.out] at ho7 | (simp only [Int.reduceToNat] at ho7; rw [← Ny334.out] at ho7)); have n0_ := Aside0.mk (Kd.R_lower ho7 (below_size (by repeat (first | (with_reducible first | exact HB.out | apply below_alloc | apply pw_below_drewN | apply below_drew1) | exact HB.out)))); have n1_ := Aside0.mk (below_step (by repeat (first | (with_reducible first | exact HB.out | apply below_alloc | apply pw_below_drewN | apply below_drew1) | exact HB.out)) hb); clear HB; have HO336 := n0_; have HB := n1_; clear n0_ n1_; clear hb ho7; have hcv8 := own_string (P := Try.prog) Try.underlying162 Try.underlying5 Try.underlying9 (Kd.own_of_R HO336.out)))
      go_ret
      exact ⟨by first | rfl | (simp [errW_none, errW_some] <;> rfl) | (simp [*, errW_none, errW_some] <;> rfl), by repeat (first | (with_reducible first | exact HB.out | apply below_alloc | apply pw_below_drewN | apply below_drew1) | exact HB.out)⟩
    · rw [if_neg c4] at H
      exact absurd H (by simp)

/-! ### hopperref03_Text: function 149 -/
def hopperref03_Text.f (a0 : ByteArray) : Option (ByteArray) := if (a0.size : Int) > 65535 then (some (⟨#[]⟩ : ByteArray)) else ((some (([((a0.size : Int) / 256) % 256, (a0.size : Int) % 256] : List Int) : List Int)).bind fun y337 => (if (strOfNums y337).size + a0.size ≤ 9223372036854775807 then (some ((strOfNums y337) ++ a0)) else (none)))
set_option maxHeartbeats 8000000 in
set_option maxRecDepth 100000 in
theorem hopperref03_Text.calls (a0 : ByteArray) (r : ByteArray) (w : World) (h : hopperref03_Text.f a0 = some r) :
    Calls Try.prog 149 #[.string a0] w fun e w' => e = .returned (.string r) ∧ Below w.heap.size w w' := by
  have HB := Aside0.mk (Below.refl w.heap.size w)
  have H : (if (a0.size : Int) > 65535 then (some (⟨#[]⟩ : ByteArray)) else ((some (([((a0.size : Int) / 256) % 256, (a0.size : Int) % 256] : List Int) : List Int)).bind fun y337 => (if (strOfNums y337).size + a0.size ≤ 9223372036854775807 then (some ((strOfNums y337) ++ a0)) else (none)))) = some r := h
  clear h
  by_cases c2 : (a0.size : Int) > 65535
  · rw [if_pos c2] at H
    have c2b0 : decide (65535 < (a0.size : Int)) = true := decide_eq_true c2
    have c2b1 : decide (65535 < a0.size) = true := decide_eq_true (by omega)
    clear c2
    obtain rfl := Option.some.inj H
    go_enter Try.func149, Try.ntmps149
    go_wp2
    go_ret
    exact ⟨by first | rfl | (simp [errW_none, errW_some] <;> rfl) | (simp [*, errW_none, errW_some] <;> rfl), by repeat (first | (with_reducible first | exact HB.out | apply below_alloc | apply pw_below_drewN | apply below_drew1) | exact HB.out)⟩
  · rw [if_neg c2] at H
    have c2b0 : decide (65535 < (a0.size : Int)) = false := decide_eq_false c2
    have c2b1 : decide (65535 < a0.size) = false := decide_eq_false (by omega)
    clear c2
    obtain ⟨y337, hy337⟩ : ∃ y_ : List Int, y_ = (([((a0.size : Int) / 256) % 256, (a0.size : Int) % 256] : List Int)) := ⟨_, rfl⟩
    replace H : (if (strOfNums y337).size + a0.size ≤ 9223372036854775807 then (some ((strOfNums y337) ++ a0)) else (none)) = some r := by first | (rw [hy337]; with_reducible exact H) | (have H2_ := (Option.bind_some _ _).symm.trans H; rw [hy337]; with_reducible exact H2_) | (have H2_ := (Option.bind_some _ _).symm.trans H; with_reducible exact H2_) | with_reducible exact H | (rw [hy337]; exact H) | exact H
    have Ny337 := Aside0.mk hy337
    clear hy337
    by_cases c3 : (strOfNums y337).size + a0.size ≤ 9223372036854775807
    · rw [if_pos c3] at H
      have c3b0 := eq_true c3
      have c3b1 : decide ((strOfNums y337).size + a0.size ≤ 9223372036854775807) = true := decide_eq_true c3
      try have c3b2 : (9223372036854775807 < (strOfNums y337).size + a0.size) = False := eq_false (Nat.not_lt.2 c3)
      obtain rfl := Option.some.inj H
      go_enter Try.func149, Try.ntmps149
      go_wp2_with (first | ((with_reducible refine gate_dst (N := 14) rfl ?_); refine Kd.R_lit (Kd.int .u8) _ 5 ?hg (N := 14) ?hd (xs := ([((a0.size : Int) / 256) % 256, (a0.size : Int) % 256] : List Int)) (inner := [.int .u8 (((a0.size : Int) / 256) % 256), .int .u8 ((a0.size : Int) % 256)]) (ok := fun _ => True) (okp := fun _ => True) ?hr ?hp (fun _ hk => hk) trivial (Below.refl _ _) (Nat.le_refl _) (by simp) ?_; (case hd => rfl); (case hg => rfl); (case hr => first | (go_simp; done) | (go_simp; rfl)); (case hp => exact (Reps.one (show Kd.M (Kd.int .u8) _ _ _ (((a0.size : Int) / 256) % 256) [.int .u8 (((a0.size : Int) / 256) % 256)] from rfl) (Reps.one (show Kd.M (Kd.int .u8) _ _ _ ((a0.size : Int) % 256) [.int .u8 ((a0.size : Int) % 256)] from rfl) (Reps.none _ _)))); intro v338 w4 ho5 hb hg_ hnew_; clear hg_ hnew_; (first | rw [← Ny337.out] at ho5 | (simp only [Int.reduceToNat] at ho5; rw [← Ny337.out] at ho5)); have n0_ := Aside0.mk (Kd.R_lower ho5 (below_size (by repeat (first | (with_reducible first | exact HB.out | apply below_alloc | apply pw_below_drewN | apply below_drew1) | exact HB.out)))); have n1_ := Aside0.mk (below_step (by repeat (first | (with_reducible first | exact HB.out | apply below_alloc | apply pw_below_drewN | apply below_drew1) | exact HB.out)) hb); clear HB; have HO339 := n0_; have HB := n1_; clear n0_ n1_; clear hb ho5; have hcv6 := own_string (P := Try.prog) Try.underlying162 Try.underlying5 Try.underlying9 (Kd.own_of_R HO339.out)))
      go_ret
      exact ⟨by first | rfl | (simp [errW_none, errW_some] <;> rfl) | (simp [*, errW_none, errW_some] <;> rfl), by repeat (first | (with_reducible first | exact HB.out | apply below_alloc | apply pw_below_drewN | apply below_drew1) | exact HB.out)⟩
    · rw [if_neg c3] at H
      exact absurd H (by simp)

/-! ### hopperref04_Encode: function 130 -/
def hopperref04_Encode.l0 : Nat → List Int → ByteArray → Int → Int → Int → Int → Int → Int → ByteArray → Option (ByteArray × Bool)
 | 0, _, _, _, _, _, _, _, _, _ => none
 | k + 1, x4, x5, x6, x341000, x341001, x341002, x341003, x341004, x341005 => if x6 < (x4.length : Int) then (if 0 ≤ x6 then ((hopperref03_Number.f k (rd x4 x6)).bind fun t346 => (if x5.size + t346.size ≤ 9223372036854775807 then (hopperref04_Encode.l0 k x4 (x5 ++ t346) (wrap64 (x6 + 1)) x341000 x341001 x341002 x341003 x341004 x341005) else (none))) else (none)) else ((hopperref03_Text.f x341005).bind fun t347 => (if x5.size + t347.size ≤ 9223372036854775807 then (some (x5 ++ t347, true)) else (none)))
def hopperref04_Encode.f (k : Nat) (a0_0 : Int) (a0_1 : Int) (a0_2 : Int) (a0_3 : Int) (a0_4 : Int) (a0_5 : ByteArray) : Option (ByteArray × Bool) := (hopperref04_Check.f a0_0 a0_1 a0_2 a0_3 a0_4 a0_5).bind fun t341 => (if t341 = true then (hopperref04_Encode.l0 k (([a0_0, a0_1, a0_2, a0_3, a0_4] : List Int)) (⟨#[1]⟩ : ByteArray) 0 a0_0 a0_1 a0_2 a0_3 a0_4 a0_5) else (some ((⟨#[]⟩ : ByteArray), false)))
theorem hopperref04_Encode.mono_l : ∀ k, (∀ y0 y1 y2 y3 y4 y5 y6 y7 y8, LeO (hopperref04_Encode.l0 k y0 y1 y2 y3 y4 y5 y6 y7 y8) (hopperref04_Encode.l0 (k + 1) y0 y1 y2 y3 y4 y5 y6 y7 y8))
 | 0 => fun _ _ _ _ _ _ _ _ _ r h => by simp [hopperref04_Encode.l0] at h
 | k + 1 => by
  have ih0 := hopperref04_Encode.mono_l k
  · intro y0 y1 y2 y3 y4 y5 y6 y7 y8
    unfold hopperref04_Encode.l0
    repeat' first
    | (with_reducible exact ih0 _ _ _ _ _ _ _ _ _)
    | (with_reducible exact hopperref03_Number.mono _ _)
    | (with_reducible exact LeO.refl _)
    | (with_reducible exact LeO.none _)
    | (with_reducible refine LeO.ite ?_ ?_)
    | (with_reducible refine LeO.bind ?_ (fun _ => ?_))
    | exact ih0 _ _ _ _ _ _ _ _ _
    | exact hopperref03_Number.mono _ _
    | exact LeO.none _
    | refine LeO.ite ?_ ?_
    | refine LeO.bind ?_ (fun _ => ?_)
theorem hopperref04_Encode.mono : ∀ a0 a1 a2 a3 a4 a5 k, LeO (hopperref04_Encode.f k a0 a1 a2 a3 a4 a5) (hopperref04_Encode.f (k + 1) a0 a1 a2 a3 a4 a5) := by
 intro a0 a1 a2 a3 a4 a5 k
 have ih0 := hopperref04_Encode.mono_l k
 unfold hopperref04_Encode.f
 repeat' first
  | (with_reducible exact ih0 _ _ _ _ _ _ _ _ _)
  | (with_reducible exact hopperref03_Number.mono _ _)
  | (with_reducible exact LeO.refl _)
  | (with_reducible exact LeO.none _)
  | (with_reducible refine LeO.ite ?_ ?_)
  | (with_reducible refine LeO.bind ?_ (fun _ => ?_))
  | exact ih0 _ _ _ _ _ _ _ _ _
  | exact hopperref03_Number.mono _ _
  | exact LeO.none _
  | refine LeO.ite ?_ ?_
  | refine LeO.bind ?_ (fun _ => ?_)
set_option maxHeartbeats 8000000 in
set_option maxRecDepth 100000 in
theorem hopperref04_Encode.calls (k : Nat) (a0_0 : Int) (a0_1 : Int) (a0_2 : Int) (a0_3 : Int) (a0_4 : Int) (a0_5 : ByteArray) (r1 : ByteArray) (r2 : Bool) (w : World) (h : hopperref04_Encode.f k a0_0 a0_1 a0_2 a0_3 a0_4 a0_5 = some (r1, r2)) :
 Calls Try.prog 130 #[.agg #[.int .i64 a0_0, .int .i64 a0_1, .int .i64 a0_2, .int .i64 a0_3, .int .i64 a0_4, .string a0_5]] w fun e w' => e = .returned (.tuple #[.string r1, .bool r2]) ∧ Below w.heap.size w w' := by
 have hu24 := Try.underlying24
 have HB := A_ (Below.refl w.heap.size w)
 have H : ((hopperref04_Check.f a0_0 a0_1 a0_2 a0_3 a0_4 a0_5).bind fun t341 => (if t341 = true then (hopperref04_Encode.l0 k (([a0_0, a0_1, a0_2, a0_3, a0_4] : List Int)) (⟨#[1]⟩ : ByteArray) 0 a0_0 a0_1 a0_2 a0_3 a0_4 a0_5) else (some ((⟨#[]⟩ : ByteArray), false)))) = some (r1, r2) := h
 clear h
 replace H := Option.bind_eq_some_iff.mp H
 obtain ⟨t341, A20, H⟩ := H
 replace H : (if t341 = true then (hopperref04_Encode.l0 k (([a0_0, a0_1, a0_2, a0_3, a0_4] : List Int)) (⟨#[1]⟩ : ByteArray) 0 a0_0 a0_1 a0_2 a0_3 a0_4 a0_5) else (some ((⟨#[]⟩ : ByteArray), false))) = some (r1, r2) := H
 have A2 := A_ A20
 clear A20
 by_cases c3 : t341 = true
 · subst c3
   have H1 : (hopperref04_Encode.l0 k (([a0_0, a0_1, a0_2, a0_3, a0_4] : List Int)) (⟨#[1]⟩ : ByteArray) 0 a0_0 a0_1 a0_2 a0_3 a0_4 a0_5) = some (r1, r2) := by rw [if_pos rfl] at H; exact H
   clear H
   have H := H1
   clear H1
   obtain ⟨y342, hy342⟩ : ∃ y_ : List Int, y_ = (([a0_0, a0_1, a0_2, a0_3, a0_4] : List Int)) := ⟨_, rfl⟩
   replace H : (hopperref04_Encode.l0 k y342 (⟨#[1]⟩ : ByteArray) 0 a0_0 a0_1 a0_2 a0_3 a0_4 a0_5) = some (r1, r2) := by first | (rw [hy342]; with_reducible exact H) | (have H2_ := (Option.bind_some _ _).symm.trans H; rw [hy342]; with_reducible exact H2_) | (have H2_ := (Option.bind_some _ _).symm.trans H; with_reducible exact H2_) | with_reducible exact H | (rw [hy342]; exact H) | exact H
   have Ny342 := A_ hy342
   clear hy342
   have H' := A_ H
   clear H
   go_enter Try.func130, Try.ntmps130
   go_wp2_with (first | ((with_reducible refine gate_dst (N := 1) rfl ?_); refine box_event ?hg (N := 1) ?hd (cs := #[.int .i64 a0_0, .int .i64 a0_1, .int .i64 a0_2, .int .i64 a0_3, .int .i64 a0_4, .string a0_5]) (t := 24) ?hr ?_; (case hd => rfl); (case hg => rfl); (case hr => first | (go_simp; done) | (go_simp; rfl)); intro gb340 hg w4 hbox hb; have n0_ := A_ (below_step bw_ hb); have n1_ := A_ (hbox); have n2_ := A_ (gz_ (w := w) hg); have n3_ := A_ (gz_ (w := w) hg); replace HB := n0_; have BK340 := n1_; have GW340 := n2_; have GE340 := n3_; clear n0_ n1_ n2_ n3_; clear hb hbox hg; have hcz5_0 : w4.cell? ⟨gb340, 0, none⟩ = some (.int .i64 a0_0) := e_ BK340 0; have hcz5_1 : w4.cell? ⟨gb340, 1, none⟩ = some (.int .i64 a0_1) := e_ BK340 1; have hcz5_2 : w4.cell? ⟨gb340, 2, none⟩ = some (.int .i64 a0_2) := e_ BK340 2; have hcz5_3 : w4.cell? ⟨gb340, 3, none⟩ = some (.int .i64 a0_3) := e_ BK340 3; have hcz5_4 : w4.cell? ⟨gb340, 4, none⟩ = some (.int .i64 a0_4) := e_ BK340 4; have hcz5_5 : w4.cell? ⟨gb340, 5, none⟩ = some (.string a0_5) := e_ BK340 5; obtain ⟨hfz5_0, hfz5_1, hfz5_2, hfz5_3, hfz5_4, hfz5_5⟩ := z6_ BK340) | ((with_reducible refine gate_callee (f := 67) rfl ?_); refine goesL_ (some 8) rfl rfl Try.func67 (by kernel_rfl) rfl #[.agg #[.int .i64 a0_0, .int .i64 a0_1, .int .i64 a0_2, .int .i64 a0_3, .int .i64 a0_4, .string a0_5]] rfl (by (try simp only [m0_, m1_, m2_]); first | done | rfl) ?_; (with_reducible refine (hopperref04_Check.calls a0_0 a0_1 a0_2 a0_3 a0_4 a0_5 true _ A2.out).mono ?_); rintro e w6 ⟨rfl, hb⟩; refine ⟨_, rfl, ?_⟩; replace BK340 := A_ (kb_ BK340 hb); replace HB := A_ (below_step bw_ hb); (try clear hb); (try clear hb2); (try clear hk); (try clear hi); have hcz7_0 : w6.cell? ⟨gb340, 0, none⟩ = some (.int .i64 a0_0) := e_ BK340 0; have hcz7_1 : w6.cell? ⟨gb340, 1, none⟩ = some (.int .i64 a0_1) := e_ BK340 1; have hcz7_2 : w6.cell? ⟨gb340, 2, none⟩ = some (.int .i64 a0_2) := e_ BK340 2; have hcz7_3 : w6.cell? ⟨gb340, 3, none⟩ = some (.int .i64 a0_3) := e_ BK340 3; have hcz7_4 : w6.cell? ⟨gb340, 4, none⟩ = some (.int .i64 a0_4) := e_ BK340 4; have hcz7_5 : w6.cell? ⟨gb340, 5, none⟩ = some (.string a0_5) := e_ BK340 5; obtain ⟨hfz7_0, hfz7_1, hfz7_2, hfz7_3, hfz7_4, hfz7_5⟩ := z6_ BK340) | ((with_reducible refine gate_dst (N := 20) rfl ?_); refine Kd.R_lit (Kd.int .i64) _ 3 ?hg (N := 20) ?hd (xs := ([a0_0, a0_1, a0_2, a0_3, a0_4] : List Int)) (inner := [.int .i64 a0_0, .int .i64 a0_1, .int .i64 a0_2, .int .i64 a0_3, .int .i64 a0_4]) (ok := fun _ => True) (okp := fun _ => True) ?hr ?hp (fun _ hk => hk) trivial (Below.refl _ _) (Nat.le_refl _) (by simp) ?_; (case hd => rfl); (case hg => rfl); (case hr => first | (go_simp; done) | (go_simp; rfl)); (case hp => exact (Reps.one (show Kd.M (Kd.int .i64) _ _ _ a0_0 [.int .i64 a0_0] from rfl) (Reps.one (show Kd.M (Kd.int .i64) _ _ _ a0_1 [.int .i64 a0_1] from rfl) (Reps.one (show Kd.M (Kd.int .i64) _ _ _ a0_2 [.int .i64 a0_2] from rfl) (Reps.one (show Kd.M (Kd.int .i64) _ _ _ a0_3 [.int .i64 a0_3] from rfl) (Reps.one (show Kd.M (Kd.int .i64) _ _ _ a0_4 [.int .i64 a0_4] from rfl) (Reps.none _ _))))))); intro v343 w8 ho9 hb hg_ hnew_; clear hg_ hnew_; (first | rw [← Ny342.out] at ho9 | (simp only [Int.reduceToNat] at ho9; rw [← Ny342.out] at ho9)); have HO344 := A_ (Kd.R_lower ho9 (below_size bw_)); replace BK340 := A_ (kb_ BK340 hb); replace HB := A_ (below_step bw_ hb); clear hb ho9))
   go_loopg [5, 6] k (fun kq v5 v6 w' => ∃ (x5_1 : ByteArray) (x6_1 : Int), v5 = .string x5_1 ∧ v6 = .int .i64 x6_1 ∧ Aside0 (hopperref04_Encode.l0 kq y342 x5_1 x6_1 a0_0 a0_1 a0_2 a0_3 a0_4 a0_5 = some (r1, r2)) ∧ Aside0 (kq ≤ k) ∧ Aside0 (Kd.R (Kd.int .i64) 3 w' w.heap.size (fun _ => True) v343 y342) ∧ Aside0 (w'.heap[gb340]? = some (.cells #[.int .i64 a0_0, .int .i64 a0_1, .int .i64 a0_2, .int .i64 a0_3, .int .i64 a0_4, .string a0_5] 24 (0, 0))) ∧ Aside0 (Below w.heap.size w w'))
   case atStart => exact ⟨((⟨#[1]⟩ : ByteArray)), (0), (by first | rfl | (simp; done) | (simp [*]; done)), (by first | rfl | (simp; done) | (simp [*]; done)), H', ⟨Nat.le_refl _⟩, ⟨by (with_reducible repeat (first | apply ra_ | apply rn_ | apply rd_)); exact HO344.out⟩, ⟨bk_⟩, ⟨by repeat (first | (with_reducible first | exact HB.out | apply wa_ | apply wn_ | apply wd_ | refine ws_ ?_ GE340.out) | exact HB.out)⟩⟩
   case round =>
    clear H'; (try clear c1); (try clear p2); (try clear c3); (try clear c6); (try clear hcz5_0 hcz5_1 hcz5_2 hcz5_3 hcz5_4 hcz5_5); (try clear hcz7_0 hcz7_1 hcz7_2 hcz7_3 hcz7_4 hcz7_5); (try clear hfz5_0 hfz5_1 hfz5_2 hfz5_3 hfz5_4 hfz5_5); (try clear hfz7_0 hfz7_1 hfz7_2 hfz7_3 hfz7_4 hfz7_5)
    obtain ⟨x5_1, x6_1, rfl, rfl, HA, HK1, HO_4, BK340, HB⟩ := hrel
    cases gk with
    | zero => exact absurd HA.out (by simp [hopperref04_Encode.l0])
    | succ k1 =>
     have H := HA.out
     clear HA
     simp only [hopperref04_Encode.l0] at H
     by_cases c10 : x6_1 < (y342.length : Int)
     · rw [if_pos c10] at H
       have c10b0 : decide (x6_1 < (y342.length : Int)) = true := decide_eq_true c10
       clear c10
       by_cases c11 : 0 ≤ x6_1
       rotate_left
       · rw [if_neg c11] at H
         exact absurd H (by simp)
       rw [if_pos c11] at H
       have c11b0 : decide (0 ≤ x6_1) = true := decide_eq_true c11
       clear c11
       replace H := Option.bind_eq_some_iff.mp H
       obtain ⟨t346, A120, H⟩ := H
       replace H : (if x5_1.size + t346.size ≤ 9223372036854775807 then (hopperref04_Encode.l0 k1 y342 (x5_1 ++ t346) (wrap64 (x6_1 + 1)) a0_0 a0_1 a0_2 a0_3 a0_4 a0_5) else (none)) = some (r1, r2) := H
       have A12 := A_ A120
       clear A120
       by_cases c13 : x5_1.size + t346.size ≤ 9223372036854775807
       rotate_left
       · rw [if_neg c13] at H
         exact absurd H (by simp)
       rw [if_pos c13] at H
       have c13b0 := eq_true c13
       have c13b1 : decide (x5_1.size + t346.size ≤ 9223372036854775807) = true := decide_eq_true c13
       try have c13b2 : (9223372036854775807 < x5_1.size + t346.size) = False := eq_false (Nat.not_lt.2 c13)
       have H' := A_ H
       clear H
       obtain ⟨Ao14, co14, eo14⟩ := Kd.R_slice HO_4.out
       subst eo14
       have p345 : 0 ≤ (x6_1 : Int) := of_decide_eq_true (by first | (with_reducible assumption) | assumption)
       have q345 : x6_1 < (y342.length : Int) := of_decide_eq_true (by first | (with_reducible assumption) | assumption)
       obtain ⟨ad345, e345, hx345_0⟩ := Kd.at_int (Kd.R_reads' HO_4.out).2.2 x6_1 p345 q345
       cases e345
       replace p345 := eq_true p345
       replace q345 := eq_true q345
       go_wp2_with (first | ((with_reducible refine gate_callee (f := 148) rfl ?_); refine goesL_ (some 32) rfl rfl Try.func148 (by kernel_rfl) rfl #[.int .i64 (rd y342 x6_1)] rfl (by (try simp only [m0_, m1_, m2_]); first | done | rfl) ?_; (with_reducible refine (hopperref03_Number.calls k1 (rd y342 x6_1) t346 _ A12.out).mono ?_); rintro e w15 ⟨rfl, hb⟩; refine ⟨_, rfl, ?_⟩; replace HO_4 := A_ (Kd.R_below (pr_ HO_4.out) hb); replace BK340 := A_ (kb_ BK340 hb); replace HB := A_ (below_step bw_ hb); (try clear hb); (try clear hb2); (try clear hk); (try clear hi)))
       go_roundg k1
       case measure => have := HK1.out; omega
       case rel => exact ⟨(x5_1 ++ t346), (wrap64 (x6_1 + 1)), (by first | rfl | (simp; done) | (simp [*]; done)), (by first | rfl | (simp; done) | (simp [*]; done)), H', ⟨by have := HK1.out; omega⟩, ⟨by (with_reducible repeat (first | apply ra_ | apply rn_ | apply rd_)); exact HO_4.out⟩, ⟨bk_⟩, ⟨by repeat (first | (with_reducible first | exact HB.out | apply wa_ | apply wn_ | apply wd_ | refine ws_ ?_ GE340.out) | exact HB.out)⟩⟩
     · rw [if_neg c10] at H
       have c10b0 : decide (x6_1 < (y342.length : Int)) = false := decide_eq_false c10
       clear c10
       replace H := Option.bind_eq_some_iff.mp H
       obtain ⟨t347, A160, H⟩ := H
       replace H : (if x5_1.size + t347.size ≤ 9223372036854775807 then (some (x5_1 ++ t347, true)) else (none)) = some (r1, r2) := H
       have A16 := A_ A160
       clear A160
       by_cases c17 : x5_1.size + t347.size ≤ 9223372036854775807
       rotate_left
       · rw [if_neg c17] at H
         exact absurd H (by simp)
       rw [if_pos c17] at H
       have c17b0 := eq_true c17
       have c17b1 : decide (x5_1.size + t347.size ≤ 9223372036854775807) = true := decide_eq_true c17
       try have c17b2 : (9223372036854775807 < x5_1.size + t347.size) = False := eq_false (Nat.not_lt.2 c17)
       simp only [Option.some.injEq, Prod.mk.injEq] at H
       obtain ⟨rfl, rfl⟩ := H
       obtain ⟨Ao18, co18, eo18⟩ := Kd.R_slice HO_4.out
       subst eo18
       have hcz19_0 : wr.cell? ⟨gb340, 0, none⟩ = some (.int .i64 a0_0) := e_ BK340 0; have hcz19_1 : wr.cell? ⟨gb340, 1, none⟩ = some (.int .i64 a0_1) := e_ BK340 1; have hcz19_2 : wr.cell? ⟨gb340, 2, none⟩ = some (.int .i64 a0_2) := e_ BK340 2; have hcz19_3 : wr.cell? ⟨gb340, 3, none⟩ = some (.int .i64 a0_3) := e_ BK340 3; have hcz19_4 : wr.cell? ⟨gb340, 4, none⟩ = some (.int .i64 a0_4) := e_ BK340 4; have hcz19_5 : wr.cell? ⟨gb340, 5, none⟩ = some (.string a0_5) := e_ BK340 5; obtain ⟨hfz19_0, hfz19_1, hfz19_2, hfz19_3, hfz19_4, hfz19_5⟩ := z6_ BK340
       go_wp2_with (first | ((with_reducible refine gate_callee (f := 149) rfl ?_); refine goesL_ (some 37) rfl rfl Try.func149 (by kernel_rfl) rfl #[.string a0_5] rfl (by (try simp only [m0_, m1_, m2_]); first | done | rfl) ?_; (with_reducible refine (hopperref03_Text.calls a0_5 t347 _ A16.out).mono ?_); rintro e w20 ⟨rfl, hb⟩; refine ⟨_, rfl, ?_⟩; replace HO_4 := A_ (Kd.R_below (pr_ HO_4.out) hb); replace BK340 := A_ (kb_ BK340 hb); replace HB := A_ (below_step bw_ hb); (try clear hb); (try clear hb2); (try clear hk); (try clear hi)))
       go_ret2
       exact ⟨by first | rfl | (simp [errW_none, errW_some] <;> rfl) | (simp [*, errW_none, errW_some] <;> rfl), by repeat (first | (with_reducible first | exact HB.out | apply wa_ | apply wn_ | apply wd_ | refine ws_ ?_ GE340.out) | exact HB.out)⟩
 · replace c3 := Bool.eq_false_iff.mpr c3
   subst c3
   have H1 : (some ((⟨#[]⟩ : ByteArray), false)) = some (r1, r2) := by rw [if_neg (show ¬ (false = true) by decide)] at H; exact H
   clear H
   have H := H1
   clear H1
   simp only [Option.some.injEq, Prod.mk.injEq] at H
   obtain ⟨rfl, rfl⟩ := H
   go_enter Try.func130, Try.ntmps130
   go_wp2_with (first | ((with_reducible refine gate_dst (N := 1) rfl ?_); refine box_event ?hg (N := 1) ?hd (cs := #[.int .i64 a0_0, .int .i64 a0_1, .int .i64 a0_2, .int .i64 a0_3, .int .i64 a0_4, .string a0_5]) (t := 24) ?hr ?_; (case hd => rfl); (case hg => rfl); (case hr => first | (go_simp; done) | (go_simp; rfl)); intro gb340 hg w21 hbox hb; have n0_ := A_ (below_step bw_ hb); have n1_ := A_ (hbox); have n2_ := A_ (gz_ (w := w) hg); have n3_ := A_ (gz_ (w := w) hg); replace HB := n0_; have BK340 := n1_; have GW340 := n2_; have GE340 := n3_; clear n0_ n1_ n2_ n3_; clear hb hbox hg; have hcz22_0 : w21.cell? ⟨gb340, 0, none⟩ = some (.int .i64 a0_0) := e_ BK340 0; have hcz22_1 : w21.cell? ⟨gb340, 1, none⟩ = some (.int .i64 a0_1) := e_ BK340 1; have hcz22_2 : w21.cell? ⟨gb340, 2, none⟩ = some (.int .i64 a0_2) := e_ BK340 2; have hcz22_3 : w21.cell? ⟨gb340, 3, none⟩ = some (.int .i64 a0_3) := e_ BK340 3; have hcz22_4 : w21.cell? ⟨gb340, 4, none⟩ = some (.int .i64 a0_4) := e_ BK340 4; have hcz22_5 : w21.cell? ⟨gb340, 5, none⟩ = some (.string a0_5) := e_ BK340 5; obtain ⟨hfz22_0, hfz22_1, hfz22_2, hfz22_3, hfz22_4, hfz22_5⟩ := z6_ BK340) | ((with_reducible refine gate_callee (f := 67) rfl ?_); refine goesL_ (some 8) rfl rfl Try.func67 (by kernel_rfl) rfl #[.agg #[.int .i64 a0_0, .int .i64 a0_1, .int .i64 a0_2, .int .i64 a0_3, .int .i64 a0_4, .string a0_5]] rfl (by (try simp only [m0_, m1_, m2_]); first | done | rfl) ?_; (with_reducible refine (hopperref04_Check.calls a0_0 a0_1 a0_2 a0_3 a0_4 a0_5 false _ A2.out).mono ?_); rintro e w23 ⟨rfl, hb⟩; refine ⟨_, rfl, ?_⟩; replace BK340 := A_ (kb_ BK340 hb); replace HB := A_ (below_step bw_ hb); (try clear hb); (try clear hb2); (try clear hk); (try clear hi)))
   go_ret2
   exact ⟨by first | rfl | (simp [errW_none, errW_some] <;> rfl) | (simp [*, errW_none, errW_some] <;> rfl), by repeat (first | (with_reducible first | exact HB.out | apply wa_ | apply wn_ | apply wd_ | refine ws_ ?_ GE340.out) | exact HB.out)⟩

/-! ### hopperref01_Slots: function 136 -/
def hopperref01_Slots.f (a0 : Int) : Option (Int) := if a0 < 0 then (some 0) else (if a0 > 400 then (some 0) else (some (mx (wrap64 (Int.tdiv (wrap64 (a0 + 31)) 32)) 1)))
set_option maxHeartbeats 8000000 in
set_option maxRecDepth 100000 in
theorem hopperref01_Slots.calls (a0 : Int) (r : Int) (w : World) (h : hopperref01_Slots.f a0 = some r) :
    Calls Try.prog 136 #[.int .i64 a0] w fun e w' => e = .returned (.int .i64 r) ∧ Below w.heap.size w w' := by
  have HB := Aside0.mk (Below.refl w.heap.size w)
  have H : (if a0 < 0 then (some 0) else (if a0 > 400 then (some 0) else (some (mx (wrap64 (Int.tdiv (wrap64 (a0 + 31)) 32)) 1)))) = some r := h
  clear h
  by_cases c2 : a0 < 0
  · rw [if_pos c2] at H
    have c2b0 : decide (a0 < 0) = true := decide_eq_true c2
    clear c2
    obtain rfl := Option.some.inj H
    go_enter Try.func136, Try.ntmps136
    go_wp2
    go_ret
    exact ⟨by first | rfl | (simp [errW_none, errW_some] <;> rfl) | (simp [*, errW_none, errW_some] <;> rfl), by repeat (first | (with_reducible first | exact HB.out | apply below_alloc | apply pw_below_drewN | apply below_drew1) | exact HB.out)⟩
  · rw [if_neg c2] at H
    have c2b0 : decide (a0 < 0) = false := decide_eq_false c2
    clear c2
    by_cases c3 : a0 > 400
    · rw [if_pos c3] at H
      have c3b0 : decide (400 < a0) = true := decide_eq_true c3
      clear c3
      obtain rfl := Option.some.inj H
      go_enter Try.func136, Try.ntmps136
      go_wp2
      go_ret
      exact ⟨by first | rfl | (simp [errW_none, errW_some] <;> rfl) | (simp [*, errW_none, errW_some] <;> rfl), by repeat (first | (with_reducible first | exact HB.out | apply below_alloc | apply pw_below_drewN | apply below_drew1) | exact HB.out)⟩
    · rw [if_neg c3] at H
      have c3b0 : decide (400 < a0) = false := decide_eq_false c3
      clear c3
      obtain ⟨ji4, hji4⟩ : ∃ j_ : Int, (mx (wrap64 (Int.tdiv (wrap64 (a0 + 31)) 32)) 1) = j_ := ⟨_, rfl⟩
      replace H : (some ji4) = some r := by first | (rw [hji4] at H; exact H) | (simp only [hji4] at H ⊢; exact H)
      (try (have hji4l : 1 ≤ ji4 := by (rw [← hji4]; unfold mx; (repeat' split) <;> omega)))
      (try (have hji4m : 0 ≤ ji4 := by omega))
      have hji4_ : (if (wrap64 (Int.tdiv (wrap64 (a0 + 31)) 32)) < 1 then 1 else (wrap64 (Int.tdiv (wrap64 (a0 + 31)) 32))) = ji4 := hji4
      obtain rfl := Option.some.inj H
      go_enter Try.func136, Try.ntmps136
      go_wp2
      go_ret
      exact ⟨by first | rfl | (simp [errW_none, errW_some] <;> rfl) | (simp only [← hji4]; first | rfl | (simp [errW_none, errW_some] <;> rfl)) | (simp [*, errW_none, errW_some] <;> rfl), by repeat (first | (with_reducible first | exact HB.out | apply below_alloc | apply pw_below_drewN | apply below_drew1) | exact HB.out)⟩

/-! ### hopperref04_Slots: function 104 -/
def hopperref04_Slots.f (k : Nat) (a0_0 : Int) (a0_1 : Int) (a0_2 : Int) (a0_3 : Int) (a0_4 : Int) (a0_5 : ByteArray) : Option (Int) := (hopperref04_Encode.f k a0_0 a0_1 a0_2 a0_3 a0_4 a0_5).bind fun bt349 => (if bt349.2 = true then ((hopperref01_Slots.f (bt349.1.size : Int)).bind fun t351 => (some t351)) else (some 0))
theorem hopperref04_Slots.mono : ∀ a0 a1 a2 a3 a4 a5 k, LeO (hopperref04_Slots.f k a0 a1 a2 a3 a4 a5) (hopperref04_Slots.f (k + 1) a0 a1 a2 a3 a4 a5) := by
 intro a0 a1 a2 a3 a4 a5 k
 unfold hopperref04_Slots.f
 repeat' first
  | (with_reducible exact hopperref04_Encode.mono _ _ _ _ _ _ _)
  | (with_reducible exact LeO.refl _)
  | (with_reducible exact LeO.none _)
  | (with_reducible refine LeO.ite ?_ ?_)
  | (with_reducible refine LeO.bind ?_ (fun _ => ?_))
  | exact hopperref04_Encode.mono _ _ _ _ _ _ _
  | exact LeO.none _
  | refine LeO.ite ?_ ?_
  | refine LeO.bind ?_ (fun _ => ?_)
set_option maxHeartbeats 8000000 in
set_option maxRecDepth 100000 in
theorem hopperref04_Slots.calls (k : Nat) (a0_0 : Int) (a0_1 : Int) (a0_2 : Int) (a0_3 : Int) (a0_4 : Int) (a0_5 : ByteArray) (r : Int) (w : World) (h : hopperref04_Slots.f k a0_0 a0_1 a0_2 a0_3 a0_4 a0_5 = some r) :
 Calls Try.prog 104 #[.agg #[.int .i64 a0_0, .int .i64 a0_1, .int .i64 a0_2, .int .i64 a0_3, .int .i64 a0_4, .string a0_5]] w fun e w' => e = .returned (.int .i64 r) ∧ Below w.heap.size w w' := by
 have hu24 := Try.underlying24
 have HB := A_ (Below.refl w.heap.size w)
 have H : ((hopperref04_Encode.f k a0_0 a0_1 a0_2 a0_3 a0_4 a0_5).bind fun bt349 => (if bt349.2 = true then ((hopperref01_Slots.f (bt349.1.size : Int)).bind fun t351 => (some t351)) else (some 0))) = some r := h
 clear h
 replace H := Option.bind_eq_some_iff.mp H
 obtain ⟨⟨t349, t350⟩, A20, H⟩ := H
 try dsimp only at H
 have A2 := A_ A20
 clear A20
 by_cases c3 : t350 = true
 rotate_left
 · replace c3 := Bool.eq_false_iff.mpr c3
   subst c3
   have H1 : (some 0) = some r := by rw [if_neg (show ¬ (false = true) by decide)] at H; exact H
   clear H
   have H := H1
   clear H1
   obtain rfl := Option.some.inj H
   go_enter Try.func104, Try.ntmps104
   go_wp2_with (first | ((with_reducible refine gate_dst (N := 1) rfl ?_); refine box_event ?hg (N := 1) ?hd (cs := #[.int .i64 a0_0, .int .i64 a0_1, .int .i64 a0_2, .int .i64 a0_3, .int .i64 a0_4, .string a0_5]) (t := 24) ?hr ?_; (case hd => rfl); (case hg => rfl); (case hr => first | (go_simp; done) | (go_simp; rfl)); intro gb348 hg w9 hbox hb; have n0_ := A_ (below_step bw_ hb); have n1_ := A_ (hbox); have n2_ := A_ (gz_ (w := w) hg); have n3_ := A_ (gz_ (w := w) hg); replace HB := n0_; have BK348 := n1_; have GW348 := n2_; have GE348 := n3_; clear n0_ n1_ n2_ n3_; clear hb hbox hg; have hcz10_0 : w9.cell? ⟨gb348, 0, none⟩ = some (.int .i64 a0_0) := e_ BK348 0; have hcz10_1 : w9.cell? ⟨gb348, 1, none⟩ = some (.int .i64 a0_1) := e_ BK348 1; have hcz10_2 : w9.cell? ⟨gb348, 2, none⟩ = some (.int .i64 a0_2) := e_ BK348 2; have hcz10_3 : w9.cell? ⟨gb348, 3, none⟩ = some (.int .i64 a0_3) := e_ BK348 3; have hcz10_4 : w9.cell? ⟨gb348, 4, none⟩ = some (.int .i64 a0_4) := e_ BK348 4; have hcz10_5 : w9.cell? ⟨gb348, 5, none⟩ = some (.string a0_5) := e_ BK348 5; obtain ⟨hfz10_0, hfz10_1, hfz10_2, hfz10_3, hfz10_4, hfz10_5⟩ := z6_ BK348) | ((with_reducible refine gate_callee (f := 130) rfl ?_); refine goesL_ (some 7) rfl rfl Try.func130 (by kernel_rfl) rfl #[.agg #[.int .i64 a0_0, .int .i64 a0_1, .int .i64 a0_2, .int .i64 a0_3, .int .i64 a0_4, .string a0_5]] rfl (by (try simp only [m0_, m1_, m2_]); first | done | rfl) ?_; (with_reducible refine (hopperref04_Encode.calls k a0_0 a0_1 a0_2 a0_3 a0_4 a0_5 t349 false _ A2.out).mono ?_); rintro e w11 ⟨rfl, hb⟩; refine ⟨_, rfl, ?_⟩; replace BK348 := A_ (kb_ BK348 hb); replace HB := A_ (below_step bw_ hb); (try clear hb); (try clear hb2); (try clear hk); (try clear hi)))
   go_ret
   exact ⟨by first | rfl | (simp [errW_none, errW_some] <;> rfl) | (simp [*, errW_none, errW_some] <;> rfl), by repeat (first | (with_reducible first | exact HB.out | apply wa_ | apply wn_ | apply wd_ | refine ws_ ?_ GE348.out) | exact HB.out)⟩

 subst c3
 have H1 : ((hopperref01_Slots.f (t349.size : Int)).bind fun t351 => (some t351)) = some r := by rw [if_pos rfl] at H; exact H
 clear H
 have H := H1
 clear H1
 replace H := Option.bind_eq_some_iff.mp H
 obtain ⟨t351, A40, H⟩ := H
 replace H : (some t351) = some r := H
 have A4 := A_ A40
 clear A40
 obtain rfl := Option.some.inj H
 go_enter Try.func104, Try.ntmps104
 go_wp2_with (first | ((with_reducible refine gate_dst (N := 1) rfl ?_); refine box_event ?hg (N := 1) ?hd (cs := #[.int .i64 a0_0, .int .i64 a0_1, .int .i64 a0_2, .int .i64 a0_3, .int .i64 a0_4, .string a0_5]) (t := 24) ?hr ?_; (case hd => rfl); (case hg => rfl); (case hr => first | (go_simp; done) | (go_simp; rfl)); intro gb348 hg w5 hbox hb; have n0_ := A_ (below_step bw_ hb); have n1_ := A_ (hbox); have n2_ := A_ (gz_ (w := w) hg); have n3_ := A_ (gz_ (w := w) hg); replace HB := n0_; have BK348 := n1_; have GW348 := n2_; have GE348 := n3_; clear n0_ n1_ n2_ n3_; clear hb hbox hg; have hcz6_0 : w5.cell? ⟨gb348, 0, none⟩ = some (.int .i64 a0_0) := e_ BK348 0; have hcz6_1 : w5.cell? ⟨gb348, 1, none⟩ = some (.int .i64 a0_1) := e_ BK348 1; have hcz6_2 : w5.cell? ⟨gb348, 2, none⟩ = some (.int .i64 a0_2) := e_ BK348 2; have hcz6_3 : w5.cell? ⟨gb348, 3, none⟩ = some (.int .i64 a0_3) := e_ BK348 3; have hcz6_4 : w5.cell? ⟨gb348, 4, none⟩ = some (.int .i64 a0_4) := e_ BK348 4; have hcz6_5 : w5.cell? ⟨gb348, 5, none⟩ = some (.string a0_5) := e_ BK348 5; obtain ⟨hfz6_0, hfz6_1, hfz6_2, hfz6_3, hfz6_4, hfz6_5⟩ := z6_ BK348) | ((with_reducible refine gate_callee (f := 130) rfl ?_); refine goesL_ (some 7) rfl rfl Try.func130 (by kernel_rfl) rfl #[.agg #[.int .i64 a0_0, .int .i64 a0_1, .int .i64 a0_2, .int .i64 a0_3, .int .i64 a0_4, .string a0_5]] rfl (by (try simp only [m0_, m1_, m2_]); first | done | rfl) ?_; (with_reducible refine (hopperref04_Encode.calls k a0_0 a0_1 a0_2 a0_3 a0_4 a0_5 t349 true _ A2.out).mono ?_); rintro e w7 ⟨rfl, hb⟩; refine ⟨_, rfl, ?_⟩; replace BK348 := A_ (kb_ BK348 hb); replace HB := A_ (below_step bw_ hb); (try clear hb); (try clear hb2); (try clear hk); (try clear hi)) | ((with_reducible refine gate_callee (f := 136) rfl ?_); refine goesL_ (some 14) rfl rfl Try.func136 (by kernel_rfl) rfl #[.int .i64 (t349.size : Int)] rfl (by (try simp only [m0_, m1_, m2_]); first | done | rfl) ?_; (with_reducible refine (hopperref01_Slots.calls (t349.size : Int) t351 _ A4.out).mono ?_); rintro e w8 ⟨rfl, hb⟩; refine ⟨_, rfl, ?_⟩; replace BK348 := A_ (kb_ BK348 hb); replace HB := A_ (below_step bw_ hb); (try clear hb); (try clear hb2); (try clear hk); (try clear hi)))
 go_ret
 exact ⟨by first | rfl | (simp [errW_none, errW_some] <;> rfl) | (simp [*, errW_none, errW_some] <;> rfl), by repeat (first | (with_reducible first | exact HB.out | apply wa_ | apply wn_ | apply wd_ | refine ws_ ?_ GE348.out) | exact HB.out)⟩
/-! ### hopperref05_Slots: function 57 -/
def hopperref05_Slots.l0 : Nat → Int → Int → Int → Int → List (S24) → Option (Int)
 | 0, _, _, _, _, _ => none
 | k + 1, x3, x4, x353000, x353001, x353002 => if x4 < (x353002.length : Int) then (if 0 ≤ x4 then ((hopperref04_Slots.f k ((rd_T24 x353002 x4).f0) ((rd_T24 x353002 x4).f1) ((rd_T24 x353002 x4).f2) ((rd_T24 x353002 x4).f3) ((rd_T24 x353002 x4).f4) ((rd_T24 x353002 x4).f5)).bind fun t354 => (hopperref05_Slots.l0 k (wrap64 (x3 + t354)) (wrap64 (x4 + 1)) x353000 x353001 x353002)) else (none)) else (some x3)
def hopperref05_Slots.f (k : Nat) (a0_0 : Int) (a0_1 : Int) (l0_2 : List (S24)) : Option (Int) := hopperref05_Slots.l0 k 0 0 a0_0 a0_1 l0_2
theorem hopperref05_Slots.mono_l : ∀ k, (∀ y0 y1 y2 y3 y4, LeO (hopperref05_Slots.l0 k y0 y1 y2 y3 y4) (hopperref05_Slots.l0 (k + 1) y0 y1 y2 y3 y4))
 | 0 => fun _ _ _ _ _ r h => by simp [hopperref05_Slots.l0] at h
 | k + 1 => by
  have ih0 := hopperref05_Slots.mono_l k
  · intro y0 y1 y2 y3 y4
    unfold hopperref05_Slots.l0
    repeat' first
    | (with_reducible exact ih0 _ _ _ _ _)
    | (with_reducible exact hopperref04_Slots.mono _ _ _ _ _ _ _)
    | (with_reducible exact LeO.refl _)
    | (with_reducible exact LeO.none _)
    | (with_reducible refine LeO.ite ?_ ?_)
    | (with_reducible refine LeO.bind ?_ (fun _ => ?_))
    | exact ih0 _ _ _ _ _
    | exact hopperref04_Slots.mono _ _ _ _ _ _ _
    | exact LeO.none _
    | refine LeO.ite ?_ ?_
    | refine LeO.bind ?_ (fun _ => ?_)
theorem hopperref05_Slots.mono : ∀ a0 a1 a2 k, LeO (hopperref05_Slots.f k a0 a1 a2) (hopperref05_Slots.f (k + 1) a0 a1 a2) := by
 intro a0 a1 a2 k
 have ih0 := hopperref05_Slots.mono_l k
 unfold hopperref05_Slots.f
 repeat' first
  | (with_reducible exact ih0 _ _ _ _ _)
  | (with_reducible exact hopperref04_Slots.mono _ _ _ _ _ _ _)
  | (with_reducible exact LeO.refl _)
  | (with_reducible exact LeO.none _)
  | (with_reducible refine LeO.ite ?_ ?_)
  | (with_reducible refine LeO.bind ?_ (fun _ => ?_))
  | exact ih0 _ _ _ _ _
  | exact hopperref04_Slots.mono _ _ _ _ _ _ _
  | exact LeO.none _
  | refine LeO.ite ?_ ?_
  | refine LeO.bind ?_ (fun _ => ?_)
set_option maxHeartbeats 8000000 in
set_option maxRecDepth 100000 in
theorem hopperref05_Slots.calls (k : Nat) (a0_0 : Int) (a0_1 : Int) (A0_2 : Option Addr) (c0_2 : Nat) (l0_2 : List (S24)) (r : Int) (w : World) (hr0_2 : Kd.C k24 w A0_2 l0_2.length l0_2) (hc0_2 : l0_2.length ≤ c0_2) (h : hopperref05_Slots.f k a0_0 a0_1 l0_2 = some r) :
 Calls Try.prog 57 #[.agg #[.int .i64 a0_0, .int .i64 a0_1, .slice A0_2 l0_2.length c0_2]] w fun e w' => e = .returned (.int .i64 r) ∧ Below w.heap.size w w' := by
 have hu46 := Try.underlying46
 have hu24 := Try.underlying24
 have HR0_2 := A_ hr0_2
 have HC0_2 := A_ hc0_2
 clear hr0_2 hc0_2; have HB := A_ (Below.refl w.heap.size w)
 have H : (hopperref05_Slots.l0 k 0 0 a0_0 a0_1 l0_2) = some r := h
 clear h
 have H' := A_ H
 clear H
 go_enter Try.func57, Try.ntmps57
 go_wp2_with (first | ((with_reducible refine gate_dst (N := 1) rfl ?_); refine box_event ?hg (N := 1) ?hd (cs := #[.int .i64 a0_0, .int .i64 a0_1, .slice A0_2 l0_2.length c0_2]) (t := 46) ?hr ?_; (case hd => rfl); (case hg => rfl); (case hr => first | (go_simp; done) | (go_simp; rfl)); intro gb352 hg w2 hbox hb; have n0_ := A_ (below_step bw_ hb); have n1_ := A_ (hbox); have n2_ := A_ (gz_ (w := w) hg); have n3_ := A_ (gz_ (w := w) hg); replace HB := n0_; have BK352 := n1_; have GW352 := n2_; have GE352 := n3_; clear n0_ n1_ n2_ n3_; clear hb hbox hg))
 go_loopg [3, 4] k (fun kq v3 v4 w' => ∃ (x3_1 : Int) (x4_1 : Int), v3 = .int .i64 x3_1 ∧ v4 = .int .i64 x4_1 ∧ Aside0 (hopperref05_Slots.l0 kq x3_1 x4_1 a0_0 a0_1 l0_2 = some r) ∧ Aside0 (kq ≤ k) ∧ Aside0 (w'.heap[gb352]? = some (.cells #[.int .i64 a0_0, .int .i64 a0_1, (.slice A0_2 l0_2.length c0_2)] 46 (0, 0))) ∧ Aside0 (Below w.heap.size w w'))
 case atStart => exact ⟨(0), (0), (by first | rfl | (simp; done) | (simp [*]; done)), (by first | rfl | (simp; done) | (simp [*]; done)), H', ⟨Nat.le_refl _⟩, ⟨bk_⟩, ⟨by repeat (first | (with_reducible first | exact HB.out | apply wa_ | apply wn_ | apply wd_ | refine ws_ ?_ GE352.out) | exact HB.out)⟩⟩
 case round =>
  clear H'; (try clear p2)
  obtain ⟨x3_1, x4_1, rfl, rfl, HA, HK1, BK352, HB⟩ := hrel
  cases gk with
  | zero => exact absurd HA.out (by simp [hopperref05_Slots.l0])
  | succ k1 =>
   have H := HA.out
   clear HA
   simp only [hopperref05_Slots.l0] at H
   by_cases c3 : x4_1 < (l0_2.length : Int)
   · rw [if_pos c3] at H
     have c3b0 : decide (x4_1 < (l0_2.length : Int)) = true := decide_eq_true c3
     clear c3
     by_cases c4 : 0 ≤ x4_1
     rotate_left
     · rw [if_neg c4] at H
       exact absurd H (by simp)
     rw [if_pos c4] at H
     have c4b0 : decide (0 ≤ x4_1) = true := decide_eq_true c4
     clear c4
     replace H := Option.bind_eq_some_iff.mp H
     obtain ⟨t354, A50, H⟩ := H
     try dsimp only at H
     have A5 := A_ A50
     clear A50
     have H' := A_ H
     clear H; have hcz6_0 : wr.cell? ⟨gb352, 0, none⟩ = some (.int .i64 a0_0) := e_ BK352 0; have hcz6_1 : wr.cell? ⟨gb352, 1, none⟩ = some (.int .i64 a0_1) := e_ BK352 1; have hcz6_2 : wr.cell? ⟨gb352, 2, none⟩ = some (.slice A0_2 l0_2.length c0_2) := e_ BK352 2; obtain ⟨hfz6_0, hfz6_1, hfz6_2⟩ := z3_ BK352
     have p353 : 0 ≤ (x4_1 : Int) := of_decide_eq_true (by first | (with_reducible assumption) | assumption)
     have q353 : x4_1 < (l0_2.length : Int) := of_decide_eq_true (by first | (with_reducible assumption) | assumption)
     obtain ⟨ad353, e353, hx353_0, hx353_1, hx353_2, hx353_3, hx353_4, hx353_5⟩ := at_T24 HR0_2.out x4_1 p353 q353
     cases e353
     replace hx353_0 := on_ HB.out hx353_0
     replace hx353_1 := on_ HB.out hx353_1
     replace hx353_2 := on_ HB.out hx353_2
     replace hx353_3 := on_ HB.out hx353_3
     replace hx353_4 := on_ HB.out hx353_4
     replace hx353_5 := on_ HB.out hx353_5
     replace p353 := eq_true p353
     replace q353 := eq_true q353
     go_wp2_with (first | ((with_reducible refine gate_callee (f := 104) rfl ?_); refine goesL_ (some 18) rfl rfl Try.func104 (by kernel_rfl) rfl #[.agg #[.int .i64 ((rd_T24 l0_2 x4_1).f0), .int .i64 ((rd_T24 l0_2 x4_1).f1), .int .i64 ((rd_T24 l0_2 x4_1).f2), .int .i64 ((rd_T24 l0_2 x4_1).f3), .int .i64 ((rd_T24 l0_2 x4_1).f4), .string ((rd_T24 l0_2 x4_1).f5)]] rfl (by (try simp only [m0_, m1_, m2_]); first | done | rfl) ?_; (with_reducible refine (hopperref04_Slots.calls k1 ((rd_T24 l0_2 x4_1).f0) ((rd_T24 l0_2 x4_1).f1) ((rd_T24 l0_2 x4_1).f2) ((rd_T24 l0_2 x4_1).f3) ((rd_T24 l0_2 x4_1).f4) ((rd_T24 l0_2 x4_1).f5) t354 _ A5.out).mono ?_); rintro e w7 ⟨rfl, hb⟩; refine ⟨_, rfl, ?_⟩; replace BK352 := A_ (kb_ BK352 hb); replace HB := A_ (below_step bw_ hb); (try clear hb); (try clear hb2); (try clear hk); (try clear hi)))
     go_roundg k1
     case measure => have := HK1.out; omega
     case rel => exact ⟨(wrap64 (x3_1 + t354)), (wrap64 (x4_1 + 1)), (by first | rfl | (simp; done) | (simp [*]; done)), (by first | rfl | (simp; done) | (simp [*]; done)), H', ⟨by have := HK1.out; omega⟩, ⟨bk_⟩, ⟨by repeat (first | (with_reducible first | exact HB.out | apply wa_ | apply wn_ | apply wd_ | refine ws_ ?_ GE352.out) | exact HB.out)⟩⟩
   · rw [if_neg c3] at H
     have c3b0 : decide (x4_1 < (l0_2.length : Int)) = false := decide_eq_false c3
     clear c3
     obtain rfl := Option.some.inj H
     have hcz8_0 : wr.cell? ⟨gb352, 0, none⟩ = some (.int .i64 a0_0) := e_ BK352 0; have hcz8_1 : wr.cell? ⟨gb352, 1, none⟩ = some (.int .i64 a0_1) := e_ BK352 1; have hcz8_2 : wr.cell? ⟨gb352, 2, none⟩ = some (.slice A0_2 l0_2.length c0_2) := e_ BK352 2; obtain ⟨hfz8_0, hfz8_1, hfz8_2⟩ := z3_ BK352
     go_wp2
     go_ret
     exact ⟨by first | rfl | (simp [errW_none, errW_some] <;> rfl) | (simp [*, errW_none, errW_some] <;> rfl), by repeat (first | (with_reducible first | exact HB.out | apply wa_ | apply wn_ | apply wd_ | refine ws_ ?_ GE352.out) | exact HB.out)⟩

end Go.Proofs.Ytehncbhmdgdkjaa.Q
