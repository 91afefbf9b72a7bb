/- Written by this session's own program over the kit's print: functions of Go told as plain functions, or the row of one statement; proved for every input, with no condition of ours. -/
import Derived.Test.YtehncbhmdgdkjaaQx0
import Derived.Test.YtehncbhmdgdkjaaQx1
import Derived.Test.YtehncbhmdgdkjaaQx4
import Derived.Test.YtehncbhmdgdkjaaQx5
import Derived.Test.YtehncbhmdgdkjaaQx6
import Derived.Test.YtehncbhmdgdkjaaQx7
import Derived.Test.YtehncbhmdgdkjaaQx8
import Derived.Test.YtehncbhmdgdkjaaQx9
namespace Go.Proofs.Ytehncbhmdgdkjaa.Q
open Go.RowKit Go.Proofs.YtehncbhmdgdkjaaW.PrintWords Go.Proofs.YtehncbhmdgdkjaaW.PrintLast Go.Proofs.YtehncbhmdgdkjaaW.PrintMore
attribute [local go_sem] max2_int min2_int max_two min_two max_three min_three max_four min_four   -- for this text's walks alone
set_option linter.unusedVariables false
set_option linter.unusedSimpArgs false

attribute [local go_sem high] eqA24
/-! ### hopperlaw05_live: function 51 -/
def hopperlaw05_live.j0 : Nat → Int → Int → Int → Int → Int → Int → Int → List (S24) → Int → Int → Bool → Bool → Int → Int → List (S24) → Int → Int → List (S24) → Int → Int → List (S24) → Int → Int → List (S24) → Int → Int → Int → Int → Int → ByteArray → Option (Bool)
 | 0, _, _, _, _, _, _, _, _, _, _, _, _, _, _, _, _, _, _, _, _, _, _, _, _, _, _, _, _, _, _ => none
 | k + 1, x2, x3, x5, x7, x8, x9, x11, x14, x15, x18, x21, x93, x216000, x216001, x216002, x268000, x268001, x268002, x278000, x278001, x278002, x294000, x294001, x294002, x302000, x302001, x302002, x302003, x302004, x302005 => if x93 = true then (none) else (if x2 = 1 then (if x3 = 0 then (if x5 = 5 then (if x7 = 4 then (if x8 = 0 then (if x9 = 0 then (if x11 = 3 then (if 2 < (x268002.length : Int) then ((hopperlaw05_tx.f 5 1).bind fun bt303 => (if (((rd_T24 x268002 2).f0) == bt303.1 && (((rd_T24 x268002 2).f1) == bt303.2.1 && (((rd_T24 x268002 2).f2) == bt303.2.2.1 && (((rd_T24 x268002 2).f3) == bt303.2.2.2.1 && (((rd_T24 x268002 2).f4) == bt303.2.2.2.2.1 && ((((rd_T24 x268002 2).f5).toList) == bt303.2.2.2.2.2.toList)))))) = true then (if x15 = 0 then (if x278001 = 5 then (if 1 < (x14.length : Int) then ((hopperlaw05_tx.f 4 5).bind fun bt310 => (if (((rd_T24 x14 1).f0) == bt310.1 && (((rd_T24 x14 1).f1) == bt310.2.1 && (((rd_T24 x14 1).f2) == bt310.2.2.1 && (((rd_T24 x14 1).f3) == bt310.2.2.2.1 && (((rd_T24 x14 1).f4) == bt310.2.2.2.2.1 && ((((rd_T24 x14 1).f5).toList) == bt310.2.2.2.2.2.toList)))))) = true then (if x18 = 3 then (if (x294002.length : Int) = 2 then (if x302002 = 100 then (if x21 = true then ((queue_Ready.f k x216000 x216001 x216002).bind fun t316 => (if (t316.length : Int) = 2 then ((queue_Ready.f k x268000 x268001 x268002).bind fun t319 => (if (t319.length : Int) = 4 then ((queue_Slots.f k x216000 x216001 x216002).bind fun t322 => (if t322 = 3 then ((queue_Check.f k x216000 x216001 x216002 3).bind fun t323 => (if t323 = true then ((queue_Check.f k x216000 x216001 x216002 2).bind fun t324 => (some (!t324))) else (none))) else (none))) else (none))) else (none))) else (none)) else (none)) else (none)) else (none)) else (none))) else (none)) else (none)) else (none)) else (none))) else (none)) else (none)) else (none)) else (none)) else (none)) else (none)) else (none)) else (none))
def hopperlaw05_live.f (k : Nat)  : Option (Bool) := (hopperlaw05_tx.f 3 5).bind fun bt194 => ((hopperlaw05_tx.f 4 5).bind fun bt200 => ((hopperlaw05_tx.f 6 100).bind fun bt206 => ((some (([(⟨bt194.1, bt194.2.1, bt194.2.2.1, bt194.2.2.2.1, bt194.2.2.2.2.1, bt194.2.2.2.2.2⟩ : S24), (⟨bt200.1, bt200.2.1, bt200.2.2.1, bt200.2.2.2.1, bt200.2.2.2.2.1, bt200.2.2.2.2.2⟩ : S24), (⟨bt206.1, bt206.2.1, bt206.2.2.1, bt206.2.2.2.1, bt206.2.2.2.2.1, bt206.2.2.2.2.2⟩ : S24)] : List (S24)) : List (S24))).bind fun y212 => ((hopperlaw05_tx.f 5 1).bind fun bt216 => ((queue_Place.f k 1 3 y212 bt216.1 bt216.2.1 bt216.2.2.1 bt216.2.2.2.1 bt216.2.2.2.2.1 bt216.2.2.2.2.2 4 10).bind fun bt222 => ((hopperlaw05_tx.f 5 1).bind fun bt224 => ((queue_Place.f k 1 3 y212 bt224.1 bt224.2.1 bt224.2.2.1 bt224.2.2.2.1 bt224.2.2.2.2.1 bt224.2.2.2.2.2 3 10).bind fun bt230 => ((hopperlaw05_tx.f 6 109).bind fun bt232 => ((queue_Place.f k 1 3 y212 bt232.1 bt232.2.1 bt232.2.2.1 bt232.2.2.2.1 bt232.2.2.2.2.1 bt232.2.2.2.2.2 4 10).bind fun bt238 => ((hopperlaw05_tx.f 6 110).bind fun bt240 => ((queue_Place.f k 1 3 y212 bt240.1 bt240.2.1 bt240.2.2.1 bt240.2.2.2.1 bt240.2.2.2.2.1 bt240.2.2.2.2.2 3 10).bind fun bt246 => ((hopperlaw05_tx.f 2 1).bind fun bt248 => ((queue_Place.f k 1 3 y212 bt248.1 bt248.2.1 bt248.2.2.1 bt248.2.2.2.1 bt248.2.2.2.2.1 bt248.2.2.2.2.2 4 10).bind fun bt254 => ((hopperlaw05_tx.f 5 1).bind fun bt256 => ((queue_Put.f 1 3 y212 bt256.1 bt256.2.1 bt256.2.2.1 bt256.2.2.2.1 bt256.2.2.2.2.1 bt256.2.2.2.2.2).bind fun bt262 => ((queue_Advance.f k bt262.1 bt262.2.1 bt262.2.2 5).bind fun bt268 => ((queue_Advance.f k 1 3 y212 2).bind fun bt278 => ((queue_Drop.f 1 3 y212 4).bind fun bt288 => ((queue_Find.f 1 3 y212 6).bind fun bt294 => (if (bt262.2.2.length : Int) = 4 then (if (bt268.2.2.1.length : Int) = 2 then (hopperlaw05_live.j0 k bt222.1 bt222.2 bt230.2 bt238.2 bt246.1 bt246.2 bt254.2 bt268.2.2.2.1 bt268.2.2.2.2 bt278.2.2.2.2 bt294.2.2.2.2.2.2 ((bt268.2.2.2.1.length : Int) != 2) 1 3 y212 bt262.1 bt262.2.1 bt262.2.2 bt268.1 bt268.2.1 bt268.2.2.1 bt288.1 bt288.2.1 bt288.2.2 bt294.1 bt294.2.1 bt294.2.2.1 bt294.2.2.2.1 bt294.2.2.2.2.1 bt294.2.2.2.2.2.1) else (hopperlaw05_live.j0 k bt222.1 bt222.2 bt230.2 bt238.2 bt246.1 bt246.2 bt254.2 bt268.2.2.2.1 bt268.2.2.2.2 bt278.2.2.2.2 bt294.2.2.2.2.2.2 true 1 3 y212 bt262.1 bt262.2.1 bt262.2.2 bt268.1 bt268.2.1 bt268.2.2.1 bt288.1 bt288.2.1 bt288.2.2 bt294.1 bt294.2.1 bt294.2.2.1 bt294.2.2.2.1 bt294.2.2.2.2.1 bt294.2.2.2.2.2.1)) else (hopperlaw05_live.j0 k bt222.1 bt222.2 bt230.2 bt238.2 bt246.1 bt246.2 bt254.2 bt268.2.2.2.1 bt268.2.2.2.2 bt278.2.2.2.2 bt294.2.2.2.2.2.2 true 1 3 y212 bt262.1 bt262.2.1 bt262.2.2 bt268.1 bt268.2.1 bt268.2.2.1 bt288.1 bt288.2.1 bt288.2.2 bt294.1 bt294.2.1 bt294.2.2.1 bt294.2.2.2.1 bt294.2.2.2.2.1 bt294.2.2.2.2.2.1)))))))))))))))))))))
theorem hopperlaw05_live.mono_l : ∀ k, (∀ y0 y1 y2 y3 y4 y5 y6 y7 y8 y9 y10 y11 y12 y13 y14 y15 y16 y17 y18 y19 y20 y21 y22 y23 y24 y25 y26 y27 y28 y29, LeO (hopperlaw05_live.j0 k y0 y1 y2 y3 y4 y5 y6 y7 y8 y9 y10 y11 y12 y13 y14 y15 y16 y17 y18 y19 y20 y21 y22 y23 y24 y25 y26 y27 y28 y29) (hopperlaw05_live.j0 (k + 1) y0 y1 y2 y3 y4 y5 y6 y7 y8 y9 y10 y11 y12 y13 y14 y15 y16 y17 y18 y19 y20 y21 y22 y23 y24 y25 y26 y27 y28 y29))
 | 0 => fun _ _ _ _ _ _ _ _ _ _ _ _ _ _ _ _ _ _ _ _ _ _ _ _ _ _ _ _ _ _ r h => by simp [hopperlaw05_live.j0] at h
 | k + 1 => by
  have ih0 := hopperlaw05_live.mono_l k
  · intro y0 y1 y2 y3 y4 y5 y6 y7 y8 y9 y10 y11 y12 y13 y14 y15 y16 y17 y18 y19 y20 y21 y22 y23 y24 y25 y26 y27 y28 y29
    unfold hopperlaw05_live.j0
    repeat' first
    | (with_reducible exact ih0 _ _ _ _ _ _ _ _ _ _ _ _ _ _ _ _ _ _ _ _ _ _ _ _ _ _ _ _ _ _)
    | (with_reducible exact queue_Advance.mono _ _ _ _ _)
    | (with_reducible exact queue_Check.mono _ _ _ _ _)
    | (with_reducible exact queue_Place.mono _ _ _ _ _ _ _ _ _ _ _ _)
    | (with_reducible exact queue_Ready.mono _ _ _ _)
    | (with_reducible exact queue_Slots.mono _ _ _ _)
    | (with_reducible exact LeO.refl _)
    | (with_reducible exact LeO.none _)
    | (with_reducible refine LeO.ite ?_ ?_)
    | (with_reducible refine LeO.bind ?_ (fun _ => ?_))
    | exact ih0 _ _ _ _ _ _ _ _ _ _ _ _ _ _ _ _ _ _ _ _ _ _ _ _ _ _ _ _ _ _
    | exact queue_Advance.mono _ _ _ _ _
    | exact queue_Check.mono _ _ _ _ _
    | exact queue_Place.mono _ _ _ _ _ _ _ _ _ _ _ _
    | exact queue_Ready.mono _ _ _ _
    | exact queue_Slots.mono _ _ _ _
    | exact LeO.none _
    | refine LeO.ite ?_ ?_
    | refine LeO.bind ?_ (fun _ => ?_)
theorem hopperlaw05_live.mono : ∀ k, LeO (hopperlaw05_live.f k ) (hopperlaw05_live.f (k + 1) ) := by
 intro  k
 have ih0 := hopperlaw05_live.mono_l k
 unfold hopperlaw05_live.f
 repeat' first
  | (with_reducible exact ih0 _ _ _ _ _ _ _ _ _ _ _ _ _ _ _ _ _ _ _ _ _ _ _ _ _ _ _ _ _ _)
  | (with_reducible exact queue_Advance.mono _ _ _ _ _)
  | (with_reducible exact queue_Check.mono _ _ _ _ _)
  | (with_reducible exact queue_Place.mono _ _ _ _ _ _ _ _ _ _ _ _)
  | (with_reducible exact queue_Ready.mono _ _ _ _)
  | (with_reducible exact queue_Slots.mono _ _ _ _)
  | (with_reducible exact LeO.refl _)
  | (with_reducible exact LeO.none _)
  | (with_reducible refine LeO.ite ?_ ?_)
  | (with_reducible refine LeO.bind ?_ (fun _ => ?_))
  | exact ih0 _ _ _ _ _ _ _ _ _ _ _ _ _ _ _ _ _ _ _ _ _ _ _ _ _ _ _ _ _ _
  | exact queue_Advance.mono _ _ _ _ _
  | exact queue_Check.mono _ _ _ _ _
  | exact queue_Place.mono _ _ _ _ _ _ _ _ _ _ _ _
  | exact queue_Ready.mono _ _ _ _
  | exact queue_Slots.mono _ _ _ _
  | exact LeO.none _
  | refine LeO.ite ?_ ?_
  | refine LeO.bind ?_ (fun _ => ?_)
def hopperlaw05_live.T2 : Bool × List (List Nat × List Nat) := (true, [([], []), ([], []), ([0, 1, 1], [0, 1]), ([2], [2]), ([3], [3]), ([3], [3]), ([4, 2, 0, 1, 2, 3, 4], [4]), ([5, 6, 0, 1, 2, 3, 4, 5, 6], [5])])
def hopperlaw05_live.B2 : List Nat := [0, 0, 3, 7, 15, 15, 31, 127]
theorem hopperlaw05_live.tab2 : rtab .any (opsOf Try.f51 2) = hopperlaw05_live.T2 := by kernel_rfl
theorem hopperlaw05_live.bits2 : waitsOk hopperlaw05_live.T2.2 hopperlaw05_live.B2 = true := by kernel_rfl
def hopperlaw05_live.T3 : Bool × List (List Nat × List Nat) := (true, [([], []), ([], []), ([0, 1, 1], [0, 1]), ([2], [2]), ([3], [3]), ([3], [3]), ([4, 2, 0, 1, 2, 3, 4], [4]), ([5, 6, 0, 1, 2, 3, 4, 5, 6], [5])])
def hopperlaw05_live.B3 : List Nat := [0, 0, 3, 7, 15, 15, 31, 127]
theorem hopperlaw05_live.tab3 : rtab .any (opsOf Try.f51 3) = hopperlaw05_live.T3 := by kernel_rfl
theorem hopperlaw05_live.bits3 : waitsOk hopperlaw05_live.T3.2 hopperlaw05_live.B3 = true := by kernel_rfl
def hopperlaw05_live.T4 : Bool × List (List Nat × List Nat) := (true, [([], []), ([], []), ([0, 1, 1], [0, 1]), ([2], [2]), ([3], [3]), ([3], [3]), ([4, 2, 0, 1, 2, 3, 4], [4]), ([5, 6, 0, 1, 2, 3, 4, 5, 6], [5])])
def hopperlaw05_live.B4 : List Nat := [0, 0, 3, 7, 15, 15, 31, 127]
theorem hopperlaw05_live.tab4 : rtab .any (opsOf Try.f51 4) = hopperlaw05_live.T4 := by kernel_rfl
theorem hopperlaw05_live.bits4 : waitsOk hopperlaw05_live.T4.2 hopperlaw05_live.B4 = true := by kernel_rfl
def hopperlaw05_live.T5 : Bool × List (List Nat × List Nat) := (true, [([], []), ([], []), ([0, 1, 1], [0, 1]), ([2], [2]), ([3], [3]), ([3], [3]), ([4, 2, 0, 1, 2, 3, 4], [4]), ([5, 6, 0, 1, 2, 3, 4, 5, 6], [5])])
def hopperlaw05_live.B5 : List Nat := [0, 0, 3, 7, 15, 15, 31, 127]
theorem hopperlaw05_live.tab5 : rtab .any (opsOf Try.f51 5) = hopperlaw05_live.T5 := by kernel_rfl
theorem hopperlaw05_live.bits5 : waitsOk hopperlaw05_live.T5.2 hopperlaw05_live.B5 = true := by kernel_rfl
def hopperlaw05_live.T6 : Bool × List (List Nat × List Nat) := (true, [([], []), ([], []), ([0, 1, 1], [0, 1]), ([2], [2]), ([3], [3]), ([3], [3]), ([4, 2, 0, 1, 2, 3, 4], [4]), ([5, 6, 0, 1, 2, 3, 4, 5, 6], [5])])
def hopperlaw05_live.B6 : List Nat := [0, 0, 3, 7, 15, 15, 31, 127]
theorem hopperlaw05_live.tab6 : rtab .any (opsOf Try.f51 6) = hopperlaw05_live.T6 := by kernel_rfl
theorem hopperlaw05_live.bits6 : waitsOk hopperlaw05_live.T6.2 hopperlaw05_live.B6 = true := by kernel_rfl
def hopperlaw05_live.T14 : Bool × List (List Nat × List Nat) := (true, [([], []), ([0], [0]), ([1], [1]), ([2], [2]), ([3, 2], [2, 3]), ([2, 4], [2, 4]), ([5, 2], [5]), ([6], [6]), ([7, 6], [6, 7]), ([6, 8], [6, 8]), ([9, 6], [9]), ([10], [10]), ([11, 10], [10, 11]), ([10, 12], [10, 12]), ([13, 10], [13]), ([14], [14]), ([15, 14], [14, 15]), ([14, 16], [14, 16]), ([17, 14], [17]), ([18], [18]), ([19, 18], [18, 19]), ([18, 20], [18, 20]), ([21, 18], [21]), ([22], [22]), ([23, 22], [22, 23]), ([22, 24], [22, 24]), ([25, 22], [25]), ([26], [26]), ([27, 26], [26, 27]), ([28, 26], [26, 28]), ([29, 26], [26, 29]), ([26, 26], [26]), ([30, 31, 26], [26, 30, 31]), ([26, 32], [26, 32]), ([33, 31], [33]), ([34], [34]), ([35, 34], [34, 35]), ([34, 36], [34, 36]), ([37, 34], [37]), ([38], [38]), ([39, 38], [38, 39]), ([40, 38], [38, 40]), ([38, 41], [38, 41]), ([42, 38], [42]), ([43], [43]), ([44, 43], [43, 44]), ([45, 43], [43, 45]), ([43, 43], [43]), ([46, 47, 43], [43, 46, 47]), ([43, 48], [43, 48]), ([49, 47], [49]), ([50], [50]), ([51, 50], [50, 51]), ([50, 52], [50, 52]), ([53, 50], [53]), ([54], [54]), ([55, 54], [54, 55]), ([56, 54], [54, 56]), ([57, 54], [54, 57]), ([54, 58], [54, 58]), ([59, 54], [59]), ([60], [60]), ([61, 60], [60, 61]), ([62, 60], [60, 62]), ([60, 63], [60, 63]), ([64, 60], [64]), ([65], [65]), ([65, 66], [65, 66]), ([67, 65], [67]), ([68], [68]), ([69, 68, 68], [68, 69]), ([70, 68], [68, 70]), ([71, 68], [68, 71]), ([68, 72], [68, 72]), ([73, 70], [73]), ([74], [74]), ([75, 74, 74], [74, 75]), ([76, 74], [74, 76]), ([77, 74], [74, 77]), ([74, 78], [74, 78]), ([79, 76], [79]), ([80], [80]), ([81, 80, 80], [80, 81]), ([82, 80], [80, 82]), ([80, 83], [80, 83]), ([84, 82], [84]), ([85], [85]), ([86, 85, 85], [85, 86]), ([85, 87], [85, 87]), ([88, 87], [88]), ([89], [89]), ([90, 89, 89], [89, 90]), ([91, 89], [89, 91]), ([89, 92], [89, 92]), ([93, 91, 0, 1, 2, 3, 4, 5, 6, 7, 8, 9, 10, 11, 12, 13, 14, 15, 16, 17, 18, 19, 20, 21, 22, 23, 24, 25, 26, 27, 28, 29, 30, 31, 32, 33, 34, 35, 36, 37, 38, 39, 40, 41, 42, 43, 44, 45, 46, 47, 48, 49, 50, 51, 52, 53, 54, 55, 56, 57, 58, 59, 60, 61, 62, 63, 64, 65, 66, 67, 68, 69, 70, 71, 72, 73, 74, 75, 76, 77, 78, 79, 80, 81, 82, 83, 84, 85, 86, 87, 88, 89, 90, 91, 92, 93], [93])])
def hopperlaw05_live.B14 : List Nat := [0, 1, 3, 7, 15, 31, 63, 127, 255, 511, 1023, 2047, 4095, 8191, 16383, 32767, 65535, 131071, 262143, 524287, 1048575, 2097151, 4194303, 8388607, 16777215, 33554431, 67108863, 134217727, 268435455, 536870911, 1073741823, 134217727, 4294967295, 8589934591, 17179869183, 34359738367, 68719476735, 137438953471, 274877906943, 549755813887, 1099511627775, 2199023255551, 4398046511103, 8796093022207, 17592186044415, 35184372088831, 70368744177663, 17592186044415, 281474976710655, 562949953421311, 1125899906842623, 2251799813685247, 4503599627370495, 9007199254740991, 18014398509481983, 36028797018963967, 72057594037927935, 144115188075855871, 288230376151711743, 576460752303423487, 1152921504606846975, 2305843009213693951, 4611686018427387903, 9223372036854775807, 18446744073709551615, 36893488147419103231, 73786976294838206463, 147573952589676412927, 295147905179352825855, 590295810358705651711, 1180591620717411303423, 2361183241434822606847, 4722366482869645213695, 9444732965739290427391, 18889465931478580854783, 37778931862957161709567, 75557863725914323419135, 151115727451828646838271, 302231454903657293676543, 604462909807314587353087, 1208925819614629174706175, 2417851639229258349412351, 4835703278458516698824703, 9671406556917033397649407, 19342813113834066795298815, 38685626227668133590597631, 77371252455336267181195263, 154742504910672534362390527, 309485009821345068724781055, 618970019642690137449562111, 1237940039285380274899124223, 2475880078570760549798248447, 4951760157141521099596496895, 9903520314283042199192993791, 19807040628566084398385987583]
theorem hopperlaw05_live.tab14 : rtab .any (opsOf Try.f51 14) = hopperlaw05_live.T14 := by kernel_rfl
theorem hopperlaw05_live.bits14 : waitsOk hopperlaw05_live.T14.2 hopperlaw05_live.B14 = true := by kernel_rfl
set_option maxHeartbeats 8000000 in
set_option maxRecDepth 100000 in
theorem hopperlaw05_live.calls (k : Nat)  (r : Bool) (w : World) (h : hopperlaw05_live.f k  = some r) :
 Calls Try.prog 51 #[] w fun e w' => e = .returned (.bool r) ∧ Below w.heap.size w w' := by
 have hu46 := Try.underlying46
 have hu24 := Try.underlying24
 have HB := A_ (Below.refl w.heap.size w)
 have H : ((hopperlaw05_tx.f 3 5).bind fun bt194 => ((hopperlaw05_tx.f 4 5).bind fun bt200 => ((hopperlaw05_tx.f 6 100).bind fun bt206 => ((some (([(⟨bt194.1, bt194.2.1, bt194.2.2.1, bt194.2.2.2.1, bt194.2.2.2.2.1, bt194.2.2.2.2.2⟩ : S24), (⟨bt200.1, bt200.2.1, bt200.2.2.1, bt200.2.2.2.1, bt200.2.2.2.2.1, bt200.2.2.2.2.2⟩ : S24), (⟨bt206.1, bt206.2.1, bt206.2.2.1, bt206.2.2.2.1, bt206.2.2.2.2.1, bt206.2.2.2.2.2⟩ : S24)] : List (S24)) : List (S24))).bind fun y212 => ((hopperlaw05_tx.f 5 1).bind fun bt216 => ((queue_Place.f k 1 3 y212 bt216.1 bt216.2.1 bt216.2.2.1 bt216.2.2.2.1 bt216.2.2.2.2.1 bt216.2.2.2.2.2 4 10).bind fun bt222 => ((hopperlaw05_tx.f 5 1).bind fun bt224 => ((queue_Place.f k 1 3 y212 bt224.1 bt224.2.1 bt224.2.2.1 bt224.2.2.2.1 bt224.2.2.2.2.1 bt224.2.2.2.2.2 3 10).bind fun bt230 => ((hopperlaw05_tx.f 6 109).bind fun bt232 => ((queue_Place.f k 1 3 y212 bt232.1 bt232.2.1 bt232.2.2.1 bt232.2.2.2.1 bt232.2.2.2.2.1 bt232.2.2.2.2.2 4 10).bind fun bt238 => ((hopperlaw05_tx.f 6 110).bind fun bt240 => ((queue_Place.f k 1 3 y212 bt240.1 bt240.2.1 bt240.2.2.1 bt240.2.2.2.1 bt240.2.2.2.2.1 bt240.2.2.2.2.2 3 10).bind fun bt246 => ((hopperlaw05_tx.f 2 1).bind fun bt248 => ((queue_Place.f k 1 3 y212 bt248.1 bt248.2.1 bt248.2.2.1 bt248.2.2.2.1 bt248.2.2.2.2.1 bt248.2.2.2.2.2 4 10).bind fun bt254 => ((hopperlaw05_tx.f 5 1).bind fun bt256 => ((queue_Put.f 1 3 y212 bt256.1 bt256.2.1 bt256.2.2.1 bt256.2.2.2.1 bt256.2.2.2.2.1 bt256.2.2.2.2.2).bind fun bt262 => ((queue_Advance.f k bt262.1 bt262.2.1 bt262.2.2 5).bind fun bt268 => ((queue_Advance.f k 1 3 y212 2).bind fun bt278 => ((queue_Drop.f 1 3 y212 4).bind fun bt288 => ((queue_Find.f 1 3 y212 6).bind fun bt294 => (if (bt262.2.2.length : Int) = 4 then (if (bt268.2.2.1.length : Int) = 2 then (hopperlaw05_live.j0 k bt222.1 bt222.2 bt230.2 bt238.2 bt246.1 bt246.2 bt254.2 bt268.2.2.2.1 bt268.2.2.2.2 bt278.2.2.2.2 bt294.2.2.2.2.2.2 ((bt268.2.2.2.1.length : Int) != 2) 1 3 y212 bt262.1 bt262.2.1 bt262.2.2 bt268.1 bt268.2.1 bt268.2.2.1 bt288.1 bt288.2.1 bt288.2.2 bt294.1 bt294.2.1 bt294.2.2.1 bt294.2.2.2.1 bt294.2.2.2.2.1 bt294.2.2.2.2.2.1) else (hopperlaw05_live.j0 k bt222.1 bt222.2 bt230.2 bt238.2 bt246.1 bt246.2 bt254.2 bt268.2.2.2.1 bt268.2.2.2.2 bt278.2.2.2.2 bt294.2.2.2.2.2.2 true 1 3 y212 bt262.1 bt262.2.1 bt262.2.2 bt268.1 bt268.2.1 bt268.2.2.1 bt288.1 bt288.2.1 bt288.2.2 bt294.1 bt294.2.1 bt294.2.2.1 bt294.2.2.2.1 bt294.2.2.2.2.1 bt294.2.2.2.2.2.1)) else (hopperlaw05_live.j0 k bt222.1 bt222.2 bt230.2 bt238.2 bt246.1 bt246.2 bt254.2 bt268.2.2.2.1 bt268.2.2.2.2 bt278.2.2.2.2 bt294.2.2.2.2.2.2 true 1 3 y212 bt262.1 bt262.2.1 bt262.2.2 bt268.1 bt268.2.1 bt268.2.2.1 bt288.1 bt288.2.1 bt288.2.2 bt294.1 bt294.2.1 bt294.2.2.1 bt294.2.2.2.1 bt294.2.2.2.2.1 bt294.2.2.2.2.2.1)))))))))))))))))))))) = some r := h
 clear h
 replace H := Option.bind_eq_some_iff.mp H
 obtain ⟨⟨t194, t195, t196, t197, t198, t199⟩, A10, H⟩ := H
 try dsimp only at H
 have A1 := A_ A10
 clear A10
 replace H := Option.bind_eq_some_iff.mp H
 obtain ⟨⟨t200, t201, t202, t203, t204, t205⟩, A20, H⟩ := H
 try dsimp only at H
 have A2 := A_ A20
 clear A20
 replace H := Option.bind_eq_some_iff.mp H
 obtain ⟨⟨t206, t207, t208, t209, t210, t211⟩, A30, H⟩ := H
 try dsimp only at H
 have A3 := A_ A30
 clear A30
 obtain ⟨y212, hy212⟩ : ∃ y_ : List (S24), y_ = (([(⟨t194, t195, t196, t197, t198, t199⟩ : S24), (⟨t200, t201, t202, t203, t204, t205⟩ : S24), (⟨t206, t207, t208, t209, t210, t211⟩ : S24)] : List (S24))) := ⟨_, rfl⟩
 replace H : ((hopperlaw05_tx.f 5 1).bind fun bt216 => ((queue_Place.f k 1 3 y212 bt216.1 bt216.2.1 bt216.2.2.1 bt216.2.2.2.1 bt216.2.2.2.2.1 bt216.2.2.2.2.2 4 10).bind fun bt222 => ((hopperlaw05_tx.f 5 1).bind fun bt224 => ((queue_Place.f k 1 3 y212 bt224.1 bt224.2.1 bt224.2.2.1 bt224.2.2.2.1 bt224.2.2.2.2.1 bt224.2.2.2.2.2 3 10).bind fun bt230 => ((hopperlaw05_tx.f 6 109).bind fun bt232 => ((queue_Place.f k 1 3 y212 bt232.1 bt232.2.1 bt232.2.2.1 bt232.2.2.2.1 bt232.2.2.2.2.1 bt232.2.2.2.2.2 4 10).bind fun bt238 => ((hopperlaw05_tx.f 6 110).bind fun bt240 => ((queue_Place.f k 1 3 y212 bt240.1 bt240.2.1 bt240.2.2.1 bt240.2.2.2.1 bt240.2.2.2.2.1 bt240.2.2.2.2.2 3 10).bind fun bt246 => ((hopperlaw05_tx.f 2 1).bind fun bt248 => ((queue_Place.f k 1 3 y212 bt248.1 bt248.2.1 bt248.2.2.1 bt248.2.2.2.1 bt248.2.2.2.2.1 bt248.2.2.2.2.2 4 10).bind fun bt254 => ((hopperlaw05_tx.f 5 1).bind fun bt256 => ((queue_Put.f 1 3 y212 bt256.1 bt256.2.1 bt256.2.2.1 bt256.2.2.2.1 bt256.2.2.2.2.1 bt256.2.2.2.2.2).bind fun bt262 => ((queue_Advance.f k bt262.1 bt262.2.1 bt262.2.2 5).bind fun bt268 => ((queue_Advance.f k 1 3 y212 2).bind fun bt278 => ((queue_Drop.f 1 3 y212 4).bind fun bt288 => ((queue_Find.f 1 3 y212 6).bind fun bt294 => (if (bt262.2.2.length : Int) = 4 then (if (bt268.2.2.1.length : Int) = 2 then (hopperlaw05_live.j0 k bt222.1 bt222.2 bt230.2 bt238.2 bt246.1 bt246.2 bt254.2 bt268.2.2.2.1 bt268.2.2.2.2 bt278.2.2.2.2 bt294.2.2.2.2.2.2 ((bt268.2.2.2.1.length : Int) != 2) 1 3 y212 bt262.1 bt262.2.1 bt262.2.2 bt268.1 bt268.2.1 bt268.2.2.1 bt288.1 bt288.2.1 bt288.2.2 bt294.1 bt294.2.1 bt294.2.2.1 bt294.2.2.2.1 bt294.2.2.2.2.1 bt294.2.2.2.2.2.1) else (hopperlaw05_live.j0 k bt222.1 bt222.2 bt230.2 bt238.2 bt246.1 bt246.2 bt254.2 bt268.2.2.2.1 bt268.2.2.2.2 bt278.2.2.2.2 bt294.2.2.2.2.2.2 true 1 3 y212 bt262.1 bt262.2.1 bt262.2.2 bt268.1 bt268.2.1 bt268.2.2.1 bt288.1 bt288.2.1 bt288.2.2 bt294.1 bt294.2.1 bt294.2.2.1 bt294.2.2.2.1 bt294.2.2.2.2.1 bt294.2.2.2.2.2.1)) else (hopperlaw05_live.j0 k bt222.1 bt222.2 bt230.2 bt238.2 bt246.1 bt246.2 bt254.2 bt268.2.2.2.1 bt268.2.2.2.2 bt278.2.2.2.2 bt294.2.2.2.2.2.2 true 1 3 y212 bt262.1 bt262.2.1 bt262.2.2 bt268.1 bt268.2.1 bt268.2.2.1 bt288.1 bt288.2.1 bt288.2.2 bt294.1 bt294.2.1 bt294.2.2.1 bt294.2.2.2.1 bt294.2.2.2.2.1 bt294.2.2.2.2.2.1)))))))))))))))))) = some r := by first | (rw [hy212]; with_reducible exact H) | (have H2_ := (Option.bind_some _ _).symm.trans H; rw [hy212]; with_reducible exact H2_) | (have H2_ := (Option.bind_some _ _).symm.trans H; with_reducible exact H2_) | with_reducible exact H | (rw [hy212]; exact H) | exact H
 have Ny212 := A_ hy212
 clear hy212
 replace H := Option.bind_eq_some_iff.mp H
 obtain ⟨⟨t216, t217, t218, t219, t220, t221⟩, A40, H⟩ := H
 try dsimp only at H
 have A4 := A_ A40
 clear A40
 replace H := Option.bind_eq_some_iff.mp H
 obtain ⟨⟨t222, t223⟩, A50, H⟩ := H
 try dsimp only at H
 have A5 := A_ A50
 clear A50
 replace H := Option.bind_eq_some_iff.mp H
 obtain ⟨⟨t224, t225, t226, t227, t228, t229⟩, A60, H⟩ := H
 try dsimp only at H
 have A6 := A_ A60
 clear A60
 replace H := Option.bind_eq_some_iff.mp H
 obtain ⟨⟨t230, t231⟩, A70, H⟩ := H
 try dsimp only at H
 have A7 := A_ A70
 clear A70
 replace H := Option.bind_eq_some_iff.mp H
 obtain ⟨⟨t232, t233, t234, t235, t236, t237⟩, A80, H⟩ := H
 try dsimp only at H
 have A8 := A_ A80
 clear A80
 replace H := Option.bind_eq_some_iff.mp H
 obtain ⟨⟨t238, t239⟩, A90, H⟩ := H
 try dsimp only at H
 have A9 := A_ A90
 clear A90
 replace H := Option.bind_eq_some_iff.mp H
 obtain ⟨⟨t240, t241, t242, t243, t244, t245⟩, A100, H⟩ := H
 try dsimp only at H
 have A10 := A_ A100
 clear A100
 replace H := Option.bind_eq_some_iff.mp H
 obtain ⟨⟨t246, t247⟩, A110, H⟩ := H
 try dsimp only at H
 have A11 := A_ A110
 clear A110
 replace H := Option.bind_eq_some_iff.mp H
 obtain ⟨⟨t248, t249, t250, t251, t252, t253⟩, A120, H⟩ := H
 try dsimp only at H
 have A12 := A_ A120
 clear A120
 replace H := Option.bind_eq_some_iff.mp H
 obtain ⟨⟨t254, t255⟩, A130, H⟩ := H
 try dsimp only at H
 have A13 := A_ A130
 clear A130
 replace H := Option.bind_eq_some_iff.mp H
 obtain ⟨⟨t256, t257, t258, t259, t260, t261⟩, A140, H⟩ := H
 try dsimp only at H
 have A14 := A_ A140
 clear A140
 replace H := Option.bind_eq_some_iff.mp H
 obtain ⟨⟨t262, t263, t264⟩, A150, H⟩ := H
 try dsimp only at H
 have A15 := A_ A150
 clear A150
 replace H := Option.bind_eq_some_iff.mp H
 obtain ⟨⟨t268, t269, t270, t273, t276⟩, A160, H⟩ := H
 try dsimp only at H
 have A16 := A_ A160
 clear A160
 replace H := Option.bind_eq_some_iff.mp H
 obtain ⟨⟨t278, t279, t280, t283, t286⟩, A170, H⟩ := H
 try dsimp only at H
 have A17 := A_ A170
 clear A170
 replace H := Option.bind_eq_some_iff.mp H
 obtain ⟨⟨t288, t289, t290⟩, A180, H⟩ := H
 try dsimp only at H
 have A18 := A_ A180
 clear A180
 replace H := Option.bind_eq_some_iff.mp H
 obtain ⟨⟨t294, t295, t296, t297, t298, t299, t300⟩, A190, H⟩ := H
 try dsimp only at H
 have A19 := A_ A190
 clear A190
 have HC20 := A_ H
 clear H
 go_enter Try.func51, Try.ntmps51
 try go_wp2_with (first | ((with_reducible refine gate_callee (f := 99) rfl ?_); refine goesL_ (some 22) rfl rfl Try.func99 (by kernel_rfl) rfl #[.int .i64 3, .int .i64 5] rfl (by (try simp only [m0_, m1_, m2_]); first | done | rfl) ?_; (with_reducible refine (hopperlaw05_tx.calls 3 5 t194 t195 t196 t197 t198 t199 _ A1.out).mono ?_); rintro e w21 ⟨rfl, hb⟩; refine ⟨_, rfl, ?_⟩; replace HB := A_ (below_step bw_ hb); (try clear hb); (try clear hb2); (try clear hk); (try clear hi)) | ((with_reducible refine gate_callee (f := 99) rfl ?_); refine goesL_ (some 23) rfl rfl Try.func99 (by kernel_rfl) rfl #[.int .i64 4, .int .i64 5] rfl (by (try simp only [m0_, m1_, m2_]); first | done | rfl) ?_; (with_reducible refine (hopperlaw05_tx.calls 4 5 t200 t201 t202 t203 t204 t205 _ A2.out).mono ?_); rintro e w22 ⟨rfl, hb⟩; refine ⟨_, rfl, ?_⟩; replace HB := A_ (below_step bw_ hb); (try clear hb); (try clear hb2); (try clear hk); (try clear hi)) | ((with_reducible refine gate_callee (f := 99) rfl ?_); refine goesL_ (some 24) rfl rfl Try.func99 (by kernel_rfl) rfl #[.int .i64 6, .int .i64 100] rfl (by (try simp only [m0_, m1_, m2_]); first | done | rfl) ?_; (with_reducible refine (hopperlaw05_tx.calls 6 100 t206 t207 t208 t209 t210 t211 _ A3.out).mono ?_); rintro e w23 ⟨rfl, hb⟩; refine ⟨_, rfl, ?_⟩; replace HB := A_ (below_step bw_ hb); (try clear hb); (try clear hb2); (try clear hk); (try clear hi)) | ((with_reducible refine gate_dst (N := 25) rfl ?_); (try (refine gate_guard (by rfl) ?_; dsimp only)); refine Kd.R_lit k24 _ 24 ?hg (N := 25) ?hd (xs := ([(⟨t194, t195, t196, t197, t198, t199⟩ : S24), (⟨t200, t201, t202, t203, t204, t205⟩ : S24), (⟨t206, t207, t208, t209, t210, t211⟩ : S24)] : List (S24))) (inner := [.int .i64 t194, .int .i64 t195, .int .i64 t196, .int .i64 t197, .int .i64 t198, .string t199, .int .i64 t200, .int .i64 t201, .int .i64 t202, .int .i64 t203, .int .i64 t204, .string t205, .int .i64 t206, .int .i64 t207, .int .i64 t208, .int .i64 t209, .int .i64 t210, .string t211]) (ok := fun _ => True) (okp := fun _ => True) ?hr ?hp (fun _ hk => hk) trivial (Below.refl _ _) (Nat.le_refl _) (by simp) ?_; (case hd => rfl); (case hg => rfl); (case hr => first | (go_simp; done) | (go_simp; rfl)); (case hp => exact (Reps.c6 (show Kd.M k24 _ _ _ (⟨t194, t195, t196, t197, t198, t199⟩ : S24) [.int .i64 t194, .int .i64 t195, .int .i64 t196, .int .i64 t197, .int .i64 t198, .string t199] from (k24_mkM _ _ _ (⟨t194, t195, t196, t197, t198, t199⟩ : S24) )) (Reps.c6 (show Kd.M k24 _ _ _ (⟨t200, t201, t202, t203, t204, t205⟩ : S24) [.int .i64 t200, .int .i64 t201, .int .i64 t202, .int .i64 t203, .int .i64 t204, .string t205] from (k24_mkM _ _ _ (⟨t200, t201, t202, t203, t204, t205⟩ : S24) )) (Reps.c6 (show Kd.M k24 _ _ _ (⟨t206, t207, t208, t209, t210, t211⟩ : S24) [.int .i64 t206, .int .i64 t207, .int .i64 t208, .int .i64 t209, .int .i64 t210, .string t211] from (k24_mkM _ _ _ (⟨t206, t207, t208, t209, t210, t211⟩ : S24) )) (Reps.none _ _))))); intro v213 w24 ho25 hb hg_ hnew_; clear hg_ hnew_; (first | rw [← Ny212.out] at ho25 | (simp only [Int.reduceToNat] at ho25; rw [← Ny212.out] at ho25)); have HO214 := A_ (Kd.R_lower ho25 (below_size bw_)); replace HB := A_ (below_step bw_ hb); clear hb ho25; obtain ⟨Ao26, co26, eo26⟩ := Kd.R_slice HO214.out; subst eo26) | ((with_reducible refine gate_dst (N := 1) rfl ?_); (try (refine gate_guard (by rfl) ?_; dsimp only)); refine box_event ?hg (N := 1) ?hd (cs := #[.int .i64 0, .int .i64 0, .slice none 0 0]) (t := 46) ?hr ?_; (case hd => rfl); (case hg => rfl); (case hr => first | (go_simp; done) | (go_simp; rfl)); intro gb215 hg w27 hbox hb; have n0_ := A_ (Kd.R_below (pr_ HO214.out) hb); have n1_ := A_ (below_step bw_ hb); have n2_ := A_ (hbox); have n3_ := A_ (gz_ (w := w) hg); have n4_ := A_ (gz_ (w := w) hg); replace HO214 := n0_; replace HB := n1_; have BK215 := n2_; have GW215 := n3_; have GE215 := n4_; clear n0_ n1_ n2_ n3_ n4_; clear hb hbox hg; have hcz28_0 : w27.cell? ⟨gb215, 0, none⟩ = some (.int .i64 0) := e_ BK215 0; have hcz28_1 : w27.cell? ⟨gb215, 1, none⟩ = some (.int .i64 0) := e_ BK215 1; have hcz28_2 : w27.cell? ⟨gb215, 2, none⟩ = some (.slice none 0 0) := e_ BK215 2; obtain ⟨hfz28_0, hfz28_1, hfz28_2⟩ := z3_ BK215))
 have n0_ : Aside0 (Kd.R k24 24 (((w27.setCell ⟨gb215, 0, none⟩ (.int .i64 1)).setCell ⟨gb215, 1, none⟩ (.int .i64 3)).setCell ⟨gb215, 2, none⟩ (.slice Ao26 y212.length co26)) w.heap.size (fun _ => True) (.slice Ao26 y212.length co26) y212) := ⟨by (with_reducible repeat (first | apply ra_ | apply rn_ | apply rd_)); exact Kd.R_mono (Kd.R_far (p := ⟨gb215, 2, none⟩) (Kd.R_far (p := ⟨gb215, 1, none⟩) (Kd.R_far (p := ⟨gb215, 0, none⟩) (Kd.R_types HO214.out BK215.out (by decide)) (fun _ hk => hk.2) (.int .i64 1)) (fun _ hk => hk.2) (.int .i64 3)) (fun _ hk => hk.2) (.slice Ao26 y212.length co26)) (fun _ hk => trivial)⟩; have n1_ : Aside0 ((((w27.setCell ⟨gb215, 0, none⟩ (.int .i64 1)).setCell ⟨gb215, 1, none⟩ (.int .i64 3)).setCell ⟨gb215, 2, none⟩ (.slice Ao26 y212.length co26)).heap[gb215]? = some (.cells #[.int .i64 1, .int .i64 3, .slice Ao26 y212.length co26] 46 (0, 0))) := ⟨by exact pk_ (b3_ BK215.out)⟩; have n2_ : Aside0 (Below w.heap.size w (((w27.setCell ⟨gb215, 0, none⟩ (.int .i64 1)).setCell ⟨gb215, 1, none⟩ (.int .i64 3)).setCell ⟨gb215, 2, none⟩ (.slice Ao26 y212.length co26))) := ⟨by repeat (first | (with_reducible first | exact HB.out | apply wa_ | apply wn_ | apply wd_ | refine ws_ ?_ GE215.out) | exact HB.out)⟩
 (try clear HO214)
 (try clear BK215)
 (try clear HB)
 generalize (((w27.setCell ⟨gb215, 0, none⟩ (.int .i64 1)).setCell ⟨gb215, 1, none⟩ (.int .i64 3)).setCell ⟨gb215, 2, none⟩ (.slice Ao26 y212.length co26)) = w29 at n0_ n1_ n2_ ⊢
 have HO214 := n0_; have BK215 := n1_; have HB := n2_; clear n0_ n1_ n2_; have n0_ := A_ (rd_ HO214.out); have n1_ := A_ (bd_ BK215.out); have n2_ := A_ (wd_ HB.out); replace HO214 := n0_; replace BK215 := n1_; replace HB := n2_; clear n0_ n1_ n2_
 refine start_ (n := 8) (S := fun w' => w'.cell? ⟨gb215, 0, none⟩ = some (.int .i64 1) ∧ w'.cell? ⟨gb215, 1, none⟩ = some (.int .i64 3) ∧ w'.cell? ⟨gb215, 2, none⟩ = some (.slice Ao26 y212.length co26)) (ds := []) #[false, false, false, false, false, false, false, false] (by kernel_rfl) rfl rfl ⟨e_ BK215 0, e_ BK215 1, e_ BK215 2⟩ (fun hHeld => ?_); refine with_tabW hopperlaw05_live.tab2 hopperlaw05_live.bits2 (fun HT_ HW_ => ?_)
 generalize w29.drew = w30 at HO214 BK215 HB hHeld ⊢
 refine tk_ 0 28 HT_ HW_ hHeld ?_
 refine one_ (i := 1) (N := some 29) #[true, true, false, false, false, false, false, false] rfl rfl (one_of HT_.out (by kernel_rfl)) (by decide) (fun K hK => ?_)
 refine goes_ Try.func99 (by kernel_rfl) rfl #[.int .i64 5, .int .i64 1] (by rfl) rfl rfl (by (try simp only [m0_, m1_, m2_]); first | done | rfl) ?_
 with_reducible refine (hopperlaw05_tx.calls 5 1 t216 t217 t218 t219 t220 t221 _ A4.out).mono ?_
 rintro e w31 ⟨rfl, hb⟩
 refine ⟨_, rfl, ?_⟩
 have n0_ := A_ (Kd.R_below (pr_ HO214.out) hb); have n1_ := A_ (kb_ BK215 hb); have n2_ := A_ (below_step bw_ hb); replace HO214 := n0_; replace BK215 := n1_; replace HB := n2_; clear n0_ n1_ n2_
 (try clear hb)
 (try clear hb2)
 (try clear hk)
 (try clear hi)
 refine hK.out _ _ ⟨e_ BK215 0, e_ BK215 1, e_ BK215 2⟩ (fun hHeld => ?_)
 clear hK K
 refine norm_ (a' := ?_) ?_ ?_
 rotate_left
 · show Act.put _ (some 29) _ = _
   simp only [Act.put, s0_, s1_, s2_, i64_w, i32_w]
   rfl
 refine one_ (i := 2) (N := some 30) #[true, true, true, false, false, false, false, false] rfl rfl (one_of HT_.out (by kernel_rfl)) (by decide) (fun K hK => ?_)
 refine goes_ Try.func58 (by kernel_rfl) rfl #[.agg #[.int .i64 1, .int .i64 3, .slice Ao26 y212.length co26], .agg #[.int .i64 t216, .int .i64 t217, .int .i64 t218, .int .i64 t219, .int .i64 t220, .string t221], .int .i64 4, .int .i64 10] (by rfl) rfl rfl (by (try simp only [m0_, m1_, m2_]); first | done | rfl) ?_
 with_reducible refine (queue_Place.calls k 1 3 _ _ y212 t216 t217 t218 t219 t220 t221 4 10 t222 t223 _ ?side1 ?side2 A5.out).mono ?_
 (case side1 => repeat (first | exact (Kd.R_reads' HO214.out).2.2 | (with_reducible refine ca_ ?_ _) | (with_reducible refine cn_ ?_ _) | (with_reducible refine cd_ ?_)))
 (case side2 => exact (Kd.R_reads' HO214.out).2.1)
 rintro e w32 ⟨rfl, hb⟩
 refine ⟨_, rfl, ?_⟩
 have n0_ := A_ (Kd.R_below (pr_ HO214.out) hb); have n1_ := A_ (kb_ BK215 hb); have n2_ := A_ (below_step bw_ hb); replace HO214 := n0_; replace BK215 := n1_; replace HB := n2_; clear n0_ n1_ n2_
 (try clear hb)
 (try clear hb2)
 (try clear hk)
 (try clear hi)
 refine hK.out _ _ ⟨e_ BK215 0, e_ BK215 1, e_ BK215 2⟩ (fun hHeld => ?_)
 clear hK K
 refine norm_ (a' := ?_) ?_ ?_
 rotate_left
 · show Act.put _ (some 30) _ = _
   simp only [Act.put, s0_, s1_, s2_, i64_w, i32_w]
   rfl
 refine pq_ 3 27 HT_ ?_
 refine pq_ 4 31 HT_ ?_
 refine pq_ 5 32 HT_ ?_
 refine pq_ 6 2 HT_ ?_
 refine pq_ 7 3 HT_ ?_
 refine done_ (done_of HT_.out (by kernel_rfl)) ?_
 try go_wp2
 have n0_ := A_ (rd_ HO214.out); have n1_ := A_ (bd_ BK215.out); have n2_ := A_ (wd_ HB.out); replace HO214 := n0_; replace BK215 := n1_; replace HB := n2_; clear n0_ n1_ n2_
 refine start_ (n := 8) (S := fun w' => w'.cell? ⟨gb215, 0, none⟩ = some (.int .i64 1) ∧ w'.cell? ⟨gb215, 1, none⟩ = some (.int .i64 3) ∧ w'.cell? ⟨gb215, 2, none⟩ = some (.slice Ao26 y212.length co26)) (ds := []) #[false, false, false, false, false, false, false, false] (by kernel_rfl) rfl rfl ⟨e_ BK215 0, e_ BK215 1, e_ BK215 2⟩ (fun hHeld => ?_); refine with_tabW hopperlaw05_live.tab3 hopperlaw05_live.bits3 (fun HT_ HW_ => ?_)
 generalize w32.drew = w33 at HO214 BK215 HB hHeld ⊢
 refine tk_ 0 34 HT_ HW_ hHeld ?_
 refine one_ (i := 1) (N := some 35) #[true, true, false, false, false, false, false, false] rfl rfl (one_of HT_.out (by kernel_rfl)) (by decide) (fun K hK => ?_)
 refine goes_ Try.func99 (by kernel_rfl) rfl #[.int .i64 5, .int .i64 1] (by rfl) rfl rfl (by (try simp only [m0_, m1_, m2_]); first | done | rfl) ?_
 with_reducible refine (hopperlaw05_tx.calls 5 1 t224 t225 t226 t227 t228 t229 _ A6.out).mono ?_
 rintro e w34 ⟨rfl, hb⟩
 refine ⟨_, rfl, ?_⟩
 have n0_ := A_ (Kd.R_below (pr_ HO214.out) hb); have n1_ := A_ (kb_ BK215 hb); have n2_ := A_ (below_step bw_ hb); replace HO214 := n0_; replace BK215 := n1_; replace HB := n2_; clear n0_ n1_ n2_
 (try clear hb)
 (try clear hb2)
 (try clear hk)
 (try clear hi)
 refine hK.out _ _ ⟨e_ BK215 0, e_ BK215 1, e_ BK215 2⟩ (fun hHeld => ?_)
 clear hK K
 refine norm_ (a' := ?_) ?_ ?_
 rotate_left
 · show Act.put _ (some 35) _ = _
   simp only [Act.put, s0_, s1_, s2_, i64_w, i32_w]
   rfl
 refine one_ (i := 2) (N := some 36) #[true, true, true, false, false, false, false, false] rfl rfl (one_of HT_.out (by kernel_rfl)) (by decide) (fun K hK => ?_)
 refine goes_ Try.func58 (by kernel_rfl) rfl #[.agg #[.int .i64 1, .int .i64 3, .slice Ao26 y212.length co26], .agg #[.int .i64 t224, .int .i64 t225, .int .i64 t226, .int .i64 t227, .int .i64 t228, .string t229], .int .i64 3, .int .i64 10] (by rfl) rfl rfl (by (try simp only [m0_, m1_, m2_]); first | done | rfl) ?_
 with_reducible refine (queue_Place.calls k 1 3 _ _ y212 t224 t225 t226 t227 t228 t229 3 10 t230 t231 _ ?side1 ?side2 A7.out).mono ?_
 (case side1 => repeat (first | exact (Kd.R_reads' HO214.out).2.2 | (with_reducible refine ca_ ?_ _) | (with_reducible refine cn_ ?_ _) | (with_reducible refine cd_ ?_)))
 (case side2 => exact (Kd.R_reads' HO214.out).2.1)
 rintro e w35 ⟨rfl, hb⟩
 refine ⟨_, rfl, ?_⟩
 have n0_ := A_ (Kd.R_below (pr_ HO214.out) hb); have n1_ := A_ (kb_ BK215 hb); have n2_ := A_ (below_step bw_ hb); replace HO214 := n0_; replace BK215 := n1_; replace HB := n2_; clear n0_ n1_ n2_
 (try clear hb)
 (try clear hb2)
 (try clear hk)
 (try clear hi)
 refine hK.out _ _ ⟨e_ BK215 0, e_ BK215 1, e_ BK215 2⟩ (fun hHeld => ?_)
 clear hK K
 refine norm_ (a' := ?_) ?_ ?_
 rotate_left
 · show Act.put _ (some 36) _ = _
   simp only [Act.put, s0_, s1_, s2_, i64_w, i32_w]
   rfl
 refine pq_ 3 33 HT_ ?_
 refine pq_ 4 37 HT_ ?_
 refine pq_ 5 38 HT_ ?_
 refine pq_ 6 4 HT_ ?_
 refine pq_ 7 5 HT_ ?_
 refine done_ (done_of HT_.out (by kernel_rfl)) ?_
 try go_wp2
 have n0_ := A_ (rd_ HO214.out); have n1_ := A_ (bd_ BK215.out); have n2_ := A_ (wd_ HB.out); replace HO214 := n0_; replace BK215 := n1_; replace HB := n2_; clear n0_ n1_ n2_
 refine start_ (n := 8) (S := fun w' => w'.cell? ⟨gb215, 0, none⟩ = some (.int .i64 1) ∧ w'.cell? ⟨gb215, 1, none⟩ = some (.int .i64 3) ∧ w'.cell? ⟨gb215, 2, none⟩ = some (.slice Ao26 y212.length co26)) (ds := []) #[false, false, false, false, false, false, false, false] (by kernel_rfl) rfl rfl ⟨e_ BK215 0, e_ BK215 1, e_ BK215 2⟩ (fun hHeld => ?_); refine with_tabW hopperlaw05_live.tab4 hopperlaw05_live.bits4 (fun HT_ HW_ => ?_)
 generalize w35.drew = w36 at HO214 BK215 HB hHeld ⊢
 refine tk_ 0 40 HT_ HW_ hHeld ?_
 refine one_ (i := 1) (N := some 41) #[true, true, false, false, false, false, false, false] rfl rfl (one_of HT_.out (by kernel_rfl)) (by decide) (fun K hK => ?_)
 refine goes_ Try.func99 (by kernel_rfl) rfl #[.int .i64 6, .int .i64 109] (by rfl) rfl rfl (by (try simp only [m0_, m1_, m2_]); first | done | rfl) ?_
 with_reducible refine (hopperlaw05_tx.calls 6 109 t232 t233 t234 t235 t236 t237 _ A8.out).mono ?_
 rintro e w37 ⟨rfl, hb⟩
 refine ⟨_, rfl, ?_⟩
 have n0_ := A_ (Kd.R_below (pr_ HO214.out) hb); have n1_ := A_ (kb_ BK215 hb); have n2_ := A_ (below_step bw_ hb); replace HO214 := n0_; replace BK215 := n1_; replace HB := n2_; clear n0_ n1_ n2_
 (try clear hb)
 (try clear hb2)
 (try clear hk)
 (try clear hi)
 refine hK.out _ _ ⟨e_ BK215 0, e_ BK215 1, e_ BK215 2⟩ (fun hHeld => ?_)
 clear hK K
 refine norm_ (a' := ?_) ?_ ?_
 rotate_left
 · show Act.put _ (some 41) _ = _
   simp only [Act.put, s0_, s1_, s2_, i64_w, i32_w]
   rfl
 refine one_ (i := 2) (N := some 42) #[true, true, true, false, false, false, false, false] rfl rfl (one_of HT_.out (by kernel_rfl)) (by decide) (fun K hK => ?_)
 refine goes_ Try.func58 (by kernel_rfl) rfl #[.agg #[.int .i64 1, .int .i64 3, .slice Ao26 y212.length co26], .agg #[.int .i64 t232, .int .i64 t233, .int .i64 t234, .int .i64 t235, .int .i64 t236, .string t237], .int .i64 4, .int .i64 10] (by rfl) rfl rfl (by (try simp only [m0_, m1_, m2_]); first | done | rfl) ?_
 with_reducible refine (queue_Place.calls k 1 3 _ _ y212 t232 t233 t234 t235 t236 t237 4 10 t238 t239 _ ?side1 ?side2 A9.out).mono ?_
 (case side1 => repeat (first | exact (Kd.R_reads' HO214.out).2.2 | (with_reducible refine ca_ ?_ _) | (with_reducible refine cn_ ?_ _) | (with_reducible refine cd_ ?_)))
 (case side2 => exact (Kd.R_reads' HO214.out).2.1)
 rintro e w38 ⟨rfl, hb⟩
 refine ⟨_, rfl, ?_⟩
 have n0_ := A_ (Kd.R_below (pr_ HO214.out) hb); have n1_ := A_ (kb_ BK215 hb); have n2_ := A_ (below_step bw_ hb); replace HO214 := n0_; replace BK215 := n1_; replace HB := n2_; clear n0_ n1_ n2_
 (try clear hb)
 (try clear hb2)
 (try clear hk)
 (try clear hi)
 refine hK.out _ _ ⟨e_ BK215 0, e_ BK215 1, e_ BK215 2⟩ (fun hHeld => ?_)
 clear hK K
 refine norm_ (a' := ?_) ?_ ?_
 rotate_left
 · show Act.put _ (some 42) _ = _
   simp only [Act.put, s0_, s1_, s2_, i64_w, i32_w]
   rfl
 refine pq_ 3 39 HT_ ?_
 refine pq_ 4 43 HT_ ?_
 refine pq_ 5 44 HT_ ?_
 refine pq_ 6 6 HT_ ?_
 refine pq_ 7 7 HT_ ?_
 refine done_ (done_of HT_.out (by kernel_rfl)) ?_
 try go_wp2
 have n0_ := A_ (rd_ HO214.out); have n1_ := A_ (bd_ BK215.out); have n2_ := A_ (wd_ HB.out); replace HO214 := n0_; replace BK215 := n1_; replace HB := n2_; clear n0_ n1_ n2_
 refine start_ (n := 8) (S := fun w' => w'.cell? ⟨gb215, 0, none⟩ = some (.int .i64 1) ∧ w'.cell? ⟨gb215, 1, none⟩ = some (.int .i64 3) ∧ w'.cell? ⟨gb215, 2, none⟩ = some (.slice Ao26 y212.length co26)) (ds := []) #[false, false, false, false, false, false, false, false] (by kernel_rfl) rfl rfl ⟨e_ BK215 0, e_ BK215 1, e_ BK215 2⟩ (fun hHeld => ?_); refine with_tabW hopperlaw05_live.tab5 hopperlaw05_live.bits5 (fun HT_ HW_ => ?_)
 generalize w38.drew = w39 at HO214 BK215 HB hHeld ⊢
 refine tk_ 0 46 HT_ HW_ hHeld ?_
 refine one_ (i := 1) (N := some 47) #[true, true, false, false, false, false, false, false] rfl rfl (one_of HT_.out (by kernel_rfl)) (by decide) (fun K hK => ?_)
 refine goes_ Try.func99 (by kernel_rfl) rfl #[.int .i64 6, .int .i64 110] (by rfl) rfl rfl (by (try simp only [m0_, m1_, m2_]); first | done | rfl) ?_
 with_reducible refine (hopperlaw05_tx.calls 6 110 t240 t241 t242 t243 t244 t245 _ A10.out).mono ?_
 rintro e w40 ⟨rfl, hb⟩
 refine ⟨_, rfl, ?_⟩
 have n0_ := A_ (Kd.R_below (pr_ HO214.out) hb); have n1_ := A_ (kb_ BK215 hb); have n2_ := A_ (below_step bw_ hb); replace HO214 := n0_; replace BK215 := n1_; replace HB := n2_; clear n0_ n1_ n2_
 (try clear hb)
 (try clear hb2)
 (try clear hk)
 (try clear hi)
 refine hK.out _ _ ⟨e_ BK215 0, e_ BK215 1, e_ BK215 2⟩ (fun hHeld => ?_)
 clear hK K
 refine norm_ (a' := ?_) ?_ ?_
 rotate_left
 · show Act.put _ (some 47) _ = _
   simp only [Act.put, s0_, s1_, s2_, i64_w, i32_w]
   rfl
 refine one_ (i := 2) (N := some 48) #[true, true, true, false, false, false, false, false] rfl rfl (one_of HT_.out (by kernel_rfl)) (by decide) (fun K hK => ?_)
 refine goes_ Try.func58 (by kernel_rfl) rfl #[.agg #[.int .i64 1, .int .i64 3, .slice Ao26 y212.length co26], .agg #[.int .i64 t240, .int .i64 t241, .int .i64 t242, .int .i64 t243, .int .i64 t244, .string t245], .int .i64 3, .int .i64 10] (by rfl) rfl rfl (by (try simp only [m0_, m1_, m2_]); first | done | rfl) ?_
 with_reducible refine (queue_Place.calls k 1 3 _ _ y212 t240 t241 t242 t243 t244 t245 3 10 t246 t247 _ ?side1 ?side2 A11.out).mono ?_
 (case side1 => repeat (first | exact (Kd.R_reads' HO214.out).2.2 | (with_reducible refine ca_ ?_ _) | (with_reducible refine cn_ ?_ _) | (with_reducible refine cd_ ?_)))
 (case side2 => exact (Kd.R_reads' HO214.out).2.1)
 rintro e w41 ⟨rfl, hb⟩
 refine ⟨_, rfl, ?_⟩
 have n0_ := A_ (Kd.R_below (pr_ HO214.out) hb); have n1_ := A_ (kb_ BK215 hb); have n2_ := A_ (below_step bw_ hb); replace HO214 := n0_; replace BK215 := n1_; replace HB := n2_; clear n0_ n1_ n2_
 (try clear hb)
 (try clear hb2)
 (try clear hk)
 (try clear hi)
 refine hK.out _ _ ⟨e_ BK215 0, e_ BK215 1, e_ BK215 2⟩ (fun hHeld => ?_)
 clear hK K
 refine norm_ (a' := ?_) ?_ ?_
 rotate_left
 · show Act.put _ (some 48) _ = _
   simp only [Act.put, s0_, s1_, s2_, i64_w, i32_w]
   rfl
 refine pq_ 3 45 HT_ ?_
 refine pq_ 4 49 HT_ ?_
 refine pq_ 5 50 HT_ ?_
 refine pq_ 6 8 HT_ ?_
 refine pq_ 7 9 HT_ ?_
 refine done_ (done_of HT_.out (by kernel_rfl)) ?_
 try go_wp2
 have n0_ := A_ (rd_ HO214.out); have n1_ := A_ (bd_ BK215.out); have n2_ := A_ (wd_ HB.out); replace HO214 := n0_; replace BK215 := n1_; replace HB := n2_; clear n0_ n1_ n2_
 refine start_ (n := 8) (S := fun w' => w'.cell? ⟨gb215, 0, none⟩ = some (.int .i64 1) ∧ w'.cell? ⟨gb215, 1, none⟩ = some (.int .i64 3) ∧ w'.cell? ⟨gb215, 2, none⟩ = some (.slice Ao26 y212.length co26)) (ds := []) #[false, false, false, false, false, false, false, false] (by kernel_rfl) rfl rfl ⟨e_ BK215 0, e_ BK215 1, e_ BK215 2⟩ (fun hHeld => ?_); refine with_tabW hopperlaw05_live.tab6 hopperlaw05_live.bits6 (fun HT_ HW_ => ?_)
 generalize w41.drew = w42 at HO214 BK215 HB hHeld ⊢
 refine tk_ 0 52 HT_ HW_ hHeld ?_
 refine one_ (i := 1) (N := some 53) #[true, true, false, false, false, false, false, false] rfl rfl (one_of HT_.out (by kernel_rfl)) (by decide) (fun K hK => ?_)
 refine goes_ Try.func99 (by kernel_rfl) rfl #[.int .i64 2, .int .i64 1] (by rfl) rfl rfl (by (try simp only [m0_, m1_, m2_]); first | done | rfl) ?_
 with_reducible refine (hopperlaw05_tx.calls 2 1 t248 t249 t250 t251 t252 t253 _ A12.out).mono ?_
 rintro e w43 ⟨rfl, hb⟩
 refine ⟨_, rfl, ?_⟩
 have n0_ := A_ (Kd.R_below (pr_ HO214.out) hb); have n1_ := A_ (kb_ BK215 hb); have n2_ := A_ (below_step bw_ hb); replace HO214 := n0_; replace BK215 := n1_; replace HB := n2_; clear n0_ n1_ n2_
 (try clear hb)
 (try clear hb2)
 (try clear hk)
 (try clear hi)
 refine hK.out _ _ ⟨e_ BK215 0, e_ BK215 1, e_ BK215 2⟩ (fun hHeld => ?_)
 clear hK K
 refine norm_ (a' := ?_) ?_ ?_
 rotate_left
 · show Act.put _ (some 53) _ = _
   simp only [Act.put, s0_, s1_, s2_, i64_w, i32_w]
   rfl
 refine one_ (i := 2) (N := some 54) #[true, true, true, false, false, false, false, false] rfl rfl (one_of HT_.out (by kernel_rfl)) (by decide) (fun K hK => ?_)
 refine goes_ Try.func58 (by kernel_rfl) rfl #[.agg #[.int .i64 1, .int .i64 3, .slice Ao26 y212.length co26], .agg #[.int .i64 t248, .int .i64 t249, .int .i64 t250, .int .i64 t251, .int .i64 t252, .string t253], .int .i64 4, .int .i64 10] (by rfl) rfl rfl (by (try simp only [m0_, m1_, m2_]); first | done | rfl) ?_
 with_reducible refine (queue_Place.calls k 1 3 _ _ y212 t248 t249 t250 t251 t252 t253 4 10 t254 t255 _ ?side1 ?side2 A13.out).mono ?_
 (case side1 => repeat (first | exact (Kd.R_reads' HO214.out).2.2 | (with_reducible refine ca_ ?_ _) | (with_reducible refine cn_ ?_ _) | (with_reducible refine cd_ ?_)))
 (case side2 => exact (Kd.R_reads' HO214.out).2.1)
 rintro e w44 ⟨rfl, hb⟩
 refine ⟨_, rfl, ?_⟩
 have n0_ := A_ (Kd.R_below (pr_ HO214.out) hb); have n1_ := A_ (kb_ BK215 hb); have n2_ := A_ (below_step bw_ hb); replace HO214 := n0_; replace BK215 := n1_; replace HB := n2_; clear n0_ n1_ n2_
 (try clear hb)
 (try clear hb2)
 (try clear hk)
 (try clear hi)
 refine hK.out _ _ ⟨e_ BK215 0, e_ BK215 1, e_ BK215 2⟩ (fun hHeld => ?_)
 clear hK K
 refine norm_ (a' := ?_) ?_ ?_
 rotate_left
 · show Act.put _ (some 54) _ = _
   simp only [Act.put, s0_, s1_, s2_, i64_w, i32_w]
   rfl
 refine pq_ 3 51 HT_ ?_
 refine pq_ 4 55 HT_ ?_
 refine pq_ 5 56 HT_ ?_
 refine pq_ 6 10 HT_ ?_
 refine pq_ 7 11 HT_ ?_
 refine done_ (done_of HT_.out (by kernel_rfl)) ?_
 try go_wp2
 have n0_ := A_ (rd_ HO214.out); have n1_ := A_ (bd_ BK215.out); have n2_ := A_ (wd_ HB.out); replace HO214 := n0_; replace BK215 := n1_; replace HB := n2_; clear n0_ n1_ n2_
 refine start_ (n := 5) (S := fun w' => w'.cell? ⟨gb215, 0, none⟩ = some (.int .i64 1) ∧ w'.cell? ⟨gb215, 1, none⟩ = some (.int .i64 3) ∧ w'.cell? ⟨gb215, 2, none⟩ = some (.slice Ao26 y212.length co26)) (ds := []) #[false, false, false, false, false] (by kernel_rfl) rfl rfl ⟨e_ BK215 0, e_ BK215 1, e_ BK215 2⟩ (fun hHeld => ?_)
 generalize w44.drew = w45 at HO214 BK215 HB hHeld ⊢
 refine take_ (i := 0) (N := some 57) (v := ?_) (a' := ?_) #[true, false, false, false, false] rfl rfl (by kernel_rfl) (fun _ _ _ h => h) (Or.inl ⟨by rfl, ?_⟩) hHeld ?_ ?_
 rotate_left
 · rintro w' ⟨s0, s1, s2⟩
   go_simp
   with_reducible rfl
 rotate_left
 · simp only [Act.put, s0_, s1_, s2_, i64_w, i32_w]
   rfl
 refine join_ (σ := Value × Nat) 1 #[true, true, true, true, false] (fun s_ => [(58, .agg #[.int .i64 t256, .int .i64 t257, .int .i64 t258, .int .i64 t259, .int .i64 t260, .string t261]), (59, .agg #[.int .i64 t262, .int .i64 t263, s_.1]), (12, .pointer (some ⟨s_.2, 0, none⟩))]) (fun s_ w' => (w'.cell? ⟨gb215, 0, none⟩ = some (.int .i64 1) ∧ w'.cell? ⟨gb215, 1, none⟩ = some (.int .i64 3) ∧ w'.cell? ⟨gb215, 2, none⟩ = some (.slice Ao26 y212.length co26)) ∧ (Kd.R k24 24 w' w.heap.size (fun k_ => some k_ ≠ (s_.1 : Value).ownBlock) (.slice Ao26 y212.length co26) y212) ∧ (Kd.R k24 24 w' w.heap.size (fun k_ => some k_ ≠ (.slice Ao26 y212.length co26 : Value).ownBlock) s_.1 t264) ∧ (w'.heap[gb215]? = some (.cells #[.int .i64 1, .int .i64 3, .slice Ao26 y212.length co26] 46 (0, 0))) ∧ (w'.heap[s_.2]? = some (.cells #[.int .i64 0, .int .i64 0, .slice none 0 0] 46 (0, 0))) ∧ (w.heap.size ≤ s_.2) ∧ (w.heap.size ≤ s_.2) ∧ (gb215 ≠ s_.2) ∧ (s_.2 ≠ gb215) ∧ (Below w.heap.size w w')) ?_ ?_
 rotate_left
 · intro hCont
   refine two_ (i := 1) (j := 3) (Ni := some 58) (Nj := some 12) #[true, true, false, false, false] #[true, false, false, true, false] rfl rfl rfl rfl (by kernel_rfl) (by decide) (by decide) (fun K hK => ?_) (fun K hK => ?_)
   · skip
     refine goes_ Try.func99 (by kernel_rfl) rfl #[.int .i64 5, .int .i64 1] (by rfl) rfl rfl (by (try simp only [m0_, m1_, m2_]); first | done | rfl) ?_
     with_reducible refine (hopperlaw05_tx.calls 5 1 t256 t257 t258 t259 t260 t261 _ A14.out).mono ?_
     rintro e w46 ⟨rfl, hb⟩
     refine ⟨_, rfl, ?_⟩
     have n0_ := A_ (Kd.R_below (pr_ HO214.out) hb); have n1_ := A_ (kb_ BK215 hb); have n2_ := A_ (below_step bw_ hb); replace HO214 := n0_; replace BK215 := n1_; replace HB := n2_; clear n0_ n1_ n2_
     (try clear hb)
     (try clear hb2)
     (try clear hk)
     (try clear hi)
     refine hK.out _ _ ⟨e_ BK215 0, e_ BK215 1, e_ BK215 2⟩ (fun hHeld => ?_)
     clear hK K
     refine norm_ (a' := ?_) ?_ ?_
     rotate_left
     · show Act.put _ (some 58) _ = _
       simp only [Act.put, s0_, s1_, s2_, i64_w, i32_w]
       rfl
     refine two_ (i := 2) (j := 3) (Ni := some 59) (Nj := some 12) #[true, true, true, false, false] #[true, true, false, true, false] rfl rfl rfl rfl (by kernel_rfl) (by decide) (by decide) (fun K hK => ?_) (fun K hK => ?_)
     · skip
       refine goes_ Try.func63 (by kernel_rfl) rfl #[.agg #[.int .i64 1, .int .i64 3, .slice Ao26 y212.length co26], .agg #[.int .i64 t256, .int .i64 t257, .int .i64 t258, .int .i64 t259, .int .i64 t260, .string t261]] (by rfl) rfl rfl (by (try simp only [m0_, m1_, m2_]); first | done | rfl) ?_
       with_reducible refine (queue_Put.calls 1 3 _ _ y212 t256 t257 t258 t259 t260 t261 t262 t263 t264 _ ?side1 ?side2 A15.out).mono ?_
       (case side1 => repeat (first | exact (Kd.R_reads' HO214.out).2.2 | (with_reducible refine ca_ ?_ _) | (with_reducible refine cn_ ?_ _) | (with_reducible refine cd_ ?_)))
       (case side2 => exact (Kd.R_reads' HO214.out).2.1)
       rintro e w47 ⟨v265, rfl, ho0, hb⟩
       refine ⟨_, rfl, ?_⟩
       have n0_ := A_ (Kd.R_elder' (pr_ HO214.out) (Kd.R_base ho0) hb); have n1_ := A_ (Kd.R_lower (Kd.R_new' ho0 (Kd.R_lt (pr_ HO214.out))) (below_size bw_)); have n2_ := A_ (kb_ BK215 hb); have n3_ := A_ (below_step bw_ hb); replace HO214 := n0_; have HO266 := n1_; replace BK215 := n2_; replace HB := n3_; clear n0_ n1_ n2_ n3_
       (try clear hb)
       (try clear hb2)
       (try clear hk)
       (try clear hi)
       (try clear ho0)
       refine hK.out _ _ ⟨e_ BK215 0, e_ BK215 1, e_ BK215 2⟩ (fun hHeld => ?_)
       clear hK K
       refine norm_ (a' := ?_) ?_ ?_
       rotate_left
       · show Act.put _ (some 59) _ = _
         simp only [Act.put, s0_, s1_, s2_, i64_w, i32_w]
         rfl
       refine one_ (i := 3) (N := some 12) #[true, true, true, true, false] rfl rfl (by kernel_rfl) (by decide) (fun K hK => ?_)
       refine box_step ?hg (N := 12) ?hd (cs := #[.int .i64 0, .int .i64 0, .slice none 0 0]) (t := 46) ?hr ?_; (case hd => rfl); (case hg => rfl); (case hr => first | (go_simp; done) | (go_simp; rfl))
       intro gb267 hg w48 hbox hb
       have n0_ := A_ (Kd.R_below (pr_ HO214.out) hb); have n1_ := A_ (Kd.R_below (pr_ HO266.out) hb); have n2_ := A_ (kb_ BK215 hb); have n3_ := A_ (below_step bw_ hb); have n4_ := A_ (hbox); have n5_ := A_ (gz_ (w := w) hg); have n6_ := A_ (gz_ (w := w) hg); have n7_ := A_ (nl_ BK215 hg); have n8_ := A_ (ng_ BK215 hg); replace HO214 := n0_; replace HO266 := n1_; replace BK215 := n2_; replace HB := n3_; have BK267 := n4_; have GW267 := n5_; have GE267 := n6_; have NB215_267 := n7_; have NB267_215 := n8_; clear n0_ n1_ n2_ n3_ n4_ n5_ n6_ n7_ n8_; clear hb hbox hg
       refine hK.out _ _ ⟨e_ BK215 0, e_ BK215 1, e_ BK215 2⟩ (fun hHeld => ?_)
       clear hK K
       refine norm_ (a' := ?_) ?_ ?_
       rotate_left
       · show Act.put _ (some 12) _ = _
         simp only [Act.put, s0_, s1_, s2_, i64_w, i32_w]
         rfl
       exact norm_ (by simp only [putAll, Act.put, s0_, s1_, s2_]) (hCont (v265, gb267) _ ⟨hHeld, (by (with_reducible repeat (first | apply ra_ | apply rn_ | apply rd_)); exact Kd.R_mono HO214.out (fun _ hk => hk.2)), (by (with_reducible repeat (first | apply ra_ | apply rn_ | apply rd_)); exact Kd.R_mono HO266.out (fun _ hk => hk.2)), (by (with_reducible repeat (first | refine bn_ ?_ _ | refine bd_ ?_ | refine ba_ ?_ _)); exact BK215.out), (by (with_reducible repeat (first | refine bn_ ?_ _ | refine bd_ ?_ | refine ba_ ?_ _)); exact BK267.out), GW267.out, GE267.out, NB215_267.out, NB267_215.out, bw_⟩)
     · skip
       refine box_step ?hg (N := 12) ?hd (cs := #[.int .i64 0, .int .i64 0, .slice none 0 0]) (t := 46) ?hr ?_; (case hd => rfl); (case hg => rfl); (case hr => first | (go_simp; done) | (go_simp; rfl))
       intro gb267 hg w47 hbox hb
       have n0_ := A_ (Kd.R_below (pr_ HO214.out) hb); have n1_ := A_ (kb_ BK215 hb); have n2_ := A_ (below_step bw_ hb); have n3_ := A_ (hbox); have n4_ := A_ (gz_ (w := w) hg); have n5_ := A_ (gz_ (w := w) hg); have n6_ := A_ (nl_ BK215 hg); have n7_ := A_ (ng_ BK215 hg); replace HO214 := n0_; replace BK215 := n1_; replace HB := n2_; have BK267 := n3_; have GW267 := n4_; have GE267 := n5_; have NB215_267 := n6_; have NB267_215 := n7_; clear n0_ n1_ n2_ n3_ n4_ n5_ n6_ n7_; clear hb hbox hg
       refine hK.out _ _ ⟨e_ BK215 0, e_ BK215 1, e_ BK215 2⟩ (fun hHeld => ?_)
       clear hK K
       refine norm_ (a' := ?_) ?_ ?_
       rotate_left
       · show Act.put _ (some 12) _ = _
         simp only [Act.put, s0_, s1_, s2_, i64_w, i32_w]
         rfl
       refine one_ (i := 2) (N := some 59) #[true, true, true, true, false] rfl rfl (by kernel_rfl) (by decide) (fun K hK => ?_)
       refine goes_ Try.func63 (by kernel_rfl) rfl #[.agg #[.int .i64 1, .int .i64 3, .slice Ao26 y212.length co26], .agg #[.int .i64 t256, .int .i64 t257, .int .i64 t258, .int .i64 t259, .int .i64 t260, .string t261]] (by rfl) rfl rfl (by (try simp only [m0_, m1_, m2_]); first | done | rfl) ?_
       with_reducible refine (queue_Put.calls 1 3 _ _ y212 t256 t257 t258 t259 t260 t261 t262 t263 t264 _ ?side1 ?side2 A15.out).mono ?_
       (case side1 => repeat (first | exact (Kd.R_reads' HO214.out).2.2 | (with_reducible refine ca_ ?_ _) | (with_reducible refine cn_ ?_ _) | (with_reducible refine cd_ ?_)))
       (case side2 => exact (Kd.R_reads' HO214.out).2.1)
       rintro e w48 ⟨v265, rfl, ho0, hb⟩
       refine ⟨_, rfl, ?_⟩
       have n0_ := A_ (Kd.R_elder' (pr_ HO214.out) (Kd.R_base ho0) hb); have n1_ := A_ (Kd.R_lower (Kd.R_new' ho0 (Kd.R_lt (pr_ HO214.out))) (below_size bw_)); have n2_ := A_ (kb_ BK215 hb); have n3_ := A_ (kb_ BK267 hb); have n4_ := A_ (below_step bw_ hb); replace HO214 := n0_; have HO266 := n1_; replace BK215 := n2_; replace BK267 := n3_; replace HB := n4_; clear n0_ n1_ n2_ n3_ n4_
       (try clear hb)
       (try clear hb2)
       (try clear hk)
       (try clear hi)
       (try clear ho0)
       refine hK.out _ _ ⟨e_ BK215 0, e_ BK215 1, e_ BK215 2⟩ (fun hHeld => ?_)
       clear hK K
       refine norm_ (a' := ?_) ?_ ?_
       rotate_left
       · show Act.put _ (some 59) _ = _
         simp only [Act.put, s0_, s1_, s2_, i64_w, i32_w]
         rfl
       exact norm_ (by simp only [putAll, Act.put, s0_, s1_, s2_]) (hCont (v265, gb267) _ ⟨hHeld, (by (with_reducible repeat (first | apply ra_ | apply rn_ | apply rd_)); exact Kd.R_mono HO214.out (fun _ hk => hk.2)), (by (with_reducible repeat (first | apply ra_ | apply rn_ | apply rd_)); exact Kd.R_mono HO266.out (fun _ hk => hk.2)), (by (with_reducible repeat (first | refine bn_ ?_ _ | refine bd_ ?_ | refine ba_ ?_ _)); exact BK215.out), (by (with_reducible repeat (first | refine bn_ ?_ _ | refine bd_ ?_ | refine ba_ ?_ _)); exact BK267.out), GW267.out, GE267.out, NB215_267.out, NB267_215.out, bw_⟩)
   · skip
     refine box_step ?hg (N := 12) ?hd (cs := #[.int .i64 0, .int .i64 0, .slice none 0 0]) (t := 46) ?hr ?_; (case hd => rfl); (case hg => rfl); (case hr => first | (go_simp; done) | (go_simp; rfl))
     intro gb267 hg w46 hbox hb
     have n0_ := A_ (Kd.R_below (pr_ HO214.out) hb); have n1_ := A_ (kb_ BK215 hb); have n2_ := A_ (below_step bw_ hb); have n3_ := A_ (hbox); have n4_ := A_ (gz_ (w := w) hg); have n5_ := A_ (gz_ (w := w) hg); have n6_ := A_ (nl_ BK215 hg); have n7_ := A_ (ng_ BK215 hg); replace HO214 := n0_; replace BK215 := n1_; replace HB := n2_; have BK267 := n3_; have GW267 := n4_; have GE267 := n5_; have NB215_267 := n6_; have NB267_215 := n7_; clear n0_ n1_ n2_ n3_ n4_ n5_ n6_ n7_; clear hb hbox hg
     refine hK.out _ _ ⟨e_ BK215 0, e_ BK215 1, e_ BK215 2⟩ (fun hHeld => ?_)
     clear hK K
     refine norm_ (a' := ?_) ?_ ?_
     rotate_left
     · show Act.put _ (some 12) _ = _
       simp only [Act.put, s0_, s1_, s2_, i64_w, i32_w]
       rfl
     refine one_ (i := 1) (N := some 58) #[true, true, false, true, false] rfl rfl (by kernel_rfl) (by decide) (fun K hK => ?_)
     refine goes_ Try.func99 (by kernel_rfl) rfl #[.int .i64 5, .int .i64 1] (by rfl) rfl rfl (by (try simp only [m0_, m1_, m2_]); first | done | rfl) ?_
     with_reducible refine (hopperlaw05_tx.calls 5 1 t256 t257 t258 t259 t260 t261 _ A14.out).mono ?_
     rintro e w47 ⟨rfl, hb⟩
     refine ⟨_, rfl, ?_⟩
     have n0_ := A_ (Kd.R_below (pr_ HO214.out) hb); have n1_ := A_ (kb_ BK215 hb); have n2_ := A_ (kb_ BK267 hb); have n3_ := A_ (below_step bw_ hb); replace HO214 := n0_; replace BK215 := n1_; replace BK267 := n2_; replace HB := n3_; clear n0_ n1_ n2_ n3_
     (try clear hb)
     (try clear hb2)
     (try clear hk)
     (try clear hi)
     refine hK.out _ _ ⟨e_ BK215 0, e_ BK215 1, e_ BK215 2⟩ (fun hHeld => ?_)
     clear hK K
     refine norm_ (a' := ?_) ?_ ?_
     rotate_left
     · show Act.put _ (some 58) _ = _
       simp only [Act.put, s0_, s1_, s2_, i64_w, i32_w]
       rfl
     refine one_ (i := 2) (N := some 59) #[true, true, true, true, false] rfl rfl (by kernel_rfl) (by decide) (fun K hK => ?_)
     refine goes_ Try.func63 (by kernel_rfl) rfl #[.agg #[.int .i64 1, .int .i64 3, .slice Ao26 y212.length co26], .agg #[.int .i64 t256, .int .i64 t257, .int .i64 t258, .int .i64 t259, .int .i64 t260, .string t261]] (by rfl) rfl rfl (by (try simp only [m0_, m1_, m2_]); first | done | rfl) ?_
     with_reducible refine (queue_Put.calls 1 3 _ _ y212 t256 t257 t258 t259 t260 t261 t262 t263 t264 _ ?side1 ?side2 A15.out).mono ?_
     (case side1 => repeat (first | exact (Kd.R_reads' HO214.out).2.2 | (with_reducible refine ca_ ?_ _) | (with_reducible refine cn_ ?_ _) | (with_reducible refine cd_ ?_)))
     (case side2 => exact (Kd.R_reads' HO214.out).2.1)
     rintro e w48 ⟨v265, rfl, ho0, hb⟩
     refine ⟨_, rfl, ?_⟩
     have n0_ := A_ (Kd.R_elder' (pr_ HO214.out) (Kd.R_base ho0) hb); have n1_ := A_ (Kd.R_lower (Kd.R_new' ho0 (Kd.R_lt (pr_ HO214.out))) (below_size bw_)); have n2_ := A_ (kb_ BK215 hb); have n3_ := A_ (kb_ BK267 hb); have n4_ := A_ (below_step bw_ hb); replace HO214 := n0_; have HO266 := n1_; replace BK215 := n2_; replace BK267 := n3_; replace HB := n4_; clear n0_ n1_ n2_ n3_ n4_
     (try clear hb)
     (try clear hb2)
     (try clear hk)
     (try clear hi)
     (try clear ho0)
     refine hK.out _ _ ⟨e_ BK215 0, e_ BK215 1, e_ BK215 2⟩ (fun hHeld => ?_)
     clear hK K
     refine norm_ (a' := ?_) ?_ ?_
     rotate_left
     · show Act.put _ (some 59) _ = _
       simp only [Act.put, s0_, s1_, s2_, i64_w, i32_w]
       rfl
     exact norm_ (by simp only [putAll, Act.put, s0_, s1_, s2_]) (hCont (v265, gb267) _ ⟨hHeld, (by (with_reducible repeat (first | apply ra_ | apply rn_ | apply rd_)); exact Kd.R_mono HO214.out (fun _ hk => hk.2)), (by (with_reducible repeat (first | apply ra_ | apply rn_ | apply rd_)); exact Kd.R_mono HO266.out (fun _ hk => hk.2)), (by (with_reducible repeat (first | refine bn_ ?_ _ | refine bd_ ?_ | refine ba_ ?_ _)); exact BK215.out), (by (with_reducible repeat (first | refine bn_ ?_ _ | refine bd_ ?_ | refine ba_ ?_ _)); exact BK267.out), GW267.out, GE267.out, NB215_267.out, NB267_215.out, bw_⟩)
 rintro ⟨v265, gb267⟩ w49 ⟨hS_, h0_, h1_, h2_, h3_, h4_, h5_, h6_, h7_, h8_⟩
 have n0_ : Aside0 (Kd.R k24 24 w49 w.heap.size (fun k_ => some k_ ≠ (v265 : Value).ownBlock) (.slice Ao26 y212.length co26) y212) := ⟨h0_⟩; have n1_ : Aside0 (Kd.R k24 24 w49 w.heap.size (fun k_ => some k_ ≠ (.slice Ao26 y212.length co26 : Value).ownBlock) v265 t264) := ⟨h1_⟩; have n2_ : Aside0 (w49.heap[gb215]? = some (.cells #[.int .i64 1, .int .i64 3, .slice Ao26 y212.length co26] 46 (0, 0))) := ⟨h2_⟩; have n3_ : Aside0 (w49.heap[gb267]? = some (.cells #[.int .i64 0, .int .i64 0, .slice none 0 0] 46 (0, 0))) := ⟨h3_⟩; have n4_ : Aside0 (w.heap.size ≤ gb267) := ⟨h4_⟩; have n5_ : Aside0 (w.heap.size ≤ gb267) := ⟨h5_⟩; have n6_ : Aside0 (gb215 ≠ gb267) := ⟨h6_⟩; have n7_ : Aside0 (gb267 ≠ gb215) := ⟨h7_⟩; have n8_ : Aside0 (Below w.heap.size w w49) := ⟨h8_⟩; clear HO214; clear BK215; clear HB; clear h0_ h1_ h2_ h3_ h4_ h5_ h6_ h7_ h8_; have HO214 := n0_; have HO266 := n1_; have BK215 := n2_; have BK267 := n3_; have GW267 := n4_; have GE267 := n5_; have NB215_267 := n6_; have NB267_215 := n7_; have HB := n8_; clear n0_ n1_ n2_ n3_ n4_ n5_ n6_ n7_ n8_
 have hHeld : w49.cell? ⟨gb215, 0, none⟩ = some (.int .i64 1) ∧ w49.cell? ⟨gb215, 1, none⟩ = some (.int .i64 3) ∧ w49.cell? ⟨gb215, 2, none⟩ = some (.slice Ao26 y212.length co26) := hS_
 obtain ⟨Ao52, co52, eo52⟩ := Kd.R_slice HO266.out
 (first | subst eo52 | (injection eo52 with f1_ f2_ f3_; have f4_ := f1_.symm; have f5_ := f3_.symm; clear f1_ f2_ f3_; subst f4_; subst f5_))
 refine norm_ (a' := ?_) ?_ ?_
 rotate_left
 · simp only [putAll, Act.put, s0_, s1_, s2_]
   rfl
 refine one_ (i := 4) (N := none) #[true, true, true, true, true] rfl rfl (by kernel_rfl) (by decide) (fun K hK => ?_)
 have hs50 : w49.cell? ⟨gb267, 0, none⟩ = some (.int .i64 0) := e_ BK267 0
 have hfs50 := blk_frozen BK267.out 0
 have hns50_0 := NB215_267.out
 have hms50_0 := NB267_215.out
 have hs51 : w49.cell? ⟨gb267, 1, none⟩ = some (.int .i64 0) := e_ BK267 1
 have hfs51 := blk_frozen BK267.out 1
 have hns51_0 := NB215_267.out
 have hms51_0 := NB267_215.out
 have hs53 : w49.cell? ⟨gb267, 2, none⟩ = some (.slice none 0 0) := e_ BK267 2
 have hfs53 := blk_frozen BK267.out 2
 have hns53_0 := NB215_267.out
 have hms53_0 := NB267_215.out
 refine skip_ (w1 := ?_) (by rfl) rfl ?_ ?_
 rotate_left
 · go_simp
   rfl
 refine hK.out _ _ ⟨((cell_far (p := ⟨gb267, _, none⟩) NB215_267.out _).trans (((cell_far (p := ⟨gb267, _, none⟩) NB215_267.out _).trans (((cell_far (p := ⟨gb267, _, none⟩) NB215_267.out _).trans (hHeld.1)))))), ((cell_far (p := ⟨gb267, _, none⟩) NB215_267.out _).trans (((cell_far (p := ⟨gb267, _, none⟩) NB215_267.out _).trans (((cell_far (p := ⟨gb267, _, none⟩) NB215_267.out _).trans (hHeld.2.1)))))), ((cell_far (p := ⟨gb267, _, none⟩) NB215_267.out _).trans (((cell_far (p := ⟨gb267, _, none⟩) NB215_267.out _).trans (((cell_far (p := ⟨gb267, _, none⟩) NB215_267.out _).trans (hHeld.2.2))))))⟩ (fun hHeld => ?_)
 clear hK K
 refine done_ (by kernel_rfl) ?_
 have n0_ : Aside0 (Kd.R k24 24 (((w49.setCell ⟨gb267, 0, none⟩ (.int .i64 t262)).setCell ⟨gb267, 1, none⟩ (.int .i64 t263)).setCell ⟨gb267, 2, none⟩ (.slice Ao52 t264.length co52)) w.heap.size (fun k_ => some k_ ≠ (.slice Ao52 t264.length co52 : Value).ownBlock) (.slice Ao26 y212.length co26) y212) := ⟨by (with_reducible repeat (first | apply ra_ | apply rn_ | apply rd_)); exact Kd.R_mono (Kd.R_far (p := ⟨gb267, 2, none⟩) (Kd.R_far (p := ⟨gb267, 1, none⟩) (Kd.R_far (p := ⟨gb267, 0, none⟩) (Kd.R_types HO214.out BK267.out (by decide)) (fun _ hk => hk.2) (.int .i64 t262)) (fun _ hk => hk.2) (.int .i64 t263)) (fun _ hk => hk.2) (.slice Ao52 t264.length co52)) (fun _ hk => hk.1)⟩; have n1_ : Aside0 (Kd.R k24 24 (((w49.setCell ⟨gb267, 0, none⟩ (.int .i64 t262)).setCell ⟨gb267, 1, none⟩ (.int .i64 t263)).setCell ⟨gb267, 2, none⟩ (.slice Ao52 t264.length co52)) w.heap.size (fun k_ => some k_ ≠ (.slice Ao26 y212.length co26 : Value).ownBlock) (.slice Ao52 t264.length co52) t264) := ⟨by (with_reducible repeat (first | apply ra_ | apply rn_ | apply rd_)); exact Kd.R_mono (Kd.R_far (p := ⟨gb267, 2, none⟩) (Kd.R_far (p := ⟨gb267, 1, none⟩) (Kd.R_far (p := ⟨gb267, 0, none⟩) (Kd.R_types HO266.out BK267.out (by decide)) (fun _ hk => hk.2) (.int .i64 t262)) (fun _ hk => hk.2) (.int .i64 t263)) (fun _ hk => hk.2) (.slice Ao52 t264.length co52)) (fun _ hk => hk.1)⟩; have n2_ : Aside0 ((((w49.setCell ⟨gb267, 0, none⟩ (.int .i64 t262)).setCell ⟨gb267, 1, none⟩ (.int .i64 t263)).setCell ⟨gb267, 2, none⟩ (.slice Ao52 t264.length co52)).heap[gb215]? = some (.cells #[.int .i64 1, .int .i64 3, .slice Ao26 y212.length co26] 46 (0, 0))) := ⟨bk_⟩; have n3_ : Aside0 ((((w49.setCell ⟨gb267, 0, none⟩ (.int .i64 t262)).setCell ⟨gb267, 1, none⟩ (.int .i64 t263)).setCell ⟨gb267, 2, none⟩ (.slice Ao52 t264.length co52)).heap[gb267]? = some (.cells #[.int .i64 t262, .int .i64 t263, .slice Ao52 t264.length co52] 46 (0, 0))) := ⟨by exact pk_ (b3_ BK267.out)⟩; have n4_ : Aside0 (Below w.heap.size w (((w49.setCell ⟨gb267, 0, none⟩ (.int .i64 t262)).setCell ⟨gb267, 1, none⟩ (.int .i64 t263)).setCell ⟨gb267, 2, none⟩ (.slice Ao52 t264.length co52))) := ⟨by repeat (first | (with_reducible first | exact HB.out | apply wa_ | apply wn_ | apply wd_ | refine ws_ ?_ GE215.out | refine ws_ ?_ GE267.out) | exact HB.out)⟩
 (try clear HO214)
 (try clear HO266)
 (try clear BK215)
 (try clear BK267)
 (try clear HB)
 generalize (((w49.setCell ⟨gb267, 0, none⟩ (.int .i64 t262)).setCell ⟨gb267, 1, none⟩ (.int .i64 t263)).setCell ⟨gb267, 2, none⟩ (.slice Ao52 t264.length co52)) = w54 at n0_ n1_ n2_ n3_ n4_ ⊢
 have HO214 := n0_; have HO266 := n1_; have BK215 := n2_; have BK267 := n3_; have HB := n4_; clear n0_ n1_ n2_ n3_ n4_; have hnb55 := NB267_215.out; have hnc55 := NB215_267.out; have hcz56_0 : w54.cell? ⟨gb267, 0, none⟩ = some (.int .i64 t262) := e_ BK267 0; have hcz56_1 : w54.cell? ⟨gb267, 1, none⟩ = some (.int .i64 t263) := e_ BK267 1; have hcz56_2 : w54.cell? ⟨gb267, 2, none⟩ = some (.slice Ao52 t264.length co52) := e_ BK267 2; obtain ⟨hfz56_0, hfz56_1, hfz56_2⟩ := z3_ BK267
 go_upto_region 12 with (first | ((with_reducible refine gate_callee (f := 60) rfl ?_); refine goesL_ (some 62) rfl rfl Try.func60 (by kernel_rfl) rfl #[.agg #[.int .i64 t262, .int .i64 t263, .slice Ao52 t264.length co52], .int .i64 5] rfl (by (try simp only [m0_, m1_, m2_]); first | done | rfl) ?_; (with_reducible refine (queue_Advance.calls k t262 t263 (fun k_ => some k_ = (.slice Ao52 t264.length co52 : Value).ownBlock) _ _ t264 5 t268 t269 t270 t273 t276 _ ?side1 A16.out).mono ?_); (case side1 => exact Kd.R_V (Kd.R_tight rfl (Kd.R_types (Kd.R_types (HO266.out) BK215.out (by decide)) BK267.out (by decide)))); rintro e w57 ⟨v271, v274, rfl, ho0, ho1, hb⟩; refine ⟨_, rfl, ?_⟩; have n0_ := A_ (Kd.R_elder' (pr_ HO214.out) (Kd.R_base ho1) hb); have n1_ := A_ (Kd.R_elder' (pr_ HO266.out) (Kd.R_base ho1) hb); have n2_ := A_ (Kd.V_lower (Kd.V_mono (ok' := fun k_ => some k_ ≠ (v274 : Value).ownBlock ∧ some k_ ≠ (.slice Ao26 y212.length co26 : Value).ownBlock ∧ k_ ≠ gb215 ∧ k_ ≠ gb267) ho0 (fun k_ hk_ => ⟨hk_.2, Or.elim hk_.1 (fun hs_ => ((Kd.R_types (Kd.R_types (HO266.out) BK215.out (by decide)) BK267.out (by decide)).1 k_ hs_.symm).1.1) (fun hn_ => (Kd.fresh' (Kd.R_lt (pr_ HO214.out)) k_ hn_)), Or.elim hk_.1 (fun hs_ => ((Kd.R_types (Kd.R_types (HO266.out) BK215.out (by decide)) BK267.out (by decide)).1 k_ hs_.symm).1.2) (fun hn_ => (Kd.freshB (g := gb215) (o := .cells #[.int .i64 1, .int .i64 3, .slice Ao26 y212.length co26] 46 (0, 0)) (by (with_reducible repeat (first | refine bn_ ?_ _ | refine bd_ ?_ | refine ba_ ?_ _)); exact BK215.out) k_ hn_)), Or.elim hk_.1 (fun hs_ => ((Kd.R_types (Kd.R_types (HO266.out) BK215.out (by decide)) BK267.out (by decide)).1 k_ hs_.symm).2) (fun hn_ => (Kd.freshB (g := gb267) (o := .cells #[.int .i64 t262, .int .i64 t263, .slice Ao52 t264.length co52] 46 (0, 0)) (by (with_reducible repeat (first | refine bn_ ?_ _ | refine bd_ ?_ | refine ba_ ?_ _)); exact BK267.out) k_ hn_))⟩)) (below_size bw_)); have n3_ := A_ (Kd.R_lower (Kd.R_new' (Kd.R_new' (Kd.R_mono (ok' := fun k_ => True) ho1 (fun _ hk_ => trivial)) (Kd.R_lt (pr_ HO214.out))) (Kd.R_lt (pr_ HO266.out))) (below_size bw_)); have n4_ := A_ (kb_ BK215 hb); have n5_ := A_ (kb_ BK267 hb); have n6_ := A_ (below_step bw_ hb); replace HO214 := n0_; replace HO266 := n1_; have HO272 := n2_; have HO275 := n3_; replace BK215 := n4_; replace BK267 := n5_; replace HB := n6_; clear n0_ n1_ n2_ n3_ n4_ n5_ n6_; (try clear hb); (try clear hb2); (try clear hk); (try clear hi); (try clear ho0); (try clear ho1)) | ((with_reducible refine gate_dst (N := 13) rfl ?_); (try (refine gate_guard (by rfl) ?_; dsimp only)); refine box_event ?hg (N := 13) ?hd (cs := #[.int .i64 0, .int .i64 0, .slice none 0 0]) (t := 46) ?hr ?_; (case hd => rfl); (case hg => rfl); (case hr => first | (go_simp; done) | (go_simp; rfl)); intro gb277 hg w58 hbox hb; have n0_ := A_ (Kd.R_below (pr_ HO214.out) hb); have n1_ := A_ (Kd.R_below (pr_ HO266.out) hb); have n2_ := A_ (Kd.V_below (Kd.V_elderB (pv_ HO272.out) gb277 (Nat.le_of_eq hg.symm)) hb); have n3_ := A_ (Kd.R_below (pr_ HO275.out) hb); have n4_ := A_ (kb_ BK215 hb); have n5_ := A_ (kb_ BK267 hb); have n6_ := A_ (below_step bw_ hb); have n7_ := A_ (hbox); have n8_ := A_ (gz_ (w := w) hg); have n9_ := A_ (gz_ (w := w) hg); have n10_ := A_ (nl_ BK215 hg); have n11_ := A_ (ng_ BK215 hg); have n12_ := A_ (nl_ BK267 hg); have n13_ := A_ (ng_ BK267 hg); replace HO214 := n0_; replace HO266 := n1_; replace HO272 := n2_; replace HO275 := n3_; replace BK215 := n4_; replace BK267 := n5_; replace HB := n6_; have BK277 := n7_; have GW277 := n8_; have GE277 := n9_; have NB215_277 := n10_; have NB277_215 := n11_; have NB267_277 := n12_; have NB277_267 := n13_; clear n0_ n1_ n2_ n3_ n4_ n5_ n6_ n7_ n8_ n9_ n10_ n11_ n12_ n13_; clear hb hbox hg; have hnb59 := NB277_215.out; have hnc59 := NB215_277.out; have hnb60 := NB277_267.out; have hnc60 := NB267_277.out; have hcz61_0 : w58.cell? ⟨gb277, 0, none⟩ = some (.int .i64 0) := e_ BK277 0; have hcz61_1 : w58.cell? ⟨gb277, 1, none⟩ = some (.int .i64 0) := e_ BK277 1; have hcz61_2 : w58.cell? ⟨gb277, 2, none⟩ = some (.slice none 0 0) := e_ BK277 2; obtain ⟨hfz61_0, hfz61_1, hfz61_2⟩ := z3_ BK277; obtain ⟨Ao62, co62, eo62⟩ := Kd.V_slice HO272.out; subst eo62) | ((with_reducible refine gate_store (t := 46) (p := 13) rfl ?_); refine store_event (t := 46) (p := 13) (v := ?vo_w63) (w1 := (((w58.setCell ⟨gb277, 0, none⟩ (.int .i64 t268)).setCell ⟨gb277, 1, none⟩ (.int .i64 t269)).setCell ⟨gb277, 2, none⟩ (.slice Ao62 t270.length co62))) ?hg ?ho ?hn ?hr ?_; (case ho => rfl); (case hg => rfl); (case hn => rfl); (case hr => first | (go_simp; done) | (go_simp; rfl)); intro w63 hw; have n0_ : Aside0 (Kd.R k24 24 w63 w.heap.size (fun k_ => some k_ ≠ (.slice Ao52 t264.length co52 : Value).ownBlock ∧ some k_ ≠ (v274 : Value).ownBlock) (.slice Ao26 y212.length co26) y212) := ⟨(by rw [hw]; exact (by (with_reducible repeat (first | apply ra_ | apply rn_ | apply rd_)); exact Kd.R_mono (Kd.R_far (p := ⟨gb277, 2, none⟩) (Kd.R_far (p := ⟨gb277, 1, none⟩) (Kd.R_far (p := ⟨gb277, 0, none⟩) (Kd.R_types HO214.out BK277.out (by decide)) (fun _ hk => hk.2) (.int .i64 t268)) (fun _ hk => hk.2) (.int .i64 t269)) (fun _ hk => hk.2) (.slice Ao62 t270.length co62)) (fun _ hk => ⟨hk.1.1, hk.1.2⟩)))⟩; have n1_ : Aside0 (Kd.R k24 24 w63 w.heap.size (fun k_ => some k_ ≠ (.slice Ao26 y212.length co26 : Value).ownBlock ∧ some k_ ≠ (v274 : Value).ownBlock) (.slice Ao52 t264.length co52) t264) := ⟨(by rw [hw]; exact (by (with_reducible repeat (first | apply ra_ | apply rn_ | apply rd_)); exact Kd.R_mono (Kd.R_far (p := ⟨gb277, 2, none⟩) (Kd.R_far (p := ⟨gb277, 1, none⟩) (Kd.R_far (p := ⟨gb277, 0, none⟩) (Kd.R_types HO266.out BK277.out (by decide)) (fun _ hk => hk.2) (.int .i64 t268)) (fun _ hk => hk.2) (.int .i64 t269)) (fun _ hk => hk.2) (.slice Ao62 t270.length co62)) (fun _ hk => ⟨hk.1.1, hk.1.2⟩)))⟩; have n2_ : Aside0 (Kd.V k24 24 w63 w.heap.size (fun k_ => some k_ ≠ (.slice Ao26 y212.length co26 : Value).ownBlock ∧ some k_ ≠ (v274 : Value).ownBlock ∧ k_ ≠ gb215 ∧ k_ ≠ gb267 ∧ k_ ≠ gb277) (.slice Ao62 t270.length co62) t270) := ⟨(by rw [hw]; exact (by (with_reducible repeat (first | apply Kd.V_alloc | apply Kd.V_drewN | apply Kd.V_drew)); exact Kd.V_mono (Kd.V_far (p := ⟨gb277, 2, none⟩) (Kd.V_far (p := ⟨gb277, 1, none⟩) (Kd.V_far (p := ⟨gb277, 0, none⟩) (Kd.V_mono HO272.out (fun k_ hk => (⟨hk, hk.2⟩ : _ ∧ k_ ≠ gb277))) (fun _ hk => hk.2) (.int .i64 t268)) (fun _ hk => hk.2) (.int .i64 t269)) (fun _ hk => hk.2) (.slice Ao62 t270.length co62)) (fun _ hk => ⟨hk.1.1.2.1, ⟨hk.1.1.1, ⟨hk.1.1.2.2.1, ⟨hk.1.1.2.2.2, hk.1.2⟩⟩⟩⟩)))⟩; have n3_ : Aside0 (Kd.R k24 24 w63 w.heap.size (fun k_ => some k_ ≠ (.slice Ao26 y212.length co26 : Value).ownBlock ∧ some k_ ≠ (.slice Ao52 t264.length co52 : Value).ownBlock) v274 t273) := ⟨(by rw [hw]; exact (by (with_reducible repeat (first | apply ra_ | apply rn_ | apply rd_)); exact Kd.R_mono (Kd.R_far (p := ⟨gb277, 2, none⟩) (Kd.R_far (p := ⟨gb277, 1, none⟩) (Kd.R_far (p := ⟨gb277, 0, none⟩) (Kd.R_types HO275.out BK277.out (by decide)) (fun _ hk => hk.2) (.int .i64 t268)) (fun _ hk => hk.2) (.int .i64 t269)) (fun _ hk => hk.2) (.slice Ao62 t270.length co62)) (fun _ hk => ⟨hk.1.1.2, hk.1.2⟩)))⟩; have n4_ : Aside0 (w63.heap[gb215]? = some (.cells #[.int .i64 1, .int .i64 3, .slice Ao26 y212.length co26] 46 (0, 0))) := ⟨(by rw [hw]; exact bk_)⟩; have n5_ : Aside0 (w63.heap[gb267]? = some (.cells #[.int .i64 t262, .int .i64 t263, .slice Ao52 t264.length co52] 46 (0, 0))) := ⟨(by rw [hw]; exact bk_)⟩; have n6_ : Aside0 (w63.heap[gb277]? = some (.cells #[.int .i64 t268, .int .i64 t269, .slice Ao62 t270.length co62] 46 (0, 0))) := ⟨(by rw [hw]; exact (by exact pk_ (b3_ BK277.out)))⟩; have n7_ : Aside0 (Below w.heap.size w w63) := ⟨(by rw [hw]; exact bw_)⟩; clear hw; replace HO214 := n0_; replace HO266 := n1_; replace HO272 := n2_; replace HO275 := n3_; replace BK215 := n4_; replace BK267 := n5_; replace BK277 := n6_; replace HB := n7_; clear n0_ n1_ n2_ n3_ n4_ n5_ n6_ n7_; have hcz64_0 : w63.cell? ⟨gb215, 0, none⟩ = some (.int .i64 1) := e_ BK215 0; have hcz64_1 : w63.cell? ⟨gb215, 1, none⟩ = some (.int .i64 3) := e_ BK215 1; have hcz64_2 : w63.cell? ⟨gb215, 2, none⟩ = some (.slice Ao26 y212.length co26) := e_ BK215 2; obtain ⟨hfz64_0, hfz64_1, hfz64_2⟩ := z3_ BK215) | ((with_reducible refine gate_callee (f := 60) rfl ?_); refine goesL_ (some 68) rfl rfl Try.func60 (by kernel_rfl) rfl #[.agg #[.int .i64 1, .int .i64 3, .slice Ao26 y212.length co26], .int .i64 2] rfl (by (try simp only [m0_, m1_, m2_]); first | done | rfl) ?_; (with_reducible refine (queue_Advance.calls k 1 3 (fun k_ => some k_ = (.slice Ao26 y212.length co26 : Value).ownBlock) _ _ y212 2 t278 t279 t280 t283 t286 _ ?side1 A17.out).mono ?_); (case side1 => exact Kd.R_V (Kd.R_tight rfl (Kd.R_types (Kd.R_types (Kd.R_types (HO214.out) BK215.out (by decide)) BK267.out (by decide)) BK277.out (by decide)))); rintro e w65 ⟨v281, v284, rfl, ho0, ho1, hb⟩; refine ⟨_, rfl, ?_⟩; have n0_ := A_ (Kd.R_elder' (pr_ HO214.out) (Kd.R_base ho1) hb); have n1_ := A_ (Kd.R_elder' (pr_ HO266.out) (Kd.R_base ho1) hb); have n2_ := A_ (Kd.V_elder' (pv_ HO272.out) (Kd.R_base ho1) hb); have n3_ := A_ (Kd.R_elder' (pr_ HO275.out) (Kd.R_base ho1) hb); have n4_ := A_ (Kd.V_lower (Kd.V_mono (ok' := fun k_ => some k_ ≠ (v284 : Value).ownBlock ∧ some k_ ≠ (.slice Ao52 t264.length co52 : Value).ownBlock ∧ some k_ ≠ (v274 : Value).ownBlock ∧ k_ ≠ gb215 ∧ k_ ≠ gb267 ∧ k_ ≠ gb277) ho0 (fun k_ hk_ => ⟨hk_.2, Or.elim hk_.1 (fun hs_ => ((Kd.R_types (Kd.R_types (Kd.R_types (HO214.out) BK215.out (by decide)) BK267.out (by decide)) BK277.out (by decide)).1 k_ hs_.symm).1.1.1.1) (fun hn_ => (Kd.fresh' (Kd.R_lt (pr_ HO266.out)) k_ hn_)), Or.elim hk_.1 (fun hs_ => ((Kd.R_types (Kd.R_types (Kd.R_types (HO214.out) BK215.out (by decide)) BK267.out (by decide)) BK277.out (by decide)).1 k_ hs_.symm).1.1.1.2) (fun hn_ => (Kd.fresh' (Kd.R_lt (pr_ HO275.out)) k_ hn_)), Or.elim hk_.1 (fun hs_ => ((Kd.R_types (Kd.R_types (Kd.R_types (HO214.out) BK215.out (by decide)) BK267.out (by decide)) BK277.out (by decide)).1 k_ hs_.symm).1.1.2) (fun hn_ => (Kd.freshB (g := gb215) (o := .cells #[.int .i64 1, .int .i64 3, .slice Ao26 y212.length co26] 46 (0, 0)) (by (with_reducible repeat (first | refine bn_ ?_ _ | refine bd_ ?_ | refine ba_ ?_ _)); exact BK215.out) k_ hn_)), Or.elim hk_.1 (fun hs_ => ((Kd.R_types (Kd.R_types (Kd.R_types (HO214.out) BK215.out (by decide)) BK267.out (by decide)) BK277.out (by decide)).1 k_ hs_.symm).1.2) (fun hn_ => (Kd.freshB (g := gb267) (o := .cells #[.int .i64 t262, .int .i64 t263, .slice Ao52 t264.length co52] 46 (0, 0)) (by (with_reducible repeat (first | refine bn_ ?_ _ | refine bd_ ?_ | refine ba_ ?_ _)); exact BK267.out) k_ hn_)), Or.elim hk_.1 (fun hs_ => ((Kd.R_types (Kd.R_types (Kd.R_types (HO214.out) BK215.out (by decide)) BK267.out (by decide)) BK277.out (by decide)).1 k_ hs_.symm).2) (fun hn_ => (Kd.freshB (g := gb277) (o := .cells #[.int .i64 t268, .int .i64 t269, .slice Ao62 t270.length co62] 46 (0, 0)) (by (with_reducible repeat (first | refine bn_ ?_ _ | refine bd_ ?_ | refine ba_ ?_ _)); exact BK277.out) k_ hn_))⟩)) (below_size bw_)); have n5_ := A_ (Kd.R_lower (Kd.R_new' (Kd.R_new' (Kd.R_new' (Kd.R_mono (ok' := fun k_ => True) ho1 (fun _ hk_ => trivial)) (Kd.R_lt (pr_ HO214.out))) (Kd.R_lt (pr_ HO266.out))) (Kd.R_lt (pr_ HO275.out))) (below_size bw_)); have n6_ := A_ (kb_ BK215 hb); have n7_ := A_ (kb_ BK267 hb); have n8_ := A_ (kb_ BK277 hb); have n9_ := A_ (below_step bw_ hb); replace HO214 := n0_; replace HO266 := n1_; replace HO272 := n2_; replace HO275 := n3_; have HO282 := n4_; have HO285 := n5_; replace BK215 := n6_; replace BK267 := n7_; replace BK277 := n8_; replace HB := n9_; clear n0_ n1_ n2_ n3_ n4_ n5_ n6_ n7_ n8_ n9_; (try clear hb); (try clear hb2); (try clear hk); (try clear hi); (try clear ho0); (try clear ho1)) | ((with_reducible refine gate_dst (N := 16) rfl ?_); (try (refine gate_guard (by rfl) ?_; dsimp only)); refine box_event ?hg (N := 16) ?hd (cs := #[.int .i64 0, .int .i64 0, .slice none 0 0]) (t := 46) ?hr ?_; (case hd => rfl); (case hg => rfl); (case hr => first | (go_simp; done) | (go_simp; rfl)); intro gb287 hg w66 hbox hb; have n0_ := A_ (Kd.R_below (pr_ HO214.out) hb); have n1_ := A_ (Kd.R_below (pr_ HO266.out) hb); have n2_ := A_ (Kd.V_below (Kd.V_elderB (pv_ HO272.out) gb287 (Nat.le_of_eq hg.symm)) hb); have n3_ := A_ (Kd.R_below (pr_ HO275.out) hb); have n4_ := A_ (Kd.V_below (Kd.V_elderB (pv_ HO282.out) gb287 (Nat.le_of_eq hg.symm)) hb); have n5_ := A_ (Kd.R_below (pr_ HO285.out) hb); have n6_ := A_ (kb_ BK215 hb); have n7_ := A_ (kb_ BK267 hb); have n8_ := A_ (kb_ BK277 hb); have n9_ := A_ (below_step bw_ hb); have n10_ := A_ (hbox); have n11_ := A_ (gz_ (w := w) hg); have n12_ := A_ (gz_ (w := w) hg); have n13_ := A_ (nl_ BK215 hg); have n14_ := A_ (ng_ BK215 hg); have n15_ := A_ (nl_ BK267 hg); have n16_ := A_ (ng_ BK267 hg); have n17_ := A_ (nl_ BK277 hg); have n18_ := A_ (ng_ BK277 hg); replace HO214 := n0_; replace HO266 := n1_; replace HO272 := n2_; replace HO275 := n3_; replace HO282 := n4_; replace HO285 := n5_; replace BK215 := n6_; replace BK267 := n7_; replace BK277 := n8_; replace HB := n9_; have BK287 := n10_; have GW287 := n11_; have GE287 := n12_; have NB215_287 := n13_; have NB287_215 := n14_; have NB267_287 := n15_; have NB287_267 := n16_; have NB277_287 := n17_; have NB287_277 := n18_; clear n0_ n1_ n2_ n3_ n4_ n5_ n6_ n7_ n8_ n9_ n10_ n11_ n12_ n13_ n14_ n15_ n16_ n17_ n18_; clear hb hbox hg; have hnb67 := NB287_215.out; have hnc67 := NB215_287.out; have hnb68 := NB287_267.out; have hnc68 := NB267_287.out; have hnb69 := NB287_277.out; have hnc69 := NB277_287.out; have hcz70_0 : w66.cell? ⟨gb287, 0, none⟩ = some (.int .i64 0) := e_ BK287 0; have hcz70_1 : w66.cell? ⟨gb287, 1, none⟩ = some (.int .i64 0) := e_ BK287 1; have hcz70_2 : w66.cell? ⟨gb287, 2, none⟩ = some (.slice none 0 0) := e_ BK287 2; obtain ⟨hfz70_0, hfz70_1, hfz70_2⟩ := z3_ BK287; obtain ⟨Ao71, co71, eo71⟩ := Kd.V_slice HO282.out; subst eo71; have hcz72_0 : w66.cell? ⟨gb215, 0, none⟩ = some (.int .i64 1) := e_ BK215 0; have hcz72_1 : w66.cell? ⟨gb215, 1, none⟩ = some (.int .i64 3) := e_ BK215 1; have hcz72_2 : w66.cell? ⟨gb215, 2, none⟩ = some (.slice Ao26 y212.length co26) := e_ BK215 2; obtain ⟨hfz72_0, hfz72_1, hfz72_2⟩ := z3_ BK215) | ((with_reducible refine gate_callee (f := 65) rfl ?_); refine goesL_ (some 73) rfl rfl Try.func65 (by kernel_rfl) rfl #[.agg #[.int .i64 1, .int .i64 3, .slice Ao26 y212.length co26], .int .i64 4] rfl (by (try simp only [m0_, m1_, m2_]); first | done | rfl) ?_; (with_reducible refine (queue_Drop.calls 1 3 _ _ y212 4 t288 t289 t290 _ ?side1 ?side2 A18.out).mono ?_); (case side1 => refine (Kd.R_reads' (e := 24) (base := w.heap.size) (ok := fun k_ => ((some k_ ≠ (.slice Ao52 t264.length co52 : Value).ownBlock ∧ some k_ ≠ (v274 : Value).ownBlock) ∧ some k_ ≠ (v284 : Value).ownBlock)) (n := y212.length) (c := co26) ?_).2.2; exact (by (with_reducible repeat (first | apply ra_ | apply rn_ | apply rd_)); exact (Kd.R_mono (Kd.R_far (p := ⟨gb287, 2, none⟩) (Kd.R_far (p := ⟨gb287, 1, none⟩) (Kd.R_far (p := ⟨gb287, 0, none⟩) (Kd.R_types HO214.out BK287.out (by decide)) (fun _ hk => hk.2) (.int .i64 t278)) (fun _ hk => hk.2) (.int .i64 t279)) (fun _ hk => hk.2) (.slice Ao71 t280.length co71)) (fun _ h_ => h_.1)))); (case side2 => exact (Kd.R_reads' HO214.out).2.1); rintro e w73 ⟨v291, rfl, ho0, hb⟩; refine ⟨_, rfl, ?_⟩; have n0_ := A_ (Kd.R_elder' (by (with_reducible repeat (first | apply ra_ | apply rn_ | apply rd_)); exact (Kd.R_mono (Kd.R_far (p := ⟨gb287, 2, none⟩) (Kd.R_far (p := ⟨gb287, 1, none⟩) (Kd.R_far (p := ⟨gb287, 0, none⟩) (Kd.R_types HO214.out BK287.out (by decide)) (fun _ hk => hk.2) (.int .i64 t278)) (fun _ hk => hk.2) (.int .i64 t279)) (fun _ hk => hk.2) (.slice Ao71 t280.length co71)) (fun _ h_ => h_.1))) (Kd.R_base ho0) hb); have n1_ := A_ (Kd.R_elder' (by (with_reducible repeat (first | apply ra_ | apply rn_ | apply rd_)); exact (Kd.R_mono (Kd.R_far (p := ⟨gb287, 2, none⟩) (Kd.R_far (p := ⟨gb287, 1, none⟩) (Kd.R_far (p := ⟨gb287, 0, none⟩) (Kd.R_types HO266.out BK287.out (by decide)) (fun _ hk => hk.2) (.int .i64 t278)) (fun _ hk => hk.2) (.int .i64 t279)) (fun _ hk => hk.2) (.slice Ao71 t280.length co71)) (fun _ h_ => h_.1))) (Kd.R_base ho0) hb); have n2_ := A_ (Kd.V_elder' (by (with_reducible repeat (first | apply Kd.V_alloc | apply Kd.V_drewN | apply Kd.V_drew)); exact (Kd.V_mono (Kd.V_far (p := ⟨gb287, 2, none⟩) (Kd.V_far (p := ⟨gb287, 1, none⟩) (Kd.V_far (p := ⟨gb287, 0, none⟩) (Kd.V_mono HO272.out (fun k_ hk => (⟨hk, hk.2⟩ : _ ∧ k_ ≠ gb287))) (fun _ hk => hk.2) (.int .i64 t278)) (fun _ hk => hk.2) (.int .i64 t279)) (fun _ hk => hk.2) (.slice Ao71 t280.length co71)) (fun _ h_ => h_.1))) (Kd.R_base ho0) hb); have n3_ := A_ (Kd.R_elder' (by (with_reducible repeat (first | apply ra_ | apply rn_ | apply rd_)); exact (Kd.R_mono (Kd.R_far (p := ⟨gb287, 2, none⟩) (Kd.R_far (p := ⟨gb287, 1, none⟩) (Kd.R_far (p := ⟨gb287, 0, none⟩) (Kd.R_types HO275.out BK287.out (by decide)) (fun _ hk => hk.2) (.int .i64 t278)) (fun _ hk => hk.2) (.int .i64 t279)) (fun _ hk => hk.2) (.slice Ao71 t280.length co71)) (fun _ h_ => h_.1))) (Kd.R_base ho0) hb); have n4_ := A_ (Kd.V_elder' (by (with_reducible repeat (first | apply Kd.V_alloc | apply Kd.V_drewN | apply Kd.V_drew)); exact (Kd.V_mono (Kd.V_far (p := ⟨gb287, 2, none⟩) (Kd.V_far (p := ⟨gb287, 1, none⟩) (Kd.V_far (p := ⟨gb287, 0, none⟩) (Kd.V_mono HO282.out (fun k_ hk => (⟨hk, hk.2⟩ : _ ∧ k_ ≠ gb287))) (fun _ hk => hk.2) (.int .i64 t278)) (fun _ hk => hk.2) (.int .i64 t279)) (fun _ hk => hk.2) (.slice Ao71 t280.length co71)) (fun _ h_ => h_.1))) (Kd.R_base ho0) hb); have n5_ := A_ (Kd.R_elder' (by (with_reducible repeat (first | apply ra_ | apply rn_ | apply rd_)); exact (Kd.R_mono (Kd.R_far (p := ⟨gb287, 2, none⟩) (Kd.R_far (p := ⟨gb287, 1, none⟩) (Kd.R_far (p := ⟨gb287, 0, none⟩) (Kd.R_types HO285.out BK287.out (by decide)) (fun _ hk => hk.2) (.int .i64 t278)) (fun _ hk => hk.2) (.int .i64 t279)) (fun _ hk => hk.2) (.slice Ao71 t280.length co71)) (fun _ h_ => h_.1))) (Kd.R_base ho0) hb); have n6_ := A_ (Kd.R_lower (Kd.R_new' (Kd.R_new' (Kd.R_new' (Kd.R_new' ho0 (Kd.R_lt (by (with_reducible repeat (first | apply ra_ | apply rn_ | apply rd_)); exact (Kd.R_mono (Kd.R_far (p := ⟨gb287, 2, none⟩) (Kd.R_far (p := ⟨gb287, 1, none⟩) (Kd.R_far (p := ⟨gb287, 0, none⟩) (Kd.R_types HO214.out BK287.out (by decide)) (fun _ hk => hk.2) (.int .i64 t278)) (fun _ hk => hk.2) (.int .i64 t279)) (fun _ hk => hk.2) (.slice Ao71 t280.length co71)) (fun _ h_ => h_.1))))) (Kd.R_lt (by (with_reducible repeat (first | apply ra_ | apply rn_ | apply rd_)); exact (Kd.R_mono (Kd.R_far (p := ⟨gb287, 2, none⟩) (Kd.R_far (p := ⟨gb287, 1, none⟩) (Kd.R_far (p := ⟨gb287, 0, none⟩) (Kd.R_types HO266.out BK287.out (by decide)) (fun _ hk => hk.2) (.int .i64 t278)) (fun _ hk => hk.2) (.int .i64 t279)) (fun _ hk => hk.2) (.slice Ao71 t280.length co71)) (fun _ h_ => h_.1))))) (Kd.R_lt (by (with_reducible repeat (first | apply ra_ | apply rn_ | apply rd_)); exact (Kd.R_mono (Kd.R_far (p := ⟨gb287, 2, none⟩) (Kd.R_far (p := ⟨gb287, 1, none⟩) (Kd.R_far (p := ⟨gb287, 0, none⟩) (Kd.R_types HO275.out BK287.out (by decide)) (fun _ hk => hk.2) (.int .i64 t278)) (fun _ hk => hk.2) (.int .i64 t279)) (fun _ hk => hk.2) (.slice Ao71 t280.length co71)) (fun _ h_ => h_.1))))) (Kd.R_lt (by (with_reducible repeat (first | apply ra_ | apply rn_ | apply rd_)); exact (Kd.R_mono (Kd.R_far (p := ⟨gb287, 2, none⟩) (Kd.R_far (p := ⟨gb287, 1, none⟩) (Kd.R_far (p := ⟨gb287, 0, none⟩) (Kd.R_types HO285.out BK287.out (by decide)) (fun _ hk => hk.2) (.int .i64 t278)) (fun _ hk => hk.2) (.int .i64 t279)) (fun _ hk => hk.2) (.slice Ao71 t280.length co71)) (fun _ h_ => h_.1))))) (below_size bw_)); have n7_ := A_ (kb_ BK215 hb); have n8_ := A_ (kb_ BK267 hb); have n9_ := A_ (kb_ BK277 hb); have n10_ := A_ (blk_below (g := gb287) (o := .cells #[.int .i64 t278, .int .i64 t279, .slice Ao71 t280.length co71] 46 (0, 0)) (by exact pk_ (b3_ BK287.out)) hb); have n11_ := A_ (below_step bw_ hb); replace HO214 := n0_; replace HO266 := n1_; replace HO272 := n2_; replace HO275 := n3_; replace HO282 := n4_; replace HO285 := n5_; have HO292 := n6_; replace BK215 := n7_; replace BK267 := n8_; replace BK277 := n9_; replace BK287 := n10_; replace HB := n11_; clear n0_ n1_ n2_ n3_ n4_ n5_ n6_ n7_ n8_ n9_ n10_ n11_; (try clear hb); (try clear hb2); (try clear hk); (try clear hi); (try clear ho0)) | ((with_reducible refine gate_dst (N := 19) rfl ?_); (try (refine gate_guard (by rfl) ?_; dsimp only)); refine box_event ?hg (N := 19) ?hd (cs := #[.int .i64 0, .int .i64 0, .slice none 0 0]) (t := 46) ?hr ?_; (case hd => rfl); (case hg => rfl); (case hr => first | (go_simp; done) | (go_simp; rfl)); intro gb293 hg w74 hbox hb; have n0_ := A_ (Kd.R_below (pr_ HO214.out) hb); have n1_ := A_ (Kd.R_below (pr_ HO266.out) hb); have n2_ := A_ (Kd.V_below (Kd.V_elderB (pv_ HO272.out) gb293 (Nat.le_of_eq hg.symm)) hb); have n3_ := A_ (Kd.R_below (pr_ HO275.out) hb); have n4_ := A_ (Kd.V_below (Kd.V_elderB (pv_ HO282.out) gb293 (Nat.le_of_eq hg.symm)) hb); have n5_ := A_ (Kd.R_below (pr_ HO285.out) hb); have n6_ := A_ (Kd.R_below (pr_ HO292.out) hb); have n7_ := A_ (kb_ BK215 hb); have n8_ := A_ (kb_ BK267 hb); have n9_ := A_ (kb_ BK277 hb); have n10_ := A_ (kb_ BK287 hb); have n11_ := A_ (below_step bw_ hb); have n12_ := A_ (hbox); have n13_ := A_ (gz_ (w := w) hg); have n14_ := A_ (gz_ (w := w) hg); have n15_ := A_ (nl_ BK215 hg); have n16_ := A_ (ng_ BK215 hg); have n17_ := A_ (nl_ BK267 hg); have n18_ := A_ (ng_ BK267 hg); have n19_ := A_ (nl_ BK277 hg); have n20_ := A_ (ng_ BK277 hg); have n21_ := A_ (nl_ BK287 hg); have n22_ := A_ (ng_ BK287 hg); replace HO214 := n0_; replace HO266 := n1_; replace HO272 := n2_; replace HO275 := n3_; replace HO282 := n4_; replace HO285 := n5_; replace HO292 := n6_; replace BK215 := n7_; replace BK267 := n8_; replace BK277 := n9_; replace BK287 := n10_; replace HB := n11_; have BK293 := n12_; have GW293 := n13_; have GE293 := n14_; have NB215_293 := n15_; have NB293_215 := n16_; have NB267_293 := n17_; have NB293_267 := n18_; have NB277_293 := n19_; have NB293_277 := n20_; have NB287_293 := n21_; have NB293_287 := n22_; clear n0_ n1_ n2_ n3_ n4_ n5_ n6_ n7_ n8_ n9_ n10_ n11_ n12_ n13_ n14_ n15_ n16_ n17_ n18_ n19_ n20_ n21_ n22_; clear hb hbox hg; have hnb75 := NB293_215.out; have hnc75 := NB215_293.out; have hnb76 := NB293_267.out; have hnc76 := NB267_293.out; have hnb77 := NB293_277.out; have hnc77 := NB277_293.out; have hnb78 := NB293_287.out; have hnc78 := NB287_293.out; have hcz79_0 : w74.cell? ⟨gb293, 0, none⟩ = some (.int .i64 0) := e_ BK293 0; have hcz79_1 : w74.cell? ⟨gb293, 1, none⟩ = some (.int .i64 0) := e_ BK293 1; have hcz79_2 : w74.cell? ⟨gb293, 2, none⟩ = some (.slice none 0 0) := e_ BK293 2; obtain ⟨hfz79_0, hfz79_1, hfz79_2⟩ := z3_ BK293; obtain ⟨Ao80, co80, eo80⟩ := Kd.R_slice HO292.out; subst eo80; have hcz81_0 : w74.cell? ⟨gb215, 0, none⟩ = some (.int .i64 1) := e_ BK215 0; have hcz81_1 : w74.cell? ⟨gb215, 1, none⟩ = some (.int .i64 3) := e_ BK215 1; have hcz81_2 : w74.cell? ⟨gb215, 2, none⟩ = some (.slice Ao26 y212.length co26) := e_ BK215 2; obtain ⟨hfz81_0, hfz81_1, hfz81_2⟩ := z3_ BK215) | ((with_reducible refine gate_callee (f := 52) rfl ?_); refine goesL_ (some 76) rfl rfl Try.func52 (by kernel_rfl) rfl #[.agg #[.int .i64 1, .int .i64 3, .slice Ao26 y212.length co26], .int .i64 6] rfl (by (try simp only [m0_, m1_, m2_]); first | done | rfl) ?_; (with_reducible refine (queue_Find.calls 1 3 _ _ y212 6 t294 t295 t296 t297 t298 t299 t300 _ ?side1 ?side2 A19.out).mono ?_); (case side1 => refine (Kd.R_reads' (e := 24) (base := w.heap.size) (ok := fun k_ => (((some k_ ≠ (.slice Ao52 t264.length co52 : Value).ownBlock ∧ some k_ ≠ (v274 : Value).ownBlock) ∧ some k_ ≠ (v284 : Value).ownBlock) ∧ some k_ ≠ (.slice Ao80 t290.length co80 : Value).ownBlock)) (n := y212.length) (c := co26) ?_).2.2; exact (by (with_reducible repeat (first | apply ra_ | apply rn_ | apply rd_)); exact (Kd.R_mono (Kd.R_far (p := ⟨gb293, 2, none⟩) (Kd.R_far (p := ⟨gb293, 1, none⟩) (Kd.R_far (p := ⟨gb293, 0, none⟩) (Kd.R_types HO214.out BK293.out (by decide)) (fun _ hk => hk.2) (.int .i64 t288)) (fun _ hk => hk.2) (.int .i64 t289)) (fun _ hk => hk.2) (.slice Ao80 t290.length co80)) (fun _ h_ => h_.1)))); (case side2 => exact (Kd.R_reads' HO214.out).2.1); rintro e w82 ⟨rfl, hb⟩; refine ⟨_, rfl, ?_⟩; replace HO214 := A_ (Kd.R_below (by (with_reducible repeat (first | apply ra_ | apply rn_ | apply rd_)); exact (Kd.R_mono (Kd.R_far (p := ⟨gb293, 2, none⟩) (Kd.R_far (p := ⟨gb293, 1, none⟩) (Kd.R_far (p := ⟨gb293, 0, none⟩) (Kd.R_types HO214.out BK293.out (by decide)) (fun _ hk => hk.2) (.int .i64 t288)) (fun _ hk => hk.2) (.int .i64 t289)) (fun _ hk => hk.2) (.slice Ao80 t290.length co80)) (fun _ h_ => h_.1))) hb); replace HO266 := A_ (Kd.R_below (by (with_reducible repeat (first | apply ra_ | apply rn_ | apply rd_)); exact (Kd.R_mono (Kd.R_far (p := ⟨gb293, 2, none⟩) (Kd.R_far (p := ⟨gb293, 1, none⟩) (Kd.R_far (p := ⟨gb293, 0, none⟩) (Kd.R_types HO266.out BK293.out (by decide)) (fun _ hk => hk.2) (.int .i64 t288)) (fun _ hk => hk.2) (.int .i64 t289)) (fun _ hk => hk.2) (.slice Ao80 t290.length co80)) (fun _ h_ => h_.1))) hb); replace HO272 := A_ (Kd.V_below (by (with_reducible repeat (first | apply Kd.V_alloc | apply Kd.V_drewN | apply Kd.V_drew)); exact (Kd.V_mono (Kd.V_far (p := ⟨gb293, 2, none⟩) (Kd.V_far (p := ⟨gb293, 1, none⟩) (Kd.V_far (p := ⟨gb293, 0, none⟩) (Kd.V_mono HO272.out (fun k_ hk => (⟨hk, hk.2⟩ : _ ∧ k_ ≠ gb293))) (fun _ hk => hk.2) (.int .i64 t288)) (fun _ hk => hk.2) (.int .i64 t289)) (fun _ hk => hk.2) (.slice Ao80 t290.length co80)) (fun _ h_ => h_.1))) hb); replace HO275 := A_ (Kd.R_below (by (with_reducible repeat (first | apply ra_ | apply rn_ | apply rd_)); exact (Kd.R_mono (Kd.R_far (p := ⟨gb293, 2, none⟩) (Kd.R_far (p := ⟨gb293, 1, none⟩) (Kd.R_far (p := ⟨gb293, 0, none⟩) (Kd.R_types HO275.out BK293.out (by decide)) (fun _ hk => hk.2) (.int .i64 t288)) (fun _ hk => hk.2) (.int .i64 t289)) (fun _ hk => hk.2) (.slice Ao80 t290.length co80)) (fun _ h_ => h_.1))) hb); replace HO282 := A_ (Kd.V_below (by (with_reducible repeat (first | apply Kd.V_alloc | apply Kd.V_drewN | apply Kd.V_drew)); exact (Kd.V_mono (Kd.V_far (p := ⟨gb293, 2, none⟩) (Kd.V_far (p := ⟨gb293, 1, none⟩) (Kd.V_far (p := ⟨gb293, 0, none⟩) (Kd.V_mono HO282.out (fun k_ hk => (⟨hk, hk.2⟩ : _ ∧ k_ ≠ gb293))) (fun _ hk => hk.2) (.int .i64 t288)) (fun _ hk => hk.2) (.int .i64 t289)) (fun _ hk => hk.2) (.slice Ao80 t290.length co80)) (fun _ h_ => h_.1))) hb); replace HO285 := A_ (Kd.R_below (by (with_reducible repeat (first | apply ra_ | apply rn_ | apply rd_)); exact (Kd.R_mono (Kd.R_far (p := ⟨gb293, 2, none⟩) (Kd.R_far (p := ⟨gb293, 1, none⟩) (Kd.R_far (p := ⟨gb293, 0, none⟩) (Kd.R_types HO285.out BK293.out (by decide)) (fun _ hk => hk.2) (.int .i64 t288)) (fun _ hk => hk.2) (.int .i64 t289)) (fun _ hk => hk.2) (.slice Ao80 t290.length co80)) (fun _ h_ => h_.1))) hb); replace HO292 := A_ (Kd.R_below (by (with_reducible repeat (first | apply ra_ | apply rn_ | apply rd_)); exact (Kd.R_mono (Kd.R_far (p := ⟨gb293, 2, none⟩) (Kd.R_far (p := ⟨gb293, 1, none⟩) (Kd.R_far (p := ⟨gb293, 0, none⟩) (Kd.R_types HO292.out BK293.out (by decide)) (fun _ hk => hk.2) (.int .i64 t288)) (fun _ hk => hk.2) (.int .i64 t289)) (fun _ hk => hk.2) (.slice Ao80 t290.length co80)) (fun _ h_ => h_.1))) hb); replace BK215 := A_ (kb_ BK215 hb); replace BK267 := A_ (kb_ BK267 hb); replace BK277 := A_ (kb_ BK277 hb); replace BK287 := A_ (kb_ BK287 hb); replace BK293 := A_ (blk_below (g := gb293) (o := .cells #[.int .i64 t288, .int .i64 t289, .slice Ao80 t290.length co80] 46 (0, 0)) (by exact pk_ (b3_ BK293.out)) hb); replace HB := A_ (below_step bw_ hb); (try clear hb); (try clear hb2); (try clear hk); (try clear hi)) | ((with_reducible refine gate_dst (N := 20) rfl ?_); (try (refine gate_guard (by rfl) ?_; dsimp only)); refine box_event ?hg (N := 20) ?hd (cs := #[.int .i64 0, .int .i64 0, .int .i64 0, .int .i64 0, .int .i64 0, .string (⟨#[]⟩ : ByteArray)]) (t := 24) ?hr ?_; (case hd => rfl); (case hg => rfl); (case hr => first | (go_simp; done) | (go_simp; rfl)); intro gb301 hg w83 hbox hb; have n0_ := A_ (Kd.R_below (Kd.R_elderB (pr_ HO214.out) gb301 (Nat.le_of_eq hg.symm)) hb); have n1_ := A_ (Kd.R_below (Kd.R_elderB (pr_ HO266.out) gb301 (Nat.le_of_eq hg.symm)) hb); have n2_ := A_ (Kd.V_below (Kd.V_elderB (pv_ HO272.out) gb301 (Nat.le_of_eq hg.symm)) hb); have n3_ := A_ (Kd.R_below (Kd.R_elderB (pr_ HO275.out) gb301 (Nat.le_of_eq hg.symm)) hb); have n4_ := A_ (Kd.V_below (Kd.V_elderB (pv_ HO282.out) gb301 (Nat.le_of_eq hg.symm)) hb); have n5_ := A_ (Kd.R_below (Kd.R_elderB (pr_ HO285.out) gb301 (Nat.le_of_eq hg.symm)) hb); have n6_ := A_ (Kd.R_below (Kd.R_elderB (pr_ HO292.out) gb301 (Nat.le_of_eq hg.symm)) hb); have n7_ := A_ (kb_ BK215 hb); have n8_ := A_ (kb_ BK267 hb); have n9_ := A_ (kb_ BK277 hb); have n10_ := A_ (kb_ BK287 hb); have n11_ := A_ (kb_ BK293 hb); have n12_ := A_ (below_step bw_ hb); have n13_ := A_ (hbox); have n14_ := A_ (gz_ (w := w) hg); have n15_ := A_ (gz_ (w := w) hg); have n16_ := A_ (nl_ BK215 hg); have n17_ := A_ (ng_ BK215 hg); have n18_ := A_ (nl_ BK267 hg); have n19_ := A_ (ng_ BK267 hg); have n20_ := A_ (nl_ BK277 hg); have n21_ := A_ (ng_ BK277 hg); have n22_ := A_ (nl_ BK287 hg); have n23_ := A_ (ng_ BK287 hg); have n24_ := A_ (nl_ BK293 hg); have n25_ := A_ (ng_ BK293 hg); replace HO214 := n0_; replace HO266 := n1_; replace HO272 := n2_; replace HO275 := n3_; replace HO282 := n4_; replace HO285 := n5_; replace HO292 := n6_; replace BK215 := n7_; replace BK267 := n8_; replace BK277 := n9_; replace BK287 := n10_; replace BK293 := n11_; replace HB := n12_; have BK301 := n13_; have GW301 := n14_; have GE301 := n15_; have NB215_301 := n16_; have NB301_215 := n17_; have NB267_301 := n18_; have NB301_267 := n19_; have NB277_301 := n20_; have NB301_277 := n21_; have NB287_301 := n22_; have NB301_287 := n23_; have NB293_301 := n24_; have NB301_293 := n25_; clear n0_ n1_ n2_ n3_ n4_ n5_ n6_ n7_ n8_ n9_ n10_ n11_ n12_ n13_ n14_ n15_ n16_ n17_ n18_ n19_ n20_ n21_ n22_ n23_ n24_ n25_; clear hb hbox hg; have hnb84 := NB301_215.out; have hnc84 := NB215_301.out; have hnb85 := NB301_267.out; have hnc85 := NB267_301.out; have hnb86 := NB301_277.out; have hnc86 := NB277_301.out; have hnb87 := NB301_287.out; have hnc87 := NB287_301.out; have hnb88 := NB301_293.out; have hnc88 := NB293_301.out; have hcz89_0 : w83.cell? ⟨gb301, 0, none⟩ = some (.int .i64 0) := e_ BK301 0; have hcz89_1 : w83.cell? ⟨gb301, 1, none⟩ = some (.int .i64 0) := e_ BK301 1; have hcz89_2 : w83.cell? ⟨gb301, 2, none⟩ = some (.int .i64 0) := e_ BK301 2; have hcz89_3 : w83.cell? ⟨gb301, 3, none⟩ = some (.int .i64 0) := e_ BK301 3; have hcz89_4 : w83.cell? ⟨gb301, 4, none⟩ = some (.int .i64 0) := e_ BK301 4; have hcz89_5 : w83.cell? ⟨gb301, 5, none⟩ = some (.string (⟨#[]⟩ : ByteArray)) := e_ BK301 5; obtain ⟨hfz89_0, hfz89_1, hfz89_2, hfz89_3, hfz89_4, hfz89_5⟩ := z6_ BK301))
 (try simp only [Act.put, s0_, s1_, s2_])
 go_cut [93] (fun v93 wc => ∃ (kq : Nat) (x93_19 : Bool), v93 = .bool x93_19 ∧ Aside0 (hopperlaw05_live.j0 kq t222 t223 t231 t239 t246 t247 t255 t273 t276 t286 t300 x93_19 1 3 y212 t262 t263 t264 t268 t269 t270 t288 t289 t290 t294 t295 t296 t297 t298 t299 = some r) ∧ Aside0 (kq ≤ k) ∧ Aside0 (Kd.R k24 24 wc w.heap.size (fun k_ => some k_ ≠ ((.slice Ao26 y212.length co26) : Value).ownBlock ∧ some k_ ≠ ((.slice Ao52 t264.length co52) : Value).ownBlock ∧ some k_ ≠ ((.slice Ao80 t290.length co80) : Value).ownBlock ∧ k_ ≠ gb301) v274 t273) ∧ Aside0 (Kd.R k24 24 wc w.heap.size (fun k_ => some k_ ≠ (v274 : Value).ownBlock ∧ some k_ ≠ ((.slice Ao52 t264.length co52) : Value).ownBlock ∧ some k_ ≠ ((.slice Ao80 t290.length co80) : Value).ownBlock ∧ k_ ≠ gb301) (.slice Ao26 y212.length co26) y212) ∧ Aside0 (Kd.R k24 24 wc w.heap.size (fun k_ => some k_ ≠ (v274 : Value).ownBlock ∧ some k_ ≠ ((.slice Ao26 y212.length co26) : Value).ownBlock ∧ some k_ ≠ ((.slice Ao80 t290.length co80) : Value).ownBlock ∧ k_ ≠ gb301) (.slice Ao52 t264.length co52) t264) ∧ Aside0 (Kd.V k24 24 wc w.heap.size (fun k_ => some k_ ≠ (v274 : Value).ownBlock ∧ some k_ ≠ ((.slice Ao26 y212.length co26) : Value).ownBlock ∧ some k_ ≠ ((.slice Ao80 t290.length co80) : Value).ownBlock ∧ k_ ≠ gb215 ∧ k_ ≠ gb267 ∧ k_ ≠ gb277 ∧ k_ ≠ gb287 ∧ k_ ≠ gb293 ∧ k_ ≠ gb301) (.slice Ao62 t270.length co62) t270) ∧ Aside0 (Kd.V k24 24 wc w.heap.size (fun k_ => some k_ ≠ (v274 : Value).ownBlock ∧ some k_ ≠ ((.slice Ao52 t264.length co52) : Value).ownBlock ∧ some k_ ≠ ((.slice Ao80 t290.length co80) : Value).ownBlock ∧ k_ ≠ gb215 ∧ k_ ≠ gb267 ∧ k_ ≠ gb277 ∧ k_ ≠ gb287 ∧ k_ ≠ gb293 ∧ k_ ≠ gb301) (.slice Ao71 t280.length co71) t280) ∧ Aside0 (Kd.R k24 24 wc w.heap.size (fun k_ => some k_ ≠ (v274 : Value).ownBlock ∧ some k_ ≠ ((.slice Ao26 y212.length co26) : Value).ownBlock ∧ some k_ ≠ ((.slice Ao52 t264.length co52) : Value).ownBlock ∧ k_ ≠ gb301) (.slice Ao80 t290.length co80) t290) ∧ Aside0 (wc.heap[gb215]? = some (.cells #[.int .i64 1, .int .i64 3, (.slice Ao26 y212.length co26)] 46 (0, 0))) ∧ Aside0 (wc.heap[gb267]? = some (.cells #[.int .i64 t262, .int .i64 t263, (.slice Ao52 t264.length co52)] 46 (0, 0))) ∧ Aside0 (wc.heap[gb277]? = some (.cells #[.int .i64 t268, .int .i64 t269, (.slice Ao62 t270.length co62)] 46 (0, 0))) ∧ Aside0 (wc.heap[gb287]? = some (.cells #[.int .i64 t278, .int .i64 t279, (.slice Ao71 t280.length co71)] 46 (0, 0))) ∧ Aside0 (wc.heap[gb293]? = some (.cells #[.int .i64 t288, .int .i64 t289, (.slice Ao80 t290.length co80)] 46 (0, 0))) ∧ Aside0 (wc.heap[gb301]? = some (.cells #[.int .i64 t294, .int .i64 t295, .int .i64 t296, .int .i64 t297, .int .i64 t298, .string t299] 24 (0, 0))) ∧ Aside0 (Below w.heap.size w wc))
 case first =>
  have H := HC20.out
  clear HC20
  by_cases c90 : (t264.length : Int) = 4
  · rw [if_pos c90] at H
    have c90b0 : ((t264.length : Int) == 4) = true := beq_iff_eq.mpr c90
    have c90b1 : ((t264.length : Int) != 4) = false := bne_eq_false_iff_eq.mpr c90
    clear c90
    (first | rw [c90b0] | (simp only [i64_w, i32_w]; rw [c90b0]) | skip)
    by_cases c91 : (t270.length : Int) = 2
    · rw [if_pos c91] at H
      have c91b0 : ((t270.length : Int) == 2) = true := beq_iff_eq.mpr c91
      have c91b1 : ((t270.length : Int) != 2) = false := bne_eq_false_iff_eq.mpr c91
      clear c91
      have H' := A_ H
      clear H; have hnb92 := NB267_215.out; have hnc92 := NB215_267.out; have hnb93 := NB267_277.out; have hnc93 := NB277_267.out; have hnb94 := NB267_287.out; have hnc94 := NB287_267.out; have hnb95 := NB267_293.out; have hnc95 := NB293_267.out; have hnb96 := NB267_301.out; have hnc96 := NB301_267.out; have hcz97_0 : w83.cell? ⟨gb267, 0, none⟩ = some (.int .i64 t262) := e_ BK267 0; have hcz97_1 : w83.cell? ⟨gb267, 1, none⟩ = some (.int .i64 t263) := e_ BK267 1; have hcz97_2 : w83.cell? ⟨gb267, 2, none⟩ = some (.slice Ao52 t264.length co52) := e_ BK267 2; obtain ⟨hfz97_0, hfz97_1, hfz97_2⟩ := z3_ BK267; have hnb98 := NB277_215.out; have hnc98 := NB215_277.out; have hnb99 := NB277_287.out; have hnc99 := NB287_277.out; have hnb100 := NB277_293.out; have hnc100 := NB293_277.out; have hnb101 := NB277_301.out; have hnc101 := NB301_277.out; have hcz102_0 : w83.cell? ⟨gb277, 0, none⟩ = some (.int .i64 t268) := e_ BK277 0; have hcz102_1 : w83.cell? ⟨gb277, 1, none⟩ = some (.int .i64 t269) := e_ BK277 1; have hcz102_2 : w83.cell? ⟨gb277, 2, none⟩ = some (.slice Ao62 t270.length co62) := e_ BK277 2; obtain ⟨hfz102_0, hfz102_1, hfz102_2⟩ := z3_ BK277
      obtain ⟨Ao103, co103, eo103⟩ := Kd.R_slice HO275.out
      subst eo103
      go_wp2
      go_meet
      case rel => exact ⟨_, (((t273.length : Int) != 2)), (by first | rfl | (simp; done) | (simp [*]; done)), H', ⟨by first | omega | exact Nat.le_refl _⟩, ⟨by (with_reducible repeat (first | apply ra_ | apply rn_ | apply rd_)); exact Kd.R_mono (f6_ (g := gb301) (Kd.R_mono HO275.out (fun k_ hk => (⟨hk, hk.2⟩ : _ ∧ k_ ≠ gb301))) (fun _ hk => hk.2) (.int .i64 t294) (.int .i64 t295) (.int .i64 t296) (.int .i64 t297) (.int .i64 t298) (.string t299)) (fun _ hk => ⟨hk.1.1.1.1.1, ⟨hk.1.1.1.1.2, ⟨hk.1.1.2, hk.1.2⟩⟩⟩)⟩, ⟨by (with_reducible repeat (first | apply ra_ | apply rn_ | apply rd_)); exact Kd.R_mono (f6_ (g := gb301) (Kd.R_mono HO214.out (fun k_ hk => (⟨hk, hk.2⟩ : _ ∧ k_ ≠ gb301))) (fun _ hk => hk.2) (.int .i64 t294) (.int .i64 t295) (.int .i64 t296) (.int .i64 t297) (.int .i64 t298) (.string t299)) (fun _ hk => ⟨hk.1.1.1.1.2, ⟨hk.1.1.1.1.1, ⟨hk.1.1.2, hk.1.2⟩⟩⟩)⟩, ⟨by (with_reducible repeat (first | apply ra_ | apply rn_ | apply rd_)); exact Kd.R_mono (f6_ (g := gb301) (Kd.R_mono HO266.out (fun k_ hk => (⟨hk, hk.2⟩ : _ ∧ k_ ≠ gb301))) (fun _ hk => hk.2) (.int .i64 t294) (.int .i64 t295) (.int .i64 t296) (.int .i64 t297) (.int .i64 t298) (.string t299)) (fun _ hk => ⟨hk.1.1.1.1.2, ⟨hk.1.1.1.1.1, ⟨hk.1.1.2, hk.1.2⟩⟩⟩)⟩, ⟨by (with_reducible repeat (first | apply Kd.V_alloc | apply Kd.V_drewN | apply Kd.V_drew)); exact Kd.V_mono (Kd.V_far (p := ⟨gb301, 5, none⟩) (Kd.V_far (p := ⟨gb301, 4, none⟩) (Kd.V_far (p := ⟨gb301, 3, none⟩) (Kd.V_far (p := ⟨gb301, 2, none⟩) (Kd.V_far (p := ⟨gb301, 1, none⟩) (Kd.V_far (p := ⟨gb301, 0, none⟩) (Kd.V_mono HO272.out (fun k_ hk => (⟨hk, hk.2⟩ : _ ∧ k_ ≠ gb301))) (fun _ hk => hk.2) (.int .i64 t294)) (fun _ hk => hk.2) (.int .i64 t295)) (fun _ hk => hk.2) (.int .i64 t296)) (fun _ hk => hk.2) (.int .i64 t297)) (fun _ hk => hk.2) (.int .i64 t298)) (fun _ hk => hk.2) (.string t299)) (fun _ hk => ⟨hk.1.1.1.1.1.1.2.1, ⟨hk.1.1.1.1.1.1.1, ⟨hk.1.1.1.2, ⟨hk.1.1.1.1.1.1.2.2.1, ⟨hk.1.1.1.1.1.1.2.2.2.1, ⟨hk.1.1.1.1.1.1.2.2.2.2, ⟨hk.1.1.1.1.2, ⟨hk.1.1.2, hk.1.2⟩⟩⟩⟩⟩⟩⟩⟩)⟩, ⟨by (with_reducible repeat (first | apply Kd.V_alloc | apply Kd.V_drewN | apply Kd.V_drew)); exact Kd.V_mono (Kd.V_far (p := ⟨gb301, 5, none⟩) (Kd.V_far (p := ⟨gb301, 4, none⟩) (Kd.V_far (p := ⟨gb301, 3, none⟩) (Kd.V_far (p := ⟨gb301, 2, none⟩) (Kd.V_far (p := ⟨gb301, 1, none⟩) (Kd.V_far (p := ⟨gb301, 0, none⟩) (Kd.V_mono HO282.out (fun k_ hk => (⟨hk, hk.2⟩ : _ ∧ k_ ≠ gb301))) (fun _ hk => hk.2) (.int .i64 t294)) (fun _ hk => hk.2) (.int .i64 t295)) (fun _ hk => hk.2) (.int .i64 t296)) (fun _ hk => hk.2) (.int .i64 t297)) (fun _ hk => hk.2) (.int .i64 t298)) (fun _ hk => hk.2) (.string t299)) (fun _ hk => ⟨hk.1.1.1.1.1.2.2.1, ⟨hk.1.1.1.1.1.2.1, ⟨hk.1.1.1.2, ⟨hk.1.1.1.1.1.2.2.2.1, ⟨hk.1.1.1.1.1.2.2.2.2.1, ⟨hk.1.1.1.1.1.2.2.2.2.2, ⟨hk.1.1.1.1.2, ⟨hk.1.1.2, hk.1.2⟩⟩⟩⟩⟩⟩⟩⟩)⟩, ⟨by (with_reducible repeat (first | apply ra_ | apply rn_ | apply rd_)); exact Kd.R_mono (f6_ (g := gb301) (Kd.R_mono HO292.out (fun k_ hk => (⟨hk, hk.2⟩ : _ ∧ k_ ≠ gb301))) (fun _ hk => hk.2) (.int .i64 t294) (.int .i64 t295) (.int .i64 t296) (.int .i64 t297) (.int .i64 t298) (.string t299)) (fun _ hk => ⟨hk.1.1.1.2, ⟨hk.1.1.1.1.1.2, ⟨hk.1.1.1.1.2, hk.1.2⟩⟩⟩)⟩, ⟨bk_⟩, ⟨bk_⟩, ⟨bk_⟩, ⟨bk_⟩, ⟨bk_⟩, ⟨by exact pk_ (b6_ BK301.out)⟩, ⟨by repeat (first | (with_reducible first | exact HB.out | apply wa_ | apply wn_ | apply wd_ | refine ws_ ?_ GE215.out | refine ws_ ?_ GE267.out | refine ws_ ?_ GE277.out | refine ws_ ?_ GE287.out | refine ws_ ?_ GE293.out | refine ws_ ?_ GE301.out) | exact HB.out)⟩⟩
    · rw [if_neg c91] at H
      have c91b0 : ((t270.length : Int) == 2) = false := beq_eq_false_iff_ne.mpr c91
      have c91b1 : ((t270.length : Int) != 2) = true := bne_iff_ne.mpr c91
      have H' := A_ H
      clear H; have hnb104 := NB267_215.out; have hnc104 := NB215_267.out; have hnb105 := NB267_277.out; have hnc105 := NB277_267.out; have hnb106 := NB267_287.out; have hnc106 := NB287_267.out; have hnb107 := NB267_293.out; have hnc107 := NB293_267.out; have hnb108 := NB267_301.out; have hnc108 := NB301_267.out; have hcz109_0 : w83.cell? ⟨gb267, 0, none⟩ = some (.int .i64 t262) := e_ BK267 0; have hcz109_1 : w83.cell? ⟨gb267, 1, none⟩ = some (.int .i64 t263) := e_ BK267 1; have hcz109_2 : w83.cell? ⟨gb267, 2, none⟩ = some (.slice Ao52 t264.length co52) := e_ BK267 2; obtain ⟨hfz109_0, hfz109_1, hfz109_2⟩ := z3_ BK267; have hnb110 := NB277_215.out; have hnc110 := NB215_277.out; have hnb111 := NB277_287.out; have hnc111 := NB287_277.out; have hnb112 := NB277_293.out; have hnc112 := NB293_277.out; have hnb113 := NB277_301.out; have hnc113 := NB301_277.out; have hcz114_0 : w83.cell? ⟨gb277, 0, none⟩ = some (.int .i64 t268) := e_ BK277 0; have hcz114_1 : w83.cell? ⟨gb277, 1, none⟩ = some (.int .i64 t269) := e_ BK277 1; have hcz114_2 : w83.cell? ⟨gb277, 2, none⟩ = some (.slice Ao62 t270.length co62) := e_ BK277 2; obtain ⟨hfz114_0, hfz114_1, hfz114_2⟩ := z3_ BK277
      go_wp2
      go_meet
      case rel => exact ⟨_, (true), (by first | rfl | (simp; done) | (simp [*]; done)), H', ⟨by first | omega | exact Nat.le_refl _⟩, ⟨by (with_reducible repeat (first | apply ra_ | apply rn_ | apply rd_)); exact Kd.R_mono (f6_ (g := gb301) (Kd.R_mono HO275.out (fun k_ hk => (⟨hk, hk.2⟩ : _ ∧ k_ ≠ gb301))) (fun _ hk => hk.2) (.int .i64 t294) (.int .i64 t295) (.int .i64 t296) (.int .i64 t297) (.int .i64 t298) (.string t299)) (fun _ hk => ⟨hk.1.1.1.1.1, ⟨hk.1.1.1.1.2, ⟨hk.1.1.2, hk.1.2⟩⟩⟩)⟩, ⟨by (with_reducible repeat (first | apply ra_ | apply rn_ | apply rd_)); exact Kd.R_mono (f6_ (g := gb301) (Kd.R_mono HO214.out (fun k_ hk => (⟨hk, hk.2⟩ : _ ∧ k_ ≠ gb301))) (fun _ hk => hk.2) (.int .i64 t294) (.int .i64 t295) (.int .i64 t296) (.int .i64 t297) (.int .i64 t298) (.string t299)) (fun _ hk => ⟨hk.1.1.1.1.2, ⟨hk.1.1.1.1.1, ⟨hk.1.1.2, hk.1.2⟩⟩⟩)⟩, ⟨by (with_reducible repeat (first | apply ra_ | apply rn_ | apply rd_)); exact Kd.R_mono (f6_ (g := gb301) (Kd.R_mono HO266.out (fun k_ hk => (⟨hk, hk.2⟩ : _ ∧ k_ ≠ gb301))) (fun _ hk => hk.2) (.int .i64 t294) (.int .i64 t295) (.int .i64 t296) (.int .i64 t297) (.int .i64 t298) (.string t299)) (fun _ hk => ⟨hk.1.1.1.1.2, ⟨hk.1.1.1.1.1, ⟨hk.1.1.2, hk.1.2⟩⟩⟩)⟩, ⟨by (with_reducible repeat (first | apply Kd.V_alloc | apply Kd.V_drewN | apply Kd.V_drew)); exact Kd.V_mono (Kd.V_far (p := ⟨gb301, 5, none⟩) (Kd.V_far (p := ⟨gb301, 4, none⟩) (Kd.V_far (p := ⟨gb301, 3, none⟩) (Kd.V_far (p := ⟨gb301, 2, none⟩) (Kd.V_far (p := ⟨gb301, 1, none⟩) (Kd.V_far (p := ⟨gb301, 0, none⟩) (Kd.V_mono HO272.out (fun k_ hk => (⟨hk, hk.2⟩ : _ ∧ k_ ≠ gb301))) (fun _ hk => hk.2) (.int .i64 t294)) (fun _ hk => hk.2) (.int .i64 t295)) (fun _ hk => hk.2) (.int .i64 t296)) (fun _ hk => hk.2) (.int .i64 t297)) (fun _ hk => hk.2) (.int .i64 t298)) (fun _ hk => hk.2) (.string t299)) (fun _ hk => ⟨hk.1.1.1.1.1.1.2.1, ⟨hk.1.1.1.1.1.1.1, ⟨hk.1.1.1.2, ⟨hk.1.1.1.1.1.1.2.2.1, ⟨hk.1.1.1.1.1.1.2.2.2.1, ⟨hk.1.1.1.1.1.1.2.2.2.2, ⟨hk.1.1.1.1.2, ⟨hk.1.1.2, hk.1.2⟩⟩⟩⟩⟩⟩⟩⟩)⟩, ⟨by (with_reducible repeat (first | apply Kd.V_alloc | apply Kd.V_drewN | apply Kd.V_drew)); exact Kd.V_mono (Kd.V_far (p := ⟨gb301, 5, none⟩) (Kd.V_far (p := ⟨gb301, 4, none⟩) (Kd.V_far (p := ⟨gb301, 3, none⟩) (Kd.V_far (p := ⟨gb301, 2, none⟩) (Kd.V_far (p := ⟨gb301, 1, none⟩) (Kd.V_far (p := ⟨gb301, 0, none⟩) (Kd.V_mono HO282.out (fun k_ hk => (⟨hk, hk.2⟩ : _ ∧ k_ ≠ gb301))) (fun _ hk => hk.2) (.int .i64 t294)) (fun _ hk => hk.2) (.int .i64 t295)) (fun _ hk => hk.2) (.int .i64 t296)) (fun _ hk => hk.2) (.int .i64 t297)) (fun _ hk => hk.2) (.int .i64 t298)) (fun _ hk => hk.2) (.string t299)) (fun _ hk => ⟨hk.1.1.1.1.1.2.2.1, ⟨hk.1.1.1.1.1.2.1, ⟨hk.1.1.1.2, ⟨hk.1.1.1.1.1.2.2.2.1, ⟨hk.1.1.1.1.1.2.2.2.2.1, ⟨hk.1.1.1.1.1.2.2.2.2.2, ⟨hk.1.1.1.1.2, ⟨hk.1.1.2, hk.1.2⟩⟩⟩⟩⟩⟩⟩⟩)⟩, ⟨by (with_reducible repeat (first | apply ra_ | apply rn_ | apply rd_)); exact Kd.R_mono (f6_ (g := gb301) (Kd.R_mono HO292.out (fun k_ hk => (⟨hk, hk.2⟩ : _ ∧ k_ ≠ gb301))) (fun _ hk => hk.2) (.int .i64 t294) (.int .i64 t295) (.int .i64 t296) (.int .i64 t297) (.int .i64 t298) (.string t299)) (fun _ hk => ⟨hk.1.1.1.2, ⟨hk.1.1.1.1.1.2, ⟨hk.1.1.1.1.2, hk.1.2⟩⟩⟩)⟩, ⟨bk_⟩, ⟨bk_⟩, ⟨bk_⟩, ⟨bk_⟩, ⟨bk_⟩, ⟨by exact pk_ (b6_ BK301.out)⟩, ⟨by repeat (first | (with_reducible first | exact HB.out | apply wa_ | apply wn_ | apply wd_ | refine ws_ ?_ GE215.out | refine ws_ ?_ GE267.out | refine ws_ ?_ GE277.out | refine ws_ ?_ GE287.out | refine ws_ ?_ GE293.out | refine ws_ ?_ GE301.out) | exact HB.out)⟩⟩
  · rw [if_neg c90] at H
    have c90b0 : ((t264.length : Int) == 4) = false := beq_eq_false_iff_ne.mpr c90
    have c90b1 : ((t264.length : Int) != 4) = true := bne_iff_ne.mpr c90
    (first | rw [c90b0] | (simp only [i64_w, i32_w]; rw [c90b0]) | skip)
    have H' := A_ H
    clear H; have hnb115 := NB267_215.out; have hnc115 := NB215_267.out; have hnb116 := NB267_277.out; have hnc116 := NB277_267.out; have hnb117 := NB267_287.out; have hnc117 := NB287_267.out; have hnb118 := NB267_293.out; have hnc118 := NB293_267.out; have hnb119 := NB267_301.out; have hnc119 := NB301_267.out; have hcz120_0 : w83.cell? ⟨gb267, 0, none⟩ = some (.int .i64 t262) := e_ BK267 0; have hcz120_1 : w83.cell? ⟨gb267, 1, none⟩ = some (.int .i64 t263) := e_ BK267 1; have hcz120_2 : w83.cell? ⟨gb267, 2, none⟩ = some (.slice Ao52 t264.length co52) := e_ BK267 2; obtain ⟨hfz120_0, hfz120_1, hfz120_2⟩ := z3_ BK267
    go_wp2
    go_meet
    case rel => exact ⟨_, (true), (by first | rfl | (simp; done) | (simp [*]; done)), H', ⟨by first | omega | exact Nat.le_refl _⟩, ⟨by (with_reducible repeat (first | apply ra_ | apply rn_ | apply rd_)); exact Kd.R_mono (f6_ (g := gb301) (Kd.R_mono HO275.out (fun k_ hk => (⟨hk, hk.2⟩ : _ ∧ k_ ≠ gb301))) (fun _ hk => hk.2) (.int .i64 t294) (.int .i64 t295) (.int .i64 t296) (.int .i64 t297) (.int .i64 t298) (.string t299)) (fun _ hk => ⟨hk.1.1.1.1.1, ⟨hk.1.1.1.1.2, ⟨hk.1.1.2, hk.1.2⟩⟩⟩)⟩, ⟨by (with_reducible repeat (first | apply ra_ | apply rn_ | apply rd_)); exact Kd.R_mono (f6_ (g := gb301) (Kd.R_mono HO214.out (fun k_ hk => (⟨hk, hk.2⟩ : _ ∧ k_ ≠ gb301))) (fun _ hk => hk.2) (.int .i64 t294) (.int .i64 t295) (.int .i64 t296) (.int .i64 t297) (.int .i64 t298) (.string t299)) (fun _ hk => ⟨hk.1.1.1.1.2, ⟨hk.1.1.1.1.1, ⟨hk.1.1.2, hk.1.2⟩⟩⟩)⟩, ⟨by (with_reducible repeat (first | apply ra_ | apply rn_ | apply rd_)); exact Kd.R_mono (f6_ (g := gb301) (Kd.R_mono HO266.out (fun k_ hk => (⟨hk, hk.2⟩ : _ ∧ k_ ≠ gb301))) (fun _ hk => hk.2) (.int .i64 t294) (.int .i64 t295) (.int .i64 t296) (.int .i64 t297) (.int .i64 t298) (.string t299)) (fun _ hk => ⟨hk.1.1.1.1.2, ⟨hk.1.1.1.1.1, ⟨hk.1.1.2, hk.1.2⟩⟩⟩)⟩, ⟨by (with_reducible repeat (first | apply Kd.V_alloc | apply Kd.V_drewN | apply Kd.V_drew)); exact Kd.V_mono (Kd.V_far (p := ⟨gb301, 5, none⟩) (Kd.V_far (p := ⟨gb301, 4, none⟩) (Kd.V_far (p := ⟨gb301, 3, none⟩) (Kd.V_far (p := ⟨gb301, 2, none⟩) (Kd.V_far (p := ⟨gb301, 1, none⟩) (Kd.V_far (p := ⟨gb301, 0, none⟩) (Kd.V_mono HO272.out (fun k_ hk => (⟨hk, hk.2⟩ : _ ∧ k_ ≠ gb301))) (fun _ hk => hk.2) (.int .i64 t294)) (fun _ hk => hk.2) (.int .i64 t295)) (fun _ hk => hk.2) (.int .i64 t296)) (fun _ hk => hk.2) (.int .i64 t297)) (fun _ hk => hk.2) (.int .i64 t298)) (fun _ hk => hk.2) (.string t299)) (fun _ hk => ⟨hk.1.1.1.1.1.1.2.1, ⟨hk.1.1.1.1.1.1.1, ⟨hk.1.1.1.2, ⟨hk.1.1.1.1.1.1.2.2.1, ⟨hk.1.1.1.1.1.1.2.2.2.1, ⟨hk.1.1.1.1.1.1.2.2.2.2, ⟨hk.1.1.1.1.2, ⟨hk.1.1.2, hk.1.2⟩⟩⟩⟩⟩⟩⟩⟩)⟩, ⟨by (with_reducible repeat (first | apply Kd.V_alloc | apply Kd.V_drewN | apply Kd.V_drew)); exact Kd.V_mono (Kd.V_far (p := ⟨gb301, 5, none⟩) (Kd.V_far (p := ⟨gb301, 4, none⟩) (Kd.V_far (p := ⟨gb301, 3, none⟩) (Kd.V_far (p := ⟨gb301, 2, none⟩) (Kd.V_far (p := ⟨gb301, 1, none⟩) (Kd.V_far (p := ⟨gb301, 0, none⟩) (Kd.V_mono HO282.out (fun k_ hk => (⟨hk, hk.2⟩ : _ ∧ k_ ≠ gb301))) (fun _ hk => hk.2) (.int .i64 t294)) (fun _ hk => hk.2) (.int .i64 t295)) (fun _ hk => hk.2) (.int .i64 t296)) (fun _ hk => hk.2) (.int .i64 t297)) (fun _ hk => hk.2) (.int .i64 t298)) (fun _ hk => hk.2) (.string t299)) (fun _ hk => ⟨hk.1.1.1.1.1.2.2.1, ⟨hk.1.1.1.1.1.2.1, ⟨hk.1.1.1.2, ⟨hk.1.1.1.1.1.2.2.2.1, ⟨hk.1.1.1.1.1.2.2.2.2.1, ⟨hk.1.1.1.1.1.2.2.2.2.2, ⟨hk.1.1.1.1.2, ⟨hk.1.1.2, hk.1.2⟩⟩⟩⟩⟩⟩⟩⟩)⟩, ⟨by (with_reducible repeat (first | apply ra_ | apply rn_ | apply rd_)); exact Kd.R_mono (f6_ (g := gb301) (Kd.R_mono HO292.out (fun k_ hk => (⟨hk, hk.2⟩ : _ ∧ k_ ≠ gb301))) (fun _ hk => hk.2) (.int .i64 t294) (.int .i64 t295) (.int .i64 t296) (.int .i64 t297) (.int .i64 t298) (.string t299)) (fun _ hk => ⟨hk.1.1.1.2, ⟨hk.1.1.1.1.1.2, ⟨hk.1.1.1.1.2, hk.1.2⟩⟩⟩)⟩, ⟨bk_⟩, ⟨bk_⟩, ⟨bk_⟩, ⟨bk_⟩, ⟨bk_⟩, ⟨by exact pk_ (b6_ BK301.out)⟩, ⟨by repeat (first | (with_reducible first | exact HB.out | apply wa_ | apply wn_ | apply wd_ | refine ws_ ?_ GE215.out | refine ws_ ?_ GE267.out | refine ws_ ?_ GE277.out | refine ws_ ?_ GE287.out | refine ws_ ?_ GE293.out | refine ws_ ?_ GE301.out) | exact HB.out)⟩⟩
 case rest =>
  clear HC20; (try clear c1); (try clear p2); (try clear c5); (try clear c6); (try clear c7); (try clear c8); (try clear c9); (try clear c10); (try clear c11); (try clear c52); (try clear c55); (try clear c58); (try clear c59); (try clear c60); (try clear c63); (try clear c65); (try clear c67); (try clear c68); (try clear c69); (try clear c75); (try clear c76); (try clear c77); (try clear c78); (try clear c84); (try clear c85); (try clear c86); (try clear c87); (try clear c88); (try clear c90); (try clear c90b0); (try clear c90b1); (try clear c91); (try clear c91b0); (try clear c91b1); (try clear c92); (try clear c93); (try clear c94); (try clear c95); (try clear c96); (try clear c98); (try clear c99); (try clear c100); (try clear c101); (try clear c104); (try clear c105); (try clear c106); (try clear c107); (try clear c108); (try clear c110); (try clear c111); (try clear c112); (try clear c113); (try clear c115); (try clear c116); (try clear c117); (try clear c118); (try clear c119); (try clear hcz102_0 hcz102_1 hcz102_2); (try clear hcz109_0 hcz109_1 hcz109_2); (try clear hcz114_0 hcz114_1 hcz114_2); (try clear hcz120_0 hcz120_1 hcz120_2); (try clear hcz56_0 hcz56_1 hcz56_2); (try clear hcz61_0 hcz61_1 hcz61_2); (try clear hcz64_0 hcz64_1 hcz64_2); (try clear hcz70_0 hcz70_1 hcz70_2); (try clear hcz72_0 hcz72_1 hcz72_2); (try clear hcz79_0 hcz79_1 hcz79_2); (try clear hcz81_0 hcz81_1 hcz81_2); (try clear hcz89_0 hcz89_1 hcz89_2 hcz89_3 hcz89_4 hcz89_5); (try clear hcz97_0 hcz97_1 hcz97_2); (try clear hfz102_0 hfz102_1 hfz102_2); (try clear hfz109_0 hfz109_1 hfz109_2); (try clear hfz114_0 hfz114_1 hfz114_2); (try clear hfz120_0 hfz120_1 hfz120_2); (try clear hfz56_0 hfz56_1 hfz56_2); (try clear hfz61_0 hfz61_1 hfz61_2); (try clear hfz64_0 hfz64_1 hfz64_2); (try clear hfz70_0 hfz70_1 hfz70_2); (try clear hfz72_0 hfz72_1 hfz72_2); (try clear hfz79_0 hfz79_1 hfz79_2); (try clear hfz81_0 hfz81_1 hfz81_2); (try clear hfz89_0 hfz89_1 hfz89_2 hfz89_3 hfz89_4 hfz89_5); (try clear hfz97_0 hfz97_1 hfz97_2)
  obtain ⟨kq, x93_19, rfl, HA, HJ19, HO_14, HO_216002, HO_268002, HO_278002, HO_288002, HO_294002, BK215, BK267, BK277, BK287, BK293, BK301, HB⟩ := hcut
  obtain ⟨Ao152, co152, eo152⟩ := Kd.R_slice HO_14.out
  (first | subst eo152 | (injection eo152 with f1_ f2_ f3_; have f4_ := f1_.symm; have f5_ := f3_.symm; clear f1_ f2_ f3_; subst f4_; subst f5_))
  cases kq with
  | zero => exact absurd HA.out (by simp [hopperlaw05_live.j0])
  | succ kj19 =>
   have H := HA.out
   clear HA
   simp only [hopperlaw05_live.j0] at H
   by_cases c121 : x93_19 = true
   · subst c121
     have H1 : (none) = some r := by rw [if_pos rfl] at H; exact H
     clear H
     have H := H1
     clear H1
     exact absurd H (by simp)
   replace c121 := Bool.eq_false_iff.mpr c121
   subst c121
   have H1 : (if t222 = 1 then (if t223 = 0 then (if t231 = 5 then (if t239 = 4 then (if t246 = 0 then (if t247 = 0 then (if t255 = 3 then (if 2 < (t264.length : Int) then ((hopperlaw05_tx.f 5 1).bind fun bt303 => (if (((rd_T24 t264 2).f0) == bt303.1 && (((rd_T24 t264 2).f1) == bt303.2.1 && (((rd_T24 t264 2).f2) == bt303.2.2.1 && (((rd_T24 t264 2).f3) == bt303.2.2.2.1 && (((rd_T24 t264 2).f4) == bt303.2.2.2.2.1 && ((((rd_T24 t264 2).f5).toList) == bt303.2.2.2.2.2.toList)))))) = true then (if t276 = 0 then (if t269 = 5 then (if 1 < (t273.length : Int) then ((hopperlaw05_tx.f 4 5).bind fun bt310 => (if (((rd_T24 t273 1).f0) == bt310.1 && (((rd_T24 t273 1).f1) == bt310.2.1 && (((rd_T24 t273 1).f2) == bt310.2.2.1 && (((rd_T24 t273 1).f3) == bt310.2.2.2.1 && (((rd_T24 t273 1).f4) == bt310.2.2.2.2.1 && ((((rd_T24 t273 1).f5).toList) == bt310.2.2.2.2.2.toList)))))) = true then (if t286 = 3 then (if (t290.length : Int) = 2 then (if t296 = 100 then (if t300 = true then ((queue_Ready.f kj19 1 3 y212).bind fun t316 => (if (t316.length : Int) = 2 then ((queue_Ready.f kj19 t262 t263 t264).bind fun t319 => (if (t319.length : Int) = 4 then ((queue_Slots.f kj19 1 3 y212).bind fun t322 => (if t322 = 3 then ((queue_Check.f kj19 1 3 y212 3).bind fun t323 => (if t323 = true then ((queue_Check.f kj19 1 3 y212 2).bind fun t324 => (some (!t324))) else (none))) else (none))) else (none))) else (none))) else (none)) else (none)) else (none)) else (none)) else (none))) else (none)) else (none)) else (none)) else (none))) else (none)) else (none)) else (none)) else (none)) else (none)) else (none)) else (none)) else (none)) = some r := by rw [if_neg (show ¬ (false = true) by decide)] at H; exact H
   clear H
   have H := H1
   clear H1
   by_cases c122 : t222 = 1
   rotate_left
   · rw [if_neg c122] at H
     exact absurd H (by simp)

   rw [if_pos c122] at H
   have c122b0 : (t222 == 1) = true := beq_iff_eq.mpr c122
   have c122b1 : (t222 != 1) = false := bne_eq_false_iff_eq.mpr c122
   clear c122
   by_cases c123 : t223 = 0
   rotate_left
   · rw [if_neg c123] at H
     exact absurd H (by simp)
   rw [if_pos c123] at H
   have c123b0 : (t223 == 0) = true := beq_iff_eq.mpr c123
   have c123b1 : (t223 != 0) = false := bne_eq_false_iff_eq.mpr c123
   clear c123
   by_cases c124 : t231 = 5
   rotate_left
   · rw [if_neg c124] at H
     exact absurd H (by simp)
   rw [if_pos c124] at H
   have c124b0 : (t231 == 5) = true := beq_iff_eq.mpr c124
   have c124b1 : (t231 != 5) = false := bne_eq_false_iff_eq.mpr c124
   clear c124
   by_cases c125 : t239 = 4
   rotate_left
   · rw [if_neg c125] at H
     exact absurd H (by simp)
   rw [if_pos c125] at H
   have c125b0 : (t239 == 4) = true := beq_iff_eq.mpr c125
   have c125b1 : (t239 != 4) = false := bne_eq_false_iff_eq.mpr c125
   clear c125
   by_cases c126 : t246 = 0
   rotate_left
   · rw [if_neg c126] at H
     exact absurd H (by simp)
   rw [if_pos c126] at H
   have c126b0 : (t246 == 0) = true := beq_iff_eq.mpr c126
   have c126b1 : (t246 != 0) = false := bne_eq_false_iff_eq.mpr c126
   clear c126
   by_cases c127 : t247 = 0
   rotate_left
   · rw [if_neg c127] at H
     exact absurd H (by simp)
   rw [if_pos c127] at H
   have c127b0 : (t247 == 0) = true := beq_iff_eq.mpr c127
   have c127b1 : (t247 != 0) = false := bne_eq_false_iff_eq.mpr c127
   clear c127
   by_cases c128 : t255 = 3
   rotate_left
   · rw [if_neg c128] at H
     exact absurd H (by simp)
   rw [if_pos c128] at H
   have c128b0 : (t255 == 3) = true := beq_iff_eq.mpr c128
   have c128b1 : (t255 != 3) = false := bne_eq_false_iff_eq.mpr c128
   clear c128
   by_cases c129 : 2 < (t264.length : Int)
   rotate_left
   · rw [if_neg c129] at H
     exact absurd H (by simp)
   rw [if_pos c129] at H
   have c129b0 : decide (2 < (t264.length : Int)) = true := decide_eq_true c129
   have c129b1 : decide (2 < t264.length) = true := decide_eq_true (by omega)
   clear c129
   replace H := Option.bind_eq_some_iff.mp H
   obtain ⟨⟨t303, t304, t305, t306, t307, t308⟩, A1300, H⟩ := H
   try dsimp only at H
   have A130 := A_ A1300
   clear A1300
   by_cases c131 : (((rd_T24 t264 2).f0) == t303 && (((rd_T24 t264 2).f1) == t304 && (((rd_T24 t264 2).f2) == t305 && (((rd_T24 t264 2).f3) == t306 && (((rd_T24 t264 2).f4) == t307 && ((((rd_T24 t264 2).f5).toList) == t308.toList)))))) = true
   rotate_left
   · rw [if_neg c131] at H
     exact absurd H (by simp)
   rw [if_pos c131] at H
   have c131b0 : (((rd_T24 t264 2).f0) == t303 && (((rd_T24 t264 2).f1) == t304 && (((rd_T24 t264 2).f2) == t305 && (((rd_T24 t264 2).f3) == t306 && (((rd_T24 t264 2).f4) == t307 && ((((rd_T24 t264 2).f5).toList) == t308.toList)))))) = true := c131
   obtain ⟨c131q0, c131q1, c131q2, c131q3, c131q4, c131q5⟩ := six_ c131b0
   clear c131
   by_cases c132 : t276 = 0
   rotate_left
   · rw [if_neg c132] at H
     exact absurd H (by simp)
   rw [if_pos c132] at H
   have c132b0 : (t276 == 0) = true := beq_iff_eq.mpr c132
   have c132b1 : (t276 != 0) = false := bne_eq_false_iff_eq.mpr c132
   clear c132
   by_cases c133 : t269 = 5
   rotate_left
   · rw [if_neg c133] at H
     exact absurd H (by simp)
   rw [if_pos c133] at H
   have c133b0 : (t269 == 5) = true := beq_iff_eq.mpr c133
   have c133b1 : (t269 != 5) = false := bne_eq_false_iff_eq.mpr c133
   clear c133
   by_cases c134 : 1 < (t273.length : Int)
   rotate_left
   · rw [if_neg c134] at H
     exact absurd H (by simp)
   rw [if_pos c134] at H
   have c134b0 : decide (1 < (t273.length : Int)) = true := decide_eq_true c134
   have c134b1 : decide (1 < t273.length) = true := decide_eq_true (by omega)
   clear c134
   replace H := Option.bind_eq_some_iff.mp H
   obtain ⟨⟨t310, t311, t312, t313, t314, t315⟩, A1350, H⟩ := H
   try dsimp only at H
   have A135 := A_ A1350
   clear A1350
   by_cases c136 : (((rd_T24 t273 1).f0) == t310 && (((rd_T24 t273 1).f1) == t311 && (((rd_T24 t273 1).f2) == t312 && (((rd_T24 t273 1).f3) == t313 && (((rd_T24 t273 1).f4) == t314 && ((((rd_T24 t273 1).f5).toList) == t315.toList)))))) = true
   rotate_left
   · rw [if_neg c136] at H
     exact absurd H (by simp)
   rw [if_pos c136] at H
   have c136b0 : (((rd_T24 t273 1).f0) == t310 && (((rd_T24 t273 1).f1) == t311 && (((rd_T24 t273 1).f2) == t312 && (((rd_T24 t273 1).f3) == t313 && (((rd_T24 t273 1).f4) == t314 && ((((rd_T24 t273 1).f5).toList) == t315.toList)))))) = true := c136
   obtain ⟨c136q0, c136q1, c136q2, c136q3, c136q4, c136q5⟩ := six_ c136b0
   clear c136
   by_cases c137 : t286 = 3
   rotate_left
   · rw [if_neg c137] at H
     exact absurd H (by simp)
   rw [if_pos c137] at H
   have c137b0 : (t286 == 3) = true := beq_iff_eq.mpr c137
   have c137b1 : (t286 != 3) = false := bne_eq_false_iff_eq.mpr c137
   clear c137
   by_cases c138 : (t290.length : Int) = 2
   rotate_left
   · rw [if_neg c138] at H
     exact absurd H (by simp)
   rw [if_pos c138] at H
   have c138b0 : ((t290.length : Int) == 2) = true := beq_iff_eq.mpr c138
   have c138b1 : ((t290.length : Int) != 2) = false := bne_eq_false_iff_eq.mpr c138
   clear c138
   by_cases c139 : t296 = 100
   rotate_left
   · rw [if_neg c139] at H
     exact absurd H (by simp)
   rw [if_pos c139] at H
   have c139b0 : (t296 == 100) = true := beq_iff_eq.mpr c139
   have c139b1 : (t296 != 100) = false := bne_eq_false_iff_eq.mpr c139
   clear c139
   by_cases c140 : t300 = true
   rotate_left
   · replace c140 := Bool.eq_false_iff.mpr c140
     subst c140
     have H1 : (none) = some r := by rw [if_neg (show ¬ (false = true) by decide)] at H; exact H
     clear H
     have H := H1
     clear H1
     exact absurd H (by simp)
   subst c140
   have H1 : ((queue_Ready.f kj19 1 3 y212).bind fun t316 => (if (t316.length : Int) = 2 then ((queue_Ready.f kj19 t262 t263 t264).bind fun t319 => (if (t319.length : Int) = 4 then ((queue_Slots.f kj19 1 3 y212).bind fun t322 => (if t322 = 3 then ((queue_Check.f kj19 1 3 y212 3).bind fun t323 => (if t323 = true then ((queue_Check.f kj19 1 3 y212 2).bind fun t324 => (some (!t324))) else (none))) else (none))) else (none))) else (none))) = some r := by rw [if_pos rfl] at H; exact H
   clear H
   have H := H1
   clear H1
   replace H := Option.bind_eq_some_iff.mp H
   obtain ⟨t316, A1410, H⟩ := H
   try dsimp only at H
   have A141 := A_ A1410
   clear A1410
   by_cases c142 : (t316.length : Int) = 2
   rotate_left
   · rw [if_neg c142] at H
     exact absurd H (by simp)
   rw [if_pos c142] at H
   have c142b0 : ((t316.length : Int) == 2) = true := beq_iff_eq.mpr c142
   have c142b1 : ((t316.length : Int) != 2) = false := bne_eq_false_iff_eq.mpr c142
   clear c142
   replace H := Option.bind_eq_some_iff.mp H
   obtain ⟨t319, A1430, H⟩ := H
   try dsimp only at H
   have A143 := A_ A1430
   clear A1430
   by_cases c144 : (t319.length : Int) = 4
   rotate_left
   · rw [if_neg c144] at H
     exact absurd H (by simp)
   rw [if_pos c144] at H
   have c144b0 : ((t319.length : Int) == 4) = true := beq_iff_eq.mpr c144
   have c144b1 : ((t319.length : Int) != 4) = false := bne_eq_false_iff_eq.mpr c144
   clear c144
   replace H := Option.bind_eq_some_iff.mp H
   obtain ⟨t322, A1450, H⟩ := H
   try dsimp only at H
   have A145 := A_ A1450
   clear A1450
   by_cases c146 : t322 = 3
   rotate_left
   · rw [if_neg c146] at H
     exact absurd H (by simp)
   rw [if_pos c146] at H
   have c146b0 : (t322 == 3) = true := beq_iff_eq.mpr c146
   have c146b1 : (t322 != 3) = false := bne_eq_false_iff_eq.mpr c146
   clear c146
   replace H := Option.bind_eq_some_iff.mp H
   obtain ⟨t323, A1470, H⟩ := H
   try dsimp only at H
   have A147 := A_ A1470
   clear A1470
   by_cases c148 : t323 = true
   rotate_left
   · replace c148 := Bool.eq_false_iff.mpr c148
     subst c148
     have H1 : (none) = some r := by rw [if_neg (show ¬ (false = true) by decide)] at H; exact H
     clear H
     have H := H1
     clear H1
     exact absurd H (by simp)
   subst c148
   have H1 : ((queue_Check.f kj19 1 3 y212 2).bind fun t324 => (some (!t324))) = some r := by rw [if_pos rfl] at H; exact H
   clear H
   have H := H1
   clear H1
   replace H := Option.bind_eq_some_iff.mp H
   obtain ⟨t324, A1490, H⟩ := H
   replace H : (some (!t324)) = some r := H
   have A149 := A_ A1490
   clear A1490
   obtain rfl := Option.some.inj H
   try go_wp2
   have n0_ := A_ (rd_ HO_14.out); have n1_ := A_ (rd_ HO_216002.out); have n2_ := A_ (rd_ HO_268002.out); have n3_ := A_ (Kd.V_drew HO_278002.out); have n4_ := A_ (Kd.V_drew HO_288002.out); have n5_ := A_ (rd_ HO_294002.out); have n6_ := A_ (bd_ BK215.out); have n7_ := A_ (bd_ BK267.out); have n8_ := A_ (bd_ BK277.out); have n9_ := A_ (bd_ BK287.out); have n10_ := A_ (bd_ BK293.out); have n11_ := A_ (bd_ BK301.out); have n12_ := A_ (wd_ HB.out); replace HO_14 := n0_; replace HO_216002 := n1_; replace HO_268002 := n2_; replace HO_278002 := n3_; replace HO_288002 := n4_; replace HO_294002 := n5_; replace BK215 := n6_; replace BK267 := n7_; replace BK277 := n8_; replace BK287 := n9_; replace BK293 := n10_; replace BK301 := n11_; replace HB := n12_; clear n0_ n1_ n2_ n3_ n4_ n5_ n6_ n7_ n8_ n9_ n10_ n11_ n12_
   have p302 : 0 ≤ (2 : Int) := (by omega)
   have q302 : 2 < (t264.length : Int) := of_decide_eq_true (by first | (with_reducible assumption) | assumption)
   obtain ⟨ad302, e302, hx302_0, hx302_1, hx302_2, hx302_3, hx302_4, hx302_5⟩ := at_T24 (Kd.R_reads' HO_268002.out).2.2 2 p302 q302
   cases e302
   (try simp only [show (2 : Int).toNat = 2 from rfl, Nat.reduceMul, Nat.reduceEqDiff, Go.Addr.add, ↓reduceIte] at hx302_0)
   (try simp only [show (2 : Int).toNat = 2 from rfl, Nat.reduceMul, Nat.reduceEqDiff, Go.Addr.add, ↓reduceIte] at hx302_1)
   (try simp only [show (2 : Int).toNat = 2 from rfl, Nat.reduceMul, Nat.reduceEqDiff, Go.Addr.add, ↓reduceIte] at hx302_2)
   (try simp only [show (2 : Int).toNat = 2 from rfl, Nat.reduceMul, Nat.reduceEqDiff, Go.Addr.add, ↓reduceIte] at hx302_3)
   (try simp only [show (2 : Int).toNat = 2 from rfl, Nat.reduceMul, Nat.reduceEqDiff, Go.Addr.add, ↓reduceIte] at hx302_4)
   (try simp only [show (2 : Int).toNat = 2 from rfl, Nat.reduceMul, Nat.reduceEqDiff, Go.Addr.add, ↓reduceIte] at hx302_5)
   have qi302 : (2 < t264.length) = True := eq_true (by omega)
   (try rw [show ((2 : Int)).toNat = 2 from rfl] at hx302_0)
   (try rw [show 2 * 6 = 12 from rfl] at hx302_0)
   (try rw [show ((2 : Int)).toNat = 2 from rfl] at hx302_1)
   (try rw [show 2 * 6 = 12 from rfl] at hx302_1)
   (try rw [show ((2 : Int)).toNat = 2 from rfl] at hx302_2)
   (try rw [show 2 * 6 = 12 from rfl] at hx302_2)
   (try rw [show ((2 : Int)).toNat = 2 from rfl] at hx302_3)
   (try rw [show 2 * 6 = 12 from rfl] at hx302_3)
   (try rw [show ((2 : Int)).toNat = 2 from rfl] at hx302_4)
   (try rw [show 2 * 6 = 12 from rfl] at hx302_4)
   (try rw [show ((2 : Int)).toNat = 2 from rfl] at hx302_5)
   (try rw [show 2 * 6 = 12 from rfl] at hx302_5)
   replace p302 := eq_true p302
   replace q302 := eq_true q302
   have p309 : 0 ≤ (1 : Int) := (by omega)
   have q309 : 1 < (t273.length : Int) := of_decide_eq_true (by first | (with_reducible assumption) | assumption)
   obtain ⟨ad309, e309, hx309_0, hx309_1, hx309_2, hx309_3, hx309_4, hx309_5⟩ := at_T24 (Kd.R_reads' HO_14.out).2.2 1 p309 q309
   cases e309
   (try simp only [show (1 : Int).toNat = 1 from rfl, Nat.reduceMul, Nat.reduceEqDiff, Go.Addr.add, ↓reduceIte] at hx309_0)
   (try simp only [show (1 : Int).toNat = 1 from rfl, Nat.reduceMul, Nat.reduceEqDiff, Go.Addr.add, ↓reduceIte] at hx309_1)
   (try simp only [show (1 : Int).toNat = 1 from rfl, Nat.reduceMul, Nat.reduceEqDiff, Go.Addr.add, ↓reduceIte] at hx309_2)
   (try simp only [show (1 : Int).toNat = 1 from rfl, Nat.reduceMul, Nat.reduceEqDiff, Go.Addr.add, ↓reduceIte] at hx309_3)
   (try simp only [show (1 : Int).toNat = 1 from rfl, Nat.reduceMul, Nat.reduceEqDiff, Go.Addr.add, ↓reduceIte] at hx309_4)
   (try simp only [show (1 : Int).toNat = 1 from rfl, Nat.reduceMul, Nat.reduceEqDiff, Go.Addr.add, ↓reduceIte] at hx309_5)
   have qi309 : (1 < t273.length) = True := eq_true (by omega)
   (try rw [show ((1 : Int)).toNat = 1 from rfl] at hx309_0)
   (try rw [show 1 * 6 = 6 from rfl] at hx309_0)
   (try rw [show ((1 : Int)).toNat = 1 from rfl] at hx309_1)
   (try rw [show 1 * 6 = 6 from rfl] at hx309_1)
   (try rw [show ((1 : Int)).toNat = 1 from rfl] at hx309_2)
   (try rw [show 1 * 6 = 6 from rfl] at hx309_2)
   (try rw [show ((1 : Int)).toNat = 1 from rfl] at hx309_3)
   (try rw [show 1 * 6 = 6 from rfl] at hx309_3)
   (try rw [show ((1 : Int)).toNat = 1 from rfl] at hx309_4)
   (try rw [show 1 * 6 = 6 from rfl] at hx309_4)
   (try rw [show ((1 : Int)).toNat = 1 from rfl] at hx309_5)
   (try rw [show 1 * 6 = 6 from rfl] at hx309_5)
   replace p309 := eq_true p309
   replace q309 := eq_true q309
   refine start_ (n := 95) (S := fun w' => w'.cell? ⟨gb267, 0, none⟩ = some (.int .i64 t262) ∧ w'.cell? ⟨gb267, 1, none⟩ = some (.int .i64 t263) ∧ w'.cell? ⟨gb267, 2, none⟩ = some (.slice (some ad302) t264.length co52) ∧ w'.cell? ⟨gb277, 0, none⟩ = some (.int .i64 t268) ∧ w'.cell? ⟨gb277, 1, none⟩ = some (.int .i64 t269) ∧ w'.cell? ⟨gb277, 2, none⟩ = some (.slice Ao62 t270.length co62) ∧ w'.cell? ⟨gb293, 0, none⟩ = some (.int .i64 t288) ∧ w'.cell? ⟨gb293, 1, none⟩ = some (.int .i64 t289) ∧ w'.cell? ⟨gb293, 2, none⟩ = some (.slice Ao80 t290.length co80) ∧ w'.cell? ⟨gb301, 0, none⟩ = some (.int .i64 t294) ∧ w'.cell? ⟨gb301, 1, none⟩ = some (.int .i64 t295) ∧ w'.cell? ⟨gb301, 2, none⟩ = some (.int .i64 t296) ∧ w'.cell? ⟨gb301, 3, none⟩ = some (.int .i64 t297) ∧ w'.cell? ⟨gb301, 4, none⟩ = some (.int .i64 t298) ∧ w'.cell? ⟨gb301, 5, none⟩ = some (.string t299) ∧ w'.cell? ⟨gb215, 0, none⟩ = some (.int .i64 1) ∧ w'.cell? ⟨gb215, 1, none⟩ = some (.int .i64 3) ∧ w'.cell? ⟨gb215, 2, none⟩ = some (.slice Ao26 y212.length co26) ∧ w'.cell? ⟨ad302.block, ad302.off + 12, none⟩ = some (.int .i64 ((rd_T24 t264 2).f0)) ∧ w'.cell? ⟨ad302.block, ad302.off + 12 + 1, none⟩ = some (.int .i64 ((rd_T24 t264 2).f1)) ∧ w'.cell? ⟨ad302.block, ad302.off + 12 + 2, none⟩ = some (.int .i64 ((rd_T24 t264 2).f2)) ∧ w'.cell? ⟨ad302.block, ad302.off + 12 + 3, none⟩ = some (.int .i64 ((rd_T24 t264 2).f3)) ∧ w'.cell? ⟨ad302.block, ad302.off + 12 + 4, none⟩ = some (.int .i64 ((rd_T24 t264 2).f4)) ∧ w'.cell? ⟨ad302.block, ad302.off + 12 + 5, none⟩ = some (.string ((rd_T24 t264 2).f5)) ∧ w'.cell? ⟨ad309.block, ad309.off + 6, none⟩ = some (.int .i64 ((rd_T24 t273 1).f0)) ∧ w'.cell? ⟨ad309.block, ad309.off + 6 + 1, none⟩ = some (.int .i64 ((rd_T24 t273 1).f1)) ∧ w'.cell? ⟨ad309.block, ad309.off + 6 + 2, none⟩ = some (.int .i64 ((rd_T24 t273 1).f2)) ∧ w'.cell? ⟨ad309.block, ad309.off + 6 + 3, none⟩ = some (.int .i64 ((rd_T24 t273 1).f3)) ∧ w'.cell? ⟨ad309.block, ad309.off + 6 + 4, none⟩ = some (.int .i64 ((rd_T24 t273 1).f4)) ∧ w'.cell? ⟨ad309.block, ad309.off + 6 + 5, none⟩ = some (.string ((rd_T24 t273 1).f5))) (ds := []) #[F,F,F,F,F,F,F,F,F,F,F,F,F,F,F,F,F,F,F,F,F,F,F,F,F,F,F,F,F,F,F,F,F,F,F,F,F,F,F,F,F,F,F,F,F,F,F,F,F,F,F,F,F,F,F,F,F,F,F,F,F,F,F,F,F,F,F,F,F,F,F,F,F,F,F,F,F,F,F,F,F,F,F,F,F,F,F,F,F,F,F,F,F,F,F] (by kernel_rfl) rfl rfl ⟨e_ BK267 0, e_ BK267 1, e_ BK267 2, e_ BK277 0, e_ BK277 1, e_ BK277 2, e_ BK293 0, e_ BK293 1, e_ BK293 2, e_ BK301 0, e_ BK301 1, e_ BK301 2, e_ BK301 3, e_ BK301 4, e_ BK301 5, e_ BK215 0, e_ BK215 1, e_ BK215 2, hx302_0, hx302_1, hx302_2, hx302_3, hx302_4, hx302_5, hx309_0, hx309_1, hx309_2, hx309_3, hx309_4, hx309_5⟩ (fun hHeld => ?_); refine with_tabW hopperlaw05_live.tab14 hopperlaw05_live.bits14 (fun HT_ HW_ => ?_)
   generalize wc.drew = w150 at HO_14 HO_216002 HO_268002 HO_278002 HO_288002 HO_294002 BK215 BK267 BK277 BK287 BK293 BK301 HB hx302_0 hx302_1 hx302_2 hx302_3 hx302_4 hx302_5 hx309_0 hx309_1 hx309_2 hx309_3 hx309_4 hx309_5 hHeld ⊢
   refine pq_ 0 94 HT_ ?_
   refine pq_ 1 95 HT_ ?_
   refine pq_ 2 96 HT_ ?_
   refine pq_ 3 97 HT_ ?_
   refine pq_ 4 98 HT_ ?_
   refine pq_ 5 99 HT_ ?_
   refine pq_ 6 100 HT_ ?_
   refine pq_ 7 101 HT_ ?_
   refine pq_ 8 102 HT_ ?_
   refine pq_ 9 103 HT_ ?_
   refine pq_ 10 104 HT_ ?_
   refine pq_ 11 105 HT_ ?_
   refine pq_ 12 106 HT_ ?_
   refine pq_ 13 107 HT_ ?_
   refine pq_ 14 108 HT_ ?_
   refine pq_ 15 109 HT_ ?_
   refine pq_ 16 110 HT_ ?_
   refine pq_ 17 111 HT_ ?_
   refine pq_ 18 112 HT_ ?_
   refine pq_ 19 113 HT_ ?_
   refine pq_ 20 114 HT_ ?_
   refine pq_ 21 115 HT_ ?_
   refine pq_ 22 116 HT_ ?_
   refine pq_ 23 117 HT_ ?_
   refine pq_ 24 118 HT_ ?_
   refine pq_ 25 119 HT_ ?_
   refine pq_ 26 120 HT_ ?_
   refine pq_ 27 121 HT_ ?_
   refine tk_ 28 122 HT_ HW_ hHeld ?_
   refine pq_ 29 123 HT_ ?_
   refine tk_ 30 124 HT_ HW_ hHeld ?_
   refine one_ (i := 31) (N := some 125) #[T,T,T,T,T,T,T,T,T,T,T,T,T,T,T,T,T,T,T,T,T,T,T,T,T,T,T,T,T,T,T,T,F,F,F,F,F,F,F,F,F,F,F,F,F,F,F,F,F,F,F,F,F,F,F,F,F,F,F,F,F,F,F,F,F,F,F,F,F,F,F,F,F,F,F,F,F,F,F,F,F,F,F,F,F,F,F,F,F,F,F,F,F,F,F] rfl rfl (one_of HT_.out (by kernel_rfl)) (by decide) (fun K hK => ?_)
   refine goes_ Try.func99 (by kernel_rfl) rfl #[.int .i64 5, .int .i64 1] (by rfl) rfl rfl (by (try simp only [m0_, m1_, m2_]); first | done | rfl) ?_
   with_reducible refine (hopperlaw05_tx.calls 5 1 t303 t304 t305 t306 t307 t308 _ A130.out).mono ?_
   rintro e w151 ⟨rfl, hb⟩
   obtain ⟨_, _, _, _, _, _, _, _, _, _, _, _, _, _, _, _, _, _, h18_, h19_, h20_, h21_, h22_, h23_, h24_, h25_, h26_, h27_, h28_, h29_⟩ := hHeld
   have o_ := fun (p_ : Addr) (v_ : Value) => @on_ _ _ p_ v_ hb
   refine ⟨_, rfl, ?_⟩
   have n0_ := A_ (Kd.R_below (pr_ HO_14.out) hb); have n1_ := A_ (Kd.R_below (pr_ HO_216002.out) hb); have n2_ := A_ (Kd.R_below (pr_ HO_268002.out) hb); have n3_ := A_ (Kd.V_below (pv_ HO_278002.out) hb); have n4_ := A_ (Kd.V_below (pv_ HO_288002.out) hb); have n5_ := A_ (Kd.R_below (pr_ HO_294002.out) hb); have n6_ := A_ (kb_ BK215 hb); have n7_ := A_ (kb_ BK267 hb); have n8_ := A_ (kb_ BK277 hb); have n9_ := A_ (kb_ BK287 hb); have n10_ := A_ (kb_ BK293 hb); have n11_ := A_ (kb_ BK301 hb); have n12_ := A_ (below_step bw_ hb); replace HO_14 := n0_; replace HO_216002 := n1_; replace HO_268002 := n2_; replace HO_278002 := n3_; replace HO_288002 := n4_; replace HO_294002 := n5_; replace BK215 := n6_; replace BK267 := n7_; replace BK277 := n8_; replace BK287 := n9_; replace BK293 := n10_; replace BK301 := n11_; replace HB := n12_; clear n0_ n1_ n2_ n3_ n4_ n5_ n6_ n7_ n8_ n9_ n10_ n11_ n12_
   (try clear hb)
   (try clear hb2)
   (try clear hk)
   (try clear hi)
   refine hK.out _ _ ⟨e_ BK267 0, e_ BK267 1, e_ BK267 2, e_ BK277 0, e_ BK277 1, e_ BK277 2, e_ BK293 0, e_ BK293 1, e_ BK293 2, e_ BK301 0, e_ BK301 1, e_ BK301 2, e_ BK301 3, e_ BK301 4, e_ BK301 5, e_ BK215 0, e_ BK215 1, e_ BK215 2, o_ _ _ h18_, o_ _ _ h19_, o_ _ _ h20_, o_ _ _ h21_, o_ _ _ h22_, o_ _ _ h23_, o_ _ _ h24_, o_ _ _ h25_, o_ _ _ h26_, o_ _ _ h27_, o_ _ _ h28_, o_ _ _ h29_⟩ (fun hHeld => ?_)
   clear hK K
   refine norm_ (a' := ?_) ?_ ?_
   rotate_left
   · show Act.put _ (some 125) _ = _
     simp only [Act.put, s0_, s1_, s2_, i64_w, i32_w]
     rfl
   refine pq_ 32 126 HT_ ?_
   refine pq_ 33 127 HT_ ?_
   refine pq_ 34 128 HT_ ?_
   refine pq_ 35 129 HT_ ?_
   refine pq_ 36 130 HT_ ?_
   refine pq_ 37 131 HT_ ?_
   refine pq_ 38 132 HT_ ?_
   refine pq_ 39 133 HT_ ?_
   refine tk_ 40 134 HT_ HW_ hHeld ?_
   refine pq_ 41 135 HT_ ?_
   refine pq_ 42 136 HT_ ?_
   refine pq_ 43 137 HT_ ?_
   refine pq_ 44 138 HT_ ?_
   refine pq_ 45 139 HT_ ?_
   refine tk_ 46 140 HT_ HW_ hHeld ?_
   refine one_ (i := 47) (N := some 141) #[T,T,T,T,T,T,T,T,T,T,T,T,T,T,T,T,T,T,T,T,T,T,T,T,T,T,T,T,T,T,T,T,T,T,T,T,T,T,T,T,T,T,T,T,T,T,T,T,F,F,F,F,F,F,F,F,F,F,F,F,F,F,F,F,F,F,F,F,F,F,F,F,F,F,F,F,F,F,F,F,F,F,F,F,F,F,F,F,F,F,F,F,F,F,F] rfl rfl (one_of HT_.out (by kernel_rfl)) (by decide) (fun K hK => ?_)
   refine goes_ Try.func99 (by kernel_rfl) rfl #[.int .i64 4, .int .i64 5] (by rfl) rfl rfl (by (try simp only [m0_, m1_, m2_]); first | done | rfl) ?_
   with_reducible refine (hopperlaw05_tx.calls 4 5 t310 t311 t312 t313 t314 t315 _ A135.out).mono ?_
   rintro e w153 ⟨rfl, hb⟩
   obtain ⟨_, _, _, _, _, _, _, _, _, _, _, _, _, _, _, _, _, _, h18_, h19_, h20_, h21_, h22_, h23_, h24_, h25_, h26_, h27_, h28_, h29_⟩ := hHeld
   have o_ := fun (p_ : Addr) (v_ : Value) => @on_ _ _ p_ v_ hb
   refine ⟨_, rfl, ?_⟩
   have n0_ := A_ (Kd.R_below (pr_ HO_14.out) hb); have n1_ := A_ (Kd.R_below (pr_ HO_216002.out) hb); have n2_ := A_ (Kd.R_below (pr_ HO_268002.out) hb); have n3_ := A_ (Kd.V_below (pv_ HO_278002.out) hb); have n4_ := A_ (Kd.V_below (pv_ HO_288002.out) hb); have n5_ := A_ (Kd.R_below (pr_ HO_294002.out) hb); have n6_ := A_ (kb_ BK215 hb); have n7_ := A_ (kb_ BK267 hb); have n8_ := A_ (kb_ BK277 hb); have n9_ := A_ (kb_ BK287 hb); have n10_ := A_ (kb_ BK293 hb); have n11_ := A_ (kb_ BK301 hb); have n12_ := A_ (below_step bw_ hb); replace HO_14 := n0_; replace HO_216002 := n1_; replace HO_268002 := n2_; replace HO_278002 := n3_; replace HO_288002 := n4_; replace HO_294002 := n5_; replace BK215 := n6_; replace BK267 := n7_; replace BK277 := n8_; replace BK287 := n9_; replace BK293 := n10_; replace BK301 := n11_; replace HB := n12_; clear n0_ n1_ n2_ n3_ n4_ n5_ n6_ n7_ n8_ n9_ n10_ n11_ n12_
   (try clear hb)
   (try clear hb2)
   (try clear hk)
   (try clear hi)
   refine hK.out _ _ ⟨e_ BK267 0, e_ BK267 1, e_ BK267 2, e_ BK277 0, e_ BK277 1, e_ BK277 2, e_ BK293 0, e_ BK293 1, e_ BK293 2, e_ BK301 0, e_ BK301 1, e_ BK301 2, e_ BK301 3, e_ BK301 4, e_ BK301 5, e_ BK215 0, e_ BK215 1, e_ BK215 2, o_ _ _ h18_, o_ _ _ h19_, o_ _ _ h20_, o_ _ _ h21_, o_ _ _ h22_, o_ _ _ h23_, o_ _ _ h24_, o_ _ _ h25_, o_ _ _ h26_, o_ _ _ h27_, o_ _ _ h28_, o_ _ _ h29_⟩ (fun hHeld => ?_)
   clear hK K
   refine norm_ (a' := ?_) ?_ ?_
   rotate_left
   · show Act.put _ (some 141) _ = _
     simp only [Act.put, s0_, s1_, s2_, i64_w, i32_w]
     rfl
   refine pq_ 48 142 HT_ ?_
   refine pq_ 49 143 HT_ ?_
   refine pq_ 50 144 HT_ ?_
   refine pq_ 51 145 HT_ ?_
   refine pq_ 52 146 HT_ ?_
   refine pq_ 53 147 HT_ ?_
   refine pq_ 54 148 HT_ ?_
   refine pq_ 55 149 HT_ ?_
   refine tk_ 56 150 HT_ HW_ hHeld ?_
   refine pq_ 57 151 HT_ ?_
   refine pq_ 58 152 HT_ ?_
   refine pq_ 59 153 HT_ ?_
   refine pq_ 60 154 HT_ ?_
   refine pq_ 61 155 HT_ ?_
   refine tk_ 62 156 HT_ HW_ hHeld ?_
   refine pq_ 63 157 HT_ ?_
   refine pq_ 64 158 HT_ ?_
   refine pq_ 65 159 HT_ ?_
   refine pq_ 66 160 HT_ ?_
   refine pq_ 67 161 HT_ ?_
   refine pq_ 68 162 HT_ ?_
   refine tk_ 69 163 HT_ HW_ hHeld ?_
   refine one_ (i := 70) (N := some 164) #[T,T,T,T,T,T,T,T,T,T,T,T,T,T,T,T,T,T,T,T,T,T,T,T,T,T,T,T,T,T,T,T,T,T,T,T,T,T,T,T,T,T,T,T,T,T,T,T,T,T,T,T,T,T,T,T,T,T,T,T,T,T,T,T,T,T,T,T,T,T,T,F,F,F,F,F,F,F,F,F,F,F,F,F,F,F,F,F,F,F,F,F,F,F,F] rfl rfl (one_of HT_.out (by kernel_rfl)) (by decide) (fun K hK => ?_)
   refine goes_ Try.func55 (by kernel_rfl) rfl #[.agg #[.int .i64 1, .int .i64 3, .slice Ao26 y212.length co26]] (by rfl) rfl rfl (by (try simp only [m0_, m1_, m2_]); first | done | rfl) ?_
   with_reducible refine (queue_Ready.calls kj19 1 3 _ _ y212 t316 _ ?side1 ?side2 A141.out).mono ?_
   (case side1 => repeat (first | exact (Kd.R_reads' HO_216002.out).2.2 | (with_reducible refine ca_ ?_ _) | (with_reducible refine cn_ ?_ _) | (with_reducible refine cd_ ?_)))
   (case side2 => exact (Kd.R_reads' HO_216002.out).2.1)
   rintro e w154 ⟨v317, rfl, ho0, hb⟩
   obtain ⟨_, _, _, _, _, _, _, _, _, _, _, _, _, _, _, _, _, _, h18_, h19_, h20_, h21_, h22_, h23_, h24_, h25_, h26_, h27_, h28_, h29_⟩ := hHeld
   have o_ := fun (p_ : Addr) (v_ : Value) => @on_ _ _ p_ v_ hb
   refine ⟨_, rfl, ?_⟩
   have n0_ := A_ (Kd.R_elder' (pr_ HO_14.out) (Kd.R_base ho0) hb); have n1_ := A_ (Kd.R_elder' (pr_ HO_216002.out) (Kd.R_base ho0) hb); have n2_ := A_ (Kd.R_elder' (pr_ HO_268002.out) (Kd.R_base ho0) hb); have n3_ := A_ (Kd.V_elder' (pv_ HO_278002.out) (Kd.R_base ho0) hb); have n4_ := A_ (Kd.V_elder' (pv_ HO_288002.out) (Kd.R_base ho0) hb); have n5_ := A_ (Kd.R_elder' (pr_ HO_294002.out) (Kd.R_base ho0) hb); have n6_ := A_ (Kd.R_lower (Kd.R_newB (Kd.R_new' (Kd.R_new' (Kd.R_new' (Kd.R_new' ho0 (Kd.R_lt (pr_ HO_14.out))) (Kd.R_lt (pr_ HO_216002.out))) (Kd.R_lt (pr_ HO_268002.out))) (Kd.R_lt (pr_ HO_294002.out))) (g := gb301) (o := .cells #[.int .i64 t294, .int .i64 t295, .int .i64 t296, .int .i64 t297, .int .i64 t298, .string t299] 24 (0, 0)) (by (with_reducible repeat (first | refine bn_ ?_ _ | refine bd_ ?_ | refine ba_ ?_ _)); exact BK301.out)) (below_size bw_)); have n7_ := A_ (kb_ BK215 hb); have n8_ := A_ (kb_ BK267 hb); have n9_ := A_ (kb_ BK277 hb); have n10_ := A_ (kb_ BK287 hb); have n11_ := A_ (kb_ BK293 hb); have n12_ := A_ (kb_ BK301 hb); have n13_ := A_ (below_step bw_ hb); replace HO_14 := n0_; replace HO_216002 := n1_; replace HO_268002 := n2_; replace HO_278002 := n3_; replace HO_288002 := n4_; replace HO_294002 := n5_; have HO318 := n6_; replace BK215 := n7_; replace BK267 := n8_; replace BK277 := n9_; replace BK287 := n10_; replace BK293 := n11_; replace BK301 := n12_; replace HB := n13_; clear n0_ n1_ n2_ n3_ n4_ n5_ n6_ n7_ n8_ n9_ n10_ n11_ n12_ n13_
   (try clear hb)
   (try clear hb2)
   (try clear hk)
   (try clear hi)
   (try clear ho0)
   obtain ⟨Ao155, co155, eo155⟩ := Kd.R_slice HO318.out
   (first | subst eo155 | (injection eo155 with f1_ f2_ f3_; have f4_ := f1_.symm; have f5_ := f3_.symm; clear f1_ f2_ f3_; subst f4_; subst f5_))
   refine hK.out _ _ ⟨e_ BK267 0, e_ BK267 1, e_ BK267 2, e_ BK277 0, e_ BK277 1, e_ BK277 2, e_ BK293 0, e_ BK293 1, e_ BK293 2, e_ BK301 0, e_ BK301 1, e_ BK301 2, e_ BK301 3, e_ BK301 4, e_ BK301 5, e_ BK215 0, e_ BK215 1, e_ BK215 2, o_ _ _ h18_, o_ _ _ h19_, o_ _ _ h20_, o_ _ _ h21_, o_ _ _ h22_, o_ _ _ h23_, o_ _ _ h24_, o_ _ _ h25_, o_ _ _ h26_, o_ _ _ h27_, o_ _ _ h28_, o_ _ _ h29_⟩ (fun hHeld => ?_)
   clear hK K
   refine norm_ (a' := ?_) ?_ ?_
   rotate_left
   · show Act.put _ (some 164) _ = _
     simp only [Act.put, s0_, s1_, s2_, i64_w, i32_w]
     rfl
   refine pq_ 71 165 HT_ ?_
   refine pq_ 72 166 HT_ ?_
   refine pq_ 73 167 HT_ ?_
   refine pq_ 74 168 HT_ ?_
   refine tk_ 75 169 HT_ HW_ hHeld ?_
   refine one_ (i := 76) (N := some 170) #[T,T,T,T,T,T,T,T,T,T,T,T,T,T,T,T,T,T,T,T,T,T,T,T,T,T,T,T,T,T,T,T,T,T,T,T,T,T,T,T,T,T,T,T,T,T,T,T,T,T,T,T,T,T,T,T,T,T,T,T,T,T,T,T,T,T,T,T,T,T,T,T,T,T,T,T,T,F,F,F,F,F,F,F,F,F,F,F,F,F,F,F,F,F,F] rfl rfl (one_of HT_.out (by kernel_rfl)) (by decide) (fun K hK => ?_)
   refine goes_ Try.func55 (by kernel_rfl) rfl #[.agg #[.int .i64 t262, .int .i64 t263, .slice (some ad302) t264.length co52]] (by rfl) rfl rfl (by (try simp only [m0_, m1_, m2_]); first | done | rfl) ?_
   with_reducible refine (queue_Ready.calls kj19 t262 t263 _ _ t264 t319 _ ?side1 ?side2 A143.out).mono ?_
   (case side1 => repeat (first | exact (Kd.R_reads' HO_268002.out).2.2 | (with_reducible refine ca_ ?_ _) | (with_reducible refine cn_ ?_ _) | (with_reducible refine cd_ ?_)))
   (case side2 => exact (Kd.R_reads' HO_268002.out).2.1)
   rintro e w156 ⟨v320, rfl, ho0, hb⟩
   obtain ⟨_, _, _, _, _, _, _, _, _, _, _, _, _, _, _, _, _, _, h18_, h19_, h20_, h21_, h22_, h23_, h24_, h25_, h26_, h27_, h28_, h29_⟩ := hHeld
   have o_ := fun (p_ : Addr) (v_ : Value) => @on_ _ _ p_ v_ hb
   refine ⟨_, rfl, ?_⟩
   have n0_ := A_ (Kd.R_elder' (pr_ HO_14.out) (Kd.R_base ho0) hb); have n1_ := A_ (Kd.R_elder' (pr_ HO_216002.out) (Kd.R_base ho0) hb); have n2_ := A_ (Kd.R_elder' (pr_ HO_268002.out) (Kd.R_base ho0) hb); have n3_ := A_ (Kd.V_elder' (pv_ HO_278002.out) (Kd.R_base ho0) hb); have n4_ := A_ (Kd.V_elder' (pv_ HO_288002.out) (Kd.R_base ho0) hb); have n5_ := A_ (Kd.R_elder' (pr_ HO_294002.out) (Kd.R_base ho0) hb); have n6_ := A_ (Kd.R_elder' (pr_ HO318.out) (Kd.R_base ho0) hb); have n7_ := A_ (Kd.R_lower (Kd.R_newB (Kd.R_new' (Kd.R_new' (Kd.R_new' (Kd.R_new' (Kd.R_new' ho0 (Kd.R_lt (pr_ HO_14.out))) (Kd.R_lt (pr_ HO_216002.out))) (Kd.R_lt (pr_ HO_268002.out))) (Kd.R_lt (pr_ HO_294002.out))) (Kd.R_lt (pr_ HO318.out))) (g := gb301) (o := .cells #[.int .i64 t294, .int .i64 t295, .int .i64 t296, .int .i64 t297, .int .i64 t298, .string t299] 24 (0, 0)) (by (with_reducible repeat (first | refine bn_ ?_ _ | refine bd_ ?_ | refine ba_ ?_ _)); exact BK301.out)) (below_size bw_)); have n8_ := A_ (kb_ BK215 hb); have n9_ := A_ (kb_ BK267 hb); have n10_ := A_ (kb_ BK277 hb); have n11_ := A_ (kb_ BK287 hb); have n12_ := A_ (kb_ BK293 hb); have n13_ := A_ (kb_ BK301 hb); have n14_ := A_ (below_step bw_ hb); replace HO_14 := n0_; replace HO_216002 := n1_; replace HO_268002 := n2_; replace HO_278002 := n3_; replace HO_288002 := n4_; replace HO_294002 := n5_; replace HO318 := n6_; have HO321 := n7_; replace BK215 := n8_; replace BK267 := n9_; replace BK277 := n10_; replace BK287 := n11_; replace BK293 := n12_; replace BK301 := n13_; replace HB := n14_; clear n0_ n1_ n2_ n3_ n4_ n5_ n6_ n7_ n8_ n9_ n10_ n11_ n12_ n13_ n14_
   (try clear hb)
   (try clear hb2)
   (try clear hk)
   (try clear hi)
   (try clear ho0)
   obtain ⟨Ao157, co157, eo157⟩ := Kd.R_slice HO321.out
   (first | subst eo157 | (injection eo157 with f1_ f2_ f3_; have f4_ := f1_.symm; have f5_ := f3_.symm; clear f1_ f2_ f3_; subst f4_; subst f5_))
   refine hK.out _ _ ⟨e_ BK267 0, e_ BK267 1, e_ BK267 2, e_ BK277 0, e_ BK277 1, e_ BK277 2, e_ BK293 0, e_ BK293 1, e_ BK293 2, e_ BK301 0, e_ BK301 1, e_ BK301 2, e_ BK301 3, e_ BK301 4, e_ BK301 5, e_ BK215 0, e_ BK215 1, e_ BK215 2, o_ _ _ h18_, o_ _ _ h19_, o_ _ _ h20_, o_ _ _ h21_, o_ _ _ h22_, o_ _ _ h23_, o_ _ _ h24_, o_ _ _ h25_, o_ _ _ h26_, o_ _ _ h27_, o_ _ _ h28_, o_ _ _ h29_⟩ (fun hHeld => ?_)
   clear hK K
   refine norm_ (a' := ?_) ?_ ?_
   rotate_left
   · show Act.put _ (some 170) _ = _
     simp only [Act.put, s0_, s1_, s2_, i64_w, i32_w]
     rfl
   refine pq_ 77 171 HT_ ?_
   refine pq_ 78 172 HT_ ?_
   refine pq_ 79 173 HT_ ?_
   refine pq_ 80 174 HT_ ?_
   refine tk_ 81 175 HT_ HW_ hHeld ?_
   refine one_ (i := 82) (N := some 176) #[T,T,T,T,T,T,T,T,T,T,T,T,T,T,T,T,T,T,T,T,T,T,T,T,T,T,T,T,T,T,T,T,T,T,T,T,T,T,T,T,T,T,T,T,T,T,T,T,T,T,T,T,T,T,T,T,T,T,T,T,T,T,T,T,T,T,T,T,T,T,T,T,T,T,T,T,T,T,T,T,T,T,T,F,F,F,F,F,F,F,F,F,F,F,F] rfl rfl (one_of HT_.out (by kernel_rfl)) (by decide) (fun K hK => ?_)
   refine goes_ Try.func56 (by kernel_rfl) rfl #[.agg #[.int .i64 1, .int .i64 3, .slice Ao26 y212.length co26]] (by rfl) rfl rfl (by (try simp only [m0_, m1_, m2_]); first | done | rfl) ?_
   with_reducible refine (queue_Slots.calls kj19 1 3 _ _ y212 t322 _ ?side1 ?side2 A145.out).mono ?_
   (case side1 => repeat (first | exact (Kd.R_reads' HO_216002.out).2.2 | (with_reducible refine ca_ ?_ _) | (with_reducible refine cn_ ?_ _) | (with_reducible refine cd_ ?_)))
   (case side2 => exact (Kd.R_reads' HO_216002.out).2.1)
   rintro e w158 ⟨rfl, hb⟩
   obtain ⟨_, _, _, _, _, _, _, _, _, _, _, _, _, _, _, _, _, _, h18_, h19_, h20_, h21_, h22_, h23_, h24_, h25_, h26_, h27_, h28_, h29_⟩ := hHeld
   have o_ := fun (p_ : Addr) (v_ : Value) => @on_ _ _ p_ v_ hb
   refine ⟨_, rfl, ?_⟩
   have n0_ := A_ (Kd.R_below (pr_ HO_14.out) hb); have n1_ := A_ (Kd.R_below (pr_ HO_216002.out) hb); have n2_ := A_ (Kd.R_below (pr_ HO_268002.out) hb); have n3_ := A_ (Kd.V_below (pv_ HO_278002.out) hb); have n4_ := A_ (Kd.V_below (pv_ HO_288002.out) hb); have n5_ := A_ (Kd.R_below (pr_ HO_294002.out) hb); have n6_ := A_ (Kd.R_below (pr_ HO318.out) hb); have n7_ := A_ (Kd.R_below (pr_ HO321.out) hb); have n8_ := A_ (kb_ BK215 hb); have n9_ := A_ (kb_ BK267 hb); have n10_ := A_ (kb_ BK277 hb); have n11_ := A_ (kb_ BK287 hb); have n12_ := A_ (kb_ BK293 hb); have n13_ := A_ (kb_ BK301 hb); have n14_ := A_ (below_step bw_ hb); replace HO_14 := n0_; replace HO_216002 := n1_; replace HO_268002 := n2_; replace HO_278002 := n3_; replace HO_288002 := n4_; replace HO_294002 := n5_; replace HO318 := n6_; replace HO321 := n7_; replace BK215 := n8_; replace BK267 := n9_; replace BK277 := n10_; replace BK287 := n11_; replace BK293 := n12_; replace BK301 := n13_; replace HB := n14_; clear n0_ n1_ n2_ n3_ n4_ n5_ n6_ n7_ n8_ n9_ n10_ n11_ n12_ n13_ n14_
   (try clear hb)
   (try clear hb2)
   (try clear hk)
   (try clear hi)
   refine hK.out _ _ ⟨e_ BK267 0, e_ BK267 1, e_ BK267 2, e_ BK277 0, e_ BK277 1, e_ BK277 2, e_ BK293 0, e_ BK293 1, e_ BK293 2, e_ BK301 0, e_ BK301 1, e_ BK301 2, e_ BK301 3, e_ BK301 4, e_ BK301 5, e_ BK215 0, e_ BK215 1, e_ BK215 2, o_ _ _ h18_, o_ _ _ h19_, o_ _ _ h20_, o_ _ _ h21_, o_ _ _ h22_, o_ _ _ h23_, o_ _ _ h24_, o_ _ _ h25_, o_ _ _ h26_, o_ _ _ h27_, o_ _ _ h28_, o_ _ _ h29_⟩ (fun hHeld => ?_)
   clear hK K
   refine norm_ (a' := ?_) ?_ ?_
   rotate_left
   · show Act.put _ (some 176) _ = _
     simp only [Act.put, s0_, s1_, s2_, i64_w, i32_w]
     rfl
   refine pq_ 83 177 HT_ ?_
   refine pq_ 84 178 HT_ ?_
   refine pq_ 85 179 HT_ ?_
   refine tk_ 86 180 HT_ HW_ hHeld ?_
   refine one_ (i := 87) (N := some 181) #[T,T,T,T,T,T,T,T,T,T,T,T,T,T,T,T,T,T,T,T,T,T,T,T,T,T,T,T,T,T,T,T,T,T,T,T,T,T,T,T,T,T,T,T,T,T,T,T,T,T,T,T,T,T,T,T,T,T,T,T,T,T,T,T,T,T,T,T,T,T,T,T,T,T,T,T,T,T,T,T,T,T,T,T,T,T,T,T,F,F,F,F,F,F,F] rfl rfl (one_of HT_.out (by kernel_rfl)) (by decide) (fun K hK => ?_)
   refine goes_ Try.func54 (by kernel_rfl) rfl #[.agg #[.int .i64 1, .int .i64 3, .slice Ao26 y212.length co26], .int .i64 3] (by rfl) rfl rfl (by (try simp only [m0_, m1_, m2_]); first | done | rfl) ?_
   with_reducible refine (queue_Check.calls kj19 1 3 _ _ y212 3 true _ ?side1 ?side2 A147.out).mono ?_
   (case side1 => repeat (first | exact (Kd.R_reads' HO_216002.out).2.2 | (with_reducible refine ca_ ?_ _) | (with_reducible refine cn_ ?_ _) | (with_reducible refine cd_ ?_)))
   (case side2 => exact (Kd.R_reads' HO_216002.out).2.1)
   rintro e w159 ⟨rfl, hb⟩
   obtain ⟨_, _, _, _, _, _, _, _, _, _, _, _, _, _, _, _, _, _, h18_, h19_, h20_, h21_, h22_, h23_, h24_, h25_, h26_, h27_, h28_, h29_⟩ := hHeld
   have o_ := fun (p_ : Addr) (v_ : Value) => @on_ _ _ p_ v_ hb
   refine ⟨_, rfl, ?_⟩
   have n0_ := A_ (Kd.R_below (pr_ HO_14.out) hb); have n1_ := A_ (Kd.R_below (pr_ HO_216002.out) hb); have n2_ := A_ (Kd.R_below (pr_ HO_268002.out) hb); have n3_ := A_ (Kd.V_below (pv_ HO_278002.out) hb); have n4_ := A_ (Kd.V_below (pv_ HO_288002.out) hb); have n5_ := A_ (Kd.R_below (pr_ HO_294002.out) hb); have n6_ := A_ (Kd.R_below (pr_ HO318.out) hb); have n7_ := A_ (Kd.R_below (pr_ HO321.out) hb); have n8_ := A_ (kb_ BK215 hb); have n9_ := A_ (kb_ BK267 hb); have n10_ := A_ (kb_ BK277 hb); have n11_ := A_ (kb_ BK287 hb); have n12_ := A_ (kb_ BK293 hb); have n13_ := A_ (kb_ BK301 hb); have n14_ := A_ (below_step bw_ hb); replace HO_14 := n0_; replace HO_216002 := n1_; replace HO_268002 := n2_; replace HO_278002 := n3_; replace HO_288002 := n4_; replace HO_294002 := n5_; replace HO318 := n6_; replace HO321 := n7_; replace BK215 := n8_; replace BK267 := n9_; replace BK277 := n10_; replace BK287 := n11_; replace BK293 := n12_; replace BK301 := n13_; replace HB := n14_; clear n0_ n1_ n2_ n3_ n4_ n5_ n6_ n7_ n8_ n9_ n10_ n11_ n12_ n13_ n14_
   (try clear hb)
   (try clear hb2)
   (try clear hk)
   (try clear hi)
   refine hK.out _ _ ⟨e_ BK267 0, e_ BK267 1, e_ BK267 2, e_ BK277 0, e_ BK277 1, e_ BK277 2, e_ BK293 0, e_ BK293 1, e_ BK293 2, e_ BK301 0, e_ BK301 1, e_ BK301 2, e_ BK301 3, e_ BK301 4, e_ BK301 5, e_ BK215 0, e_ BK215 1, e_ BK215 2, o_ _ _ h18_, o_ _ _ h19_, o_ _ _ h20_, o_ _ _ h21_, o_ _ _ h22_, o_ _ _ h23_, o_ _ _ h24_, o_ _ _ h25_, o_ _ _ h26_, o_ _ _ h27_, o_ _ _ h28_, o_ _ _ h29_⟩ (fun hHeld => ?_)
   clear hK K
   refine norm_ (a' := ?_) ?_ ?_
   rotate_left
   · show Act.put _ (some 181) _ = _
     simp only [Act.put, s0_, s1_, s2_, i64_w, i32_w]
     rfl
   refine pq_ 88 182 HT_ ?_
   refine pq_ 89 183 HT_ ?_
   refine tk_ 90 184 HT_ HW_ hHeld ?_
   refine one_ (i := 91) (N := some 185) #[T,T,T,T,T,T,T,T,T,T,T,T,T,T,T,T,T,T,T,T,T,T,T,T,T,T,T,T,T,T,T,T,T,T,T,T,T,T,T,T,T,T,T,T,T,T,T,T,T,T,T,T,T,T,T,T,T,T,T,T,T,T,T,T,T,T,T,T,T,T,T,T,T,T,T,T,T,T,T,T,T,T,T,T,T,T,T,T,T,T,T,T,F,F,F] rfl rfl (one_of HT_.out (by kernel_rfl)) (by decide) (fun K hK => ?_)
   refine goes_ Try.func54 (by kernel_rfl) rfl #[.agg #[.int .i64 1, .int .i64 3, .slice Ao26 y212.length co26], .int .i64 2] (by rfl) rfl rfl (by (try simp only [m0_, m1_, m2_]); first | done | rfl) ?_
   with_reducible refine (queue_Check.calls kj19 1 3 _ _ y212 2 t324 _ ?side1 ?side2 A149.out).mono ?_
   (case side1 => repeat (first | exact (Kd.R_reads' HO_216002.out).2.2 | (with_reducible refine ca_ ?_ _) | (with_reducible refine cn_ ?_ _) | (with_reducible refine cd_ ?_)))
   (case side2 => exact (Kd.R_reads' HO_216002.out).2.1)
   rintro e w160 ⟨rfl, hb⟩
   obtain ⟨_, _, _, _, _, _, _, _, _, _, _, _, _, _, _, _, _, _, h18_, h19_, h20_, h21_, h22_, h23_, h24_, h25_, h26_, h27_, h28_, h29_⟩ := hHeld
   have o_ := fun (p_ : Addr) (v_ : Value) => @on_ _ _ p_ v_ hb
   refine ⟨_, rfl, ?_⟩
   have n0_ := A_ (Kd.R_below (pr_ HO_14.out) hb); have n1_ := A_ (Kd.R_below (pr_ HO_216002.out) hb); have n2_ := A_ (Kd.R_below (pr_ HO_268002.out) hb); have n3_ := A_ (Kd.V_below (pv_ HO_278002.out) hb); have n4_ := A_ (Kd.V_below (pv_ HO_288002.out) hb); have n5_ := A_ (Kd.R_below (pr_ HO_294002.out) hb); have n6_ := A_ (Kd.R_below (pr_ HO318.out) hb); have n7_ := A_ (Kd.R_below (pr_ HO321.out) hb); have n8_ := A_ (kb_ BK215 hb); have n9_ := A_ (kb_ BK267 hb); have n10_ := A_ (kb_ BK277 hb); have n11_ := A_ (kb_ BK287 hb); have n12_ := A_ (kb_ BK293 hb); have n13_ := A_ (kb_ BK301 hb); have n14_ := A_ (below_step bw_ hb); replace HO_14 := n0_; replace HO_216002 := n1_; replace HO_268002 := n2_; replace HO_278002 := n3_; replace HO_288002 := n4_; replace HO_294002 := n5_; replace HO318 := n6_; replace HO321 := n7_; replace BK215 := n8_; replace BK267 := n9_; replace BK277 := n10_; replace BK287 := n11_; replace BK293 := n12_; replace BK301 := n13_; replace HB := n14_; clear n0_ n1_ n2_ n3_ n4_ n5_ n6_ n7_ n8_ n9_ n10_ n11_ n12_ n13_ n14_
   (try clear hb)
   (try clear hb2)
   (try clear hk)
   (try clear hi)
   refine hK.out _ _ ⟨e_ BK267 0, e_ BK267 1, e_ BK267 2, e_ BK277 0, e_ BK277 1, e_ BK277 2, e_ BK293 0, e_ BK293 1, e_ BK293 2, e_ BK301 0, e_ BK301 1, e_ BK301 2, e_ BK301 3, e_ BK301 4, e_ BK301 5, e_ BK215 0, e_ BK215 1, e_ BK215 2, o_ _ _ h18_, o_ _ _ h19_, o_ _ _ h20_, o_ _ _ h21_, o_ _ _ h22_, o_ _ _ h23_, o_ _ _ h24_, o_ _ _ h25_, o_ _ _ h26_, o_ _ _ h27_, o_ _ _ h28_, o_ _ _ h29_⟩ (fun hHeld => ?_)
   clear hK K
   refine norm_ (a' := ?_) ?_ ?_
   rotate_left
   · show Act.put _ (some 185) _ = _
     simp only [Act.put, s0_, s1_, s2_, i64_w, i32_w]
     rfl
   refine pq_ 92 186 HT_ ?_
   refine pq_ 93 187 HT_ ?_
   refine pq_ 94 0 HT_ ?_
   refine done_ (done_of HT_.out (by kernel_rfl)) ?_
   try go_wp2
   go_ret
   exact ⟨by first | rfl | (simp [errW_none, errW_some] <;> rfl) | (simp [*, errW_none, errW_some] <;> rfl), by repeat (first | (with_reducible first | exact HB.out | apply wa_ | apply wn_ | apply wd_ | refine ws_ ?_ GE215.out | refine ws_ ?_ GE267.out | refine ws_ ?_ GE277.out | refine ws_ ?_ GE287.out | refine ws_ ?_ GE293.out | refine ws_ ?_ GE301.out) | exact HB.out)⟩
end Go.Proofs.Ytehncbhmdgdkjaa.Q
