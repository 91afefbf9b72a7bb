/- The plain statement behind the law CodecOrder, proved for every input; no condition but the types' own bounds. -/
import Derived.Test.YtfpomamhcjkoeabCodecMore
import Derived.Test.YtfpomamhcjkoeabCx8
namespace Go.Proofs.Ytfpomamhcjkoeab.Pure
set_option linter.unusedSimpArgs false
set_option linter.unusedVariables false
open Go.RowKit Go.Proofs.Ytfpomamhcjkoeab.C Go.Proofs.Ytfpomamhcjkoeab.CodecLaws Go.Proofs.Ytfpomamhcjkoeab.Row Go.Proofs.YtfpomamhcjkoeabW.PrintWords Go.Proofs.YtfpomamhcjkoeabW.PrintLast
theorem toList_str (l : List Int) : (strOfNums l).toList = l.map fun n => UInt8.ofNat n.toNat := by
  rw [ByteArray.toList_eq]
  simp [strOfNums]
theorem toList_of (s : ByteArray) : s.toList = (bytesOf s).map fun n => UInt8.ofNat n.toNat := by
  rw [← toList_str, str_bytesOf]
def lessI : List Int → List Int → Bool
  | _, [] => false
  | [], _ :: _ => true
  | a :: x, b :: y => decide (a < b) || (decide (a = b) && lessI x y)
theorem less_map (a : List Int) : ∀ b : List Int, Bytes a → Bytes b → Op.bytesLess (a.map fun n => UInt8.ofNat n.toNat) (b.map fun n => UInt8.ofNat n.toNat) = lessI a b := by
  induction a with
  | nil =>
    intro b _ _
    cases b with
    | nil => rfl
    | cons y b => rfl
  | cons x a ih =>
    intro b ha hb
    cases b with
    | nil => rfl
    | cons y b =>
      have hx := ha x List.mem_cons_self
      have hy := hb y List.mem_cons_self
      have e := ih b (fun z hz => ha z (List.mem_cons_of_mem _ hz)) (fun z hz => hb z (List.mem_cons_of_mem _ hz))
      simp only [List.map_cons, Op.bytesLess, lessI]
      rw [e]
      have l : (UInt8.ofNat x.toNat < UInt8.ofNat y.toNat) ↔ x < y := by
        rw [UInt8.lt_iff_toNat_lt, UInt8.toNat_ofNat', UInt8.toNat_ofNat']
        omega
      have q : (UInt8.ofNat x.toNat = UInt8.ofNat y.toNat) ↔ x = y := by
        rw [← UInt8.toNat_inj, UInt8.toNat_ofNat', UInt8.toNat_ofNat']
        omega
      congr 1
      · exact decide_eq_decide.2 l
      · congr 1
        by_cases h : x = y
        · rw [decide_eq_true h, beq_iff_eq.2 (q.2 h)]
        · rw [decide_eq_false h, beq_eq_false_iff_ne.2 (fun z => h (q.1 z))]
theorem less_snoc (a : List Int) : ∀ (b : List Int) (c d : Int), a.length = b.length → lessI (a ++ [c]) (b ++ [d]) = (lessI a b || (decide (a = b) && decide (c < d))) := by
  induction a with
  | nil =>
    intro b c d h
    obtain rfl : b = [] := List.eq_nil_of_length_eq_zero h.symm
    simp [lessI]
  | cons x a ih =>
    intro b c d h
    cases b with
    | nil => cases h
    | cons y b =>
      have e := ih b c d (by simpa using h)
      simp only [List.cons_append, lessI]
      rw [e]
      by_cases hxy : x = y
      · subst hxy
        simp
      · simp [hxy]
theorem dg_order (m : Nat) : ∀ x y : Nat, x / 256 ^ (m + 1) = 0 → y / 256 ^ (m + 1) = 0 → more256 m x = more256 m y → lessI (dg m x) (dg m y) = decide (x < y) ∧ (dg m x = dg m y ↔ x = y) := by
  have one : ∀ x y : Nat, x / 256 = 0 → y / 256 = 0 → lessI [((x % 256 : Nat) : Int)] [((y % 256 : Nat) : Int)] = decide (x < y) ∧ ([((x % 256 : Nat) : Int)] = [((y % 256 : Nat) : Int)] ↔ x = y) := by
    intro x y hx hy
    rw [show x % 256 = x by omega, show y % 256 = y by omega]
    refine ⟨?_, ?_⟩
    · simp [lessI]
    · simp only [List.cons.injEq, and_true]; omega
  induction m with
  | zero =>
    intro x y hx hy _
    exact one x y (by simpa using hx) (by simpa using hy)
  | succ m ih =>
    intro x y hx hy h
    unfold more256 at h
    unfold dg
    by_cases cx : x / 256 = 0
    · by_cases cy : y / 256 = 0
      · rw [if_pos cx, if_pos cy]
        exact one x y cx cy
      · rw [if_pos cx, if_neg cy] at h
        omega
    · by_cases cy : y / 256 = 0
      · rw [if_neg cx, if_pos cy] at h
        omega
      · rw [if_neg cx, if_neg cy] at h
        obtain ⟨i1, i2⟩ := ih (x / 256) (y / 256) (by rw [Nat.div_div_eq_div_mul, ← Nat.pow_succ']; exact hx) (by rw [Nat.div_div_eq_div_mul, ← Nat.pow_succ']; exact hy) (by omega)
        have hl : (dg m (x / 256)).length = (dg m (y / 256)).length := by rw [dg_len, dg_len]; omega
        rw [if_neg cx, if_neg cy, less_snoc _ _ _ _ hl, i1]
        have qx := Nat.div_add_mod x 256
        have qy := Nat.div_add_mod y 256
        have rx := Nat.mod_lt x (show 0 < 256 by omega)
        have ry := Nat.mod_lt y (show 0 < 256 by omega)
        refine ⟨?_, ?_⟩
        · by_cases e : x / 256 = y / 256
          · rw [decide_eq_true (i2.2 e), decide_eq_false (show ¬ x / 256 < y / 256 by omega), Bool.false_or, Bool.true_and]
            exact decide_eq_decide.2 (by omega)
          · rw [decide_eq_false (fun z => e (i2.1 z)), Bool.false_and, Bool.or_false]
            exact decide_eq_decide.2 (by omega)
        · have sp : (dg m (x / 256) ++ [((x % 256 : Nat) : Int)] = dg m (y / 256) ++ [((y % 256 : Nat) : Int)]) ↔ (dg m (x / 256) = dg m (y / 256) ∧ [((x % 256 : Nat) : Int)] = [((y % 256 : Nat) : Int)]) := ⟨fun z => List.append_inj z hl, fun z => by rw [z.1, z.2]⟩
          rw [sp, i2]
          simp only [List.cons.injEq, and_true]
          omega
theorem more_less (m : Nat) : ∀ x y : Nat, more256 m x < more256 m y → x < y := by
  induction m with
  | zero => intro x y h; simp [more256] at h
  | succ m ih =>
    intro x y h
    unfold more256 at h
    by_cases cx : x / 256 = 0
    · by_cases cy : y / 256 = 0
      · rw [if_pos cx, if_pos cy] at h
        omega
      · omega
    · by_cases cy : y / 256 = 0
      · rw [if_neg cx, if_pos cy] at h
        omega
      · rw [if_neg cx, if_neg cy] at h
        have := ih (x / 256) (y / 256) (by omega)
        omega
theorem num_order (x y : Nat) (hx : x < 9223372036854775808) (hy : y < 9223372036854775808) :
    lessI (((dg 8 x).length : Int) :: dg 8 x) (((dg 8 y).length : Int) :: dg 8 y) = decide (x < y) ∧ (((dg 8 x).length : Int) :: dg 8 x = ((dg 8 y).length : Int) :: dg 8 y ↔ x = y) := by
  have big : ∀ z : Nat, z < 9223372036854775808 → z / 256 ^ (8 + 1) = 0 := fun z hz => Nat.div_eq_of_lt (Nat.lt_of_lt_of_le hz (show 9223372036854775808 ≤ 256 ^ (8 + 1) by decide))
  rcases Nat.lt_trichotomy (more256 8 x) (more256 8 y) with h | h | h
  · have l := more_less 8 x y h
    rw [dg_len, dg_len]
    refine ⟨?_, ?_⟩
    · simp only [lessI]
      rw [decide_eq_true (show ((more256 8 x + 1 : Nat) : Int) < ((more256 8 y + 1 : Nat) : Int) by omega), decide_eq_true l, Bool.true_or]
    · simp only [List.cons.injEq]
      constructor
      · intro z; omega
      · intro z; omega
  · obtain ⟨i1, i2⟩ := dg_order 8 x y (big x hx) (big y hy) h
    rw [dg_len, dg_len, h]
    refine ⟨?_, ?_⟩
    · simp only [lessI]
      rw [i1, decide_eq_false (Int.lt_irrefl _), decide_eq_true trivial, Bool.false_or, Bool.true_and]
    · simp only [List.cons.injEq, true_and]
      exact i2
  · have l := more_less 8 y x h
    rw [dg_len, dg_len]
    refine ⟨?_, ?_⟩
    · simp only [lessI]
      rw [decide_eq_false (show ¬ ((more256 8 x + 1 : Nat) : Int) < ((more256 8 y + 1 : Nat) : Int) by omega), decide_eq_false (show ¬ ((more256 8 x + 1 : Nat) : Int) = ((more256 8 y + 1 : Nat) : Int) by omega), decide_eq_false (show ¬ x < y by omega)]
      rfl
    · simp only [List.cons.injEq]
      constructor
      · intro z; omega
      · intro z; omega
theorem same (s t : ByteArray) : (s.toList == t.toList) = decide (bytesOf s = bytesOf t) := by
  by_cases h : bytesOf s = bytesOf t
  · rw [decide_eq_true h, bytes_inj h]
    exact beq_self_eq_true _
  · rw [decide_eq_false h, beq_eq_false_iff_ne]
    intro z
    apply h
    rw [ByteArray.toList_eq, ByteArray.toList_eq] at z
    unfold bytesOf
    rw [z]
theorem numbers_less (a b : Int) (ha : 0 ≤ a) (hb : 0 ≤ b) (ha1 : a ≤ 9223372036854775807) (hb1 : b ≤ 9223372036854775807) : Op.bytesLess (numStr a).toList (numStr b).toList = decide (a < b) ∧ ((numStr a).toList == (numStr b).toList) = (a == b) := by
  obtain ⟨x, rfl⟩ := Int.eq_ofNat_of_zero_le ha
  obtain ⟨y, rfl⟩ := Int.eq_ofNat_of_zero_le hb
  have hx : x < 9223372036854775808 := by omega
  have hy : y < 9223372036854775808 := by omega
  have nx : bytesOf (numStr (x : Int)) = ((dg 8 x).length : Int) :: dg 8 x := by unfold numStr; rw [if_neg (by omega), Int.toNat_natCast, num_bytes x hx]
  have ny : bytesOf (numStr (y : Int)) = ((dg 8 y).length : Int) :: dg 8 y := by unfold numStr; rw [if_neg (by omega), Int.toNat_natCast, num_bytes y hy]
  obtain ⟨o1, o2⟩ := num_order x y hx hy
  refine ⟨?_, ?_⟩
  · rw [toList_of, toList_of, less_map _ _ (bytes_of _) (bytes_of _), nx, ny, o1]
    exact decide_eq_decide.2 (by omega)
  · rw [same, nx, ny]
    by_cases e : x = y
    · rw [decide_eq_true (o2.2 e), e]
      exact (beq_self_eq_true _).symm
    · rw [decide_eq_false (fun z => e (o2.1 z))]
      exact (beq_eq_false_iff_ne.2 (by omega)).symm
theorem texts_less (a b : ByteArray) (ha : a.size ≤ 65535) (h : a.size = b.size) : Op.bytesLess (textStr a).toList (textStr b).toList = Op.bytesLess a.toList b.toList := by
  rw [toList_of, toList_of, less_map _ _ (bytes_of _) (bytes_of _), toList_of a, toList_of b, less_map _ _ (bytes_of _) (bytes_of _), text_bytes a ha, text_bytes b (by omega), h]
  simp only [lessI]
  rw [decide_eq_false (Int.lt_irrefl _), decide_eq_false (Int.lt_irrefl _)]
  simp
theorem texts_same (a b : ByteArray) (ha : a.size ≤ 65535) (hb : b.size ≤ 65535) : ((textStr a).toList == (textStr b).toList) = (a.toList == b.toList) := by
  rw [same, same, text_bytes a ha, text_bytes b hb]
  apply decide_eq_decide.2
  constructor
  · intro z
    simp only [List.cons.injEq] at z
    exact z.2.2
  · intro z
    rw [z, size_bytes a, size_bytes b, z]
theorem CodecOrder : hopperlaw03_CodecOrder.Pure := by
  intro x y a b hxy _ _
  have hx := bounds_i64 hxy.1
  have hy := bounds_i64 hxy.2
  simp only at hx hy
  refine ⟨3, ?_⟩
  unfold hopperlaw03_CodecOrder.f
  have skip : hopperlaw03_CodecOrder.j0 3 a b true x y = some true := by
    simp only [hopperlaw03_CodecOrder.j0]
    rw [if_pos trivial, live]
    rfl
  by_cases c1 : x < 0
  · rw [if_pos c1]; exact skip
  · by_cases c2 : y < 0
    · rw [if_neg c1, if_pos c2]; exact skip
    · by_cases c3 : (a.size : Int) > 2000
      · rw [if_neg c1, if_neg c2, if_pos c3]; exact skip
      · by_cases c4 : (b.size : Int) > 2000
        · rw [if_neg c1, if_neg c2, if_neg c3, decide_eq_true c4]; exact skip
        · rw [if_neg c1, if_neg c2, if_neg c3, decide_eq_false c4]
          obtain ⟨n1, n2⟩ := numbers_less x y (by omega) (by omega) hx.2 hy.2
          have t1 := texts_same a b (by omega) (by omega)
          simp only [hopperlaw03_CodecOrder.j0]
          rw [if_neg (by decide), number x hx.2, number y hy.2, Option.bind_some, Option.bind_some, n1, n2, bne_self_eq_false, bne_self_eq_false, if_neg (by decide)]
          simp only [hopperlaw03_CodecOrder.j1]
          rw [if_neg (by decide), text, text, live]
          by_cases c5 : (a.size : Int) = (b.size : Int)
          · rw [if_pos c5, Option.bind_some, Option.bind_some, texts_less a b (by omega) (by omega), if_pos (beq_self_eq_true _), Option.bind_some, Option.bind_some, t1, if_pos (beq_self_eq_true _)]
            rfl
          · rw [if_neg c5, Option.bind_some, Option.bind_some, t1, if_pos (beq_self_eq_true _)]
            rfl
end Go.Proofs.Ytfpomamhcjkoeab.Pure
