/- Plain facts on float64: whole numbers below 2^53 are told exactly, so are their sums; no condition but the numbers' bound. -/
import Derived.Laws.FloatArith
namespace Go.Proofs.Ytahopljippfadaa.Flt
set_option linter.unusedSimpArgs false
set_option linter.unusedVariables false
open Ieee
theorem two_pos (k : Nat) : 0 < 2 ^ k := Nat.pow_pos (by omega)
theorem log2_mul (a k : Nat) (ha : a ≠ 0) : (a * 2 ^ k).log2 = a.log2 + k := by
  have hne : a * 2 ^ k ≠ 0 := Nat.mul_ne_zero ha (Nat.ne_of_gt (two_pos k))
  rw [Nat.log2_eq_iff hne]
  have h1 := Nat.log2_self_le ha
  have h2 := @Nat.lt_log2_self a
  refine ⟨?_, ?_⟩
  · rw [Nat.pow_add]; exact Nat.mul_le_mul_right _ h1
  · rw [show a.log2 + k + 1 = a.log2 + 1 + k by omega, Nat.pow_add]; exact Nat.mul_lt_mul_of_pos_right h2 (two_pos k)
/-- What a whole number's word is: its rung. -/
def rung (a : Nat) : Nat := if a = 0 then 0 else (a.log2 + 1022) * 2 ^ 52 + a * 2 ^ (52 - a.log2)
theorem log_small (a : Nat) (ha : a ≠ 0) (h : a < 2 ^ 53) : a.log2 ≤ 52 := by
  have := (Nat.log2_lt ha).2 h
  omega
theorem mant (a : Nat) (ha : a ≠ 0) (h : a < 2 ^ 53) : 2 ^ 52 ≤ a * 2 ^ (52 - a.log2) ∧ a * 2 ^ (52 - a.log2) < 2 ^ 53 := by
  have hl := log_small a ha h
  have h1 := Nat.log2_self_le ha
  have h2 := @Nat.lt_log2_self a
  have e1 : (2 : Nat) ^ 52 = 2 ^ a.log2 * 2 ^ (52 - a.log2) := by rw [← Nat.pow_add]; congr 1; omega
  have e2 : (2 : Nat) ^ 53 = 2 ^ (a.log2 + 1) * 2 ^ (52 - a.log2) := by rw [← Nat.pow_add]; congr 1; omega
  rw [e1, e2]
  exact ⟨Nat.mul_le_mul_right _ h1, Nat.mul_lt_mul_of_pos_right h2 (two_pos _)⟩
theorem cut_exact (way : Toward) (a k drop : Nat) (hd : drop ≤ k) (hway : way = .even ∨ way = .zero) : way.cut false (a * 2 ^ k) drop = a * 2 ^ (k - drop) := by
  unfold Toward.cut
  by_cases ha : a = 0
  · subst ha; rcases hway with rfl | rfl <;> simp [Nat.shiftLeft_eq, two_pos]
  · have hl := log2_mul a k ha
    have hm : min drop ((a * 2 ^ k).log2 + 2) = drop := by omega
    have e : a * 2 ^ k = a * 2 ^ (k - drop) * 2 ^ drop := by rw [Nat.mul_assoc, ← Nat.pow_add]; congr 2; omega
    simp only [hm, Nat.shiftLeft_eq, Nat.one_mul]
    have e1 : a * 2 ^ k / 2 ^ drop = a * 2 ^ (k - drop) := by rw [e, Nat.mul_div_cancel _ (two_pos _)]
    have e2 : a * 2 ^ k % 2 ^ drop = 0 := by rw [e, Nat.mul_mod_left]
    rw [e1, e2]
    have := two_pos drop
    rcases hway with rfl | rfl
    · have z : ¬ 2 ^ drop < 2 * 0 := by omega
      have z2 : ¬ 2 ^ drop = 2 * 0 := by omega
      simp [z2]
    · simp
theorem near (a k : Nat) (h : a < 2 ^ 53) (hk : k ≤ 1074) : double.nearest false (a * 2 ^ k) (-(k : Int)) = rung a := by
  unfold Format.nearest rung
  have lp : double.leastPlace = -1074 := by decide
  have fb : double.fractionBits = 52 := rfl
  by_cases ha : a = 0
  · subst ha; simp [Format.word]
  · have hne : a * 2 ^ k ≠ 0 := Nat.mul_ne_zero ha (Nat.ne_of_gt (two_pos k))
    have hl := log_small a ha h
    rw [if_neg hne, if_neg ha]
    simp only [lp, fb, log2_mul a k ha]
    have hlast : max (-(k : Int) + ((a.log2 + k : Nat) : Int) - ((52 : Nat) : Int)) (-1074) = (a.log2 : Int) - 52 := by omega
    rw [hlast]
    obtain ⟨m1, m2⟩ := mant a ha h
    have hb : double.binade = 2 ^ 52 := rfl
    have hi : double.infRung = 2047 * 2 ^ 52 := by decide
    have hkept : Toward.even.cut false ((a * 2 ^ k) <<< (-(k : Int) - ((a.log2 : Int) - 52)).toNat) (((a.log2 : Int) - 52) - -(k : Int)).toNat = a * 2 ^ (52 - a.log2) := by
      by_cases c : k ≤ 52 - a.log2
      · rw [show (((a.log2 : Int) - 52) - -(k : Int)).toNat = 0 by omega, Nat.shiftLeft_eq, Nat.mul_assoc, ← Nat.pow_add, cut_exact .even a _ 0 (by omega) (.inl rfl)]
        congr 2; omega
      · rw [show (-(k : Int) - ((a.log2 : Int) - 52)).toNat = 0 by omega, Nat.shiftLeft_eq, Nat.pow_zero, Nat.mul_one, cut_exact .even a k _ (by omega) (.inl rfl)]
        congr 2; omega
    rw [hkept, hb, hi]
    have e3 : (((a.log2 : Int) - 52) - -1074).toNat = a.log2 + 1022 := by omega
    rw [e3]
    unfold Format.word
    simp only [Bool.false_eq_true, if_false]
    generalize a * 2 ^ (52 - a.log2) = m at *
    have : (a.log2 + 1022) * 2 ^ 52 + m ≤ 2047 * 2 ^ 52 := by omega
    exact Nat.min_eq_left this
theorem write_nat (a : Nat) (h : a < 2 ^ 53) : floatOfInt .f64 (a : Int) = rung a := by
  have := near a 0 h (by omega)
  rw [Nat.pow_zero, Nat.mul_one] at this
  have e : ((a : Int) < 0) = False := eq_false (by omega)
  unfold floatOfInt FloatKind.nearest FloatKind.encode
  simp only [e, decide_false, Int.natAbs_natCast]
  exact this
/-- How a whole number's word reads. -/
theorem read_nat (a : Nat) (h : a < 2 ^ 53) : ∃ k : Nat, k ≤ 1074 ∧ double.read (rung a) = .number false (a * 2 ^ k) (-(k : Int)) := by
  have lp : double.leastPlace = -1074 := by decide
  have hb : double.binade = 2 ^ 52 := rfl
  have hi : double.infRung = 2047 * 2 ^ 52 := by decide
  have hs : double.signWeight = 2 ^ 63 := by decide
  unfold rung Format.read
  by_cases ha : a = 0
  · subst ha
    obtain ⟨k, hk⟩ : ∃ k, k = 1074 := ⟨_, rfl⟩
    refine ⟨k, by omega, ?_⟩
    generalize (2 : Nat) ^ k = q
    simp only [Nat.zero_mul, if_pos]
    rw [hk]
    decide
  · have hl := log_small a ha h
    obtain ⟨m1, m2⟩ := mant a ha h
    refine ⟨52 - a.log2, by omega, ?_⟩
    rw [if_neg ha, hb, hi, hs, lp]
    generalize a * 2 ^ (52 - a.log2) = m at *
    generalize hL : a.log2 = L at *
    have r1 : ((L + 1022) * 2 ^ 52 + m) < 2 ^ 63 := by omega
    have r2 : ((L + 1022) * 2 ^ 52 + m) / 2 ^ 63 = 0 := Nat.div_eq_of_lt r1
    have r3 : ((L + 1022) * 2 ^ 52 + m) % 2 ^ 63 = (L + 1022) * 2 ^ 52 + m := Nat.mod_eq_of_lt r1
    simp only [r2, r3]
    rw [if_neg (by omega), if_pos (by omega)]
    have r4 : ((L + 1022) * 2 ^ 52 + m) % 2 ^ 52 = m - 2 ^ 52 := by omega
    have r5 : ((L + 1022) * 2 ^ 52 + m) / 2 ^ 52 = L + 1023 := by omega
    rw [r4, r5]
    have e1 : 2 ^ 52 + (m - 2 ^ 52) = m := by omega
    have e2 : (-1074 + ((L + 1023 - 1 : Nat) : Int)) = -((52 - L : Nat) : Int) := by omega
    rw [e1, e2]
    rfl
theorem add_nat (a b : Nat) (h : a + b < 2 ^ 53) : floatBits .add .f64 (floatOfInt .f64 (a : Int)) (floatOfInt .f64 (b : Int)) = some (floatOfInt .f64 ((a + b : Nat) : Int)) := by
  obtain ⟨k, hk, ek⟩ := read_nat a (by omega)
  obtain ⟨j, hj, ej⟩ := read_nat b (by omega)
  rw [write_nat a (by omega), write_nat b (by omega), write_nat (a + b) h]
  show ((double.read (rung a)).sum (double.read (rung b))).map double.write = _
  rw [ek, ej]
  unfold Datum.sum
  have hbase : min (-(k : Int)) (-(j : Int)) = -((max k j : Nat) : Int) := by omega
  simp only [hbase, signed]
  have e1 : (a * 2 ^ k) <<< (-(k : Int) - -((max k j : Nat) : Int)).toNat = a * 2 ^ (max k j) := by
    rw [Nat.shiftLeft_eq, Nat.mul_assoc, ← Nat.pow_add]; congr 2; omega
  have e2 : (b * 2 ^ j) <<< (-(j : Int) - -((max k j : Nat) : Int)).toNat = b * 2 ^ (max k j) := by
    rw [Nat.shiftLeft_eq, Nat.mul_assoc, ← Nat.pow_add]; congr 2; omega
  rw [e1, e2]
  simp only [Bool.false_eq_true, if_false, Bool.and_self]
  have e3 : (((a * 2 ^ max k j : Nat) : Int) + ((b * 2 ^ max k j : Nat) : Int)) = (((a + b) * 2 ^ max k j : Nat) : Int) := by rw [Nat.add_mul]; omega
  rw [e3, Int.natAbs_natCast]
  have e4 : (if ((((a + b) * 2 ^ max k j : Nat) : Int)) = 0 then false else decide ((((a + b) * 2 ^ max k j : Nat) : Int) < 0)) = false := by
    have hnn : (0 : Int) ≤ (((a + b) * 2 ^ max k j : Nat) : Int) := Int.natCast_nonneg _
    generalize (((a + b) * 2 ^ max k j : Nat) : Int) = T at hnn
    split
    · rfl
    · exact decide_eq_false (by omega)
  rw [e4]
  show some (double.nearest false ((a + b) * 2 ^ max k j) (-((max k j : Nat) : Int))) = _
  rw [near (a + b) (max k j) h (by omega)]
theorem int_nat (a : Nat) (h : a < 2 ^ 53) : floatToIntVal .f64 (floatOfInt .f64 (a : Int)) .i64 = some (a : Int) := by
  obtain ⟨k, hk, ek⟩ := read_nat a h
  rw [write_nat a h]
  unfold floatToIntVal
  have e : (FloatKind.decode .f64 (rung a)).toInt .zero = some (a : Int) := by
    show (double.read (rung a)).toInt .zero = _
    rw [ek]
    unfold Datum.toInt Datum.integral
    have s0 : (-(k : Int)).toNat = 0 := by omega
    have s1 : (- -(k : Int)).toNat = k := by omega
    simp only [s0, s1, Nat.shiftLeft_eq, Nat.pow_zero, Nat.mul_one]
    rw [cut_exact .zero a k k (by omega) (.inr rfl)]
    simp [signed]
  rw [e]
  have m1 : IntKind.i64.min = -9223372036854775808 := rfl
  have m2 : IntKind.i64.max = 9223372036854775807 := rfl
  simp only [m1, m2]
  rw [if_pos (by omega)]
theorem add_int (a b : Int) (ha : 0 ≤ a) (hb : 0 ≤ b) (h : a + b < 9007199254740992) : floatBits .add .f64 (floatOfInt .f64 a) (floatOfInt .f64 b) = some (floatOfInt .f64 (a + b)) := by
  obtain ⟨x, rfl⟩ := Int.eq_ofNat_of_zero_le ha
  obtain ⟨y, rfl⟩ := Int.eq_ofNat_of_zero_le hb
  have := add_nat x y (by omega)
  rw [this, Int.natCast_add]
theorem int_int (a : Int) (ha : 0 ≤ a) (h : a < 9007199254740992) : floatToIntVal .f64 (floatOfInt .f64 a) .i64 = some a := by
  obtain ⟨x, rfl⟩ := Int.eq_ofNat_of_zero_le ha
  exact int_nat x (by omega)
end Go.Proofs.Ytahopljippfadaa.Flt
