/- The plain statement behind the law FnvTexts, proved for every input; no condition but the types' own bounds. -/
import Derived.Test.YtfpomamhcjkoeaaFnvLaws
import Derived.Test.YtfpomamhcjkoeaaLx3
namespace Go.Proofs.Ytfpomamhcjkoeaa.Pure
open Go.RowKit Go.Proofs.Ytfpomamhcjkoeaa.L Go.Proofs.Ytfpomamhcjkoeaa.FnvLaws Go.Proofs.Ytfpomamhcjkoeaa.Row Go.Proofs.YtfpomamhcjkoeaaW.PrintWords Go.Proofs.YtfpomamhcjkoeaaW.PrintLast
/-- A digit's byte. -/
def hb (d : Nat) : UInt8 := UInt8.ofNat (hexC d).toNat
def dg : Nat → Nat → List UInt8
  | 0, _ => []
  | n + 1, h => hb (h / 16 ^ n) :: dg n (h % 16 ^ n)
theorem hb_lt : ∀ a, a < 16 → ∀ b, b < 16 → (hb a < hb b ↔ a < b) := by decide
theorem hb_eq : ∀ a, a < 16 → ∀ b, b < 16 → (hb a = hb b ↔ a = b) := by decide
theorem dg_less (n : Nat) : ∀ a b, a < 16 ^ n → b < 16 ^ n → (Op.bytesLess (dg n a) (dg n b) = decide (a < b)) ∧ ((dg n a == dg n b) = decide (a = b)) := by
  induction n with
  | zero => intro a b ha hb'; obtain rfl : a = 0 := by simpa using ha
            obtain rfl : b = 0 := by simpa using hb'
            exact ⟨rfl, rfl⟩
  | succ n ih =>
    intro a b ha hb'
    have hp : 0 < 16 ^ n := Nat.pow_pos (by omega)
    have da : a / 16 ^ n < 16 := by rw [Nat.div_lt_iff_lt_mul hp]; rw [Nat.pow_succ] at ha; omega
    have db : b / 16 ^ n < 16 := by rw [Nat.div_lt_iff_lt_mul hp]; rw [Nat.pow_succ] at hb'; omega
    have ma := Nat.div_add_mod a (16 ^ n)
    have mb := Nat.div_add_mod b (16 ^ n)
    have la := Nat.mod_lt a hp
    have lb := Nat.mod_lt b hp
    obtain ⟨i1, i2⟩ := ih (a % 16 ^ n) (b % 16 ^ n) la lb
    have l1 := hb_lt _ da _ db
    have l2 := hb_eq _ da _ db
    simp only [dg, Op.bytesLess]
    rw [i1]
    generalize a / 16 ^ n = x at *
    generalize b / 16 ^ n = y at *
    generalize a % 16 ^ n = u at *
    generalize b % 16 ^ n = v at *
    generalize 16 ^ n = P at *
    rcases Nat.lt_trichotomy x y with h | h | h
    · have hm : P * (x + 1) ≤ P * y := Nat.mul_le_mul_left _ h
      rw [Nat.mul_add, Nat.mul_one] at hm
      have e1 : a < b := by omega
      have e2 : ¬ a = b := by omega
      have e3 : ¬ x = y := by omega
      have e4 : ¬ hb x = hb y := fun e => e3 (l2.1 e)
      constructor
      · simp [e1, l1.2 h]
      · simp [e2, e4]
    · subst h
      have n1 : ¬ hb x < hb x := fun e => absurd (l1.1 e) (by omega)
      constructor
      · have q : decide (u < v) = decide (a < b) := by apply decide_eq_decide.2; constructor <;> (intro; omega)
        simp [n1, q]
      · have q : decide (u = v) = decide (a = b) := by apply decide_eq_decide.2; constructor <;> (intro; omega)
        rw [← q, ← i2]
        simp
    · have hm : P * (y + 1) ≤ P * x := Nat.mul_le_mul_left _ h
      rw [Nat.mul_add, Nat.mul_one] at hm
      have e1 : ¬ a < b := by omega
      have e2 : ¬ a = b := by omega
      have e3 : ¬ x = y := by omega
      have e4 : ¬ hb x = hb y := fun e => e3 (l2.1 e)
      have e5 : ¬ hb x < hb y := fun e => absurd (l1.1 e) (by omega)
      constructor
      · simp [e1, e4, e5]
      · simp [e2, e4]
theorem hex_dg (h : Nat) (hh : h < 16 ^ 16) : (strOfNums (hexL h)).data.toList = dg 16 h := by
  rw [strOfNums_data]
  have key : ∀ n h, h < 16 ^ n → (List.range n).map (fun j => UInt8.ofNat (hexC (h / 16 ^ (n - 1 - j) % 16)).toNat) = dg n h := by
    intro n
    induction n with
    | zero => intro h _; rfl
    | succ n ih =>
      intro h hh
      have hp : 0 < 16 ^ n := Nat.pow_pos (by omega)
      have da : h / 16 ^ n < 16 := by rw [Nat.div_lt_iff_lt_mul hp]; rw [Nat.pow_succ] at hh; omega
      rw [List.range_succ_eq_map, List.map_cons, List.map_map]
      simp only [dg, hb]
      congr 1
      · rw [show n + 1 - 1 - 0 = n by omega, Nat.mod_eq_of_lt da]
      · rw [← ih (h % 16 ^ n) (Nat.mod_lt _ hp)]
        apply List.map_congr_left
        intro j hj
        have hj' : j < n := by simpa using hj
        simp only [Function.comp]
        congr 3
        rw [show n + 1 - 1 - (j + 1) = n - 1 - j by omega]
        have e : (16 : Nat) ^ n = 16 ^ (n - 1 - j) * 16 ^ (j + 1) := by rw [← Nat.pow_add]; congr 1; omega
        rw [e, Nat.mod_mul_right_div_self, Nat.mod_mod_of_dvd]
        exact ⟨16 ^ j, by rw [Nat.pow_succ, Nat.mul_comm]⟩
  have := key 16 h hh
  rw [← this, hexL, List.map_map]
  rfl
theorem toList_data (s : ByteArray) : s.toList = s.data.toList := by
  exact ByteArray.toList_eq s
theorem FnvTexts : hopperlaw02_FnvTexts.Pure := by
  intro a b ha hb'
  have ba := bounds_u64 ha
  have bb := bounds_u64 hb'
  obtain ⟨x, rfl⟩ := Int.eq_ofNat_of_zero_le ba.1
  obtain ⟨y, rfl⟩ := Int.eq_ofNat_of_zero_le bb.1
  have hx : x < 16 ^ 16 := by omega
  have hy : y < 16 ^ 16 := by omega
  obtain ⟨l1, l2⟩ := dg_less 16 x y hx hy
  have sz : ∀ h, (strOfNums (hexL h)).size = 16 := fun h => by rw [strOfNums_size]; simp [hexL]
  unfold hopperlaw02_FnvTexts.f
  rw [text _ ba.1 (by omega), text _ bb.1 (by omega), Int.toNat_natCast, Int.toNat_natCast]
  simp only [Option.bind_some]
  rw [sz, sz, if_pos (by decide), if_pos (by decide), toList_data, toList_data, hex_dg x hx, hex_dg y hy, l1, l2, if_pos, if_pos, live]
  · rfl
  · have q : decide (x < y) = decide ((x : Int) < (y : Int)) := by apply decide_eq_decide.2; omega
    rw [q]; simp
  · have q : decide (x = y) = ((x : Int) == (y : Int)) := by
      by_cases e : x = y
      · subst e; simp
      · have : ¬ (x : Int) = (y : Int) := by omega
        simp [e, this]
    rw [q]; simp
end Go.Proofs.Ytfpomamhcjkoeaa.Pure
