/- The plain statement behind the law FnvRolls, proved for every input; no condition but the types' own bounds. -/
import Derived.Test.YtfpomamhcjkoeaaFnvLaws
import Derived.Test.YtfpomamhcjkoeaaLx3
namespace Go.Proofs.Ytfpomamhcjkoeaa.Pure
open Go.RowKit Go.Proofs.Ytfpomamhcjkoeaa.L Go.Proofs.Ytfpomamhcjkoeaa.FnvLaws Go.Proofs.Ytfpomamhcjkoeaa.Row Go.Proofs.YtfpomamhcjkoeaaW.PrintWords Go.Proofs.YtfpomamhcjkoeaaW.PrintLast
theorem prime_inj (x y : Int) (h : x * 1099511628211 % 18446744073709551616 = y * 1099511628211 % 18446744073709551616) (hx : 0 ≤ x ∧ x < 18446744073709551616) (hy : 0 ≤ y ∧ y < 18446744073709551616) : x = y := by
  have key : ∀ z : Int, 0 ≤ z → z < 18446744073709551616 → z * 1099511628211 % 18446744073709551616 * 14886173955864302971 % 18446744073709551616 = z := by
    intro z h0 h1
    rw [Int.mul_emod, Int.emod_emod, ← Int.mul_emod, Int.mul_assoc, show (1099511628211 : Int) * 14886173955864302971 = 18446744073709551616 * 887285111055 + 1 by decide]
    omega
  rw [← key x hx.1 hx.2, ← key y hy.1 hy.2, h]
theorem xor_inj (h c d : Nat) (e : h ^^^ c = h ^^^ d) : c = d := by
  have := congrArg (fun z => h ^^^ z) e
  simpa [← Nat.xor_assoc] using this
theorem e64 : (2 : Nat) ^ 64 = 18446744073709551616 := by decide
theorem xor_lt (x m : Nat) (hx : x < 18446744073709551616) (hm : m < 256) : x ^^^ m < 18446744073709551616 := by
  have := Nat.xor_lt_two_pow (x := x) (y := m) (n := 64) (by rw [e64]; exact hx) (by rw [e64]; omega)
  rwa [e64] at this
theorem wc (m : Nat) (hm : m < 256) : IntKind.u64.wrap (m : Int) = (m : Int) := by rw [IntKind.wrap_u64]; omega
theorem rollB_nat (x c : Nat) (hx : x < 18446744073709551616) (hc : c < 256) : rollB (x : Int) (c : Int) = ((x ^^^ c : Nat) : Int) * 1099511628211 % 18446744073709551616 := by
  unfold rollB
  rw [wc c hc, u64_xor_nat x c hx (by omega), IntKind.wrap_u64]
theorem nat_inj (y z : Nat) (hy : y < 18446744073709551616) (hz : z < 18446744073709551616) : ∀ (_ : (y : Int) * 1099511628211 % 18446744073709551616 = (z : Int) * 1099511628211 % 18446744073709551616), y = z := by
  have b1 : 0 ≤ (y : Int) ∧ (y : Int) < 18446744073709551616 := ⟨by omega, by omega⟩
  have b2 : 0 ≤ (z : Int) ∧ (z : Int) < 18446744073709551616 := ⟨by omega, by omega⟩
  exact fun e => Int.ofNat_inj.1 (prime_inj y z e b1 b2)
theorem rollB_inj (h : Int) (c d : Nat) (h0 : 0 ≤ h) (h1 : h < 18446744073709551616) (hc : c < 256) (hd : d < 256) (e : rollB h (c : Int) = rollB h (d : Int)) : c = d := by
  obtain ⟨x, rfl⟩ := Int.eq_ofNat_of_zero_le h0
  have hx : x < 18446744073709551616 := by omega
  rw [rollB_nat x c hx hc, rollB_nat x d hx hd] at e
  exact xor_inj x c d (nat_inj _ _ (xor_lt x c hx hc) (xor_lt x d hx hd) e)
theorem app_list (a : ByteArray) (n : Nat) : (a ++ strOfNums [(n : Int)]).data.toList = a.data.toList ++ [UInt8.ofNat n] := by
  rw [ByteArray.data_append, Array.toList_append]; rfl
theorem app_size (a b : ByteArray) : (a ++ b).size = a.size + b.size := ByteArray.size_append
theorem tl (X Y : Int) (x y : Nat) (o : Option Int) (ey : o = some Y) (key : X = Y → x = y) (yek : x = y → X = Y) :
    (o.bind fun t144 => if ((X == t144) == ((x : Int) == (y : Int))) = true then hopperlaw02_live.f.bind fun t145 => some t145 else some false) = some true := by
  rw [ey]
  have hf : ((X == Y) == ((x : Int) == (y : Int))) = true := by
    by_cases e : x = y
    · have eX := yek e
      subst e eX; simp
    · have n1 : ¬ X = Y := fun h => e (key h)
      have n2 : ¬ (x : Int) = (y : Int) := by omega
      rw [beq_eq_false_iff_ne.2 n1, beq_eq_false_iff_ne.2 n2]; rfl
  show (if ((X == Y) == ((x : Int) == (y : Int))) = true then hopperlaw02_live.f.bind fun t145 => some t145 else some false) = some true
  rw [if_pos hf, live]
  rfl
theorem FnvRolls : hopperlaw02_FnvRolls.Pure := by
  intro a b c d _ _ hcd
  refine ⟨5, ?_⟩
  have hc := bounds_u8 hcd.1
  have hd := bounds_u8 hcd.2
  simp only at hc hd
  obtain ⟨x, rfl⟩ := Int.eq_ofNat_of_zero_le hc.1
  obtain ⟨y, rfl⟩ := Int.eq_ofNat_of_zero_le hd.1
  unfold hopperlaw02_FnvRolls.f
  have jt : ∀ z, z = true → hopperlaw02_FnvRolls.j0 5 a b z (x : Int) (y : Int) = some true := by
    rintro z rfl
    simp [hopperlaw02_FnvRolls.j0, live]
  by_cases la : (a.size : Int) > 70000
  · rw [if_pos la]; exact jt _ rfl
  · rw [if_neg la]
    by_cases lb : (b.size : Int) > 70000
    · exact jt _ (by simpa using lb)
    · rw [show decide ((b.size : Int) > 70000) = false by simpa using lb]
      have e1 := of_ a (by omega)
      have e2 := of_ (a ++ b) (by rw [app_size]; omega)
      rw [ByteArray.data_append, Array.toList_append, rollL_append] at e2
      have e3 := roll (rollL 14695981039346656037 a.data.toList) b (by omega)
      have e4 := roll (rollL 14695981039346656037 a.data.toList) (⟨#[]⟩ : ByteArray) (by decide)
      have R := rollL_range 14695981039346656037 a.data.toList (by omega) (by omega)
      generalize hH : rollL 14695981039346656037 a.data.toList = H at e1 e2 e3 e4 R
      have e5 : ∀ n : Nat, n < 256 → fnv_Of.f (a ++ strOfNums [(n : Int)]) = some (rollB H (n : Int)) := by
        intro n hn
        rw [of_ _ (by rw [app_size, strOfNums_size]; simp; omega), app_list a n, rollL_append, hH]
        show some (rollB H ((UInt8.ofNat n).toNat : Int)) = _
        rw [UInt8.toNat_ofNat_of_lt' (by exact hn)]
      have es : ∀ n : Int, (strOfNums [n]).size = 1 := fun n => rfl
      simp only [hopperlaw02_FnvRolls.j0, hopperlaw02_FnvRolls.j1]
      rw [if_neg (by simp), if_pos (by omega), e2]
      simp only [Option.bind_some]
      rw [e1]
      simp only [Option.bind_some]
      rw [e3]
      simp only [Option.bind_some]
      rw [if_pos trivial, e4]
      simp only [Option.bind_some]
      have sx : a.size + (strOfNums [(x : Int)]).size ≤ 9223372036854775807 := by rw [es]; omega
      have sy : a.size + (strOfNums [(y : Int)]).size ≤ 9223372036854775807 := by rw [es]; omega
      have ex := e5 x (by omega)
      have ey := e5 y (by omega)
      have key : rollB H (x : Int) = rollB H (y : Int) → x = y := rollB_inj H x y R.1 R.2 (by omega) (by omega)
      have yek : x = y → rollB H (x : Int) = rollB H (y : Int) := fun e => by rw [e]
      clear e1 e2 e3 e4 e5
      generalize rollB H (x : Int) = X at ex key yek
      generalize rollB H (y : Int) = Y at ey key yek
      rw [if_neg (by simp [rollL]), if_pos sx, ex]
      simp only [Option.bind_some]
      rw [if_pos sy]
      exact tl X Y x y _ ey key yek
end Go.Proofs.Ytfpomamhcjkoeaa.Pure
