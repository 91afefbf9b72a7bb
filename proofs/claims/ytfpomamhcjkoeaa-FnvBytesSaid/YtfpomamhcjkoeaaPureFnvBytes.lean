/- The plain statement behind the law FnvBytes, proved for every input; no condition but the types' own bounds. -/
import Derived.Test.YtfpomamhcjkoeaaFnvLaws
import Derived.Test.YtfpomamhcjkoeaaLx3
namespace Go.Proofs.Ytfpomamhcjkoeaa.Pure
open Go.RowKit Go.Proofs.Ytfpomamhcjkoeaa.L Go.Proofs.Ytfpomamhcjkoeaa.FnvLaws Go.Proofs.YtfpomamhcjkoeaaW.PrintWords Go.Proofs.YtfpomamhcjkoeaaW.PrintLast
theorem extract_one (s : ByteArray) (i : Nat) (h : i < s.size) : (s.extract i (i + 1)).data.toList = [s[i]] := by
  rw [ByteArray.data_extract, Array.toList_extract, List.extract_eq_take_drop, show i + 1 - i = 1 by omega, drop_get s i h]; rfl
theorem bytes_end (h : Int) (s : ByteArray) (h0 : 0 ≤ h) (h1 : h < 18446744073709551616) (hn : s.size ≤ 5000) :
    ((fnv_Roll.f h (⟨#[0]⟩ : ByteArray)).bind fun t157 => ((fnv_Roll.f h s).bind fun t158 => (if rollL h s.data.toList = t158 then (if t157 = (IntKind.u64.wrap (h * 1099511628211)) then (if t157 = h then (if h = 0 then ((hopperlaw02_live.f).bind fun t159 => (some t159)) else (if (IntKind.u64.wrap (h * 1099511628210)) = 0 then ((hopperlaw02_live.f).bind fun t160 => (some t160)) else (some false))) else ((hopperlaw02_live.f).bind fun t161 => (some t161))) else (some false)) else (some false)))) = some true := by
  rw [roll h _ (by decide), roll h s (by omega), live]
  have e : rollL h (⟨#[0]⟩ : ByteArray).data.toList = IntKind.u64.wrap (h * 1099511628211) := by
    show rollB h ((0 : UInt8).toNat : Int) = _
    unfold rollB
    have e1 : Go.bits .xor .u64 h (IntKind.u64.wrap ((0 : UInt8).toNat : Int)) = h := by
      obtain ⟨x, rfl⟩ := Int.eq_ofNat_of_zero_le h0
      have e2 : IntKind.u64.wrap ((0 : UInt8).toNat : Int) = ((0 : Nat) : Int) := by decide
      rw [e2, u64_xor_nat x 0 (by omega) (by omega), Nat.xor_zero]
    rw [e1]
  simp only [Option.bind_some]
  rw [if_pos trivial, if_pos e]
  by_cases c : rollL h (⟨#[0]⟩ : ByteArray).data.toList = h
  · rw [if_pos c]
    by_cases d : h = 0
    · rw [if_pos d]
    · rw [if_neg d, if_pos]
      rw [e, IntKind.wrap_u64] at c
      rw [IntKind.wrap_u64]
      omega
  · rw [if_neg c]
theorem bytes_loop (h : Int) (s : ByteArray) (h0 : 0 ≤ h) (h1 : h < 18446744073709551616) (hn : s.size ≤ 5000) (d : Nat) : ∀ (k i : Nat), i + d = s.size → d < k → hopperlaw02_FnvBytes.l0 k h s (rollL h (s.data.toList.take i)) (i : Int) = some true := by
  induction d with
  | zero =>
    intro k i hi hk
    obtain ⟨k, rfl⟩ : ∃ m, k = m + 1 := ⟨k - 1, by omega⟩
    simp only [hopperlaw02_FnvBytes.l0]
    rw [if_neg (by omega), List.take_of_length_le (by simp; omega)]
    exact bytes_end h s h0 h1 hn
  | succ d ih =>
    intro k i hi hk
    obtain ⟨k, rfl⟩ : ∃ m, k = m + 1 := ⟨k - 1, by omega⟩
    have w : wrap64 ((i : Int) + 1) = ((i + 1 : Nat) : Int) := by rw [wrap_step (n := s.size) (by omega) (by omega) (by omega)]; omega
    simp only [hopperlaw02_FnvBytes.l0]
    rw [w, if_pos (by omega), if_pos (by omega), if_pos (by omega), if_pos (by omega), show ((i : Int)).toNat = i by omega, show (((i + 1 : Nat) : Int)).toNat = i + 1 by omega, roll _ _ (by rw [ByteArray.size_extract]; omega)]
    simp only [Option.bind_some]
    rw [extract_one s i (by omega), ← rollL_append]
    have e : s.data.toList.take i ++ [s[i]] = s.data.toList.take (i + 1) := by
      rw [List.take_succ_eq_append_getElem (by simp; omega)]; rfl
    rw [e]
    exact ih k (i + 1) (by omega) (by omega)
theorem FnvBytes : hopperlaw02_FnvBytes.Pure := by
  intro h s hh hs
  have hb := bounds_u64 hh
  refine ⟨s.size + 1, ?_⟩
  unfold hopperlaw02_FnvBytes.f
  by_cases c : (s.size : Int) > 5000
  · rw [if_pos c, live]; rfl
  · rw [if_neg c]
    have := bytes_loop h s hb.1 (by omega) (by omega) s.size (s.size + 1) 0 (by omega) (by omega)
    exact this
end Go.Proofs.Ytfpomamhcjkoeaa.Pure
