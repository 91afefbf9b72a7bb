/- Plain facts on the document's own numbers, texts and hash; no condition but the numbers' ranges. -/
import Derived.Test.YtihlogdmdmhefaaTxnCodec
import Derived.Test.YtihlogdmdmhefaaLx15
import Derived.Test.YtihlogdmdmhefaaLx14
import Derived.Test.YtihlogdmdmhefaaLx16
import Derived.Test.YtihlogdmdmhefaaLx17
import Derived.Test.YtihlogdmdmhefaaLx20
import Derived.Test.YtihlogdmdmhefaaLx19
namespace Go.Proofs.Ytihlogdmdmhefaa.TxnCodec
set_option linter.unusedSimpArgs false
set_option linter.unusedVariables false
open Go.RowKit Go.Proofs.Ytihlogdmdmhefaa.L Go.Proofs.YtihlogdmdmhefaaW.PrintWords Go.Proofs.YtihlogdmdmhefaaW.PrintLast
theorem ref_text (s : ByteArray) : hopperref03_Text.f s = some (textStr s) := by
  rw [← text s]
  rfl
theorem ref_bytes (m : Nat) (hm : m ≤ 100) : ∀ x : Nat, x / 256 ^ (m + 1) = 0 → (x : Int) ≤ 9223372036854775807 → hopperref03_bytes.f (m + 1) (x : Int) = some (strOfNums (dg m x)) := by
  have tm : ∀ x : Nat, Int.tmod (x : Int) 256 % 256 = ((x % 256 : Nat) : Int) := by
    intro x
    rw [Int.tmod_eq_emod_of_nonneg (by omega)]
    omega
  have td : ∀ x : Nat, Int.tdiv (x : Int) 256 = ((x / 256 : Nat) : Int) := by
    intro x
    rw [Int.tdiv_eq_ediv_of_nonneg (by omega)]
    omega
  induction m with
  | zero =>
    intro x h hx
    have h' : x / 256 = 0 := by simpa using h
    rw [hopperref03_bytes.f]
    simp only [Option.bind_some]
    rw [if_neg (by omega), tm]
    rfl
  | succ m ih =>
    intro x h hx
    rw [hopperref03_bytes.f]
    simp only [Option.bind_some]
    unfold dg
    by_cases c : x / 256 = 0
    · rw [if_neg (by omega), if_pos c, tm]
    · rw [if_pos (by omega), if_neg c, td, wr _ (by omega) (by omega), ih (by omega) (x / 256) (by rw [Nat.div_div_eq_div_mul, ← Nat.pow_succ']; exact h) (by omega), tm]
      simp only [Option.bind_some]
      have hl : (dg m (x / 256)).length ≤ 101 := by rw [dg_len]; have := more256_le m (x / 256); omega
      rw [if_pos (by rw [str_size, str_size]; simp only [List.length_cons, List.length_nil]; omega), str_append]
theorem ref_number (n : Int) (h : n ≤ 9223372036854775807) : hopperref03_Number.f 9 n = some (numStr n) := by
  unfold hopperref03_Number.f numStr
  by_cases c : n < 0
  · rw [if_pos c, if_pos c]
  · obtain ⟨x, rfl⟩ := Int.eq_ofNat_of_zero_le (show 0 ≤ n by omega)
    have hx : x < 9223372036854775808 := by omega
    have hl := dg_len8 x hx
    rw [if_neg c, if_neg c, ref_bytes 8 (by omega) x (Nat.div_eq_of_lt (Nat.lt_of_lt_of_le hx (show 9223372036854775808 ≤ 256 ^ (8 + 1) by decide))) h, Int.toNat_natCast, numL_eq]
    simp only [Option.bind_some]
    rw [if_pos (by rw [str_size, str_size]; simp only [List.length_cons, List.length_nil]; omega), str_size, ← str_append]
    rw [show ((dg 8 x).length : Int) % 256 = ((dg 8 x).length : Int) by omega]
    rfl
theorem acc (X c : Int) (h0 : 0 ≤ c) (h1 : c < 256) : wrap64 (wrap64 (256 * X) + wrap64 c) = Go.bits .or .i64 (wrap64 (X * 256)) (wrap64 c) := by
  rw [or_step X c h0 h1, wr c h0 (by omega)]
  have e : wrap64 (256 * X) = 256 * X - 18446744073709551616 * ((256 * X + 9223372036854775808) / 18446744073709551616) := by unfold wrap64; omega
  have sh : ∀ a q : Int, wrap64 (a - 18446744073709551616 * q) = wrap64 a := by intro a q; unfold wrap64; omega
  have r : 256 * X - 18446744073709551616 * ((256 * X + 9223372036854775808) / 18446744073709551616) + c = (X * 256 + c) - 18446744073709551616 * ((256 * X + 9223372036854775808) / 18446744073709551616) := by omega
  rw [e, r, sh]
theorem wb (s : ByteArray) (i : Int) : wrap64 (bt s i) = bt s i := by
  have := bt_range s i
  exact wr _ this.1 (by omega)
/-- What the document's own answer comes to behind its loop. -/
def refRes (s : ByteArray) (most : Int) (m : Nat) (n : Int) : Int × ByteArray × Bool := if numStr n = s.extract 0 (1 + m) then (if n > most then (0, ⟨#[]⟩, false) else (n, s.extract (1 + m) s.size, true)) else (0, ⟨#[]⟩, false)
theorem ref_end (k : Nat) (s : ByteArray) (most : Int) (m : Nat) (n : Int) (hN : hopperref03_Number.f k n = some (numStr n)) (h8 : m ≤ 8) (hm : m + 1 ≤ s.size) (hs : s.size ≤ 70000) : hopperref03_TakeNumber.l0 (k + 1) s most (m : Int) n ((m + 1 : Nat) : Int) = some (refRes s most m n) := by
  have w : wrap64 ((m : Int) + 1) = ((m + 1 : Nat) : Int) := by unfold wrap64; omega
  simp only [hopperref03_TakeNumber.l0]
  have c1 : ¬ (((m + 1 : Nat) : Int) ≤ (m : Int)) := by omega
  have c2 : (0 : Int) ≤ ((m + 1 : Nat) : Int) := by omega
  have c3 : ((m + 1 : Nat) : Int) ≤ (s.size : Int) := by omega
  rw [if_neg c1, hN, Option.bind_some, w, if_pos c2, if_pos c3, Int.toNat_natCast, show m + 1 = 1 + m by omega]
  unfold refRes
  have e : ((numStr n).toList = (s.extract 0 (1 + m)).toList) ↔ (numStr n = s.extract 0 (1 + m)) := by
    rw [ByteArray.toList_eq, ByteArray.toList_eq]
    exact ⟨fun z => ByteArray.ext (Array.toList_inj.1 z), fun z => by rw [z]⟩
  by_cases c : numStr n = s.extract 0 (1 + m)
  · rw [if_pos (e.2 c), if_pos c]
    by_cases d : n > most
    · rw [if_pos d, if_pos d]
    · rw [if_neg d, if_neg d]
  · rw [if_neg (fun z => c (e.1 z)), if_neg c]
/-- The loop: what was read so far is told. -/
theorem ref_loop (s : ByteArray) (most : Int) (m : Nat) (h8 : m ≤ 8) (hm : m + 1 ≤ s.size) (hs : s.size ≤ 70000) : ∀ d i : Nat, 1 ≤ i → i + d = m + 1 →
    hopperref03_TakeNumber.l0 (d + 10) s most (m : Int) (valW (((bytesOf s).drop 1).take (i - 1))) (i : Int) = some (refRes s most m (valW (((bytesOf s).drop 1).take m))) := by
  intro d
  induction d with
  | zero =>
    intro i hi hd
    have hi' : i = m + 1 := by omega
    subst hi'
    exact ref_end 9 s most m _ (ref_number _ (valW_le _)) h8 hm hs
  | succ d ih =>
    intro i hi hd
    rw [show d + 1 + 10 = (d + 10) + 1 by omega, hopperref03_TakeNumber.l0, if_pos (by omega), if_pos (by omega), if_pos (by omega)]
    have w : wrap64 ((i : Int) + 1) = ((i + 1 : Nat) : Int) := by unfold wrap64; omega
    have hb := bt_range s i
    have hl := size_bytes s
    have hi' : i - 1 < ((bytesOf s).drop 1).length := by rw [List.length_drop, ← hl]; omega
    have e : valW (((bytesOf s).drop 1).take (i + 1 - 1)) = Go.bits .or .i64 (wrap64 (valW (((bytesOf s).drop 1).take (i - 1)) * 256)) (wrap64 (bt s i)) := by
      rw [show i + 1 - 1 = (i - 1) + 1 by omega, List.take_succ_eq_append_getElem hi', valW_snoc]
      congr 2
      rw [List.getElem_drop, bt_bytes]
      unfold rd
      rw [Int.toNat_natCast, List.getD_eq_getElem?_getD, List.getElem?_eq_getElem (by rw [← hl]; omega)]
      simp only [Option.getD_some]
      congr 1
      omega
    rw [w, wb, ← wb s i, acc _ _ hb.1 (by omega), ← e]
    exact ih (i + 1) (by omega) (by omega)
theorem num_top (x : Nat) (hx : x < 9223372036854775808) (h : (dg 8 x).length = 8) (y : Int) (r : List Int) (hd : dg 8 x = y :: r) : y ≤ 127 := by
  have hm : more256 8 x = 7 := by have := dg_len 8 x; omega
  have e := dg_eq 8 x
  rw [hm, hd] at e
  have e0 : ((x / 256 ^ (7 - 0) % 256 : Nat) : Int) = y := by
    rw [List.range_succ_eq_map] at e
    simp only [List.map_cons, List.cons.injEq] at e
    exact e.1
  have p : (256 : Nat) ^ (7 - 0) = 72057594037927936 := by decide
  rw [p] at e0
  have q : x / 72057594037927936 < 128 := (Nat.div_lt_iff_lt_mul (by decide)).2 (Nat.lt_of_lt_of_le hx (by decide))
  generalize x / 72057594037927936 = z at *
  omega
theorem ref_take (s : ByteArray) (most : Int) (hs : s.size ≤ 70000) : hopperref03_TakeNumber.f ((bt s 0).toNat + 12) s most = some (takeN s most) := by
  have hl := size_bytes s
  unfold hopperref03_TakeNumber.f
  have skip : ∀ k, hopperref03_TakeNumber.j0 (k + 12) s most true = some (0, ⟨#[]⟩, false) := by
    intro k
    simp only [hopperref03_TakeNumber.j0]
    rw [if_pos trivial]
  by_cases c0 : s.size = 0
  · rw [if_pos (by omega), skip]
    unfold takeN
    rw [if_pos c0]
  · obtain ⟨m, hm⟩ : ∃ m : Nat, bt s 0 = m := ⟨(bt s 0).toNat, by have := (bt_range s 0).1; omega⟩
    have hfirst : ∃ r, bytesOf s = (m : Int) :: r := by
      have b := bt_bytes s 0
      rw [hm] at b
      rw [hl] at c0
      generalize bytesOf s = l at *
      match l with
      | [] => simp at c0
      | z :: r => exact ⟨r, by rw [show (m : Int) = z from b]⟩
    obtain ⟨r, hr⟩ := hfirst
    have tN : takeN s most = if 8 < (m : Int) then (0, ⟨#[]⟩, false) else if (s.size : Int) - 1 < (m : Int) then (0, ⟨#[]⟩, false) else
        (let n := valW (((bytesOf s).drop 1).take m)
         if n < 0 then (0, ⟨#[]⟩, false) else if most < n then (0, ⟨#[]⟩, false) else if strOfNums (numL n.toNat) = s.extract 0 (1 + m) then (n, s.extract (1 + m) s.size, true) else (0, ⟨#[]⟩, false)) := by
      unfold takeN
      rw [if_neg c0, hm, Int.toNat_natCast, bytes_extract, show 1 + m - 1 = m by omega]
    rw [if_neg (by omega), if_pos (by omega), hm, Int.toNat_natCast]
    by_cases c1 : (m : Int) < 1
    · rw [if_pos c1, skip, tN, if_neg (by omega), if_neg (by omega)]
      have z : m = 0 := by omega
      subst z
      have v : valW (((bytesOf s).drop 1).take 0) = 0 := rfl
      simp only
      rw [v, if_neg (by omega)]
      by_cases d : most < 0
      · rw [if_pos d]
      · rw [if_neg d, if_neg]
        intro q
        have := congrArg ByteArray.size q
        rw [str_size, ByteArray.size_extract] at this
        have l2 : (numL (0 : Int).toNat).length = 2 := by decide
        omega
    · by_cases c2 : (m : Int) > 8
      · rw [if_neg c1, if_pos c2, skip, tN, if_pos (by omega)]
      · have w1 : wrap64 ((s.size : Int) - 1) = (s.size : Int) - 1 := by unfold wrap64; omega
        have w2 : wrap64 (m : Int) = m := wr _ (by omega) (by omega)
        rw [if_neg c1, if_neg c2, w1, w2]
        by_cases c3 : (s.size : Int) - 1 < m
        · rw [decide_eq_true c3, skip, tN, if_neg (by omega), if_pos c3]
        · rw [decide_eq_false c3]
          simp only [hopperref03_TakeNumber.j0]
          rw [if_neg (show ¬ (false = true) by decide), if_pos (show 0 < (s.size : Int) by omega), hm, w2]
          have lp := ref_loop s most m (by omega) (by omega) hs m 1 (by omega) (by omega)
          have v0 : valW (((bytesOf s).drop 1).take (1 - 1)) = 0 := rfl
          rw [v0, show ((1 : Nat) : Int) = 1 from rfl] at lp
          unfold refRes at lp
          have hle := valW_le (((bytesOf s).drop 1).take m)
          have nonneg : 0 ≤ valW (((bytesOf s).drop 1).take m) → numStr (valW (((bytesOf s).drop 1).take m)) = strOfNums (numL (valW (((bytesOf s).drop 1).take m)).toNat) := fun h => by unfold numStr; rw [if_neg (by omega)]
          have neg : valW (((bytesOf s).drop 1).take m) < 0 → numStr (valW (((bytesOf s).drop 1).take m)) ≠ s.extract 0 (1 + m) := by
            intro h q
            unfold numStr at q
            rw [if_pos h] at q
            have := congrArg ByteArray.size q
            rw [ByteArray.size_extract] at this
            have z : (⟨#[]⟩ : ByteArray).size = 0 := rfl
            omega
          have toobig : m = 8 → bt s 1 > 127 → 0 ≤ valW (((bytesOf s).drop 1).take m) → strOfNums (numL (valW (((bytesOf s).drop 1).take m)).toNat) ≠ s.extract 0 (1 + m) := by
            intro h8 hb h0 q
            generalize valW (((bytesOf s).drop 1).take m) = n at *
            have q1 := congrArg bytesOf q
            have hx : n.toNat < 9223372036854775808 := by omega
            rw [num_bytes _ hx, bytes_extract, hr] at q1
            have b1 := bt_bytes s 1
            rw [hr] at b1
            have hl1 : s.size = 1 + r.length := by rw [hl, hr, List.length_cons]; omega
            match r, b1, q1, hl1 with
            | [], _, _, hl1 => simp at hl1; omega
            | y :: r', b1, q1, _ =>
              have b2 : bt s 1 = y := b1
              rw [show 1 + m - 0 = m + 1 by omega] at q1
              simp only [List.drop_zero, List.take_succ_cons] at q1
              rw [h8] at q1
              simp only [List.take_succ_cons, List.cons.injEq] at q1
              have t := num_top n.toNat hx (by omega) y _ q1.2
              omega
          have main : ∀ b : Bool, (b = true → m = 8 ∧ bt s 1 > 127) → hopperref03_TakeNumber.j1 (m + 11) s most (m : Int) 0 b = some (if valW (((bytesOf s).drop 1).take m) < 0 then (0, ⟨#[]⟩, false) else if most < valW (((bytesOf s).drop 1).take m) then (0, ⟨#[]⟩, false) else if strOfNums (numL (valW (((bytesOf s).drop 1).take m)).toNat) = s.extract 0 (1 + m) then (valW (((bytesOf s).drop 1).take m), s.extract (1 + m) s.size, true) else (0, ⟨#[]⟩, false)) := by
            intro b hb
            simp only [hopperref03_TakeNumber.j1]
            cases b with
            | true =>
              rw [if_pos rfl]
              obtain ⟨g1, g2⟩ := hb rfl
              by_cases h0 : valW (((bytesOf s).drop 1).take m) < 0
              · rw [if_pos h0]
              · rw [if_neg h0, if_neg (toobig g1 g2 (by omega))]
                try (split <;> rfl)
            | false =>
              rw [if_neg (by decide), lp]
              by_cases h0 : valW (((bytesOf s).drop 1).take m) < 0
              · rw [if_neg (neg h0), if_pos h0]
              · rw [nonneg (by omega), if_neg h0]
                by_cases c4 : most < valW (((bytesOf s).drop 1).take m)
                · rw [if_pos c4, if_pos (show valW (((bytesOf s).drop 1).take m) > most from c4)]
                  try (split <;> rfl)
                · rw [if_neg c4, if_neg (show ¬ valW (((bytesOf s).drop 1).take m) > most from c4)]
                  try (split <;> rfl)
          have d8 : ¬ 8 < (m : Int) := by omega
          by_cases h8 : (m : Int) = 8
          · rw [if_pos h8, if_pos (show 1 < (s.size : Int) by omega), main _ (fun h => ⟨by omega, of_decide_eq_true h⟩), tN, if_neg d8, if_neg c3]
          · rw [if_neg h8, main _ (fun h => by cases h), tN, if_neg d8, if_neg c3]
theorem ref_takeT (s : ByteArray) (most : Int) (hs : s.size ≤ 70000) : hopperref03_TakeText.f s most = some (L.takeT s most) := by
  unfold hopperref03_TakeText.f L.takeT
  have h0 := bt_range s 0
  have h1 := bt_range s 1
  by_cases a : s.size < 2
  · rw [if_pos (by omega), if_pos a]
  · have w0 := wb s 0
    have w1 := wb s 1
    rw [if_neg (by omega), if_pos (by omega), if_pos (by omega), if_neg a, w0, w1, wr (256 * bt s 0) (by omega) (by omega), wr (256 * bt s 0 + bt s 1) (by omega) (by omega), wr ((s.size : Int) - 2) (by omega) (by omega), wr (256 * bt s 0 + bt s 1 + 2) (by omega) (by omega)]
    rw [show 256 * bt s 0 + bt s 1 = bt s 0 * 256 + bt s 1 by omega]
    by_cases b : bt s 0 * 256 + bt s 1 > most
    · rw [if_pos b, if_pos (show most < bt s 0 * 256 + bt s 1 from b)]
    · by_cases c : bt s 0 * 256 + bt s 1 > (s.size : Int) - 2
      · rw [if_neg b, if_neg (show ¬ most < bt s 0 * 256 + bt s 1 from b), if_pos c, if_pos (show (s.size : Int) - 2 < bt s 0 * 256 + bt s 1 from c)]
      · rw [if_neg b, if_neg (show ¬ most < bt s 0 * 256 + bt s 1 from b), if_neg c, if_neg (show ¬ (s.size : Int) - 2 < bt s 0 * 256 + bt s 1 from c), if_pos (by omega), if_pos (by omega), if_pos (by omega)]
        rw [show (bt s 0 * 256 + bt s 1 + 2).toNat = 2 + (bt s 0 * 256 + bt s 1).toNat by omega]
namespace Fnv
theorem wrap_step {i : Int} {n : Nat} (h0 : 0 ≤ i) (h : i < (n : Int)) (hn : n ≤ 9223372036854775807) : wrap64 (i + 1) = i + 1 := by unfold wrap64; omega
theorem bt_get (s : ByteArray) (i : Nat) (h : i < s.size) : bt s (i : Int) = ((s[i]).toNat : Int) := by
  unfold bt
  have e : (i : Int).toNat = i := by omega
  rw [dif_pos (by rw [e]; exact h)]
  simp only [e]
theorem drop_get (s : ByteArray) (i : Nat) (h : i < s.size) : s.data.toList.drop i = s[i] :: s.data.toList.drop (i + 1) := by
  rw [List.drop_eq_getElem_cons (by simpa using h)]; rfl
theorem ref_roll_l (s : ByteArray) (hn : s.size ≤ 9223372036854775806) (d : Nat) : ∀ (k : Nat) (h : Int) (i : Nat), i + d = s.size → d < k → hopperref02_Roll.l0 k h s (i : Int) = some (rollL h (s.data.toList.drop i)) := by
  induction d with
  | zero =>
    intro k h i hi hk
    obtain ⟨k, rfl⟩ : ∃ m, k = m + 1 := ⟨k - 1, by omega⟩
    simp only [hopperref02_Roll.l0]
    rw [if_neg (by omega), List.drop_of_length_le (by simp; omega)]
    rfl
  | succ d ih =>
    intro k h i hi hk
    obtain ⟨k, rfl⟩ : ∃ m, k = m + 1 := ⟨k - 1, by omega⟩
    simp only [hopperref02_Roll.l0]
    rw [if_pos (by omega), if_pos (by omega), wrap_step (n := s.size) (by omega) (by omega) (by omega), bt_get s i (by omega), drop_get s i (by omega), show (i : Int) + 1 = ((i + 1 : Nat) : Int) by omega, ih k _ (i + 1) (by omega) (by omega)]
    rfl
theorem ref_roll (h : Int) (s : ByteArray) (hn : s.size ≤ 9223372036854775806) (k : Nat) (hk : s.size < k) : hopperref02_Roll.f k h s = some (rollL h s.data.toList) := by
  unfold hopperref02_Roll.f
  have e := ref_roll_l s hn s.size k h 0 (by omega) hk
  rw [List.drop_zero] at e
  exact e
theorem ref_of (s : ByteArray) (hn : s.size ≤ 9223372036854775806) (k : Nat) (hk : s.size < k) : hopperref02_Of.f k s = some (rollL 14695981039346656037 s.data.toList) := by
  unfold hopperref02_Of.f; rw [ref_roll _ _ hn k hk]; rfl
theorem ref_text (h : Int) (h0 : 0 ≤ h) (h1 : h < 18446744073709551616) : hopperref02_Text.f h = some (strOfNums (hexL h.toNat)) := by
  unfold hopperref02_Text.f; rw [if_pos h0, if_pos h1]
end Fnv
theorem ref_take40 (s : ByteArray) (hs : s.size ≤ 70000) : hopperref03_TakeNumber.f 40 s 1099511627776 = some (takeN s 1099511627776) := by
  by_cases c : (bt s 0).toNat ≤ 8
  · exact at_rounds (hopperref03_TakeNumber.mono s _) (show (bt s 0).toNat + 12 ≤ 40 by omega) (ref_take s _ hs)
  · have h8 : bt s 0 > 8 := by omega
    have hp : s.size ≠ 0 := by
      intro h
      have : bt s 0 = 0 := by unfold bt; rw [dif_neg (by omega)]
      omega
    unfold hopperref03_TakeNumber.f takeN
    rw [if_neg (by omega), if_pos (by omega), if_neg (by omega), if_pos h8, if_neg hp, if_pos h8]
    simp only [hopperref03_TakeNumber.j0]
    rw [if_pos trivial]
end Go.Proofs.Ytihlogdmdmhefaa.TxnCodec
