/- Written by this session's own program over the kit's print: functions of Go told as plain functions, or the row of one statement; proved for every input, with no condition of ours. -/
import Derived.Test.YtihlogdmdmhefaaLx0
import Derived.Test.YtihlogdmdmhefaaLx5
import Derived.Test.YtihlogdmdmhefaaLx6
namespace Go.Proofs.Ytihlogdmdmhefaa.L
open Go.RowKit Go.Proofs.YtihlogdmdmhefaaW.PrintWords Go.Proofs.YtihlogdmdmhefaaW.PrintLast Go.Proofs.YtihlogdmdmhefaaW.PrintMore
attribute [local go_sem] max2_int min2_int max_two min_two max_three min_three max_four min_four   -- for this text's walks alone
set_option linter.unusedVariables false
set_option linter.unusedSimpArgs false

/-! ### codec_TakeText: function 111, by hand -/
-- HAND rounds=0 making=1
theorem bytes_two (s : ByteArray) (h : 2 ≤ s.size) : bytesOf (s.extract 0 2) = [bt s 0, bt s 1] := by
  rw [← rd_bytesOf, ← rd_bytesOf, ← bytesOf_take]
  have hl := bytesOf_length s
  generalize bytesOf s = l at *
  match l, hl with
  | [], hl => simp at hl; omega
  | [x], hl => simp at hl; omega
  | x :: y :: r, _ => rfl
theorem val_two (a b : Int) (h0 : 0 ≤ a) (h1 : a ≤ 255) (h2 : 0 ≤ b) (h3 : b ≤ 255) : valW [a, b] = a * 256 + b := by
  have e1 : Go.bits .or .i64 (wrap64 (0 * 256)) (wrap64 a) = a := by rw [or_step 0 a h0 (by omega)]; unfold wrap64; omega
  have e2 : valW [a, b] = Go.bits .or .i64 (wrap64 (Go.bits .or .i64 (wrap64 (0 * 256)) (wrap64 a) * 256)) (wrap64 b) := rfl
  rw [e2, e1, or_step a b h2 (by omega)]
  unfold wrap64
  omega
def takeT (s : ByteArray) (most : Int) : ByteArray × ByteArray × Bool :=
  if s.size < 2 then (⟨#[]⟩, ⟨#[]⟩, false) else if most < bt s 0 * 256 + bt s 1 then (⟨#[]⟩, ⟨#[]⟩, false) else if (s.size : Int) - 2 < bt s 0 * 256 + bt s 1 then (⟨#[]⟩, ⟨#[]⟩, false) else
  (s.extract 2 (2 + (bt s 0 * 256 + bt s 1).toNat), s.extract (2 + (bt s 0 * 256 + bt s 1).toNat) s.size, true)
def codec_TakeText.f (a0 : ByteArray) (a1 : Int) : Option (ByteArray × ByteArray × Bool) := if a0.size ≤ 9223372036854775806 then some (takeT a0 a1) else none
set_option maxHeartbeats 4000000 in
set_option maxRecDepth 100000 in
theorem codec_TakeText.calls (a0 : ByteArray) (a1 : Int) (r1 : ByteArray) (r2 : ByteArray) (r3 : Bool) (w : World) (h : codec_TakeText.f a0 a1 = some (r1, r2, r3)) :
    Calls Try.prog 111 #[.string a0, .int .i64 a1] w fun e w' => e = .returned (.tuple #[.string r1, .string r2, .bool r3]) ∧ Below w.heap.size w w' := by
  unfold codec_TakeText.f at h
  by_cases hs : a0.size ≤ 9223372036854775806
  · rw [if_pos hs] at h
    have h := Option.some.inj h
    unfold takeT at h
    by_cases c0 : a0.size < 2
    · rw [if_pos c0] at h
      have HH := Aside0.mk h
      clear h
      have HC := Aside0.mk (codec_cut.short a0 2 w (by omega))
      go_enter Try.func111, Try.ntmps111
      go_wp2_with (first | (go_at_call 164; (with_reducible refine HC.out.mono ?_); rintro e w1 ⟨rfl, hb⟩; have HB := Aside0.mk hb; clear hb))
      go_ret3
      have HH := HH.out
      simp only [Prod.mk.injEq] at HH
      obtain ⟨rfl, rfl, rfl⟩ := HH
      exact ⟨rfl, HB.out⟩
    · rw [if_neg c0] at h
      have hc1 := codec_cut.long a0 2 w (by omega) (by omega)
      rw [show ((2 : Nat) : Int) = 2 from rfl] at hc1
      have hv := fun (W : World) (hr : ReadsInt W .u8 (some ⟨w.heap.size, 0, none⟩) 2 (bytesOf (a0.extract 0 2))) => codec_value.calls 3 (some ⟨w.heap.size, 0, none⟩) 2 (bytesOf (a0.extract 0 2)) _ W (Kd.C_of_reads (enc := Value.int .u8) (d := (0 : Int)) (h1 := fun _ => rfl) (by rw [bytes_two a0 (by omega)] at hr ⊢; exact hr)) (by rw [bytes_two a0 (by omega)]; exact Nat.le_refl _) (by have z := value_all (bytesOf (a0.extract 0 2)) (by rw [bytes_two a0 (by omega)]; simp); rw [bytes_two a0 (by omega)] at z ⊢; exact z)
      have hb0 := bt_range a0 0
      have hb1 := bt_range a0 1
      simp only [bytes_two a0 (by omega)] at hv hc1
      rw [val_two _ _ hb0.1 hb0.2 hb1.1 hb1.2] at hv
      simp only [List.length_cons, List.length_nil, Nat.zero_add, Nat.reduceAdd] at hv
      obtain ⟨n, hn⟩ : ∃ n : Nat, bt a0 0 * 256 + bt a0 1 = n := ⟨(bt a0 0 * 256 + bt a0 1).toNat, by omega⟩
      rw [hn] at h hv
      rw [show (n : Int).toNat = n from rfl] at h
      generalize [bt a0 0, bt a0 1] = L at *
      have HC := Aside0.mk hc1
      have HV := Aside0.mk hv
      clear hc1 hv hb0 hb1 hn
      by_cases c1 : a1 < (n : Int)
      · rw [if_pos c1] at h
        have HH := Aside0.mk h
        clear h
        go_enter Try.func111, Try.ntmps111
        go_wp2_with (first | (go_at_call 164; (with_reducible refine HC.out.mono ?_); rintro e w1 ⟨⟨rfl, hr⟩, hb⟩; have HB := Aside0.mk hb; have HR := Aside0.mk hr; clear hb hr) | (go_at_call 165; (with_reducible refine (HV.out _ HR.out).mono ?_); rintro e w2 ⟨rfl, hq⟩; have HB2 := Aside0.mk (below_step HB.out hq.below); clear hq))
        go_ret3
        have HH := HH.out
        simp only [Prod.mk.injEq] at HH
        obtain ⟨rfl, rfl, rfl⟩ := HH
        exact ⟨rfl, HB2.out⟩
      · rw [if_neg c1] at h
        by_cases c2 : (a0.size : Int) - 2 < (n : Int)
        · rw [if_pos c2] at h
          have HH := Aside0.mk h
          clear h
          have HC2 := Aside0.mk (fun W => codec_cut.short (a0.extract 2 a0.size) (n : Int) W (by rw [ByteArray.size_extract]; omega))
          go_enter Try.func111, Try.ntmps111
          go_wp2_with (first | (go_at_call 164; (with_reducible refine HC.out.mono ?_); rintro e w1 ⟨⟨rfl, hr⟩, hb⟩; have HB := Aside0.mk hb; have HR := Aside0.mk hr; clear hb hr) | (go_at_call 165; (with_reducible refine (HV.out _ HR.out).mono ?_); rintro e w2 ⟨rfl, hq⟩; have z := Aside0.mk (HR.out.below hq.below); clear HR; have HR := z; clear z; have HB2 := Aside0.mk (below_step HB.out hq.below); clear HB; have HB := HB2; clear HB2 hq) | (go_at_call 164; (with_reducible refine (HC2.out _).mono ?_); rintro e w3 ⟨rfl, hb⟩; have HB3 := Aside0.mk (below_step HB.out hb); clear hb))
          go_ret3
          have HH := HH.out
          simp only [Prod.mk.injEq] at HH
          obtain ⟨rfl, rfl, rfl⟩ := HH
          exact ⟨rfl, HB3.out⟩
        · rw [if_neg c2] at h
          have HH := Aside0.mk h
          clear h
          have hx : (a0.extract 2 a0.size).extract 0 n = a0.extract 2 (2 + n) := by
            rw [ByteArray.extract_extract, Nat.min_eq_left (by omega)]
          have hy : (a0.extract 2 a0.size).extract n (a0.extract 2 a0.size).size = a0.extract (2 + n) a0.size := by
            rw [ByteArray.size_extract, ByteArray.extract_extract]; congr 1; omega
          have hc2 := fun W => codec_cut.long (a0.extract 2 a0.size) n W (by rw [ByteArray.size_extract]; omega) (by rw [ByteArray.size_extract]; omega)
          rw [hx, hy] at hc2
          have HC2 := Aside0.mk hc2
          clear hc2 hx hy
          go_enter Try.func111, Try.ntmps111
          go_wp2_with (first | (go_at_call 164; (with_reducible refine HC.out.mono ?_); rintro e w1 ⟨⟨rfl, hr⟩, hb⟩; have HB := Aside0.mk hb; have HR := Aside0.mk hr; clear hb hr) | (go_at_call 165; (with_reducible refine (HV.out _ HR.out).mono ?_); rintro e w2 ⟨rfl, hq⟩; have z := Aside0.mk (HR.out.below hq.below); clear HR; have HR := z; clear z; have HB2 := Aside0.mk (below_step HB.out hq.below); clear HB; have HB := HB2; clear HB2 hq) | (go_at_call 164; (with_reducible refine (HC2.out _).mono ?_); rintro e w3 ⟨⟨rfl, hr⟩, hb⟩; have HB3 := Aside0.mk (below_step HB.out hb); have hcv := string_of_reads (P := Try.prog) (c := n) Try.underlying95 Try.underlying5 Try.underlying9 hr; rw [str_bytesOf] at hcv; clear hb hr))
          go_ret3
          have HH := HH.out
          simp only [Prod.mk.injEq] at HH
          obtain ⟨rfl, rfl, rfl⟩ := HH
          exact ⟨rfl, HB3.out⟩
  · rw [if_neg hs] at h; cases h


end Go.Proofs.Ytihlogdmdmhefaa.L
