/- Written by this session's own program over the kit's print: functions of Go told as plain functions, or the row of one statement; proved for every input, with no condition of ours. -/
import Derived.Test.YtehncbhmdgdkjaaQx0
import Derived.Test.YtehncbhmdgdkjaaQx7
import Derived.Test.YtehncbhmdgdkjaaQx9
import Derived.Test.YtehncbhmdgdkjaaQx10
namespace Go.Proofs.Ytehncbhmdgdkjaa.Q
open Go.RowKit Go.Proofs.YtehncbhmdgdkjaaW.PrintWords Go.Proofs.YtehncbhmdgdkjaaW.PrintLast Go.Proofs.YtehncbhmdgdkjaaW.PrintMore
attribute [local go_sem] max2_int min2_int max_two min_two max_three min_three max_four min_four   -- for this text's walks alone
set_option linter.unusedVariables false
set_option linter.unusedSimpArgs false

/-! ### strings_Builder_String: function 154, by hand -/
-- HAND rounds=0 making=1 opaque
-- IMPORT Derived.Shelf.Strings.Builder1
def laysString_ren : Go.Shelf.Ren := ⟨fun | 169 => 154 | n => n, fun | 70 => 161 | 9 => 9 | 0 => 0 | 72 => 164 | 37 => 162 | 127 => 176 | 3 => 3 | 5 => 5 | n => n, fun | n => n⟩
theorem laysString : Go.Proofs.Lays.n169 Try.prog laysString_ren := {
  mixed := by kernel_rfl
  f169 := Try.func154.trans (congrArg some (by kernel_rfl))
  t0 := Try.underlying0
  a0 := Try.isAgg0
  z0 := Try.sizeOf0
  v0 := Try.zeroValue0
  t3 := Try.underlying3
  a3 := Try.isAgg3
  z3 := Try.sizeOf3
  v3 := Try.zeroValue3
  t9 := Try.underlying9
  a9 := Try.isAgg9
  z9 := Try.sizeOf9
  v9 := Try.zeroValue9
  t37 := Try.underlying162
  a37 := Try.isAgg162
  z37 := Try.sizeOf162
  v37 := Try.zeroValue162
  t70 := Try.underlying161
  a70 := Try.isAgg161
  z70 := Try.sizeOf161
  v70 := Try.zeroValue161
  t72 := Try.underlying164
  a72 := Try.isAgg164
  z72 := Try.sizeOf164
  v72 := Try.zeroValue164
  t127 := Try.underlying176
  a127 := Try.isAgg176
  z127 := Try.sizeOf176
  v127 := Try.zeroValue176 }
open Go.Proofs Go.Shelf in
theorem extraString : Builder.Extra Try.prog laysString_ren := {
  sizeBuilder := by kernel_rfl
  liesBuilder := by kernel_rfl
  t5 := Try.underlying5
  a5 := Try.isAgg5
  z5 := Try.sizeOf5
  v5 := Try.zeroValue5
  infoByte := by kernel_rfl
  cellsByte := by kernel_rfl
  sizeByte := by kernel_rfl
  neB5 := by decide }
open Go.Proofs Go.Shelf in
theorem strings_Builder_String.calls (B b : Nat) (l : List UInt8) (w : World) (h : Lib.IsBuilder 164 5 B b (Lib.byteCells l) w) (hBw : B ≤ w.heap.size) :
    Calls Try.prog 154 #[.pointer (some ⟨b, 0, none⟩)] w fun e w' => e = .returned (.string ⟨l.toArray⟩) ∧ Below B w w' := Any.Builder_String_any laysString extraString B b l w h hBw


/-! ### txn_Encode: function 134, by hand -/
-- HAND rounds=0 making=1
theorem builder_below {T e : TypeId} {B b : Nat} {p : Value} {bs : List Value} {w w' : World} (h : Lib.BuilderAt T e B b p bs w) (hb : Below w.heap.size w w') : Lib.BuilderAt T e B b p bs w' := by
  have hlt := h.lt
  obtain ⟨h1, v, h2, h3, h4⟩ := h
  exact ⟨h1, v, by rw [hb.block b hlt]; exact h2, own_move h3 (fun k hk => hb.block k (own_lt h3 k hk)), h4⟩
/-- What stands in the builder behind so many numbers. -/
def encP (ns : List ByteArray) (i : Nat) : List UInt8 := (1 : UInt8) :: ((ns.take i).map fun s => s.data.toList).flatten
theorem encP_next (ns : List ByteArray) (i : Nat) (x : ByteArray) (h : ns[i]? = some x) : Lib.byteCells (encP ns (i + 1)) = Lib.byteCells (encP ns i) ++ Lib.strCells x := by
  rw [Lib.strCells_eq, ← Lib.byteCells_append]
  congr 1
  obtain ⟨hi, hx⟩ := List.getElem?_eq_some_iff.1 h
  unfold encP
  rw [List.take_succ_eq_append_getElem hi, List.map_append, List.flatten_append, hx]
  simp
def encAll (n0 n1 n2 n3 n4 t : ByteArray) : ByteArray := ⟨(encP [n0, n1, n2, n3, n4, t] 6).toArray⟩
def txn_Encode.f (a0_0 : Int) (a0_1 : Int) (a0_2 : Int) (a0_3 : Int) (a0_4 : Int) (a0_5 : ByteArray) : Option (ByteArray × Bool) :=
  (txn_Check.f a0_0 a0_1 a0_2 a0_3 a0_4 a0_5).bind fun c => if c = true then
    ((codec_Number.f a0_0).bind fun n0 => (codec_Number.f a0_1).bind fun n1 => (codec_Number.f a0_2).bind fun n2 => (codec_Number.f a0_3).bind fun n3 => (codec_Number.f a0_4).bind fun n4 => (codec_Text.f a0_5).bind fun t =>
      if n0.size + n1.size + n2.size + n3.size + n4.size + t.size ≤ 140737488355000 then some (encAll n0 n1 n2 n3 n4 t, true) else none) else some (⟨#[]⟩, false)
def encBox (a0 a1 a2 a3 a4 : Int) (a5 : ByteArray) : Array Value := #[.int .i64 a0, .int .i64 a1, .int .i64 a2, .int .i64 a3, .int .i64 a4, .string a5]
def EncRel (w : World) (b : Nat) (box : Array Value) (ns : List ByteArray) (i : Nat) (wr : World) : Prop :=
  Lib.BuilderAt 164 5 b b (.pointer (some ⟨b, 0, none⟩)) (Lib.byteCells (encP ns i)) wr ∧ wr.heap[w.heap.size]? = some (.cells box 24 (0, 0)) ∧ Below w.heap.size w wr ∧ w.heap.size < b
theorem enc_len (ns : List ByteArray) (i : Nat) : (Lib.byteCells (encP ns i)).length = 1 + ((ns.take i).map ByteArray.size).sum := by
  rw [Lib.byteCells_length]
  unfold encP
  rw [List.length_cons, List.length_flatten, List.map_map]
  have e : (List.length ∘ fun s : ByteArray => s.data.toList) = ByteArray.size := by funext s; exact data_length s
  rw [e]
  omega
/-- What is below a later bound is below an earlier one. -/
theorem below_step_lo {B C : Nat} {w a b : World} (h : Below B w a) (k : Below C a b) (hBC : B ≤ C) : Below B w b := h.trans ⟨k.1, k.2, k.3, k.size, fun i hi => k.block i (Nat.lt_of_lt_of_le hi hBC)⟩
theorem enc_step (w : World) (b : Nat) (box : Array Value) (ns : List ByteArray) (i : Nat) (x : ByteArray) (wr w3 w4 : World) (h : EncRel w b box ns i wr) (hx : ns[i]? = some x) (h3 : Below wr.heap.size wr w3)
    (hbu : Lib.BuilderAt 164 5 b b (.pointer (some ⟨b, 0, none⟩)) (Lib.byteCells (encP ns i) ++ Lib.strCells x) w4) (h4 : Below b w3 w4) : EncRel w b box ns (i + 1) w4 := by
  obtain ⟨e1, e2, e3, e4⟩ := h
  have hlt := e1.lt
  refine ⟨by rw [encP_next ns i x hx]; exact hbu, ?_, below_step_lo (below_step e3 h3) h4 (Nat.le_of_lt e4), e4⟩
  rw [h4.block _ e4, h3.block _ (by omega)]
  exact e2
set_option maxHeartbeats 4000000 in
set_option maxRecDepth 100000 in
theorem txn_Encode.calls (a0_0 : Int) (a0_1 : Int) (a0_2 : Int) (a0_3 : Int) (a0_4 : Int) (a0_5 : ByteArray) (r1 : ByteArray) (r2 : Bool) (w : World) (h : txn_Encode.f a0_0 a0_1 a0_2 a0_3 a0_4 a0_5 = some (r1, r2)) :
    Calls Try.prog 134 #[.agg #[.int .i64 a0_0, .int .i64 a0_1, .int .i64 a0_2, .int .i64 a0_3, .int .i64 a0_4, .string a0_5]] w fun e w' => e = .returned (.tuple #[.string r1, .bool r2]) ∧ Below w.heap.size w w' := by
  unfold txn_Encode.f at h
  obtain ⟨c, hc, h⟩ := Option.bind_eq_some_iff.1 h
  have HK := Aside0.mk hc
  clear hc
  cases c with
  | false =>
    rw [if_neg (by decide)] at h
    have HH := Aside0.mk (Option.some.inj h)
    clear h
    go_enter Try.func134, Try.ntmps134
    go_wp2_with (first | (go_at_call 102; (with_reducible refine (txn_Check.calls _ _ _ _ _ _ false _ HK.out).mono ?_); rintro e w1 ⟨rfl, hb⟩; have HB := Aside0.mk (below_step (below_alloc (Below.refl w.heap.size w) _) hb); clear hb))
    go_ret2
    have HH := HH.out
    simp only [Prod.mk.injEq] at HH
    obtain ⟨rfl, rfl⟩ := HH
    exact ⟨rfl, HB.out⟩
  | true =>
    rw [if_pos rfl] at h
    obtain ⟨n0, e0, h⟩ := Option.bind_eq_some_iff.1 h
    obtain ⟨n1, e1, h⟩ := Option.bind_eq_some_iff.1 h
    obtain ⟨n2, e2, h⟩ := Option.bind_eq_some_iff.1 h
    obtain ⟨n3, e3, h⟩ := Option.bind_eq_some_iff.1 h
    obtain ⟨n4, e4, h⟩ := Option.bind_eq_some_iff.1 h
    obtain ⟨t, e5, h⟩ := Option.bind_eq_some_iff.1 h
    by_cases hs : n0.size + n1.size + n2.size + n3.size + n4.size + t.size ≤ 140737488355000
    · rw [if_pos hs] at h
      have HH := Aside0.mk (Option.some.inj h)
      have HS := Aside0.mk hs
      have E0 := Aside0.mk e0
      have E1 := Aside0.mk e1
      have E2 := Aside0.mk e2
      have E3 := Aside0.mk e3
      have E4 := Aside0.mk e4
      have E5 := Aside0.mk e5
      clear h hs e0 e1 e2 e3 e4 e5
      have HW := Aside0.mk (fun W : World => strings_Builder_WriteString.calls W.heap.size W.heap.size [] (⟨#[1]⟩ : ByteArray) _ (Lib.fresh_isBuilder 164 5 W) (by decide) (by simp))
      go_enter Try.func134, Try.ntmps134
      go_wp2_with (first | (go_at_call 102; (with_reducible refine (txn_Check.calls _ _ _ _ _ _ true _ HK.out).mono ?_); rintro e w1 ⟨rfl, hb⟩; have BX := Aside0.mk ((hb.block w.heap.size (by simp)).trans (heap_alloc_new w (.cells (encBox a0_0 a0_1 a0_2 a0_3 a0_4 a0_5) 24))); have HL := Aside0.mk (show w.heap.size < w1.heap.size by have := hb.size; simp at this; omega); have HB := Aside0.mk (below_step (below_alloc (Below.refl w.heap.size w) _) hb); clear hb))
      refine (HW.out _).mono ?_
      rintro e w2 ⟨rfl, hbu, hb⟩
      have BX2 := Aside0.mk ((hb.block w.heap.size HL.out).trans ((heap_alloc_old w1 _ HL.out).trans BX.out))
      have hx0 : w2.cell? ⟨w.heap.size, 0, none⟩ = some (.int .i64 a0_0) := (blk_cell BX2.out 0).trans rfl
      have hx1 : w2.cell? ⟨w.heap.size, 1, none⟩ = some (.int .i64 a0_1) := (blk_cell BX2.out 1).trans rfl
      have hx2 : w2.cell? ⟨w.heap.size, 2, none⟩ = some (.int .i64 a0_2) := (blk_cell BX2.out 2).trans rfl
      have hx3 : w2.cell? ⟨w.heap.size, 3, none⟩ = some (.int .i64 a0_3) := (blk_cell BX2.out 3).trans rfl
      have hx4 : w2.cell? ⟨w.heap.size, 4, none⟩ = some (.int .i64 a0_4) := (blk_cell BX2.out 4).trans rfl
      have HBU := Aside0.mk hbu
      have HB2 := Aside0.mk (below_step_lo (below_alloc HB.out _) hb (Nat.le_of_lt HL.out))
      clear hbu hb
      go_wp2_with (fail)
      go_loopw [22] (fun v22 wr => ∃ i : Nat, i ≤ 5 ∧ v22 = .int .i64 (i : Int) ∧ Aside0 (EncRel w w1.heap.size (encBox a0_0 a0_1 a0_2 a0_3 a0_4 a0_5) [n0, n1, n2, n3, n4, t] i wr)) (fun v22 _ => 5 - (intOf v22).toNat)
      case atStart =>
        exact ⟨0, by omega, rfl, ⟨⟨HBU.out, BX2.out, HB2.out, HL.out⟩⟩⟩
      case round =>
        obtain ⟨i, hi, rfl, HX⟩ := hrel
        have HG := Aside0.mk (show w1.heap.size ≤ wr.heap.size from Nat.le_of_lt HX.out.1.lt)
        rcases (show i = 0 ∨ i = 1 ∨ i = 2 ∨ i = 3 ∨ i = 4 ∨ i = 5 by omega) with rfl | rfl | rfl | rfl | rfl | rfl
        · have ix : ∀ W : World, (Instr.index 169 (.agg #[.int .i64 a0_0, .int .i64 a0_1, .int .i64 a0_2, .int .i64 a0_3, .int .i64 a0_4]) (.int .i64 0)).run Try.prog W = .ok (.int .i64 a0_0) W := fun _ => by kernel_rfl
          have HN := Aside0.mk (codec_Number.calls a0_0 n0 wr E0.out)
          have HW2 := Aside0.mk (fun (W : World) (hb : Below wr.heap.size wr W) => strings_Builder_WriteString.calls w1.heap.size w1.heap.size _ n0 W (.inr (builder_below HX.out.1 hb)) (by rw [enc_len]; have := HS.out; simp; omega) (Nat.le_trans HG.out hb.size))
          go_wp2_with (first | (go_at_call 152; (with_reducible refine HN.out.mono ?_); rintro e w3 ⟨rfl, hb3⟩; have HB3 := Aside0.mk hb3; clear hb3) | (go_at_call 151; (with_reducible refine (HW2.out _ HB3.out).mono ?_); rintro e w4 ⟨rfl, hbu, hb4⟩; have HBU4 := Aside0.mk hbu; have HB4 := Aside0.mk hb4; clear hbu hb4))
          go_wp2_with (fail)
          go_roundw
          case rel => exact ⟨1, by omega, by go_num, ⟨enc_step w w1.heap.size _ _ 0 n0 wr w3 w4 HX.out rfl HB3.out HBU4.out HB4.out⟩⟩
          case measure => simp [intOf]
        · have ix : ∀ W : World, (Instr.index 169 (.agg #[.int .i64 a0_0, .int .i64 a0_1, .int .i64 a0_2, .int .i64 a0_3, .int .i64 a0_4]) (.int .i64 1)).run Try.prog W = .ok (.int .i64 a0_1) W := fun _ => by kernel_rfl
          have HN := Aside0.mk (codec_Number.calls a0_1 n1 wr E1.out)
          have HW2 := Aside0.mk (fun (W : World) (hb : Below wr.heap.size wr W) => strings_Builder_WriteString.calls w1.heap.size w1.heap.size _ n1 W (.inr (builder_below HX.out.1 hb)) (by rw [enc_len]; have := HS.out; simp; omega) (Nat.le_trans HG.out hb.size))
          go_wp2_with (first | (go_at_call 152; (with_reducible refine HN.out.mono ?_); rintro e w3 ⟨rfl, hb3⟩; have HB3 := Aside0.mk hb3; clear hb3) | (go_at_call 151; (with_reducible refine (HW2.out _ HB3.out).mono ?_); rintro e w4 ⟨rfl, hbu, hb4⟩; have HBU4 := Aside0.mk hbu; have HB4 := Aside0.mk hb4; clear hbu hb4))
          go_wp2_with (fail)
          go_roundw
          case rel => exact ⟨2, by omega, by go_num, ⟨enc_step w w1.heap.size _ _ 1 n1 wr w3 w4 HX.out rfl HB3.out HBU4.out HB4.out⟩⟩
          case measure => simp [intOf]
        · have ix : ∀ W : World, (Instr.index 169 (.agg #[.int .i64 a0_0, .int .i64 a0_1, .int .i64 a0_2, .int .i64 a0_3, .int .i64 a0_4]) (.int .i64 2)).run Try.prog W = .ok (.int .i64 a0_2) W := fun _ => by kernel_rfl
          have HN := Aside0.mk (codec_Number.calls a0_2 n2 wr E2.out)
          have HW2 := Aside0.mk (fun (W : World) (hb : Below wr.heap.size wr W) => strings_Builder_WriteString.calls w1.heap.size w1.heap.size _ n2 W (.inr (builder_below HX.out.1 hb)) (by rw [enc_len]; have := HS.out; simp; omega) (Nat.le_trans HG.out hb.size))
          go_wp2_with (first | (go_at_call 152; (with_reducible refine HN.out.mono ?_); rintro e w3 ⟨rfl, hb3⟩; have HB3 := Aside0.mk hb3; clear hb3) | (go_at_call 151; (with_reducible refine (HW2.out _ HB3.out).mono ?_); rintro e w4 ⟨rfl, hbu, hb4⟩; have HBU4 := Aside0.mk hbu; have HB4 := Aside0.mk hb4; clear hbu hb4))
          go_wp2_with (fail)
          go_roundw
          case rel => exact ⟨3, by omega, by go_num, ⟨enc_step w w1.heap.size _ _ 2 n2 wr w3 w4 HX.out rfl HB3.out HBU4.out HB4.out⟩⟩
          case measure => simp [intOf]
        · have ix : ∀ W : World, (Instr.index 169 (.agg #[.int .i64 a0_0, .int .i64 a0_1, .int .i64 a0_2, .int .i64 a0_3, .int .i64 a0_4]) (.int .i64 3)).run Try.prog W = .ok (.int .i64 a0_3) W := fun _ => by kernel_rfl
          have HN := Aside0.mk (codec_Number.calls a0_3 n3 wr E3.out)
          have HW2 := Aside0.mk (fun (W : World) (hb : Below wr.heap.size wr W) => strings_Builder_WriteString.calls w1.heap.size w1.heap.size _ n3 W (.inr (builder_below HX.out.1 hb)) (by rw [enc_len]; have := HS.out; simp; omega) (Nat.le_trans HG.out hb.size))
          go_wp2_with (first | (go_at_call 152; (with_reducible refine HN.out.mono ?_); rintro e w3 ⟨rfl, hb3⟩; have HB3 := Aside0.mk hb3; clear hb3) | (go_at_call 151; (with_reducible refine (HW2.out _ HB3.out).mono ?_); rintro e w4 ⟨rfl, hbu, hb4⟩; have HBU4 := Aside0.mk hbu; have HB4 := Aside0.mk hb4; clear hbu hb4))
          go_wp2_with (fail)
          go_roundw
          case rel => exact ⟨4, by omega, by go_num, ⟨enc_step w w1.heap.size _ _ 3 n3 wr w3 w4 HX.out rfl HB3.out HBU4.out HB4.out⟩⟩
          case measure => simp [intOf]
        · have ix : ∀ W : World, (Instr.index 169 (.agg #[.int .i64 a0_0, .int .i64 a0_1, .int .i64 a0_2, .int .i64 a0_3, .int .i64 a0_4]) (.int .i64 4)).run Try.prog W = .ok (.int .i64 a0_4) W := fun _ => by kernel_rfl
          have HN := Aside0.mk (codec_Number.calls a0_4 n4 wr E4.out)
          have HW2 := Aside0.mk (fun (W : World) (hb : Below wr.heap.size wr W) => strings_Builder_WriteString.calls w1.heap.size w1.heap.size _ n4 W (.inr (builder_below HX.out.1 hb)) (by rw [enc_len]; have := HS.out; simp; omega) (Nat.le_trans HG.out hb.size))
          go_wp2_with (first | (go_at_call 152; (with_reducible refine HN.out.mono ?_); rintro e w3 ⟨rfl, hb3⟩; have HB3 := Aside0.mk hb3; clear hb3) | (go_at_call 151; (with_reducible refine (HW2.out _ HB3.out).mono ?_); rintro e w4 ⟨rfl, hbu, hb4⟩; have HBU4 := Aside0.mk hbu; have HB4 := Aside0.mk hb4; clear hbu hb4))
          go_wp2_with (fail)
          go_roundw
          case rel => exact ⟨5, by omega, by go_num, ⟨enc_step w w1.heap.size _ _ 4 n4 wr w3 w4 HX.out rfl HB3.out HBU4.out HB4.out⟩⟩
          case measure => simp [intOf]
        · have HT := Aside0.mk (codec_Text.calls a0_5 t wr E5.out)
          have hx5 : wr.cell? ⟨w.heap.size, 5, none⟩ = some (.string a0_5) := (blk_cell HX.out.2.1 5).trans rfl
          have HW2 := Aside0.mk (fun (W : World) (hb : Below wr.heap.size wr W) => strings_Builder_WriteString.calls w1.heap.size w1.heap.size _ t W (.inr (builder_below HX.out.1 hb)) (by rw [enc_len]; have := HS.out; simp; omega) (Nat.le_trans HG.out hb.size))
          go_wp2_with (first | (go_at_call 153; (with_reducible refine HT.out.mono ?_); rintro e w3 ⟨rfl, hb3⟩; have HB3 := Aside0.mk hb3; clear hb3) | (go_at_call 151; (with_reducible refine (HW2.out _ HB3.out).mono ?_); rintro e w4 ⟨rfl, hbu, hb4⟩; have HE := Aside0.mk (show EncRel w w1.heap.size (encBox a0_0 a0_1 a0_2 a0_3 a0_4 a0_5) [n0, n1, n2, n3, n4, t] 6 w4 from enc_step w w1.heap.size _ _ 5 t wr w3 w4 HX.out rfl HB3.out hbu hb4); clear hbu hb4) | (go_at_call 154; (refine (strings_Builder_String.calls w1.heap.size w1.heap.size (encP [n0, n1, n2, n3, n4, t] 6) _ (.inr HE.out.1) (Nat.le_of_lt HE.out.1.lt)).mono ?_); rintro e w5 ⟨rfl, hb5⟩; have HB5 := Aside0.mk (below_step_lo HE.out.2.2.1 hb5 (Nat.le_of_lt HE.out.2.2.2)); clear hb5))
          go_ret2
          have HH := HH.out
          simp only [Prod.mk.injEq] at HH
          obtain ⟨rfl, rfl⟩ := HH
          exact ⟨rfl, HB5.out⟩
    · rw [if_neg hs] at h; cases h


/-! ### sat_Slots: function 135 -/
def sat_Slots.f (a0 : Int) : Option (Int) := if a0 < 0 then (some 0) else (if a0 > 400 then (some 0) else (some (mx 1 (wrap64 (Int.tdiv (wrap64 ((wrap64 (a0 + 32)) - 1)) 32)))))
set_option maxHeartbeats 8000000 in
set_option maxRecDepth 100000 in
theorem sat_Slots.calls (a0 : Int) (r : Int) (w : World) (h : sat_Slots.f a0 = some r) :
    Calls Try.prog 135 #[.int .i64 a0] w fun e w' => e = .returned (.int .i64 r) ∧ Below w.heap.size w w' := by
  have HB := Aside0.mk (Below.refl w.heap.size w)
  have H : (if a0 < 0 then (some 0) else (if a0 > 400 then (some 0) else (some (mx 1 (wrap64 (Int.tdiv (wrap64 ((wrap64 (a0 + 32)) - 1)) 32)))))) = some r := h
  clear h
  by_cases c2 : a0 < 0
  · rw [if_pos c2] at H
    have c2b0 : decide (a0 < 0) = true := decide_eq_true c2
    clear c2
    obtain rfl := Option.some.inj H
    go_enter Try.func135, Try.ntmps135
    go_wp2
    go_ret
    exact ⟨by first | rfl | (simp [errW_none, errW_some] <;> rfl) | (simp [*, errW_none, errW_some] <;> rfl), by repeat (first | (with_reducible first | exact HB.out | apply below_alloc | apply pw_below_drewN | apply below_drew1) | exact HB.out)⟩
  · rw [if_neg c2] at H
    have c2b0 : decide (a0 < 0) = false := decide_eq_false c2
    clear c2
    by_cases c3 : a0 > 400
    · rw [if_pos c3] at H
      have c3b0 : decide (400 < a0) = true := decide_eq_true c3
      clear c3
      obtain rfl := Option.some.inj H
      go_enter Try.func135, Try.ntmps135
      go_wp2
      go_ret
      exact ⟨by first | rfl | (simp [errW_none, errW_some] <;> rfl) | (simp [*, errW_none, errW_some] <;> rfl), by repeat (first | (with_reducible first | exact HB.out | apply below_alloc | apply pw_below_drewN | apply below_drew1) | exact HB.out)⟩
    · rw [if_neg c3] at H
      have c3b0 : decide (400 < a0) = false := decide_eq_false c3
      clear c3
      obtain ⟨ji4, hji4⟩ : ∃ j_ : Int, (mx 1 (wrap64 (Int.tdiv (wrap64 ((wrap64 (a0 + 32)) - 1)) 32))) = j_ := ⟨_, rfl⟩
      replace H : (some ji4) = some r := by first | (rw [hji4] at H; exact H) | (simp only [hji4] at H ⊢; exact H)
      (try (have hji4l : 1 ≤ ji4 := by (rw [← hji4]; unfold mx; (repeat' split) <;> omega)))
      (try (have hji4m : 0 ≤ ji4 := by omega))
      have hji4_ : (if 1 < (wrap64 (Int.tdiv (wrap64 ((wrap64 (a0 + 32)) - 1)) 32)) then (wrap64 (Int.tdiv (wrap64 ((wrap64 (a0 + 32)) - 1)) 32)) else 1) = ji4 := hji4
      obtain rfl := Option.some.inj H
      go_enter Try.func135, Try.ntmps135
      go_wp2
      go_ret
      exact ⟨by first | rfl | (simp [errW_none, errW_some] <;> rfl) | (simp only [← hji4]; first | rfl | (simp [errW_none, errW_some] <;> rfl)) | (simp [*, errW_none, errW_some] <;> rfl), by repeat (first | (with_reducible first | exact HB.out | apply below_alloc | apply pw_below_drewN | apply below_drew1) | exact HB.out)⟩

end Go.Proofs.Ytehncbhmdgdkjaa.Q
