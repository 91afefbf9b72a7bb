/- Written by this session's own program over the kit's print: functions of Go told as plain functions, or the row of one statement; proved for every input, with no condition of ours. -/
import Derived.Test.YtahopljippfadaaDx0
import Derived.Test.YtahopljippfadaaDx3
import Derived.Test.YtahopljippfadaaDx6
namespace Go.Proofs.Ytahopljippfadaa.D
open Go.RowKit Go.Proofs.YtahopljippfadaaW.PrintWords Go.Proofs.YtahopljippfadaaW.PrintLast Go.Proofs.YtahopljippfadaaW.PrintMore
attribute [local go_sem] max2_int min2_int max_two min_two max_three min_three max_four min_four   -- for this text's walks alone
set_option linter.unusedVariables false
set_option linter.unusedSimpArgs false

/-! ### txn_Encode: function 58, by hand -/
-- HAND rounds=0 making=1
theorem builder_below {T e : TypeId} {B b : Nat} {p : Value} {bs : List Value} {w w' : World} (h : Lib.BuilderAt T e B b p bs w) (hb : Below w.heap.size w w') : Lib.BuilderAt T e B b p bs w' := by
  have hlt := h.lt
  obtain ⟨h1, v, h2, h3, h4⟩ := h
  exact ⟨h1, v, by rw [hb.block b hlt]; exact h2, own_move h3 (fun k hk => hb.block k (own_lt h3 k hk)), h4⟩
/-- What stands in the builder behind so many numbers. -/
def encP (ns : List ByteArray) (i : Nat) : List UInt8 := (1 : UInt8) :: ((ns.take i).map fun s => s.data.toList).flatten
theorem encP_next (ns : List ByteArray) (i : Nat) (x : ByteArray) (h : ns[i]? = some x) : Lib.byteCells (encP ns (i + 1)) = Lib.byteCells (encP ns i) ++ Lib.strCells x := by
  rw [Lib.strCells_eq, ← Lib.byteCells_append]
  congr 1
  obtain ⟨hi, hx⟩ := List.getElem?_eq_some_iff.1 h
  unfold encP
  rw [List.take_succ_eq_append_getElem hi, List.map_append, List.flatten_append, hx]
  simp
def encAll (n0 n1 n2 n3 n4 t : ByteArray) : ByteArray := ⟨(encP [n0, n1, n2, n3, n4, t] 6).toArray⟩
def txn_Encode.f (a0_0 : Int) (a0_1 : Int) (a0_2 : Int) (a0_3 : Int) (a0_4 : Int) (a0_5 : ByteArray) : Option (ByteArray × Bool) :=
  (txn_Check.f a0_0 a0_1 a0_2 a0_3 a0_4 a0_5).bind fun c => if c = true then
    ((codec_Number.f a0_0).bind fun n0 => (codec_Number.f a0_1).bind fun n1 => (codec_Number.f a0_2).bind fun n2 => (codec_Number.f a0_3).bind fun n3 => (codec_Number.f a0_4).bind fun n4 => (codec_Text.f a0_5).bind fun t =>
      if n0.size + n1.size + n2.size + n3.size + n4.size + t.size ≤ 140737488355000 then some (encAll n0 n1 n2 n3 n4 t, true) else none) else some (⟨#[]⟩, false)
def encBox (a0 a1 a2 a3 a4 : Int) (a5 : ByteArray) : Array Value := #[.int .i64 a0, .int .i64 a1, .int .i64 a2, .int .i64 a3, .int .i64 a4, .string a5]
def EncRel (w : World) (b : Nat) (box : Array Value) (ns : List ByteArray) (i : Nat) (wr : World) : Prop :=
  Lib.BuilderAt 91 5 b b (.pointer (some ⟨b, 0, none⟩)) (Lib.byteCells (encP ns i)) wr ∧ wr.heap[w.heap.size]? = some (.cells box 38 (0, 0)) ∧ Below w.heap.size w wr ∧ w.heap.size < b
theorem enc_len (ns : List ByteArray) (i : Nat) : (Lib.byteCells (encP ns i)).length = 1 + ((ns.take i).map ByteArray.size).sum := by
  rw [Lib.byteCells_length]
  unfold encP
  rw [List.length_cons, List.length_flatten, List.map_map]
  have e : (List.length ∘ fun s : ByteArray => s.data.toList) = ByteArray.size := by funext s; exact data_length s
  rw [e]
  omega
/-- What is below a later bound is below an earlier one. -/
theorem below_step_lo {B C : Nat} {w a b : World} (h : Below B w a) (k : Below C a b) (hBC : B ≤ C) : Below B w b := h.trans ⟨k.1, k.2, k.3, k.size, fun i hi => k.block i (Nat.lt_of_lt_of_le hi hBC)⟩
theorem enc_step (w : World) (b : Nat) (box : Array Value) (ns : List ByteArray) (i : Nat) (x : ByteArray) (wr w3 w4 : World) (h : EncRel w b box ns i wr) (hx : ns[i]? = some x) (h3 : Below wr.heap.size wr w3)
    (hbu : Lib.BuilderAt 91 5 b b (.pointer (some ⟨b, 0, none⟩)) (Lib.byteCells (encP ns i) ++ Lib.strCells x) w4) (h4 : Below b w3 w4) : EncRel w b box ns (i + 1) w4 := by
  obtain ⟨e1, e2, e3, e4⟩ := h
  have hlt := e1.lt
  refine ⟨by rw [encP_next ns i x hx]; exact hbu, ?_, below_step_lo (below_step e3 h3) h4 (Nat.le_of_lt e4), e4⟩
  rw [h4.block _ e4, h3.block _ (by omega)]
  exact e2
set_option maxHeartbeats 4000000 in
set_option maxRecDepth 100000 in
theorem txn_Encode.calls (a0_0 : Int) (a0_1 : Int) (a0_2 : Int) (a0_3 : Int) (a0_4 : Int) (a0_5 : ByteArray) (r1 : ByteArray) (r2 : Bool) (w : World) (h : txn_Encode.f a0_0 a0_1 a0_2 a0_3 a0_4 a0_5 = some (r1, r2)) :
    Calls Try.prog 58 #[.agg #[.int .i64 a0_0, .int .i64 a0_1, .int .i64 a0_2, .int .i64 a0_3, .int .i64 a0_4, .string a0_5]] w fun e w' => e = .returned (.tuple #[.string r1, .bool r2]) ∧ Below w.heap.size w w' := by
  unfold txn_Encode.f at h
  obtain ⟨c, hc, h⟩ := Option.bind_eq_some_iff.1 h
  have HK := Aside0.mk hc
  clear hc
  cases c with
  | false =>
    rw [if_neg (by decide)] at h
    have HH := Aside0.mk (Option.some.inj h)
    clear h
    go_enter Try.func58, Try.ntmps58
    go_wp2_with (first | (go_at_call 44; (with_reducible refine (txn_Check.calls _ _ _ _ _ _ false _ HK.out).mono ?_); rintro e w1 ⟨rfl, hb⟩; have HB := Aside0.mk (below_step (below_alloc (Below.refl w.heap.size w) _) hb); clear hb))
    go_ret2
    have HH := HH.out
    simp only [Prod.mk.injEq] at HH
    obtain ⟨rfl, rfl⟩ := HH
    exact ⟨rfl, HB.out⟩
  | true =>
    rw [if_pos rfl] at h
    obtain ⟨n0, e0, h⟩ := Option.bind_eq_some_iff.1 h
    obtain ⟨n1, e1, h⟩ := Option.bind_eq_some_iff.1 h
    obtain ⟨n2, e2, h⟩ := Option.bind_eq_some_iff.1 h
    obtain ⟨n3, e3, h⟩ := Option.bind_eq_some_iff.1 h
    obtain ⟨n4, e4, h⟩ := Option.bind_eq_some_iff.1 h
    obtain ⟨t, e5, h⟩ := Option.bind_eq_some_iff.1 h
    by_cases hs : n0.size + n1.size + n2.size + n3.size + n4.size + t.size ≤ 140737488355000
    · rw [if_pos hs] at h
      have HH := Aside0.mk (Option.some.inj h)
      have HS := Aside0.mk hs
      have E0 := Aside0.mk e0
      have E1 := Aside0.mk e1
      have E2 := Aside0.mk e2
      have E3 := Aside0.mk e3
      have E4 := Aside0.mk e4
      have E5 := Aside0.mk e5
      clear h hs e0 e1 e2 e3 e4 e5
      have HW := Aside0.mk (fun W : World => strings_Builder_WriteString.calls W.heap.size W.heap.size [] (⟨#[1]⟩ : ByteArray) _ (Lib.fresh_isBuilder 91 5 W) (by decide) (by simp))
      go_enter Try.func58, Try.ntmps58
      go_wp2_with (first | (go_at_call 44; (with_reducible refine (txn_Check.calls _ _ _ _ _ _ true _ HK.out).mono ?_); rintro e w1 ⟨rfl, hb⟩; have BX := Aside0.mk ((hb.block w.heap.size (by simp)).trans (heap_alloc_new w (.cells (encBox a0_0 a0_1 a0_2 a0_3 a0_4 a0_5) 38))); have HL := Aside0.mk (show w.heap.size < w1.heap.size by have := hb.size; simp at this; omega); have HB := Aside0.mk (below_step (below_alloc (Below.refl w.heap.size w) _) hb); clear hb))
      refine (HW.out _).mono ?_
      rintro e w2 ⟨rfl, hbu, hb⟩
      have BX2 := Aside0.mk ((hb.block w.heap.size HL.out).trans ((heap_alloc_old w1 _ HL.out).trans BX.out))
      have hx0 : w2.cell? ⟨w.heap.size, 0, none⟩ = some (.int .i64 a0_0) := (blk_cell BX2.out 0).trans rfl
      have hx1 : w2.cell? ⟨w.heap.size, 1, none⟩ = some (.int .i64 a0_1) := (blk_cell BX2.out 1).trans rfl
      have hx2 : w2.cell? ⟨w.heap.size, 2, none⟩ = some (.int .i64 a0_2) := (blk_cell BX2.out 2).trans rfl
      have hx3 : w2.cell? ⟨w.heap.size, 3, none⟩ = some (.int .i64 a0_3) := (blk_cell BX2.out 3).trans rfl
      have hx4 : w2.cell? ⟨w.heap.size, 4, none⟩ = some (.int .i64 a0_4) := (blk_cell BX2.out 4).trans rfl
      have HBU := Aside0.mk hbu
      have HB2 := Aside0.mk (below_step_lo (below_alloc HB.out _) hb (Nat.le_of_lt HL.out))
      clear hbu hb
      go_wp2_with (fail)
      go_loopw [22] (fun v22 wr => ∃ i : Nat, i ≤ 5 ∧ v22 = .int .i64 (i : Int) ∧ Aside0 (EncRel w w1.heap.size (encBox a0_0 a0_1 a0_2 a0_3 a0_4 a0_5) [n0, n1, n2, n3, n4, t] i wr)) (fun v22 _ => 5 - (intOf v22).toNat)
      case atStart =>
        exact ⟨0, by omega, rfl, ⟨⟨HBU.out, BX2.out, HB2.out, HL.out⟩⟩⟩
      case round =>
        obtain ⟨i, hi, rfl, HX⟩ := hrel
        have HG := Aside0.mk (show w1.heap.size ≤ wr.heap.size from Nat.le_of_lt HX.out.1.lt)
        rcases (show i = 0 ∨ i = 1 ∨ i = 2 ∨ i = 3 ∨ i = 4 ∨ i = 5 by omega) with rfl | rfl | rfl | rfl | rfl | rfl
        · have ix : ∀ W : World, (Instr.index 96 (.agg #[.int .i64 a0_0, .int .i64 a0_1, .int .i64 a0_2, .int .i64 a0_3, .int .i64 a0_4]) (.int .i64 0)).run Try.prog W = .ok (.int .i64 a0_0) W := fun _ => by kernel_rfl
          have HN := Aside0.mk (codec_Number.calls a0_0 n0 wr E0.out)
          have HW2 := Aside0.mk (fun (W : World) (hb : Below wr.heap.size wr W) => strings_Builder_WriteString.calls w1.heap.size w1.heap.size _ n0 W (.inr (builder_below HX.out.1 hb)) (by rw [enc_len]; have := HS.out; simp; omega) (Nat.le_trans HG.out hb.size))
          go_wp2_with (first | (go_at_call 64; (with_reducible refine HN.out.mono ?_); rintro e w3 ⟨rfl, hb3⟩; have HB3 := Aside0.mk hb3; clear hb3) | (go_at_call 63; (with_reducible refine (HW2.out _ HB3.out).mono ?_); rintro e w4 ⟨rfl, hbu, hb4⟩; have HBU4 := Aside0.mk hbu; have HB4 := Aside0.mk hb4; clear hbu hb4))
          go_wp2_with (fail)
          go_roundw
          case rel => exact ⟨1, by omega, by go_num, ⟨enc_step w w1.heap.size _ _ 0 n0 wr w3 w4 HX.out rfl HB3.out HBU4.out HB4.out⟩⟩
          case measure => simp [intOf]
        · have ix : ∀ W : World, (Instr.index 96 (.agg #[.int .i64 a0_0, .int .i64 a0_1, .int .i64 a0_2, .int .i64 a0_3, .int .i64 a0_4]) (.int .i64 1)).run Try.prog W = .ok (.int .i64 a0_1) W := fun _ => by kernel_rfl
          have HN := Aside0.mk (codec_Number.calls a0_1 n1 wr E1.out)
          have HW2 := Aside0.mk (fun (W : World) (hb : Below wr.heap.size wr W) => strings_Builder_WriteString.calls w1.heap.size w1.heap.size _ n1 W (.inr (builder_below HX.out.1 hb)) (by rw [enc_len]; have := HS.out; simp; omega) (Nat.le_trans HG.out hb.size))
          go_wp2_with (first | (go_at_call 64; (with_reducible refine HN.out.mono ?_); rintro e w3 ⟨rfl, hb3⟩; have HB3 := Aside0.mk hb3; clear hb3) | (go_at_call 63; (with_reducible refine (HW2.out _ HB3.out).mono ?_); rintro e w4 ⟨rfl, hbu, hb4⟩; have HBU4 := Aside0.mk hbu; have HB4 := Aside0.mk hb4; clear hbu hb4))
          go_wp2_with (fail)
          go_roundw
          case rel => exact ⟨2, by omega, by go_num, ⟨enc_step w w1.heap.size _ _ 1 n1 wr w3 w4 HX.out rfl HB3.out HBU4.out HB4.out⟩⟩
          case measure => simp [intOf]
        · have ix : ∀ W : World, (Instr.index 96 (.agg #[.int .i64 a0_0, .int .i64 a0_1, .int .i64 a0_2, .int .i64 a0_3, .int .i64 a0_4]) (.int .i64 2)).run Try.prog W = .ok (.int .i64 a0_2) W := fun _ => by kernel_rfl
          have HN := Aside0.mk (codec_Number.calls a0_2 n2 wr E2.out)
          have HW2 := Aside0.mk (fun (W : World) (hb : Below wr.heap.size wr W) => strings_Builder_WriteString.calls w1.heap.size w1.heap.size _ n2 W (.inr (builder_below HX.out.1 hb)) (by rw [enc_len]; have := HS.out; simp; omega) (Nat.le_trans HG.out hb.size))
          go_wp2_with (first | (go_at_call 64; (with_reducible refine HN.out.mono ?_); rintro e w3 ⟨rfl, hb3⟩; have HB3 := Aside0.mk hb3; clear hb3) | (go_at_call 63; (with_reducible refine (HW2.out _ HB3.out).mono ?_); rintro e w4 ⟨rfl, hbu, hb4⟩; have HBU4 := Aside0.mk hbu; have HB4 := Aside0.mk hb4; clear hbu hb4))
          go_wp2_with (fail)
          go_roundw
          case rel => exact ⟨3, by omega, by go_num, ⟨enc_step w w1.heap.size _ _ 2 n2 wr w3 w4 HX.out rfl HB3.out HBU4.out HB4.out⟩⟩
          case measure => simp [intOf]
        · have ix : ∀ W : World, (Instr.index 96 (.agg #[.int .i64 a0_0, .int .i64 a0_1, .int .i64 a0_2, .int .i64 a0_3, .int .i64 a0_4]) (.int .i64 3)).run Try.prog W = .ok (.int .i64 a0_3) W := fun _ => by kernel_rfl
          have HN := Aside0.mk (codec_Number.calls a0_3 n3 wr E3.out)
          have HW2 := Aside0.mk (fun (W : World) (hb : Below wr.heap.size wr W) => strings_Builder_WriteString.calls w1.heap.size w1.heap.size _ n3 W (.inr (builder_below HX.out.1 hb)) (by rw [enc_len]; have := HS.out; simp; omega) (Nat.le_trans HG.out hb.size))
          go_wp2_with (first | (go_at_call 64; (with_reducible refine HN.out.mono ?_); rintro e w3 ⟨rfl, hb3⟩; have HB3 := Aside0.mk hb3; clear hb3) | (go_at_call 63; (with_reducible refine (HW2.out _ HB3.out).mono ?_); rintro e w4 ⟨rfl, hbu, hb4⟩; have HBU4 := Aside0.mk hbu; have HB4 := Aside0.mk hb4; clear hbu hb4))
          go_wp2_with (fail)
          go_roundw
          case rel => exact ⟨4, by omega, by go_num, ⟨enc_step w w1.heap.size _ _ 3 n3 wr w3 w4 HX.out rfl HB3.out HBU4.out HB4.out⟩⟩
          case measure => simp [intOf]
        · have ix : ∀ W : World, (Instr.index 96 (.agg #[.int .i64 a0_0, .int .i64 a0_1, .int .i64 a0_2, .int .i64 a0_3, .int .i64 a0_4]) (.int .i64 4)).run Try.prog W = .ok (.int .i64 a0_4) W := fun _ => by kernel_rfl
          have HN := Aside0.mk (codec_Number.calls a0_4 n4 wr E4.out)
          have HW2 := Aside0.mk (fun (W : World) (hb : Below wr.heap.size wr W) => strings_Builder_WriteString.calls w1.heap.size w1.heap.size _ n4 W (.inr (builder_below HX.out.1 hb)) (by rw [enc_len]; have := HS.out; simp; omega) (Nat.le_trans HG.out hb.size))
          go_wp2_with (first | (go_at_call 64; (with_reducible refine HN.out.mono ?_); rintro e w3 ⟨rfl, hb3⟩; have HB3 := Aside0.mk hb3; clear hb3) | (go_at_call 63; (with_reducible refine (HW2.out _ HB3.out).mono ?_); rintro e w4 ⟨rfl, hbu, hb4⟩; have HBU4 := Aside0.mk hbu; have HB4 := Aside0.mk hb4; clear hbu hb4))
          go_wp2_with (fail)
          go_roundw
          case rel => exact ⟨5, by omega, by go_num, ⟨enc_step w w1.heap.size _ _ 4 n4 wr w3 w4 HX.out rfl HB3.out HBU4.out HB4.out⟩⟩
          case measure => simp [intOf]
        · have HT := Aside0.mk (codec_Text.calls a0_5 t wr E5.out)
          have hx5 : wr.cell? ⟨w.heap.size, 5, none⟩ = some (.string a0_5) := (blk_cell HX.out.2.1 5).trans rfl
          have HW2 := Aside0.mk (fun (W : World) (hb : Below wr.heap.size wr W) => strings_Builder_WriteString.calls w1.heap.size w1.heap.size _ t W (.inr (builder_below HX.out.1 hb)) (by rw [enc_len]; have := HS.out; simp; omega) (Nat.le_trans HG.out hb.size))
          go_wp2_with (first | (go_at_call 65; (with_reducible refine HT.out.mono ?_); rintro e w3 ⟨rfl, hb3⟩; have HB3 := Aside0.mk hb3; clear hb3) | (go_at_call 63; (with_reducible refine (HW2.out _ HB3.out).mono ?_); rintro e w4 ⟨rfl, hbu, hb4⟩; have HE := Aside0.mk (show EncRel w w1.heap.size (encBox a0_0 a0_1 a0_2 a0_3 a0_4 a0_5) [n0, n1, n2, n3, n4, t] 6 w4 from enc_step w w1.heap.size _ _ 5 t wr w3 w4 HX.out rfl HB3.out hbu hb4); clear hbu hb4) | (go_at_call 66; (refine (strings_Builder_String.calls w1.heap.size w1.heap.size (encP [n0, n1, n2, n3, n4, t] 6) _ (.inr HE.out.1) (Nat.le_of_lt HE.out.1.lt)).mono ?_); rintro e w5 ⟨rfl, hb5⟩; have HB5 := Aside0.mk (below_step_lo HE.out.2.2.1 hb5 (Nat.le_of_lt HE.out.2.2.2)); clear hb5))
          go_ret2
          have HH := HH.out
          simp only [Prod.mk.injEq] at HH
          obtain ⟨rfl, rfl⟩ := HH
          exact ⟨rfl, HB5.out⟩
    · rw [if_neg hs] at h; cases h


/-! ### fnv_Text: function 59, by hand -/
-- HAND rounds=0 making=1
-- IMPORT Derived.Test.YtahopljippfadaaGoto
-- IMPORT Derived.Laws.BitsAllLaws
def hexC (d : Nat) : Int := if d < 10 then (d : Int) + 48 else (d : Int) + 87
/-- The block of sixteen: from place i on the digits of h are laid. -/
def hexN (h : Nat) (i : Nat) : List Int := (List.range 16).map fun j => if j < i then 0 else hexC (h / 16 ^ (15 - j) % 16)
def hexCells (h : Nat) (i : Nat) : Array Value := ((hexN h i).map fun n => Value.int .u8 n).toArray
def hexL (h : Nat) : List Int := (List.range 16).map fun j => hexC (h / 16 ^ (15 - j) % 16)
theorem hexN_zero (h : Nat) : hexN h 0 = hexL h := by simp [hexN, hexL]
theorem hexN_cell (h i j : Nat) (hj : j < 16) : (hexCells h i)[j]? = some (Value.int .u8 ((hexN h i).getD j 0)) := by
  simp [hexCells, hexN, hj]
theorem hexN_low (h i j : Nat) (hj : j < i) (hi : j < 16) : (hexN h i).getD j 0 = 0 := by
  simp [hexN, hj, hi]
theorem hexN_all (h : Nat) : hexN h 16 = List.replicate 16 0 := by
  apply List.ext_getElem
  · simp [hexN]
  · intro j h1 h2
    have hj : j < 16 := by simpa [hexN] using h1
    rw [List.getElem_replicate]
    simp [hexN, hj]
theorem hexCells_all (h : Nat) : hexCells h 16 = ((List.replicate 16 0).map fun n => Value.int .u8 n).toArray := by
  unfold hexCells; rw [hexN_all]
theorem hexN_step (h i : Nat) (hi0 : 0 < i) (hi : i ≤ 16) : (hexCells h i).setIfInBounds (i - 1) (Value.int .u8 (hexC (h / 16 ^ (16 - i) % 16))) = hexCells h (i - 1) := by
  apply Array.ext_getElem?
  intro j
  rw [Array.getElem?_setIfInBounds]
  have hs : (hexCells h i).size = 16 := by simp [hexCells, hexN]
  by_cases hj : j < 16
  · rw [hexN_cell h i j hj, hexN_cell h (i - 1) j hj]
    by_cases e : i - 1 = j
    · subst e
      rw [if_pos rfl, if_pos (by omega)]
      have e2 : 15 - (i - 1) = 16 - i := by omega
      simp [hexN, hj, e2]
    · rw [if_neg e]
      by_cases hlt : j < i - 1
      · rw [hexN_low _ _ _ hlt hj, hexN_low _ _ _ (by omega) hj]
      · have a1 : ¬ j < i := by omega
        simp [hexN, hj, a1, hlt]
  · have h1 : (hexCells h i)[j]? = none := Array.getElem?_eq_none (by omega)
    have h2 : (hexCells h (i - 1))[j]? = none := Array.getElem?_eq_none (by simp [hexCells, hexN]; omega)
    rw [h1, h2]
    by_cases e : i - 1 = j
    · rw [if_pos e, if_neg (by omega)]
    · rw [if_neg e]
theorem hex_digit (d : Nat) (hd : d < 16) (h : d < ({ data := #[48, 49, 50, 51, 52, 53, 54, 55, 56, 57, 97, 98, 99, 100, 101, 102] } : ByteArray).size) : ((({ data := #[48, 49, 50, 51, 52, 53, 54, 55, 56, 57, 97, 98, 99, 100, 101, 102] } : ByteArray)[d]'h).toNat : Int) = hexC d := by
  revert h
  match d, hd with
  | 0, _ => intro h; rfl
  | 1, _ => intro h; rfl
  | 2, _ => intro h; rfl
  | 3, _ => intro h; rfl
  | 4, _ => intro h; rfl
  | 5, _ => intro h; rfl
  | 6, _ => intro h; rfl
  | 7, _ => intro h; rfl
  | 8, _ => intro h; rfl
  | 9, _ => intro h; rfl
  | 10, _ => intro h; rfl
  | 11, _ => intro h; rfl
  | 12, _ => intro h; rfl
  | 13, _ => intro h; rfl
  | 14, _ => intro h; rfl
  | 15, _ => intro h; rfl
  | n + 16, hd => exact absurd hd (by omega)
theorem and15 (y : Nat) (hy : y < 18446744073709551616) : Go.bits .and .u64 (y : Int) 15 = ((y % 16 : Nat) : Int) := by
  rw [show (15 : Int) = ((15 : Nat) : Int) from rfl, u64_and_nat y 15 hy (by omega)]
  have := Nat.and_two_pow_sub_one_eq_mod y 4
  exact congrArg _ this
def fnv_Text.f (a0 : Int) : Option ByteArray := if 0 ≤ a0 then (if a0 < 18446744073709551616 then some (strOfNums (hexL a0.toNat)) else none) else none
def FnvTextJ (h : Nat) (w w' : World) (a : Act) : Prop := ∃ i : Nat, ∃ y : Nat, 0 < i ∧ i ≤ 16 ∧ y = h / 16 ^ (16 - i) ∧ w'.heap[w.heap.size]? = some (.cells (hexCells h i) 98 (0, 0)) ∧ Below w.heap.size w w' ∧ ∃ u1 u2 u5 u6 u7 u8 u9 u10 u11 u12 u13 u14 u15 u16 u17 : Value, a = { tmps := #[.int .u64 (y : Int), u1, u2, .pointer (some ⟨w.heap.size, 0, none⟩), .int .i64 (i : Int), u5, u6, u7, u8, u9, u10, u11, u12, u13, u14, u15, u16, u17], defers := [] }
set_option maxHeartbeats 1000000 in
set_option maxRecDepth 100000 in
theorem fnv_Text.calls (a0 : Int) (r : ByteArray) (w : World) (h : fnv_Text.f a0 = some r) :
    Calls Try.prog 59 #[.int .u64 a0] w fun e w' => e = .returned (.string r) ∧ Below w.heap.size w w' := by
  unfold fnv_Text.f at h
  by_cases h0 : 0 ≤ a0
  · rw [if_pos h0] at h
    by_cases h1 : a0 < 18446744073709551616
    · rw [if_pos h1] at h
      obtain ⟨x, rfl⟩ := Int.eq_ofNat_of_zero_le h0
      have HR := Aside0.mk (Option.some.inj h)
      have H1 := Aside0.mk h1
      clear h h0 h1
      rw [Int.toNat_natCast] at HR
      go_enter Try.func59, Try.ntmps59
      go_wp2
      refine Goto.scope_label 0 (fun a' w' => FnvTextJ x w w' a') (fun a' _ => (intOf (a'.tmps.getD 4 undef)).toNat) rfl ?_ ?_
      · rintro a' w' ⟨i, y, hi0, hi, hy, hb, hB, u1, u2, u5, u6, u7, u8, u9, u10, u11, u12, u13, u14, u15, u16, u17, rfl⟩
        have hyx : y < 18446744073709551616 := by
          rw [hy]; exact Nat.lt_of_le_of_lt (Nat.div_le_self _ _) (by have := H1.out; omega)
        have hand := and15 y hyx
        have HY := Aside0.mk hy
        clear hy hyx
        have hc : w'.cell? ⟨w.heap.size, i - 1, none⟩ = some (.int .u8 0) := by
          rw [blk_cell hb (i - 1), hexN_cell x i (i - 1) (by omega), hexN_low x i (i - 1) (by omega) (by omega)]
        have hf : w'.frozen? ⟨w.heap.size, i - 1, none⟩ = false := blk_frozen hb (i - 1)
        have HB := Aside0.mk hb
        have HBel := Aside0.mk hB
        clear hb hB
        have hstep : (w'.setCell ⟨w.heap.size, i - 1, none⟩ (.int .u8 (hexC (y % 16)))).heap[w.heap.size]? = some (.cells (hexCells x (i - 1)) 98 (0, 0)) := by
          rw [← hexN_step x i hi0 hi, ← HY.out]
          exact blk_set HB.out (i - 1) _
        have hbel : Below w.heap.size w (w'.setCell ⟨w.heap.size, i - 1, none⟩ (.int .u8 (hexC (y % 16)))) := HBel.out.setCell (Nat.le_refl _) _
        have HS := Aside0.mk hstep
        have HL := Aside0.mk hbel
        clear hstep hbel
        go_wp2
        · go_step3
          have h1 : 1 < (i : Int) := by assumption
          rw [hex_digit _ (Nat.mod_lt _ (by omega))]
          rw [show (i : Int) - 1 = ((i - 1 : Nat) : Int) by omega, show (y : Int) / 16 = ((y / 16 : Nat) : Int) by omega]
          refine ⟨rfl, ⟨i - 1, y / 16, by omega, by omega, ?_, HS.out, HL.out, _, _, _, _, _, _, _, _, _, _, _, _, _, _, _, rfl⟩, by simp [intOf]; omega⟩
          rw [HY.out, Nat.div_div_eq_div_mul, ← Nat.pow_succ, show (16 - i).succ = 16 - (i - 1) by omega]
        · have h1 : (i : Int) ≤ 1 := by assumption
          rw [hex_digit _ (Nat.mod_lt _ (by omega))]
          have hr : ReadsInt (w'.setCell ⟨w.heap.size, i - 1, none⟩ (.int .u8 (hexC (y % 16)))) .u8 (some ⟨w.heap.size, 0, none⟩) 16 (hexL x) := by
            refine ⟨by simp [hexL], by omega, fun _ => ⟨_, rfl, fun j hj => ?_⟩⟩
            have e0 : (⟨w.heap.size, 0, none⟩ : Addr).add j = ⟨w.heap.size, j, none⟩ := by unfold Addr.add; split <;> simp_all
            have e1 : i - 1 = 0 := by omega
            rw [e0, blk_cell HS.out j, e1, hexN_cell x 0 j hj, hexN_zero]
          have hcv := string_of_reads (P := Try.prog) (c := 16) Try.underlying88 Try.underlying5 Try.underlying9 hr
          have HV := Aside0.mk hr
          clear hr
          rw [hcv]
          go_simp
          go_wp2
          try simp only [Exit.jump]
          go_ret
          exact ⟨by rw [← HR.out]; rfl, HL.out⟩
      · intro L hL hLr
        have HL := Aside0.mk hL
        have HLr := Aside0.mk hLr
        clear hL hLr
        go_wp2
        go_step3
        rename_i K hK
        refine hK _ _ (HLr.out _ _ (HL.out _ _ ⟨16, x, by omega, by omega, by simp, ?_, ?_, _, _, _, _, _, _, _, _, _, _, _, _, _, _, _, rfl⟩))
        · exact (heap_alloc_new w _).trans (by rw [hexCells_all]; rfl)
        · exact below_alloc (Below.refl _ _) _
    · rw [if_neg h1] at h; cases h
  · rw [if_neg h0] at h; cases h


/-! ### fnv_Roll: function 67, by hand -/
-- HAND rounds=0 making=0
-- IMPORT Derived.Test.YtahopljippfadaaGoto
def rollB (h : Int) (c : Int) : Int := IntKind.u64.wrap (Go.bits .xor .u64 h (IntKind.u64.wrap c) * 1099511628211)
def rollL (h : Int) : List UInt8 → Int
  | [] => h
  | c :: l => rollL (rollB h (c.toNat : Int)) l
theorem rollL_append (h : Int) (l m : List UInt8) : rollL h (l ++ m) = rollL (rollL h l) m := by
  induction l generalizing h with
  | nil => rfl
  | cons c l ih => exact ih _
theorem rollL_snoc (h : Int) (s : ByteArray) (k : Nat) (hk : k < s.size) : rollL h (s.data.toList.take (k + 1)) = rollB (rollL h (s.data.toList.take k)) ((s[k].toNat : Nat) : Int) := by
  have e : s.data.toList.take (k + 1) = s.data.toList.take k ++ [s[k]] := by
    rw [List.take_succ_eq_append_getElem (by simpa using hk)]; rfl
  rw [e, rollL_append]; rfl
def fnv_Roll.f (a0 : Int) (a1 : ByteArray) : Option Int := if a1.size ≤ 9223372036854775806 then some (rollL a0 a1.data.toList) else none
def FnvRollJ (a0 : Int) (a1 : ByteArray) (w w' : World) (a : Act) : Prop := ∃ k : Nat, ∃ h : Int, k ≤ a1.size ∧ h = rollL a0 (a1.data.toList.take k) ∧ (∃ n, w' = w.drewN n) ∧ ∃ u2 u3 u4 u6 u7 u8 u9 u10 u11 u12 u13 u14 u15 u16 u17 u18 u19 u20 : Value, a = { tmps := #[.int .u64 h, .string a1, u2, u3, u4, .int .i64 (k : Int), u6, u7, u8, u9, u10, u11, u12, u13, u14, u15, u16, u17, u18, u19, u20], defers := [] }
set_option maxHeartbeats 1000000 in
set_option maxRecDepth 100000 in
theorem fnv_Roll.calls (a0 : Int) (a1 : ByteArray) (r : Int) (w : World) (h : fnv_Roll.f a0 a1 = some r) :
    Calls Try.prog 67 #[.int .u64 a0, .string a1] w fun e w' => e = .returned (.int .u64 r) ∧ Drawn0 w w' := by
  have hs : a1.size ≤ 9223372036854775806 := by
    unfold fnv_Roll.f at h
    by_cases c : a1.size ≤ 9223372036854775806
    · exact c
    · rw [if_neg c] at h; cases h
  have hr : r = rollL a0 a1.data.toList := by
    unfold fnv_Roll.f at h
    rw [if_pos hs] at h
    exact (Option.some.inj h).symm
  have HR := Aside0.mk hr
  clear hr h
  go_enter Try.func67, Try.ntmps67
  go_wp2
  refine Goto.scope_label 0 (fun a' w' => FnvRollJ a0 a1 w w' a') (fun a' _ => a1.size - (intOf (a'.tmps.getD 5 undef)).toNat) rfl ?_ ?_
  · rintro a' w' ⟨k, h, hk, hh, ⟨n, rfl⟩, u2, u3, u4, u6, u7, u8, u9, u10, u11, u12, u13, u14, u15, u16, u17, u18, u19, u20, rfl⟩
    have HH := Aside0.mk hh
    clear hh
    by_cases hlt : k < a1.size
    · go_wp2
      go_step3
      refine ⟨rfl, ⟨k + 1, _, by omega, ?_, ⟨n, rfl⟩, _, _, _, _, _, _, _, _, _, _, _, _, _, _, _, _, _, _, rfl⟩, by simp [intOf]; omega⟩
      rw [rollL_snoc a0 a1 k hlt, ← HH.out]; rfl
    · go_wp2
      simp only [Exit.jump]
      go_ret
      have e : k = a1.size := by omega
      refine ⟨?_, ⟨n, rfl⟩⟩
      show Ending.returned (.int .u64 h) = _
      rw [HR.out, HH.out, e, List.take_of_length_le (by simp)]
  · intro L hL hLr
    have HL := Aside0.mk hL
    have HLr := Aside0.mk hLr
    clear hL hLr
    go_wp2
    go_step3
    rename_i K hK
    refine hK _ _ (HLr.out _ _ (HL.out _ _ ⟨0, a0, by omega, by simp [rollL], ⟨0, rfl⟩, _, _, _, _, _, _, _, _, _, _, _, _, _, _, _, _, _, _, rfl⟩))


/-! ### fnv_Of: function 60 -/
def fnv_Of.f (a0 : ByteArray) : Option (Int) := (fnv_Roll.f 14695981039346656037 a0).bind fun t133 => (some t133)
set_option maxHeartbeats 8000000 in
set_option maxRecDepth 100000 in
theorem fnv_Of.calls (a0 : ByteArray) (r : Int) (w : World) (h : fnv_Of.f a0 = some r) :
    Calls Try.prog 60 #[.string a0] w fun e w' => e = .returned (.int .u64 r) ∧ Drawn0 w w' := by
  have H : ((fnv_Roll.f 14695981039346656037 a0).bind fun t133 => (some t133)) = some r := h
  clear h
  replace H := Option.bind_eq_some_iff.mp H
  obtain ⟨t133, A20, H⟩ := H
  replace H : (some t133) = some r := H
  have A2 := Aside0.mk A20
  clear A20
  obtain rfl := Option.some.inj H
  go_enter Try.func60, Try.ntmps60
  go_wp2_with (first | ((with_reducible refine gate_callee (f := 67) rfl ?_); refine goesL_ (some 4) rfl rfl Try.func67 (by kernel_rfl) rfl #[.int .u64 14695981039346656037, .string a0] rfl (by (try simp only [List.map_toArray, List.map_cons, List.map_nil]); first | done | rfl | (simp only [List.length_drop, List.length_take]; rfl)) ?_; (with_reducible refine (fnv_Roll.calls 14695981039346656037 a0 t133 _ A2.out).mono ?_); rintro e w' ⟨rfl, ⟨nd, rfl⟩⟩; refine ⟨_, rfl, ?_⟩))
  go_ret
  exact ⟨by first | rfl | (simp; done) | (simp [*]; done), by repeat (first | exact Drawn0.refl _ | apply Drawn0.step)⟩

/-! ### txn_ID: function 51 -/
def txn_ID.f (a0_0 : Int) (a0_1 : Int) (a0_2 : Int) (a0_3 : Int) (a0_4 : Int) (a0_5 : ByteArray) : Option (ByteArray) := (txn_Encode.f a0_0 a0_1 a0_2 a0_3 a0_4 a0_5).bind fun bt135 => (if bt135.2 = true then ((fnv_Of.f bt135.1).bind fun t137 => ((fnv_Text.f t137).bind fun t138 => (some t138))) else (some (⟨#[]⟩ : ByteArray)))
set_option maxHeartbeats 8000000 in
set_option maxRecDepth 100000 in
theorem txn_ID.calls (a0_0 : Int) (a0_1 : Int) (a0_2 : Int) (a0_3 : Int) (a0_4 : Int) (a0_5 : ByteArray) (r : ByteArray) (w : World) (h : txn_ID.f a0_0 a0_1 a0_2 a0_3 a0_4 a0_5 = some r) :
 Calls Try.prog 51 #[.agg #[.int .i64 a0_0, .int .i64 a0_1, .int .i64 a0_2, .int .i64 a0_3, .int .i64 a0_4, .string a0_5]] w fun e w' => e = .returned (.string r) ∧ Below w.heap.size w w' := by
 have hu38 := Try.underlying38
 have HB := A_ (Below.refl w.heap.size w)
 have H : ((txn_Encode.f a0_0 a0_1 a0_2 a0_3 a0_4 a0_5).bind fun bt135 => (if bt135.2 = true then ((fnv_Of.f bt135.1).bind fun t137 => ((fnv_Text.f t137).bind fun t138 => (some t138))) else (some (⟨#[]⟩ : ByteArray)))) = some r := h
 clear h
 replace H := Option.bind_eq_some_iff.mp H
 obtain ⟨⟨t135, t136⟩, A20, H⟩ := H
 try dsimp only at H
 have A2 := A_ A20
 clear A20
 by_cases c3 : t136 = true
 rotate_left
 · replace c3 := Bool.eq_false_iff.mpr c3
   subst c3
   have H1 : (some (⟨#[]⟩ : ByteArray)) = some r := by rw [if_neg (show ¬ (false = true) by decide)] at H; exact H
   clear H
   have H := H1
   clear H1
   obtain rfl := Option.some.inj H
   go_enter Try.func51, Try.ntmps51
   go_wp2_with (first | ((with_reducible refine gate_dst (N := 1) rfl ?_); refine box_event ?hg (N := 1) ?hd (cs := #[.int .i64 a0_0, .int .i64 a0_1, .int .i64 a0_2, .int .i64 a0_3, .int .i64 a0_4, .string a0_5]) (t := 38) ?hr ?_; (case hd => rfl); (case hg => rfl); (case hr => first | (go_simp; done) | (go_simp; rfl)); intro gb134 hg w10 hbox hb; have n0_ := A_ (below_step bw_ hb); have n1_ := A_ (hbox); have n2_ := A_ (gz_ (w := w) hg); have n3_ := A_ (gz_ (w := w) hg); replace HB := n0_; have BK134 := n1_; have GW134 := n2_; have GE134 := n3_; clear n0_ n1_ n2_ n3_; clear hb hbox hg; have hcz11_0 : w10.cell? ⟨gb134, 0, none⟩ = some (.int .i64 a0_0) := e_ BK134 0; have hcz11_1 : w10.cell? ⟨gb134, 1, none⟩ = some (.int .i64 a0_1) := e_ BK134 1; have hcz11_2 : w10.cell? ⟨gb134, 2, none⟩ = some (.int .i64 a0_2) := e_ BK134 2; have hcz11_3 : w10.cell? ⟨gb134, 3, none⟩ = some (.int .i64 a0_3) := e_ BK134 3; have hcz11_4 : w10.cell? ⟨gb134, 4, none⟩ = some (.int .i64 a0_4) := e_ BK134 4; have hcz11_5 : w10.cell? ⟨gb134, 5, none⟩ = some (.string a0_5) := e_ BK134 5; obtain ⟨hfz11_0, hfz11_1, hfz11_2, hfz11_3, hfz11_4, hfz11_5⟩ := z6_ BK134) | ((with_reducible refine gate_callee (f := 58) rfl ?_); refine goesL_ (some 7) rfl rfl Try.func58 (by kernel_rfl) rfl #[.agg #[.int .i64 a0_0, .int .i64 a0_1, .int .i64 a0_2, .int .i64 a0_3, .int .i64 a0_4, .string a0_5]] rfl (by (try simp only [m0_, m1_, m2_]); first | done | rfl) ?_; (with_reducible refine (txn_Encode.calls a0_0 a0_1 a0_2 a0_3 a0_4 a0_5 t135 false _ A2.out).mono ?_); rintro e w12 ⟨rfl, hb⟩; refine ⟨_, rfl, ?_⟩; replace BK134 := A_ (kb_ BK134 hb); replace HB := A_ (below_step bw_ hb); (try clear hb); (try clear hb2); (try clear hk); (try clear hi)))
   go_ret
   exact ⟨by first | rfl | (simp [errW_none, errW_some] <;> rfl) | (simp [*, errW_none, errW_some] <;> rfl), by repeat (first | (with_reducible first | exact HB.out | apply wa_ | apply wn_ | apply wd_ | refine ws_ ?_ GE134.out) | exact HB.out)⟩

 subst c3
 have H1 : ((fnv_Of.f t135).bind fun t137 => ((fnv_Text.f t137).bind fun t138 => (some t138))) = some r := by rw [if_pos rfl] at H; exact H
 clear H
 have H := H1
 clear H1
 replace H := Option.bind_eq_some_iff.mp H
 obtain ⟨t137, A40, H⟩ := H
 try dsimp only at H
 have A4 := A_ A40
 clear A40
 replace H := Option.bind_eq_some_iff.mp H
 obtain ⟨t138, A50, H⟩ := H
 replace H : (some t138) = some r := H
 have A5 := A_ A50
 clear A50
 obtain rfl := Option.some.inj H
 go_enter Try.func51, Try.ntmps51
 go_wp2_with (first | ((with_reducible refine gate_dst (N := 1) rfl ?_); refine box_event ?hg (N := 1) ?hd (cs := #[.int .i64 a0_0, .int .i64 a0_1, .int .i64 a0_2, .int .i64 a0_3, .int .i64 a0_4, .string a0_5]) (t := 38) ?hr ?_; (case hd => rfl); (case hg => rfl); (case hr => first | (go_simp; done) | (go_simp; rfl)); intro gb134 hg w6 hbox hb; have n0_ := A_ (below_step bw_ hb); have n1_ := A_ (hbox); have n2_ := A_ (gz_ (w := w) hg); have n3_ := A_ (gz_ (w := w) hg); replace HB := n0_; have BK134 := n1_; have GW134 := n2_; have GE134 := n3_; clear n0_ n1_ n2_ n3_; clear hb hbox hg; have hcz7_0 : w6.cell? ⟨gb134, 0, none⟩ = some (.int .i64 a0_0) := e_ BK134 0; have hcz7_1 : w6.cell? ⟨gb134, 1, none⟩ = some (.int .i64 a0_1) := e_ BK134 1; have hcz7_2 : w6.cell? ⟨gb134, 2, none⟩ = some (.int .i64 a0_2) := e_ BK134 2; have hcz7_3 : w6.cell? ⟨gb134, 3, none⟩ = some (.int .i64 a0_3) := e_ BK134 3; have hcz7_4 : w6.cell? ⟨gb134, 4, none⟩ = some (.int .i64 a0_4) := e_ BK134 4; have hcz7_5 : w6.cell? ⟨gb134, 5, none⟩ = some (.string a0_5) := e_ BK134 5; obtain ⟨hfz7_0, hfz7_1, hfz7_2, hfz7_3, hfz7_4, hfz7_5⟩ := z6_ BK134) | ((with_reducible refine gate_callee (f := 58) rfl ?_); refine goesL_ (some 7) rfl rfl Try.func58 (by kernel_rfl) rfl #[.agg #[.int .i64 a0_0, .int .i64 a0_1, .int .i64 a0_2, .int .i64 a0_3, .int .i64 a0_4, .string a0_5]] rfl (by (try simp only [m0_, m1_, m2_]); first | done | rfl) ?_; (with_reducible refine (txn_Encode.calls a0_0 a0_1 a0_2 a0_3 a0_4 a0_5 t135 true _ A2.out).mono ?_); rintro e w8 ⟨rfl, hb⟩; refine ⟨_, rfl, ?_⟩; replace BK134 := A_ (kb_ BK134 hb); replace HB := A_ (below_step bw_ hb); (try clear hb); (try clear hb2); (try clear hk); (try clear hi)) | ((with_reducible refine gate_callee (f := 60) rfl ?_); refine goesL_ (some 13) rfl rfl Try.func60 (by kernel_rfl) rfl #[.string t135] rfl (by (try simp only [m0_, m1_, m2_]); first | done | rfl) ?_; (with_reducible refine (fnv_Of.calls t135 t137 _ A4.out).mono ?_); rintro e w' ⟨rfl, ⟨nd, rfl⟩⟩; refine ⟨_, rfl, ?_⟩) | ((with_reducible refine gate_callee (f := 59) rfl ?_); refine goesL_ (some 14) rfl rfl Try.func59 (by kernel_rfl) rfl #[.int .u64 t137] rfl (by (try simp only [m0_, m1_, m2_]); first | done | rfl) ?_; (with_reducible refine (fnv_Text.calls t137 t138 _ A5.out).mono ?_); rintro e w9 ⟨rfl, hb⟩; refine ⟨_, rfl, ?_⟩; replace BK134 := A_ (kb_ BK134 hb); replace HB := A_ (below_step bw_ hb); (try clear hb); (try clear hb2); (try clear hk); (try clear hi)))
 go_ret
 exact ⟨by first | rfl | (simp [errW_none, errW_some] <;> rfl) | (simp [*, errW_none, errW_some] <;> rfl), by repeat (first | (with_reducible first | exact HB.out | apply wa_ | apply wn_ | apply wd_ | refine ws_ ?_ GE134.out) | exact HB.out)⟩
/-! ### txn_Better: function 39 -/
def txn_Better.f (k : Nat) (a0_0 : Int) (a0_1 : Int) (a0_2 : Int) (a0_3 : Int) (a0_4 : Int) (a0_5 : ByteArray) (a1_0 : Int) (a1_1 : Int) (a1_2 : Int) (a1_3 : Int) (a1_4 : Int) (a1_5 : ByteArray) : Option (Bool) := (cmp_Compare_int.f a1_2 a0_2).bind fun t141 => ((txn_ID.f a0_0 a0_1 a0_2 a0_3 a0_4 a0_5).bind fun t142 => ((txn_ID.f a1_0 a1_1 a1_2 a1_3 a1_4 a1_5).bind fun t143 => ((strings_Compare.f t142 t143).bind fun t144 => ((cmp_Compare_int.f a0_0 a1_0).bind fun t145 => ((cmp_Compare_int.f a0_1 a1_1).bind fun t146 => ((cmp_Or_int.f k (([t141, t144, t145, t146] : List Int))).bind fun t150 => (some (decide (t150 < 0)))))))))
theorem txn_Better.mono : ∀ a0 a1 a2 a3 a4 a5 a6 a7 a8 a9 a10 a11 k, LeO (txn_Better.f k a0 a1 a2 a3 a4 a5 a6 a7 a8 a9 a10 a11) (txn_Better.f (k + 1) a0 a1 a2 a3 a4 a5 a6 a7 a8 a9 a10 a11) := by
 intro a0 a1 a2 a3 a4 a5 a6 a7 a8 a9 a10 a11 k
 unfold txn_Better.f
 repeat' first
  | (with_reducible exact cmp_Or_int.mono _ _)
  | (with_reducible exact LeO.refl _)
  | (with_reducible exact LeO.none _)
  | (with_reducible refine LeO.ite ?_ ?_)
  | (with_reducible refine LeO.bind ?_ (fun _ => ?_))
  | exact cmp_Or_int.mono _ _
  | exact LeO.none _
  | refine LeO.ite ?_ ?_
  | refine LeO.bind ?_ (fun _ => ?_)
def txn_Better.T1 : Bool × List (List Nat × List Nat) := (true, [([], []), ([0], [0]), ([], []), ([2], [2]), ([1, 3], [1, 3]), ([], []), ([5, 4], [5]), ([], []), ([7, 6], [7]), ([6, 8, 8], [6, 8]), ([], []), ([10], [10]), ([], []), ([12], [12]), ([11, 13, 9], [11, 13]), ([], []), ([15], [15]), ([], []), ([17], [17]), ([16, 18, 14], [16, 18]), ([4, 9, 14, 19], [4, 9, 14, 19]), ([20, 19], [20]), ([21], [21]), ([22, 21, 0, 1, 2, 3, 4, 5, 6, 7, 8, 9, 10, 11, 12, 13, 14, 15, 16, 17, 18, 19, 20, 21, 22], [22])])
def txn_Better.B1 : List Nat := [0, 1, 0, 4, 15, 0, 63, 0, 255, 511, 0, 1024, 0, 4096, 16383, 0, 32768, 0, 131072, 524287, 1048575, 2097151, 4194303, 8388607]
theorem txn_Better.tab1 : rtab .any (opsOf Try.f39 1) = txn_Better.T1 := by kernel_rfl
theorem txn_Better.bits1 : waitsOk txn_Better.T1.2 txn_Better.B1 = true := by kernel_rfl
set_option maxHeartbeats 8000000 in
set_option maxRecDepth 100000 in
theorem txn_Better.calls (k : Nat) (a0_0 : Int) (a0_1 : Int) (a0_2 : Int) (a0_3 : Int) (a0_4 : Int) (a0_5 : ByteArray) (a1_0 : Int) (a1_1 : Int) (a1_2 : Int) (a1_3 : Int) (a1_4 : Int) (a1_5 : ByteArray) (r : Bool) (w : World) (h : txn_Better.f k a0_0 a0_1 a0_2 a0_3 a0_4 a0_5 a1_0 a1_1 a1_2 a1_3 a1_4 a1_5 = some r) :
 Calls Try.prog 39 #[.agg #[.int .i64 a0_0, .int .i64 a0_1, .int .i64 a0_2, .int .i64 a0_3, .int .i64 a0_4, .string a0_5], .agg #[.int .i64 a1_0, .int .i64 a1_1, .int .i64 a1_2, .int .i64 a1_3, .int .i64 a1_4, .string a1_5]] w fun e w' => e = .returned (.bool r) ∧ Below w.heap.size w w' := by
 have hu38 := Try.underlying38
 have HB := A_ (Below.refl w.heap.size w)
 have H : ((cmp_Compare_int.f a1_2 a0_2).bind fun t141 => ((txn_ID.f a0_0 a0_1 a0_2 a0_3 a0_4 a0_5).bind fun t142 => ((txn_ID.f a1_0 a1_1 a1_2 a1_3 a1_4 a1_5).bind fun t143 => ((strings_Compare.f t142 t143).bind fun t144 => ((cmp_Compare_int.f a0_0 a1_0).bind fun t145 => ((cmp_Compare_int.f a0_1 a1_1).bind fun t146 => ((cmp_Or_int.f k (([t141, t144, t145, t146] : List Int))).bind fun t150 => (some (decide (t150 < 0)))))))))) = some r := h
 clear h
 replace H := Option.bind_eq_some_iff.mp H
 obtain ⟨t141, A30, H⟩ := H
 try dsimp only at H
 have A3 := A_ A30
 clear A30
 replace H := Option.bind_eq_some_iff.mp H
 obtain ⟨t142, A40, H⟩ := H
 try dsimp only at H
 have A4 := A_ A40
 clear A40
 replace H := Option.bind_eq_some_iff.mp H
 obtain ⟨t143, A50, H⟩ := H
 try dsimp only at H
 have A5 := A_ A50
 clear A50
 replace H := Option.bind_eq_some_iff.mp H
 obtain ⟨t144, A60, H⟩ := H
 try dsimp only at H
 have A6 := A_ A60
 clear A60
 replace H := Option.bind_eq_some_iff.mp H
 obtain ⟨t145, A70, H⟩ := H
 try dsimp only at H
 have A7 := A_ A70
 clear A70
 replace H := Option.bind_eq_some_iff.mp H
 obtain ⟨t146, A80, H⟩ := H
 try dsimp only at H
 have A8 := A_ A80
 clear A80
 obtain ⟨y147, hy147⟩ : ∃ y_ : List Int, y_ = (([t141, t144, t145, t146] : List Int)) := ⟨_, rfl⟩
 replace H : ((cmp_Or_int.f k y147).bind fun t150 => (some (decide (t150 < 0)))) = some r := by first | (rw [hy147]; with_reducible exact H) | (have H2_ := (Option.bind_some _ _).symm.trans H; rw [hy147]; with_reducible exact H2_) | (have H2_ := (Option.bind_some _ _).symm.trans H; with_reducible exact H2_) | with_reducible exact H | (rw [hy147]; exact H) | exact H
 have Ny147 := A_ hy147
 clear hy147
 replace H := Option.bind_eq_some_iff.mp H
 obtain ⟨t150, A90, H⟩ := H
 replace H : (some (decide (t150 < 0))) = some r := H
 have A9 := A_ A90
 clear A90
 obtain rfl := Option.some.inj H
 go_enter Try.func39, Try.ntmps39
 try go_wp2_with (first | ((with_reducible refine gate_dst (N := 2) rfl ?_); refine box_event ?hg (N := 2) ?hd (cs := #[.int .i64 a0_0, .int .i64 a0_1, .int .i64 a0_2, .int .i64 a0_3, .int .i64 a0_4, .string a0_5]) (t := 38) ?hr ?_; (case hd => rfl); (case hg => rfl); (case hr => first | (go_simp; done) | (go_simp; rfl)); intro gb139 hg w10 hbox hb; have n0_ := A_ (below_step bw_ hb); have n1_ := A_ (hbox); have n2_ := A_ (gz_ (w := w) hg); have n3_ := A_ (gz_ (w := w) hg); replace HB := n0_; have BK139 := n1_; have GW139 := n2_; have GE139 := n3_; clear n0_ n1_ n2_ n3_; clear hb hbox hg) | ((with_reducible refine gate_dst (N := 3) rfl ?_); refine box_event ?hg (N := 3) ?hd (cs := #[.int .i64 a1_0, .int .i64 a1_1, .int .i64 a1_2, .int .i64 a1_3, .int .i64 a1_4, .string a1_5]) (t := 38) ?hr ?_; (case hd => rfl); (case hg => rfl); (case hr => first | (go_simp; done) | (go_simp; rfl)); intro gb140 hg w11 hbox hb; have n0_ := A_ (kb_ BK139 hb); have n1_ := A_ (below_step bw_ hb); have n2_ := A_ (hbox); have n3_ := A_ (gz_ (w := w) hg); have n4_ := A_ (gz_ (w := w) hg); have n5_ := A_ (nl_ BK139 hg); have n6_ := A_ (ng_ BK139 hg); replace BK139 := n0_; replace HB := n1_; have BK140 := n2_; have GW140 := n3_; have GE140 := n4_; have NB139_140 := n5_; have NB140_139 := n6_; clear n0_ n1_ n2_ n3_ n4_ n5_ n6_; clear hb hbox hg))
 have n0_ := A_ (bd_ BK139.out); have n1_ := A_ (bd_ BK140.out); have n2_ := A_ (wd_ HB.out); replace BK139 := n0_; replace BK140 := n1_; replace HB := n2_; clear n0_ n1_ n2_
 refine start_ (n := 24) (S := fun w' => w'.cell? ⟨gb140, 0, none⟩ = some (.int .i64 a1_0) ∧ w'.cell? ⟨gb140, 1, none⟩ = some (.int .i64 a1_1) ∧ w'.cell? ⟨gb140, 2, none⟩ = some (.int .i64 a1_2) ∧ w'.cell? ⟨gb140, 3, none⟩ = some (.int .i64 a1_3) ∧ w'.cell? ⟨gb140, 4, none⟩ = some (.int .i64 a1_4) ∧ w'.cell? ⟨gb140, 5, none⟩ = some (.string a1_5) ∧ w'.cell? ⟨gb139, 0, none⟩ = some (.int .i64 a0_0) ∧ w'.cell? ⟨gb139, 1, none⟩ = some (.int .i64 a0_1) ∧ w'.cell? ⟨gb139, 2, none⟩ = some (.int .i64 a0_2) ∧ w'.cell? ⟨gb139, 3, none⟩ = some (.int .i64 a0_3) ∧ w'.cell? ⟨gb139, 4, none⟩ = some (.int .i64 a0_4) ∧ w'.cell? ⟨gb139, 5, none⟩ = some (.string a0_5)) (ds := []) #[F,F,F,F,F,F,F,F,F,F,F,F,F,F,F,F,F,F,F,F,F,F,F,F] (by kernel_rfl) rfl rfl ⟨e_ BK140 0, e_ BK140 1, e_ BK140 2, e_ BK140 3, e_ BK140 4, e_ BK140 5, e_ BK139 0, e_ BK139 1, e_ BK139 2, e_ BK139 3, e_ BK139 4, e_ BK139 5⟩ (fun hHeld => ?_); refine with_tabW txn_Better.tab1 txn_Better.bits1 (fun HT_ HW_ => ?_)
 generalize w11.drew = w12 at BK139 BK140 HB hHeld ⊢
 refine pq_ 0 5 HT_ ?_
 refine pq_ 2 7 HT_ ?_
 refine pq_ 10 15 HT_ ?_
 refine pq_ 12 17 HT_ ?_
 refine pq_ 15 20 HT_ ?_
 refine pq_ 17 22 HT_ ?_
 refine tk_ 1 6 HT_ HW_ hHeld ?_
 refine tk_ 3 8 HT_ HW_ hHeld ?_
 refine tk_ 5 10 HT_ HW_ hHeld ?_
 refine tk_ 7 12 HT_ HW_ hHeld ?_
 refine tk_ 11 16 HT_ HW_ hHeld ?_
 refine tk_ 13 18 HT_ HW_ hHeld ?_
 refine tk_ 16 21 HT_ HW_ hHeld ?_
 refine tk_ 18 23 HT_ HW_ hHeld ?_
 refine one_ (i := 4) (N := some 9) #[T,T,T,T,T,T,F,T,F,F,T,T,T,T,F,T,T,T,T,F,F,F,F,F] rfl rfl (one_of HT_.out (by kernel_rfl)) (by decide) (fun K hK => ?_)
 refine goes_ Try.func49 (by kernel_rfl) rfl #[.int .i64 a1_2, .int .i64 a0_2] (by rfl) rfl rfl (by (try simp only [m0_, m1_, m2_]); first | done | rfl) ?_
 with_reducible refine (cmp_Compare_int.calls a1_2 a0_2 t141 _ A3.out).mono ?_
 rintro e w' ⟨rfl, ⟨nd, rfl⟩⟩
 refine ⟨_, rfl, ?_⟩
 refine hK.out _ _ ⟨e_ BK140 0, e_ BK140 1, e_ BK140 2, e_ BK140 3, e_ BK140 4, e_ BK140 5, e_ BK139 0, e_ BK139 1, e_ BK139 2, e_ BK139 3, e_ BK139 4, e_ BK139 5⟩ (fun hHeld => ?_)
 clear hK K
 refine norm_ (a' := ?_) ?_ ?_
 rotate_left
 · show Act.put _ (some 9) _ = _
   simp only [Act.put, s0_, s1_, s2_, i64_w, i32_w]
   rfl
 refine one_ (i := 6) (N := some 11) #[T,T,T,T,T,T,T,T,F,F,T,T,T,T,F,T,T,T,T,F,F,F,F,F] rfl rfl (one_of HT_.out (by kernel_rfl)) (by decide) (fun K hK => ?_)
 refine goes_ Try.func51 (by kernel_rfl) rfl #[.agg #[.int .i64 a0_0, .int .i64 a0_1, .int .i64 a0_2, .int .i64 a0_3, .int .i64 a0_4, .string a0_5]] (by rfl) rfl rfl (by (try simp only [m0_, m1_, m2_]); first | done | rfl) ?_
 with_reducible refine (txn_ID.calls a0_0 a0_1 a0_2 a0_3 a0_4 a0_5 t142 _ A4.out).mono ?_
 rintro e w13 ⟨rfl, hb⟩
 refine ⟨_, rfl, ?_⟩
 have n0_ := A_ (kb_ BK139 hb); have n1_ := A_ (kb_ BK140 hb); have n2_ := A_ (below_step bw_ hb); replace BK139 := n0_; replace BK140 := n1_; replace HB := n2_; clear n0_ n1_ n2_
 (try clear hb)
 (try clear hb2)
 (try clear hk)
 (try clear hi)
 refine hK.out _ _ ⟨e_ BK140 0, e_ BK140 1, e_ BK140 2, e_ BK140 3, e_ BK140 4, e_ BK140 5, e_ BK139 0, e_ BK139 1, e_ BK139 2, e_ BK139 3, e_ BK139 4, e_ BK139 5⟩ (fun hHeld => ?_)
 clear hK K
 refine norm_ (a' := ?_) ?_ ?_
 rotate_left
 · show Act.put _ (some 11) _ = _
   simp only [Act.put, s0_, s1_, s2_, i64_w, i32_w]
   rfl
 refine one_ (i := 8) (N := some 13) #[T,T,T,T,T,T,T,T,T,F,T,T,T,T,F,T,T,T,T,F,F,F,F,F] rfl rfl (one_of HT_.out (by kernel_rfl)) (by decide) (fun K hK => ?_)
 refine goes_ Try.func51 (by kernel_rfl) rfl #[.agg #[.int .i64 a1_0, .int .i64 a1_1, .int .i64 a1_2, .int .i64 a1_3, .int .i64 a1_4, .string a1_5]] (by rfl) rfl rfl (by (try simp only [m0_, m1_, m2_]); first | done | rfl) ?_
 with_reducible refine (txn_ID.calls a1_0 a1_1 a1_2 a1_3 a1_4 a1_5 t143 _ A5.out).mono ?_
 rintro e w14 ⟨rfl, hb⟩
 refine ⟨_, rfl, ?_⟩
 have n0_ := A_ (kb_ BK139 hb); have n1_ := A_ (kb_ BK140 hb); have n2_ := A_ (below_step bw_ hb); replace BK139 := n0_; replace BK140 := n1_; replace HB := n2_; clear n0_ n1_ n2_
 (try clear hb)
 (try clear hb2)
 (try clear hk)
 (try clear hi)
 refine hK.out _ _ ⟨e_ BK140 0, e_ BK140 1, e_ BK140 2, e_ BK140 3, e_ BK140 4, e_ BK140 5, e_ BK139 0, e_ BK139 1, e_ BK139 2, e_ BK139 3, e_ BK139 4, e_ BK139 5⟩ (fun hHeld => ?_)
 clear hK K
 refine norm_ (a' := ?_) ?_ ?_
 rotate_left
 · show Act.put _ (some 13) _ = _
   simp only [Act.put, s0_, s1_, s2_, i64_w, i32_w]
   rfl
 refine one_ (i := 9) (N := some 14) #[T,T,T,T,T,T,T,T,T,T,T,T,T,T,F,T,T,T,T,F,F,F,F,F] rfl rfl (one_of HT_.out (by kernel_rfl)) (by decide) (fun K hK => ?_)
 refine goes_ Try.func50 (by kernel_rfl) rfl #[.string t142, .string t143] (by rfl) rfl rfl (by (try simp only [m0_, m1_, m2_]); first | done | rfl) ?_
 with_reducible refine (strings_Compare.calls t142 t143 t144 _ A6.out).mono ?_
 rintro e w' ⟨rfl, ⟨nd, rfl⟩⟩
 refine ⟨_, rfl, ?_⟩
 refine hK.out _ _ ⟨e_ BK140 0, e_ BK140 1, e_ BK140 2, e_ BK140 3, e_ BK140 4, e_ BK140 5, e_ BK139 0, e_ BK139 1, e_ BK139 2, e_ BK139 3, e_ BK139 4, e_ BK139 5⟩ (fun hHeld => ?_)
 clear hK K
 refine norm_ (a' := ?_) ?_ ?_
 rotate_left
 · show Act.put _ (some 14) _ = _
   simp only [Act.put, s0_, s1_, s2_, i64_w, i32_w]
   rfl
 refine one_ (i := 14) (N := some 19) #[T,T,T,T,T,T,T,T,T,T,T,T,T,T,T,T,T,T,T,F,F,F,F,F] rfl rfl (one_of HT_.out (by kernel_rfl)) (by decide) (fun K hK => ?_)
 refine goes_ Try.func49 (by kernel_rfl) rfl #[.int .i64 a0_0, .int .i64 a1_0] (by rfl) rfl rfl (by (try simp only [m0_, m1_, m2_]); first | done | rfl) ?_
 with_reducible refine (cmp_Compare_int.calls a0_0 a1_0 t145 _ A7.out).mono ?_
 rintro e w' ⟨rfl, ⟨nd, rfl⟩⟩
 refine ⟨_, rfl, ?_⟩
 refine hK.out _ _ ⟨e_ BK140 0, e_ BK140 1, e_ BK140 2, e_ BK140 3, e_ BK140 4, e_ BK140 5, e_ BK139 0, e_ BK139 1, e_ BK139 2, e_ BK139 3, e_ BK139 4, e_ BK139 5⟩ (fun hHeld => ?_)
 clear hK K
 refine norm_ (a' := ?_) ?_ ?_
 rotate_left
 · show Act.put _ (some 19) _ = _
   simp only [Act.put, s0_, s1_, s2_, i64_w, i32_w]
   rfl
 refine one_ (i := 19) (N := some 24) #[T,T,T,T,T,T,T,T,T,T,T,T,T,T,T,T,T,T,T,T,F,F,F,F] rfl rfl (one_of HT_.out (by kernel_rfl)) (by decide) (fun K hK => ?_)
 refine goes_ Try.func49 (by kernel_rfl) rfl #[.int .i64 a0_1, .int .i64 a1_1] (by rfl) rfl rfl (by (try simp only [m0_, m1_, m2_]); first | done | rfl) ?_
 with_reducible refine (cmp_Compare_int.calls a0_1 a1_1 t146 _ A8.out).mono ?_
 rintro e w' ⟨rfl, ⟨nd, rfl⟩⟩
 refine ⟨_, rfl, ?_⟩
 refine hK.out _ _ ⟨e_ BK140 0, e_ BK140 1, e_ BK140 2, e_ BK140 3, e_ BK140 4, e_ BK140 5, e_ BK139 0, e_ BK139 1, e_ BK139 2, e_ BK139 3, e_ BK139 4, e_ BK139 5⟩ (fun hHeld => ?_)
 clear hK K
 refine norm_ (a' := ?_) ?_ ?_
 rotate_left
 · show Act.put _ (some 24) _ = _
   simp only [Act.put, s0_, s1_, s2_, i64_w, i32_w]
   rfl
 refine one_ (i := 20) (N := some 25) #[T,T,T,T,T,T,T,T,T,T,T,T,T,T,T,T,T,T,T,T,T,F,F,F] rfl rfl (one_of HT_.out (by kernel_rfl)) (by decide) (fun K hK => ?_)
 refine Kd.R_lit_step (Kd.int .i64) _ 3 ?hg (N := 25) ?hd (xs := ([t141, t144, t145, t146] : List Int)) (inner := [.int .i64 t141, .int .i64 t144, .int .i64 t145, .int .i64 t146]) (ok := fun _ => True) (okp := fun _ => True) ?hr ?hp (fun _ hk => hk) trivial (Below.refl _ _) (Nat.le_refl _) (by simp) ?_; (case hd => rfl); (case hg => rfl); (case hr => first | (go_simp; done) | (go_simp; rfl)); (case hp => exact (Reps.one (show Kd.M (Kd.int .i64) _ _ _ t141 [.int .i64 t141] from rfl) (Reps.one (show Kd.M (Kd.int .i64) _ _ _ t144 [.int .i64 t144] from rfl) (Reps.one (show Kd.M (Kd.int .i64) _ _ _ t145 [.int .i64 t145] from rfl) (Reps.one (show Kd.M (Kd.int .i64) _ _ _ t146 [.int .i64 t146] from rfl) (Reps.none _ _))))))
 intro v148 w15 ho16 hb hg_ hnew_
 clear hg_ hnew_
 (first | rw [← Ny147.out] at ho16 | (simp only [Int.reduceToNat] at ho16; rw [← Ny147.out] at ho16))
 have HO149 := A_ (Kd.R_lower ho16 (below_size bw_)); replace BK139 := A_ (kb_ BK139 hb); replace BK140 := A_ (kb_ BK140 hb); replace HB := A_ (below_step bw_ hb); clear hb ho16
 obtain ⟨Ao17, co17, eo17⟩ := Kd.R_slice HO149.out
 (first | subst eo17 | (injection eo17 with f1_ f2_ f3_; have f4_ := f1_.symm; have f5_ := f3_.symm; clear f1_ f2_ f3_; subst f4_; subst f5_))
 refine hK.out _ _ ⟨e_ BK140 0, e_ BK140 1, e_ BK140 2, e_ BK140 3, e_ BK140 4, e_ BK140 5, e_ BK139 0, e_ BK139 1, e_ BK139 2, e_ BK139 3, e_ BK139 4, e_ BK139 5⟩ (fun hHeld => ?_)
 clear hK K
 refine norm_ (a' := ?_) ?_ ?_
 rotate_left
 · show Act.put _ (some 25) _ = _
   simp only [Act.put, s0_, s1_, s2_, i64_w, i32_w]
   rfl
 refine one_ (i := 21) (N := some 26) #[T,T,T,T,T,T,T,T,T,T,T,T,T,T,T,T,T,T,T,T,T,T,F,F] rfl rfl (one_of HT_.out (by kernel_rfl)) (by decide) (fun K hK => ?_)
 refine goes_ Try.func48 (by kernel_rfl) rfl #[.slice Ao17 y147.length co17] (by rfl) rfl rfl (by (try simp only [m0_, m1_, m2_]); first | done | rfl) ?_
 with_reducible refine (cmp_Or_int.calls k _ _ y147 t150 _ ?side1 ?side2 A9.out).mono ?_
 (case side1 => repeat (first | exact (Kd.R_reads' HO149.out).2.2 | (with_reducible refine ca_ ?_ _) | (with_reducible refine cn_ ?_ _) | (with_reducible refine cd_ ?_)))
 (case side2 => exact (Kd.R_reads' HO149.out).2.1)
 rintro e w' ⟨rfl, ⟨nd, rfl⟩⟩
 refine ⟨_, rfl, ?_⟩
 refine hK.out _ _ ⟨e_ BK140 0, e_ BK140 1, e_ BK140 2, e_ BK140 3, e_ BK140 4, e_ BK140 5, e_ BK139 0, e_ BK139 1, e_ BK139 2, e_ BK139 3, e_ BK139 4, e_ BK139 5⟩ (fun hHeld => ?_)
 clear hK K
 refine norm_ (a' := ?_) ?_ ?_
 rotate_left
 · show Act.put _ (some 26) _ = _
   simp only [Act.put, s0_, s1_, s2_, i64_w, i32_w]
   rfl
 refine pq_ 22 27 HT_ ?_
 refine pq_ 23 4 HT_ ?_
 refine done_ (done_of HT_.out (by kernel_rfl)) ?_
 try go_wp2
 go_ret
 exact ⟨by first | rfl | (simp [errW_none, errW_some] <;> rfl) | (simp [*, errW_none, errW_some] <;> rfl), by repeat (first | (with_reducible first | exact HB.out | apply wa_ | apply wn_ | apply wd_ | refine ws_ ?_ GE139.out | refine ws_ ?_ GE140.out) | exact HB.out)⟩

/- greedy_block_best: placed ahead -/

end Go.Proofs.Ytahopljippfadaa.D
