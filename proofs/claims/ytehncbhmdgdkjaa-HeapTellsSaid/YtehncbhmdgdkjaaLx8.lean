/- Written by this session's own program over the kit's print: functions of Go told as plain functions, or the row of one statement; proved for every input, with no condition of ours. -/
import Derived.Test.YtehncbhmdgdkjaaLx0
import Derived.Test.YtehncbhmdgdkjaaLx6
import Derived.Test.YtehncbhmdgdkjaaLx7
namespace Go.Proofs.Ytehncbhmdgdkjaa.L
open Go.RowKit Go.Proofs.YtehncbhmdgdkjaaW.PrintWords Go.Proofs.YtehncbhmdgdkjaaW.PrintLast Go.Proofs.YtehncbhmdgdkjaaW.PrintMore
attribute [local go_sem] max2_int min2_int max_two min_two max_three min_three max_four min_four   -- for this text's walks alone
set_option linter.unusedVariables false
set_option linter.unusedSimpArgs false

/-! ### txn_Encode: function 134, by hand -/
-- HAND rounds=0 making=1
theorem builder_below {T e : TypeId} {B b : Nat} {p : Value} {bs : List Value} {w w' : World} (h : Lib.BuilderAt T e B b p bs w) (hb : Below w.heap.size w w') : Lib.BuilderAt T e B b p bs w' := by
  have hlt := h.lt
  obtain ⟨h1, v, h2, h3, h4⟩ := h
  exact ⟨h1, v, by rw [hb.block b hlt]; exact h2, own_move h3 (fun k hk => hb.block k (own_lt h3 k hk)), h4⟩
/-- What stands in the builder behind so many numbers. -/
def encP (ns : List ByteArray) (i : Nat) : List UInt8 := (1 : UInt8) :: ((ns.take i).map fun s => s.data.toList).flatten
theorem encP_next (ns : List ByteArray) (i : Nat) (x : ByteArray) (h : ns[i]? = some x) : Lib.byteCells (encP ns (i + 1)) = Lib.byteCells (encP ns i) ++ Lib.strCells x := by
  rw [Lib.strCells_eq, ← Lib.byteCells_append]
  congr 1
  obtain ⟨hi, hx⟩ := List.getElem?_eq_some_iff.1 h
  unfold encP
  rw [List.take_succ_eq_append_getElem hi, List.map_append, List.flatten_append, hx]
  simp
def encAll (n0 n1 n2 n3 n4 t : ByteArray) : ByteArray := ⟨(encP [n0, n1, n2, n3, n4, t] 6).toArray⟩
def txn_Encode.f (a0_0 : Int) (a0_1 : Int) (a0_2 : Int) (a0_3 : Int) (a0_4 : Int) (a0_5 : ByteArray) : Option (ByteArray × Bool) :=
  (txn_Check.f a0_0 a0_1 a0_2 a0_3 a0_4 a0_5).bind fun c => if c = true then
    ((codec_Number.f a0_0).bind fun n0 => (codec_Number.f a0_1).bind fun n1 => (codec_Number.f a0_2).bind fun n2 => (codec_Number.f a0_3).bind fun n3 => (codec_Number.f a0_4).bind fun n4 => (codec_Text.f a0_5).bind fun t =>
      if n0.size + n1.size + n2.size + n3.size + n4.size + t.size ≤ 140737488355000 then some (encAll n0 n1 n2 n3 n4 t, true) else none) else some (⟨#[]⟩, false)
def encBox (a0 a1 a2 a3 a4 : Int) (a5 : ByteArray) : Array Value := #[.int .i64 a0, .int .i64 a1, .int .i64 a2, .int .i64 a3, .int .i64 a4, .string a5]
def EncRel (w : World) (b : Nat) (box : Array Value) (ns : List ByteArray) (i : Nat) (wr : World) : Prop :=
  Lib.BuilderAt 164 5 b b (.pointer (some ⟨b, 0, none⟩)) (Lib.byteCells (encP ns i)) wr ∧ wr.heap[w.heap.size]? = some (.cells box 24 (0, 0)) ∧ Below w.heap.size w wr ∧ w.heap.size < b
theorem enc_len (ns : List ByteArray) (i : Nat) : (Lib.byteCells (encP ns i)).length = 1 + ((ns.take i).map ByteArray.size).sum := by
  rw [Lib.byteCells_length]
  unfold encP
  rw [List.length_cons, List.length_flatten, List.map_map]
  have e : (List.length ∘ fun s : ByteArray => s.data.toList) = ByteArray.size := by funext s; exact data_length s
  rw [e]
  omega
/-- What is below a later bound is below an earlier one. -/
theorem below_step_lo {B C : Nat} {w a b : World} (h : Below B w a) (k : Below C a b) (hBC : B ≤ C) : Below B w b := h.trans ⟨k.1, k.2, k.3, k.size, fun i hi => k.block i (Nat.lt_of_lt_of_le hi hBC)⟩
theorem enc_step (w : World) (b : Nat) (box : Array Value) (ns : List ByteArray) (i : Nat) (x : ByteArray) (wr w3 w4 : World) (h : EncRel w b box ns i wr) (hx : ns[i]? = some x) (h3 : Below wr.heap.size wr w3)
    (hbu : Lib.BuilderAt 164 5 b b (.pointer (some ⟨b, 0, none⟩)) (Lib.byteCells (encP ns i) ++ Lib.strCells x) w4) (h4 : Below b w3 w4) : EncRel w b box ns (i + 1) w4 := by
  obtain ⟨e1, e2, e3, e4⟩ := h
  have hlt := e1.lt
  refine ⟨by rw [encP_next ns i x hx]; exact hbu, ?_, below_step_lo (below_step e3 h3) h4 (Nat.le_of_lt e4), e4⟩
  rw [h4.block _ e4, h3.block _ (by omega)]
  exact e2
set_option maxHeartbeats 4000000 in
set_option maxRecDepth 100000 in
theorem txn_Encode.calls (a0_0 : Int) (a0_1 : Int) (a0_2 : Int) (a0_3 : Int) (a0_4 : Int) (a0_5 : ByteArray) (r1 : ByteArray) (r2 : Bool) (w : World) (h : txn_Encode.f a0_0 a0_1 a0_2 a0_3 a0_4 a0_5 = some (r1, r2)) :
    Calls Try.prog 134 #[.agg #[.int .i64 a0_0, .int .i64 a0_1, .int .i64 a0_2, .int .i64 a0_3, .int .i64 a0_4, .string a0_5]] w fun e w' => e = .returned (.tuple #[.string r1, .bool r2]) ∧ Below w.heap.size w w' := by
  unfold txn_Encode.f at h
  obtain ⟨c, hc, h⟩ := Option.bind_eq_some_iff.1 h
  have HK := Aside0.mk hc
  clear hc
  cases c with
  | false =>
    rw [if_neg (by decide)] at h
    have HH := Aside0.mk (Option.some.inj h)
    clear h
    go_enter Try.func134, Try.ntmps134
    go_wp2_with (first | (go_at_call 102; (with_reducible refine (txn_Check.calls _ _ _ _ _ _ false _ HK.out).mono ?_); rintro e w1 ⟨rfl, hb⟩; have HB := Aside0.mk (below_step (below_alloc (Below.refl w.heap.size w) _) hb); clear hb))
    go_ret2
    have HH := HH.out
    simp only [Prod.mk.injEq] at HH
    obtain ⟨rfl, rfl⟩ := HH
    exact ⟨rfl, HB.out⟩
  | true =>
    rw [if_pos rfl] at h
    obtain ⟨n0, e0, h⟩ := Option.bind_eq_some_iff.1 h
    obtain ⟨n1, e1, h⟩ := Option.bind_eq_some_iff.1 h
    obtain ⟨n2, e2, h⟩ := Option.bind_eq_some_iff.1 h
    obtain ⟨n3, e3, h⟩ := Option.bind_eq_some_iff.1 h
    obtain ⟨n4, e4, h⟩ := Option.bind_eq_some_iff.1 h
    obtain ⟨t, e5, h⟩ := Option.bind_eq_some_iff.1 h
    by_cases hs : n0.size + n1.size + n2.size + n3.size + n4.size + t.size ≤ 140737488355000
    · rw [if_pos hs] at h
      have HH := Aside0.mk (Option.some.inj h)
      have HS := Aside0.mk hs
      have E0 := Aside0.mk e0
      have E1 := Aside0.mk e1
      have E2 := Aside0.mk e2
      have E3 := Aside0.mk e3
      have E4 := Aside0.mk e4
      have E5 := Aside0.mk e5
      clear h hs e0 e1 e2 e3 e4 e5
      have HW := Aside0.mk (fun W : World => strings_Builder_WriteString.calls W.heap.size W.heap.size [] (⟨#[1]⟩ : ByteArray) _ (Lib.fresh_isBuilder 164 5 W) (by decide) (by simp))
      go_enter Try.func134, Try.ntmps134
      go_wp2_with (first | (go_at_call 102; (with_reducible refine (txn_Check.calls _ _ _ _ _ _ true _ HK.out).mono ?_); rintro e w1 ⟨rfl, hb⟩; have BX := Aside0.mk ((hb.block w.heap.size (by simp)).trans (heap_alloc_new w (.cells (encBox a0_0 a0_1 a0_2 a0_3 a0_4 a0_5) 24))); have HL := Aside0.mk (show w.heap.size < w1.heap.size by have := hb.size; simp at this; omega); have HB := Aside0.mk (below_step (below_alloc (Below.refl w.heap.size w) _) hb); clear hb))
      refine (HW.out _).mono ?_
      rintro e w2 ⟨rfl, hbu, hb⟩
      have BX2 := Aside0.mk ((hb.block w.heap.size HL.out).trans ((heap_alloc_old w1 _ HL.out).trans BX.out))
      have hx0 : w2.cell? ⟨w.heap.size, 0, none⟩ = some (.int .i64 a0_0) := (blk_cell BX2.out 0).trans rfl
      have hx1 : w2.cell? ⟨w.heap.size, 1, none⟩ = some (.int .i64 a0_1) := (blk_cell BX2.out 1).trans rfl
      have hx2 : w2.cell? ⟨w.heap.size, 2, none⟩ = some (.int .i64 a0_2) := (blk_cell BX2.out 2).trans rfl
      have hx3 : w2.cell? ⟨w.heap.size, 3, none⟩ = some (.int .i64 a0_3) := (blk_cell BX2.out 3).trans rfl
      have hx4 : w2.cell? ⟨w.heap.size, 4, none⟩ = some (.int .i64 a0_4) := (blk_cell BX2.out 4).trans rfl
      have HBU := Aside0.mk hbu
      have HB2 := Aside0.mk (below_step_lo (below_alloc HB.out _) hb (Nat.le_of_lt HL.out))
      clear hbu hb
      go_wp2_with (fail)
      go_loopw [22] (fun v22 wr => ∃ i : Nat, i ≤ 5 ∧ v22 = .int .i64 (i : Int) ∧ Aside0 (EncRel w w1.heap.size (encBox a0_0 a0_1 a0_2 a0_3 a0_4 a0_5) [n0, n1, n2, n3, n4, t] i wr)) (fun v22 _ => 5 - (intOf v22).toNat)
      case atStart =>
        exact ⟨0, by omega, rfl, ⟨⟨HBU.out, BX2.out, HB2.out, HL.out⟩⟩⟩
      case round =>
        obtain ⟨i, hi, rfl, HX⟩ := hrel
        have HG := Aside0.mk (show w1.heap.size ≤ wr.heap.size from Nat.le_of_lt HX.out.1.lt)
        rcases (show i = 0 ∨ i = 1 ∨ i = 2 ∨ i = 3 ∨ i = 4 ∨ i = 5 by omega) with rfl | rfl | rfl | rfl | rfl | rfl
        · have ix : ∀ W : World, (Instr.index 169 (.agg #[.int .i64 a0_0, .int .i64 a0_1, .int .i64 a0_2, .int .i64 a0_3, .int .i64 a0_4]) (.int .i64 0)).run Try.prog W = .ok (.int .i64 a0_0) W := fun _ => by kernel_rfl
          have HN := Aside0.mk (codec_Number.calls a0_0 n0 wr E0.out)
          have HW2 := Aside0.mk (fun (W : World) (hb : Below wr.heap.size wr W) => strings_Builder_WriteString.calls w1.heap.size w1.heap.size _ n0 W (.inr (builder_below HX.out.1 hb)) (by rw [enc_len]; have := HS.out; simp; omega) (Nat.le_trans HG.out hb.size))
          go_wp2_with (first | (go_at_call 152; (with_reducible refine HN.out.mono ?_); rintro e w3 ⟨rfl, hb3⟩; have HB3 := Aside0.mk hb3; clear hb3) | (go_at_call 151; (with_reducible refine (HW2.out _ HB3.out).mono ?_); rintro e w4 ⟨rfl, hbu, hb4⟩; have HBU4 := Aside0.mk hbu; have HB4 := Aside0.mk hb4; clear hbu hb4))
          go_wp2_with (fail)
          go_roundw
          case rel => exact ⟨1, by omega, by go_num, ⟨enc_step w w1.heap.size _ _ 0 n0 wr w3 w4 HX.out rfl HB3.out HBU4.out HB4.out⟩⟩
          case measure => simp [intOf]
        · have ix : ∀ W : World, (Instr.index 169 (.agg #[.int .i64 a0_0, .int .i64 a0_1, .int .i64 a0_2, .int .i64 a0_3, .int .i64 a0_4]) (.int .i64 1)).run Try.prog W = .ok (.int .i64 a0_1) W := fun _ => by kernel_rfl
          have HN := Aside0.mk (codec_Number.calls a0_1 n1 wr E1.out)
          have HW2 := Aside0.mk (fun (W : World) (hb : Below wr.heap.size wr W) => strings_Builder_WriteString.calls w1.heap.size w1.heap.size _ n1 W (.inr (builder_below HX.out.1 hb)) (by rw [enc_len]; have := HS.out; simp; omega) (Nat.le_trans HG.out hb.size))
          go_wp2_with (first | (go_at_call 152; (with_reducible refine HN.out.mono ?_); rintro e w3 ⟨rfl, hb3⟩; have HB3 := Aside0.mk hb3; clear hb3) | (go_at_call 151; (with_reducible refine (HW2.out _ HB3.out).mono ?_); rintro e w4 ⟨rfl, hbu, hb4⟩; have HBU4 := Aside0.mk hbu; have HB4 := Aside0.mk hb4; clear hbu hb4))
          go_wp2_with (fail)
          go_roundw
          case rel => exact ⟨2, by omega, by go_num, ⟨enc_step w w1.heap.size _ _ 1 n1 wr w3 w4 HX.out rfl HB3.out HBU4.out HB4.out⟩⟩
          case measure => simp [intOf]
        · have ix : ∀ W : World, (Instr.index 169 (.agg #[.int .i64 a0_0, .int .i64 a0_1, .int .i64 a0_2, .int .i64 a0_3, .int .i64 a0_4]) (.int .i64 2)).run Try.prog W = .ok (.int .i64 a0_2) W := fun _ => by kernel_rfl
          have HN := Aside0.mk (codec_Number.calls a0_2 n2 wr E2.out)
          have HW2 := Aside0.mk (fun (W : World) (hb : Below wr.heap.size wr W) => strings_Builder_WriteString.calls w1.heap.size w1.heap.size _ n2 W (.inr (builder_below HX.out.1 hb)) (by rw [enc_len]; have := HS.out; simp; omega) (Nat.le_trans HG.out hb.size))
          go_wp2_with (first | (go_at_call 152; (with_reducible refine HN.out.mono ?_); rintro e w3 ⟨rfl, hb3⟩; have HB3 := Aside0.mk hb3; clear hb3) | (go_at_call 151; (with_reducible refine (HW2.out _ HB3.out).mono ?_); rintro e w4 ⟨rfl, hbu, hb4⟩; have HBU4 := Aside0.mk hbu; have HB4 := Aside0.mk hb4; clear hbu hb4))
          go_wp2_with (fail)
          go_roundw
          case rel => exact ⟨3, by omega, by go_num, ⟨enc_step w w1.heap.size _ _ 2 n2 wr w3 w4 HX.out rfl HB3.out HBU4.out HB4.out⟩⟩
          case measure => simp [intOf]
        · have ix : ∀ W : World, (Instr.index 169 (.agg #[.int .i64 a0_0, .int .i64 a0_1, .int .i64 a0_2, .int .i64 a0_3, .int .i64 a0_4]) (.int .i64 3)).run Try.prog W = .ok (.int .i64 a0_3) W := fun _ => by kernel_rfl
          have HN := Aside0.mk (codec_Number.calls a0_3 n3 wr E3.out)
          have HW2 := Aside0.mk (fun (W : World) (hb : Below wr.heap.size wr W) => strings_Builder_WriteString.calls w1.heap.size w1.heap.size _ n3 W (.inr (builder_below HX.out.1 hb)) (by rw [enc_len]; have := HS.out; simp; omega) (Nat.le_trans HG.out hb.size))
          go_wp2_with (first | (go_at_call 152; (with_reducible refine HN.out.mono ?_); rintro e w3 ⟨rfl, hb3⟩; have HB3 := Aside0.mk hb3; clear hb3) | (go_at_call 151; (with_reducible refine (HW2.out _ HB3.out).mono ?_); rintro e w4 ⟨rfl, hbu, hb4⟩; have HBU4 := Aside0.mk hbu; have HB4 := Aside0.mk hb4; clear hbu hb4))
          go_wp2_with (fail)
          go_roundw
          case rel => exact ⟨4, by omega, by go_num, ⟨enc_step w w1.heap.size _ _ 3 n3 wr w3 w4 HX.out rfl HB3.out HBU4.out HB4.out⟩⟩
          case measure => simp [intOf]
        · have ix : ∀ W : World, (Instr.index 169 (.agg #[.int .i64 a0_0, .int .i64 a0_1, .int .i64 a0_2, .int .i64 a0_3, .int .i64 a0_4]) (.int .i64 4)).run Try.prog W = .ok (.int .i64 a0_4) W := fun _ => by kernel_rfl
          have HN := Aside0.mk (codec_Number.calls a0_4 n4 wr E4.out)
          have HW2 := Aside0.mk (fun (W : World) (hb : Below wr.heap.size wr W) => strings_Builder_WriteString.calls w1.heap.size w1.heap.size _ n4 W (.inr (builder_below HX.out.1 hb)) (by rw [enc_len]; have := HS.out; simp; omega) (Nat.le_trans HG.out hb.size))
          go_wp2_with (first | (go_at_call 152; (with_reducible refine HN.out.mono ?_); rintro e w3 ⟨rfl, hb3⟩; have HB3 := Aside0.mk hb3; clear hb3) | (go_at_call 151; (with_reducible refine (HW2.out _ HB3.out).mono ?_); rintro e w4 ⟨rfl, hbu, hb4⟩; have HBU4 := Aside0.mk hbu; have HB4 := Aside0.mk hb4; clear hbu hb4))
          go_wp2_with (fail)
          go_roundw
          case rel => exact ⟨5, by omega, by go_num, ⟨enc_step w w1.heap.size _ _ 4 n4 wr w3 w4 HX.out rfl HB3.out HBU4.out HB4.out⟩⟩
          case measure => simp [intOf]
        · have HT := Aside0.mk (codec_Text.calls a0_5 t wr E5.out)
          have hx5 : wr.cell? ⟨w.heap.size, 5, none⟩ = some (.string a0_5) := (blk_cell HX.out.2.1 5).trans rfl
          have HW2 := Aside0.mk (fun (W : World) (hb : Below wr.heap.size wr W) => strings_Builder_WriteString.calls w1.heap.size w1.heap.size _ t W (.inr (builder_below HX.out.1 hb)) (by rw [enc_len]; have := HS.out; simp; omega) (Nat.le_trans HG.out hb.size))
          go_wp2_with (first | (go_at_call 153; (with_reducible refine HT.out.mono ?_); rintro e w3 ⟨rfl, hb3⟩; have HB3 := Aside0.mk hb3; clear hb3) | (go_at_call 151; (with_reducible refine (HW2.out _ HB3.out).mono ?_); rintro e w4 ⟨rfl, hbu, hb4⟩; have HE := Aside0.mk (show EncRel w w1.heap.size (encBox a0_0 a0_1 a0_2 a0_3 a0_4 a0_5) [n0, n1, n2, n3, n4, t] 6 w4 from enc_step w w1.heap.size _ _ 5 t wr w3 w4 HX.out rfl HB3.out hbu hb4); clear hbu hb4) | (go_at_call 154; (refine (strings_Builder_String.calls w1.heap.size w1.heap.size (encP [n0, n1, n2, n3, n4, t] 6) _ (.inr HE.out.1) (Nat.le_of_lt HE.out.1.lt)).mono ?_); rintro e w5 ⟨rfl, hb5⟩; have HB5 := Aside0.mk (below_step_lo HE.out.2.2.1 hb5 (Nat.le_of_lt HE.out.2.2.2)); clear hb5))
          go_ret2
          have HH := HH.out
          simp only [Prod.mk.injEq] at HH
          obtain ⟨rfl, rfl⟩ := HH
          exact ⟨rfl, HB5.out⟩
    · rw [if_neg hs] at h; cases h


/-! ### fnv_Text: function 146, by hand -/
-- HAND rounds=0 making=1
-- IMPORT Derived.Test.YtehncbhmdgdkjaaGoto
-- IMPORT Derived.Laws.BitsAllLaws
def hexC (d : Nat) : Int := if d < 10 then (d : Int) + 48 else (d : Int) + 87
/-- The block of sixteen: from place i on the digits of h are laid. -/
def hexN (h : Nat) (i : Nat) : List Int := (List.range 16).map fun j => if j < i then 0 else hexC (h / 16 ^ (15 - j) % 16)
def hexCells (h : Nat) (i : Nat) : Array Value := ((hexN h i).map fun n => Value.int .u8 n).toArray
def hexL (h : Nat) : List Int := (List.range 16).map fun j => hexC (h / 16 ^ (15 - j) % 16)
theorem hexN_zero (h : Nat) : hexN h 0 = hexL h := by simp [hexN, hexL]
theorem hexN_cell (h i j : Nat) (hj : j < 16) : (hexCells h i)[j]? = some (Value.int .u8 ((hexN h i).getD j 0)) := by
  simp [hexCells, hexN, hj]
theorem hexN_low (h i j : Nat) (hj : j < i) (hi : j < 16) : (hexN h i).getD j 0 = 0 := by
  simp [hexN, hj, hi]
theorem hexN_all (h : Nat) : hexN h 16 = List.replicate 16 0 := by
  apply List.ext_getElem
  · simp [hexN]
  · intro j h1 h2
    have hj : j < 16 := by simpa [hexN] using h1
    rw [List.getElem_replicate]
    simp [hexN, hj]
theorem hexCells_all (h : Nat) : hexCells h 16 = ((List.replicate 16 0).map fun n => Value.int .u8 n).toArray := by
  unfold hexCells; rw [hexN_all]
theorem hexN_step (h i : Nat) (hi0 : 0 < i) (hi : i ≤ 16) : (hexCells h i).setIfInBounds (i - 1) (Value.int .u8 (hexC (h / 16 ^ (16 - i) % 16))) = hexCells h (i - 1) := by
  apply Array.ext_getElem?
  intro j
  rw [Array.getElem?_setIfInBounds]
  have hs : (hexCells h i).size = 16 := by simp [hexCells, hexN]
  by_cases hj : j < 16
  · rw [hexN_cell h i j hj, hexN_cell h (i - 1) j hj]
    by_cases e : i - 1 = j
    · subst e
      rw [if_pos rfl, if_pos (by omega)]
      have e2 : 15 - (i - 1) = 16 - i := by omega
      simp [hexN, hj, e2]
    · rw [if_neg e]
      by_cases hlt : j < i - 1
      · rw [hexN_low _ _ _ hlt hj, hexN_low _ _ _ (by omega) hj]
      · have a1 : ¬ j < i := by omega
        simp [hexN, hj, a1, hlt]
  · have h1 : (hexCells h i)[j]? = none := Array.getElem?_eq_none (by omega)
    have h2 : (hexCells h (i - 1))[j]? = none := Array.getElem?_eq_none (by simp [hexCells, hexN]; omega)
    rw [h1, h2]
    by_cases e : i - 1 = j
    · rw [if_pos e, if_neg (by omega)]
    · rw [if_neg e]
theorem hex_digit (d : Nat) (hd : d < 16) (h : d < ({ data := #[48, 49, 50, 51, 52, 53, 54, 55, 56, 57, 97, 98, 99, 100, 101, 102] } : ByteArray).size) : ((({ data := #[48, 49, 50, 51, 52, 53, 54, 55, 56, 57, 97, 98, 99, 100, 101, 102] } : ByteArray)[d]'h).toNat : Int) = hexC d := by
  revert h
  match d, hd with
  | 0, _ => intro h; rfl
  | 1, _ => intro h; rfl
  | 2, _ => intro h; rfl
  | 3, _ => intro h; rfl
  | 4, _ => intro h; rfl
  | 5, _ => intro h; rfl
  | 6, _ => intro h; rfl
  | 7, _ => intro h; rfl
  | 8, _ => intro h; rfl
  | 9, _ => intro h; rfl
  | 10, _ => intro h; rfl
  | 11, _ => intro h; rfl
  | 12, _ => intro h; rfl
  | 13, _ => intro h; rfl
  | 14, _ => intro h; rfl
  | 15, _ => intro h; rfl
  | n + 16, hd => exact absurd hd (by omega)
theorem and15 (y : Nat) (hy : y < 18446744073709551616) : Go.bits .and .u64 (y : Int) 15 = ((y % 16 : Nat) : Int) := by
  rw [show (15 : Int) = ((15 : Nat) : Int) from rfl, u64_and_nat y 15 hy (by omega)]
  have := Nat.and_two_pow_sub_one_eq_mod y 4
  exact congrArg _ this
def fnv_Text.f (a0 : Int) : Option ByteArray := if 0 ≤ a0 then (if a0 < 18446744073709551616 then some (strOfNums (hexL a0.toNat)) else none) else none
def FnvTextJ (h : Nat) (w w' : World) (a : Act) : Prop := ∃ i : Nat, ∃ y : Nat, 0 < i ∧ i ≤ 16 ∧ y = h / 16 ^ (16 - i) ∧ w'.heap[w.heap.size]? = some (.cells (hexCells h i) 173 (0, 0)) ∧ Below w.heap.size w w' ∧ ∃ u1 u2 u5 u6 u7 u8 u9 u10 u11 u12 u13 u14 u15 u16 u17 : Value, a = { tmps := #[.int .u64 (y : Int), u1, u2, .pointer (some ⟨w.heap.size, 0, none⟩), .int .i64 (i : Int), u5, u6, u7, u8, u9, u10, u11, u12, u13, u14, u15, u16, u17], defers := [] }
set_option maxHeartbeats 1000000 in
set_option maxRecDepth 100000 in
theorem fnv_Text.calls (a0 : Int) (r : ByteArray) (w : World) (h : fnv_Text.f a0 = some r) :
    Calls Try.prog 146 #[.int .u64 a0] w fun e w' => e = .returned (.string r) ∧ Below w.heap.size w w' := by
  unfold fnv_Text.f at h
  by_cases h0 : 0 ≤ a0
  · rw [if_pos h0] at h
    by_cases h1 : a0 < 18446744073709551616
    · rw [if_pos h1] at h
      obtain ⟨x, rfl⟩ := Int.eq_ofNat_of_zero_le h0
      have HR := Aside0.mk (Option.some.inj h)
      have H1 := Aside0.mk h1
      clear h h0 h1
      rw [Int.toNat_natCast] at HR
      go_enter Try.func146, Try.ntmps146
      go_wp2
      refine Goto.scope_label 0 (fun a' w' => FnvTextJ x w w' a') (fun a' _ => (intOf (a'.tmps.getD 4 undef)).toNat) rfl ?_ ?_
      · rintro a' w' ⟨i, y, hi0, hi, hy, hb, hB, u1, u2, u5, u6, u7, u8, u9, u10, u11, u12, u13, u14, u15, u16, u17, rfl⟩
        have hyx : y < 18446744073709551616 := by
          rw [hy]; exact Nat.lt_of_le_of_lt (Nat.div_le_self _ _) (by have := H1.out; omega)
        have hand := and15 y hyx
        have HY := Aside0.mk hy
        clear hy hyx
        have hc : w'.cell? ⟨w.heap.size, i - 1, none⟩ = some (.int .u8 0) := by
          rw [blk_cell hb (i - 1), hexN_cell x i (i - 1) (by omega), hexN_low x i (i - 1) (by omega) (by omega)]
        have hf : w'.frozen? ⟨w.heap.size, i - 1, none⟩ = false := blk_frozen hb (i - 1)
        have HB := Aside0.mk hb
        have HBel := Aside0.mk hB
        clear hb hB
        have hstep : (w'.setCell ⟨w.heap.size, i - 1, none⟩ (.int .u8 (hexC (y % 16)))).heap[w.heap.size]? = some (.cells (hexCells x (i - 1)) 173 (0, 0)) := by
          rw [← hexN_step x i hi0 hi, ← HY.out]
          exact blk_set HB.out (i - 1) _
        have hbel : Below w.heap.size w (w'.setCell ⟨w.heap.size, i - 1, none⟩ (.int .u8 (hexC (y % 16)))) := HBel.out.setCell (Nat.le_refl _) _
        have HS := Aside0.mk hstep
        have HL := Aside0.mk hbel
        clear hstep hbel
        go_wp2
        · go_step3
          have h1 : 1 < (i : Int) := by assumption
          rw [hex_digit _ (Nat.mod_lt _ (by omega))]
          rw [show (i : Int) - 1 = ((i - 1 : Nat) : Int) by omega, show (y : Int) / 16 = ((y / 16 : Nat) : Int) by omega]
          refine ⟨rfl, ⟨i - 1, y / 16, by omega, by omega, ?_, HS.out, HL.out, _, _, _, _, _, _, _, _, _, _, _, _, _, _, _, rfl⟩, by simp [intOf]; omega⟩
          rw [HY.out, Nat.div_div_eq_div_mul, ← Nat.pow_succ, show (16 - i).succ = 16 - (i - 1) by omega]
        · have h1 : (i : Int) ≤ 1 := by assumption
          rw [hex_digit _ (Nat.mod_lt _ (by omega))]
          have hr : ReadsInt (w'.setCell ⟨w.heap.size, i - 1, none⟩ (.int .u8 (hexC (y % 16)))) .u8 (some ⟨w.heap.size, 0, none⟩) 16 (hexL x) := by
            refine ⟨by simp [hexL], by omega, fun _ => ⟨_, rfl, fun j hj => ?_⟩⟩
            have e0 : (⟨w.heap.size, 0, none⟩ : Addr).add j = ⟨w.heap.size, j, none⟩ := by unfold Addr.add; split <;> simp_all
            have e1 : i - 1 = 0 := by omega
            rw [e0, blk_cell HS.out j, e1, hexN_cell x 0 j hj, hexN_zero]
          have hcv := string_of_reads (P := Try.prog) (c := 16) Try.underlying162 Try.underlying5 Try.underlying9 hr
          have HV := Aside0.mk hr
          clear hr
          rw [hcv]
          go_simp
          go_wp2
          try simp only [Exit.jump]
          go_ret
          exact ⟨by rw [← HR.out]; rfl, HL.out⟩
      · intro L hL hLr
        have HL := Aside0.mk hL
        have HLr := Aside0.mk hLr
        clear hL hLr
        go_wp2
        go_step3
        rename_i K hK
        refine hK _ _ (HLr.out _ _ (HL.out _ _ ⟨16, x, by omega, by omega, by simp, ?_, ?_, _, _, _, _, _, _, _, _, _, _, _, _, _, _, _, rfl⟩))
        · exact (heap_alloc_new w _).trans (by rw [hexCells_all]; rfl)
        · exact below_alloc (Below.refl _ _) _
    · rw [if_neg h1] at h; cases h
  · rw [if_neg h0] at h; cases h


end Go.Proofs.Ytehncbhmdgdkjaa.L
