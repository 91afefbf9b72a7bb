/- Written by this session's own program over the kit's print: functions of Go told as plain functions, or the row of one statement; proved for every input, with no condition of ours. -/
import Derived.Test.YtihlogdmdmhefaaLx0
import Derived.Test.YtihlogdmdmhefaaLx8
import Derived.Test.YtihlogdmdmhefaaLx15
import Derived.Test.YtihlogdmdmhefaaLx16
import Derived.Test.YtihlogdmdmhefaaLx17
namespace Go.Proofs.Ytihlogdmdmhefaa.L
open Go.RowKit Go.Proofs.YtihlogdmdmhefaaW.PrintWords Go.Proofs.YtihlogdmdmhefaaW.PrintLast Go.Proofs.YtihlogdmdmhefaaW.PrintMore
attribute [local go_sem] max2_int min2_int max_two min_two max_three min_three max_four min_four   -- for this text's walks alone
set_option linter.unusedVariables false
set_option linter.unusedSimpArgs false

/-! ### hopperref04_Decode: function 37, by hand -/
-- HAND rounds=0 making=1
/-- The document's own taking of a number, with rounds enough. -/
def rTN (s : ByteArray) : Option (Int × ByteArray × Bool) := hopperref03_TakeNumber.f 40 s 1099511627776
def rS (s : ByteArray) : Nat → ByteArray
  | 0 => s
  | i + 1 => ((rTN (rS s i)).getD (0, ⟨#[]⟩, false)).2.1
def rN (s : ByteArray) (i : Nat) : Int := ((rTN (rS s i)).getD (0, ⟨#[]⟩, false)).1
def rIs (s : ByteArray) (i : Nat) : Bool := ((rTN (rS s i)).getD (0, ⟨#[]⟩, false)).2.2
theorem rTN_eq (s : ByteArray) (i : Nat) (h : (rTN (rS s i)).isSome = true) : hopperref03_TakeNumber.f 40 (rS s i) 1099511627776 = some (rN s i, rS s (i + 1), rIs s i) := by
  show rTN (rS s i) = _
  unfold rN rIs
  rw [rS]
  cases hx : rTN (rS s i) with
  | none => rw [hx] at h; cases h
  | some x => rfl
def rCells (s : ByteArray) (i : Nat) : Array Value :=
  #[.int .i64 (if 0 < i then rN s 0 else 0), .int .i64 (if 1 < i then rN s 1 else 0), .int .i64 (if 2 < i then rN s 2 else 0), .int .i64 (if 3 < i then rN s 3 else 0), .int .i64 (if 4 < i then rN s 4 else 0)]
/-- What the document says of so many bytes behind the first one. -/
def rdecF (a0 s : ByteArray) : Option (Int × Int × Int × Int × Int × ByteArray × Bool) :=
  if (rTN (rS s 0)).isSome = true ∧ (rTN (rS s 1)).isSome = true ∧ (rTN (rS s 2)).isSome = true ∧ (rTN (rS s 3)).isSome = true ∧ (rTN (rS s 4)).isSome = true then (if rIs s 0 = true ∧ rIs s 1 = true ∧ rIs s 2 = true ∧ rIs s 3 = true ∧ rIs s 4 = true then
    ((hopperref03_TakeText.f (rS s 5) 256).bind fun d => (hopperref04_Encode.f 40 (rN s 0) (rN s 1) (rN s 2) (rN s 3) (rN s 4) d.1).bind fun e => if e.2 = true then (if e.1 = a0 then some (rN s 0, rN s 1, rN s 2, rN s 3, rN s 4, d.1, true) else some (0, 0, 0, 0, 0, ⟨#[]⟩, false)) else some (0, 0, 0, 0, 0, ⟨#[]⟩, false))
  else some (0, 0, 0, 0, 0, ⟨#[]⟩, false)) else none
def hopperref04_Decode.f (a0 : ByteArray) : Option (Int × Int × Int × Int × Int × ByteArray × Bool) :=
  if a0.size = 0 then some (0, 0, 0, 0, 0, ⟨#[]⟩, false) else if a0.size ≤ 9223372036854775806 then rdecF a0 (a0.extract 1 a0.size) else none
def RDec (w : World) (s : ByteArray) (i : Nat) (wr : World) : Prop :=
  wr.heap[w.heap.size]? = some (.cells #[.int .i64 0, .int .i64 0, .int .i64 0, .int .i64 0, .int .i64 0, .string ⟨#[]⟩] 23 (0, 0)) ∧ wr.heap[w.heap.size + 1]? = some (.cells (rCells s i) 102 (0, 0)) ∧ Below w.heap.size w wr ∧ ∀ j, j < i → rIs s j = true
theorem rdec_step (w : World) (s : ByteArray) (i : Nat) (wr w3 : World) (h : RDec w s i wr) (hI : rIs s i = true) (h3 : Below wr.heap.size wr w3) (hc : (rCells s i).setIfInBounds i (.int .i64 (rN s i)) = rCells s (i + 1)) :
    RDec w s (i + 1) (w3.setCell ⟨w.heap.size + 1, i, none⟩ (.int .i64 (rN s i))) := by
  obtain ⟨e1, e2, e3, e5⟩ := h
  have k1 := (h3.block _ (heap_lt e1)).trans e1
  have k2 := (h3.block _ (heap_lt e2)).trans e2
  refine ⟨?_, by rw [← hc]; exact blk_set k2 i _, (below_step e3 h3).setCell (p := ⟨w.heap.size + 1, i, none⟩) (Nat.le_succ _) _, fun j hj => ?_⟩
  · exact blk_far k1 (by simp) _
  · rcases Nat.lt_or_ge j i with h | h
    · exact e5 j h
    · rw [show j = i by omega]; exact hI
set_option maxHeartbeats 4000000 in
set_option maxRecDepth 100000 in
theorem hopperref04_Decode.calls (a0 : ByteArray) (r1 r2 r3 r4 r5 : Int) (r6 : ByteArray) (r7 : Bool) (w : World) (h : hopperref04_Decode.f a0 = some (r1, r2, r3, r4, r5, r6, r7)) :
    Calls Try.prog 37 #[.string a0] w fun e w' => e = .returned (.tuple #[.agg #[.int .i64 r1, .int .i64 r2, .int .i64 r3, .int .i64 r4, .int .i64 r5, .string r6], .bool r7]) ∧ Below w.heap.size w w' := by
  have hu := Try.underlying23
  have hu2 := Try.underlying102
  unfold hopperref04_Decode.f at h
  have B0 := Aside0.mk (show ((w.alloc (.cells #[.int .i64 0, .int .i64 0, .int .i64 0, .int .i64 0, .int .i64 0, .string ⟨#[]⟩] 23)).alloc (.cells #[.int .i64 0, .int .i64 0, .int .i64 0, .int .i64 0, .int .i64 0] 102)).heap[w.heap.size]? = some (.cells #[.int .i64 0, .int .i64 0, .int .i64 0, .int .i64 0, .int .i64 0, .string ⟨#[]⟩] 23 (0, 0)) from (heap_alloc_old (w.alloc (.cells #[.int .i64 0, .int .i64 0, .int .i64 0, .int .i64 0, .int .i64 0, .string ⟨#[]⟩] 23)) _ (by simp)).trans (heap_alloc_new w _))
  have HB0 := Aside0.mk (show Below w.heap.size w ((w.alloc (.cells #[.int .i64 0, .int .i64 0, .int .i64 0, .int .i64 0, .int .i64 0, .string ⟨#[]⟩] 23)).alloc (.cells #[.int .i64 0, .int .i64 0, .int .i64 0, .int .i64 0, .int .i64 0] 102)) from below_alloc (below_alloc (Below.refl _ _) _) _)
  by_cases h0 : a0.size = 0
  · rw [if_pos h0] at h
    obtain rfl : a0 = ⟨#[]⟩ := ByteArray.ext (Array.eq_empty_of_size_eq_zero h0)
    have HH := Aside0.mk (Option.some.inj h)
    clear h h0
    go_enter Try.func37, Try.ntmps37
    go_wp2_with (fail)
    refine bodyPost_ret (results_ct rfl _ _ w.heap.size 23 #[.int .i64 0, .int .i64 0, .int .i64 0, .int .i64 0, .int .i64 0, .string ⟨#[]⟩] (0, 0) _ rfl B0.out Try.underlying23 rfl (by kernel_rfl)) rfl ?_
    have HZ := HH.out
    simp only [Prod.mk.injEq] at HZ
    obtain ⟨rfl, rfl, rfl, rfl, rfl, rfl, rfl⟩ := HZ
    exact ⟨rfl, HB0.out⟩
  · rw [if_neg h0] at h
    by_cases hz : a0.size ≤ 9223372036854775806
    · rw [if_pos hz] at h
      have hpos : 1 ≤ a0.size := by omega
      have hne : ¬ a0.toList = [] := fun hl => h0 (by
        have z : a0.data.toList = [] := (ByteArray.toList_eq a0).symm.trans hl
        have z2 : a0.data.size = 0 := by rw [← Array.length_toList, z]; rfl
        exact z2)
      have hn1 : a0.toList.isEmpty = false := by rw [List.isEmpty_eq_false_iff]; exact hne
      have HSL := Aside0.mk (show ∃ s, s = a0.extract 1 a0.size from ⟨_, rfl⟩)
      have HH := Aside0.mk h
      clear h h0
      go_enter Try.func37, Try.ntmps37
      go_wp2_with (fail)
      obtain ⟨s, hs⟩ := HSL.out
      rw [← hs]
      have HH2 := HH.out
      rw [← hs] at HH2
      have HD := Aside0.mk HH2
      clear HH HH2 HSL hs hne hn1
      have HQ := Aside0.mk (show (rTN (rS s 0)).isSome = true ∧ (rTN (rS s 1)).isSome = true ∧ (rTN (rS s 2)).isSome = true ∧ (rTN (rS s 3)).isSome = true ∧ (rTN (rS s 4)).isSome = true from by have z := HD.out; unfold rdecF at z; by_cases c : (rTN (rS s 0)).isSome = true ∧ (rTN (rS s 1)).isSome = true ∧ (rTN (rS s 2)).isSome = true ∧ (rTN (rS s 3)).isSome = true ∧ (rTN (rS s 4)).isSome = true; exact c; (rw [if_neg c] at z; cases z))
      go_loopw [5, 6] (fun v5 v6 wr => ∃ i : Nat, i ≤ 5 ∧ v6 = .int .i64 (i : Int) ∧ v5 = .string (rS s i) ∧ Aside0 (RDec w s i wr)) (fun _ v6 _ => 5 - (intOf v6).toNat)
      case atStart =>
        exact ⟨0, by omega, rfl, rfl, ⟨⟨B0.out, by have z := heap_alloc_new (w.alloc (.cells #[.int .i64 0, .int .i64 0, .int .i64 0, .int .i64 0, .int .i64 0, .string ⟨#[]⟩] 23)) (.cells #[.int .i64 0, .int .i64 0, .int .i64 0, .int .i64 0, .int .i64 0] 102); simp only [World.alloc, Array.size_push] at z ⊢; exact z, HB0.out, fun j hj => by omega⟩⟩⟩
      case round =>
        obtain ⟨i, hi, rfl, rfl, HX⟩ := hrel
        rcases (show i = 0 ∨ i = 1 ∨ i = 2 ∨ i = 3 ∨ i = 4 ∨ i = 5 by omega) with rfl | rfl | rfl | rfl | rfl | rfl
        · have ht := hopperref03_TakeNumber.calls 40 (rS s 0) 1099511627776 _ _ _ wr (rTN_eq s 0 HQ.out.1)
          have ix : ∀ W : World, (Instr.indexAt 102 (.pointer (some ⟨w.heap.size + 1, 0, none⟩)) (.int .i64 0)).run Try.prog W = .ok (.pointer (some ⟨w.heap.size + 1, 0, none⟩)) W := fun _ => by kernel_rfl
          cases hI : rIs s 0 with
          | true =>
            rw [hI] at ht
            have HT2 := Aside0.mk ht
            have HI := Aside0.mk hI
            clear ht hI
            go_wp2_with (first | (go_at_call 112; (with_reducible refine HT2.out.mono ?_); rintro e w3 ⟨rfl, hb3⟩; have BT := Aside0.mk ((hb3.block (w.heap.size + 1) (heap_lt HX.out.2.1)).trans HX.out.2.1); have hc3 : w3.cell? ⟨w.heap.size + 1, 0, none⟩ = some (.int .i64 0) := (blk_cell BT.out 0).trans rfl; have hf3 : w3.frozen? ⟨w.heap.size + 1, 0, none⟩ = false := blk_frozen BT.out 0; have HB3 := Aside0.mk hb3; clear hb3))
            go_roundw
            case rel => exact ⟨1, by omega, by go_num, rfl, ⟨rdec_step w s 0 wr w3 HX.out HI.out HB3.out rfl⟩⟩
            case measure => simp [intOf]
          | false =>
            rw [hI] at ht
            have HT2 := Aside0.mk ht
            have HI := Aside0.mk hI
            clear ht hI
            go_upto_if 32 with (first | (go_at_call 112; (with_reducible refine HT2.out.mono ?_); rintro e w3 ⟨rfl, hb3⟩; have BT := Aside0.mk ((hb3.block (w.heap.size + 1) (heap_lt HX.out.2.1)).trans HX.out.2.1); have hc3 : w3.cell? ⟨w.heap.size + 1, 0, none⟩ = some (.int .i64 0) := (blk_cell BT.out 0).trans rfl; have hf3 : w3.frozen? ⟨w.heap.size + 1, 0, none⟩ = false := blk_frozen BT.out 0; have HB3 := Aside0.mk hb3; clear hb3))
            have B3 := (HB3.out.block w.heap.size (heap_lt HX.out.1)).trans HX.out.1
            have hr0 : w3.cell? ⟨w.heap.size, 0, none⟩ = some (.int .i64 0) := (blk_cell B3 0).trans rfl
            have hr1 : w3.cell? ⟨w.heap.size, 1, none⟩ = some (.int .i64 0) := (blk_cell B3 1).trans rfl
            have hr2 : w3.cell? ⟨w.heap.size, 2, none⟩ = some (.int .i64 0) := (blk_cell B3 2).trans rfl
            have hr3 : w3.cell? ⟨w.heap.size, 3, none⟩ = some (.int .i64 0) := (blk_cell B3 3).trans rfl
            have hr4 : w3.cell? ⟨w.heap.size, 4, none⟩ = some (.int .i64 0) := (blk_cell B3 4).trans rfl
            have hr5 : w3.cell? ⟨w.heap.size, 5, none⟩ = some (.string ⟨#[]⟩) := (blk_cell B3 5).trans rfl
            have hg0 : w3.frozen? ⟨w.heap.size, 0, none⟩ = false := blk_frozen B3 0
            have hg1 : w3.frozen? ⟨w.heap.size, 1, none⟩ = false := blk_frozen B3 1
            have hg2 : w3.frozen? ⟨w.heap.size, 2, none⟩ = false := blk_frozen B3 2
            have hg3 : w3.frozen? ⟨w.heap.size, 3, none⟩ = false := blk_frozen B3 3
            have hg4 : w3.frozen? ⟨w.heap.size, 4, none⟩ = false := blk_frozen B3 4
            have hg5 : w3.frozen? ⟨w.heap.size, 5, none⟩ = false := blk_frozen B3 5
            have BR3 := Aside0.mk B3
            have HBB := Aside0.mk (below_step HX.out.2.2.1 HB3.out)
            clear B3 hc3 hf3 ix
            go_wp2_with (fail)
            refine bodyPost_ret (results_ct rfl _ _ w.heap.size 23 #[.int .i64 0, .int .i64 0, .int .i64 0, .int .i64 0, .int .i64 0, .string ⟨#[]⟩] (0, 0) _ rfl (by refine blk_put (cs := #[.int .i64 0, .int .i64 0, .int .i64 0, .int .i64 0, .int .i64 0, .string ⟨#[]⟩]) ?_ 5 _ rfl; refine blk_put (cs := #[.int .i64 0, .int .i64 0, .int .i64 0, .int .i64 0, .int .i64 0, .string ⟨#[]⟩]) ?_ 4 _ rfl; refine blk_put (cs := #[.int .i64 0, .int .i64 0, .int .i64 0, .int .i64 0, .int .i64 0, .string ⟨#[]⟩]) ?_ 3 _ rfl; refine blk_put (cs := #[.int .i64 0, .int .i64 0, .int .i64 0, .int .i64 0, .int .i64 0, .string ⟨#[]⟩]) ?_ 2 _ rfl; refine blk_put (cs := #[.int .i64 0, .int .i64 0, .int .i64 0, .int .i64 0, .int .i64 0, .string ⟨#[]⟩]) ?_ 1 _ rfl; refine blk_put (cs := #[.int .i64 0, .int .i64 0, .int .i64 0, .int .i64 0, .int .i64 0, .string ⟨#[]⟩]) ?_ 0 _ rfl; exact BR3.out) Try.underlying23 rfl (by kernel_rfl)) rfl ?_
            have HZ := HD.out
            unfold rdecF at HZ
            rw [if_pos HQ.out, if_neg (by intro hz; have := hz.1; rw [HI.out] at this; exact Bool.false_ne_true this)] at HZ
            have HZ := Option.some.inj HZ
            simp only [Prod.mk.injEq] at HZ
            obtain ⟨rfl, rfl, rfl, rfl, rfl, rfl, rfl⟩ := HZ
            exact ⟨rfl, (((((HBB.out.setCell (Nat.le_refl _) _).setCell (Nat.le_refl _) _).setCell (Nat.le_refl _) _).setCell (Nat.le_refl _) _).setCell (Nat.le_refl _) _).setCell (Nat.le_refl _) _⟩
        · have ht := hopperref03_TakeNumber.calls 40 (rS s 1) 1099511627776 _ _ _ wr (rTN_eq s 1 HQ.out.2.1)
          have ix : ∀ W : World, (Instr.indexAt 102 (.pointer (some ⟨w.heap.size + 1, 0, none⟩)) (.int .i64 1)).run Try.prog W = .ok (.pointer (some ⟨w.heap.size + 1, 1, none⟩)) W := fun _ => by kernel_rfl
          cases hI : rIs s 1 with
          | true =>
            rw [hI] at ht
            have HT2 := Aside0.mk ht
            have HI := Aside0.mk hI
            clear ht hI
            go_wp2_with (first | (go_at_call 112; (with_reducible refine HT2.out.mono ?_); rintro e w3 ⟨rfl, hb3⟩; have BT := Aside0.mk ((hb3.block (w.heap.size + 1) (heap_lt HX.out.2.1)).trans HX.out.2.1); have hc3 : w3.cell? ⟨w.heap.size + 1, 1, none⟩ = some (.int .i64 0) := (blk_cell BT.out 1).trans rfl; have hf3 : w3.frozen? ⟨w.heap.size + 1, 1, none⟩ = false := blk_frozen BT.out 1; have HB3 := Aside0.mk hb3; clear hb3))
            go_roundw
            case rel => exact ⟨2, by omega, by go_num, rfl, ⟨rdec_step w s 1 wr w3 HX.out HI.out HB3.out rfl⟩⟩
            case measure => simp [intOf]
          | false =>
            rw [hI] at ht
            have HT2 := Aside0.mk ht
            have HI := Aside0.mk hI
            clear ht hI
            go_upto_if 32 with (first | (go_at_call 112; (with_reducible refine HT2.out.mono ?_); rintro e w3 ⟨rfl, hb3⟩; have BT := Aside0.mk ((hb3.block (w.heap.size + 1) (heap_lt HX.out.2.1)).trans HX.out.2.1); have hc3 : w3.cell? ⟨w.heap.size + 1, 1, none⟩ = some (.int .i64 0) := (blk_cell BT.out 1).trans rfl; have hf3 : w3.frozen? ⟨w.heap.size + 1, 1, none⟩ = false := blk_frozen BT.out 1; have HB3 := Aside0.mk hb3; clear hb3))
            have B3 := (HB3.out.block w.heap.size (heap_lt HX.out.1)).trans HX.out.1
            have hr0 : w3.cell? ⟨w.heap.size, 0, none⟩ = some (.int .i64 0) := (blk_cell B3 0).trans rfl
            have hr1 : w3.cell? ⟨w.heap.size, 1, none⟩ = some (.int .i64 0) := (blk_cell B3 1).trans rfl
            have hr2 : w3.cell? ⟨w.heap.size, 2, none⟩ = some (.int .i64 0) := (blk_cell B3 2).trans rfl
            have hr3 : w3.cell? ⟨w.heap.size, 3, none⟩ = some (.int .i64 0) := (blk_cell B3 3).trans rfl
            have hr4 : w3.cell? ⟨w.heap.size, 4, none⟩ = some (.int .i64 0) := (blk_cell B3 4).trans rfl
            have hr5 : w3.cell? ⟨w.heap.size, 5, none⟩ = some (.string ⟨#[]⟩) := (blk_cell B3 5).trans rfl
            have hg0 : w3.frozen? ⟨w.heap.size, 0, none⟩ = false := blk_frozen B3 0
            have hg1 : w3.frozen? ⟨w.heap.size, 1, none⟩ = false := blk_frozen B3 1
            have hg2 : w3.frozen? ⟨w.heap.size, 2, none⟩ = false := blk_frozen B3 2
            have hg3 : w3.frozen? ⟨w.heap.size, 3, none⟩ = false := blk_frozen B3 3
            have hg4 : w3.frozen? ⟨w.heap.size, 4, none⟩ = false := blk_frozen B3 4
            have hg5 : w3.frozen? ⟨w.heap.size, 5, none⟩ = false := blk_frozen B3 5
            have BR3 := Aside0.mk B3
            have HBB := Aside0.mk (below_step HX.out.2.2.1 HB3.out)
            clear B3 hc3 hf3 ix
            go_wp2_with (fail)
            refine bodyPost_ret (results_ct rfl _ _ w.heap.size 23 #[.int .i64 0, .int .i64 0, .int .i64 0, .int .i64 0, .int .i64 0, .string ⟨#[]⟩] (0, 0) _ rfl (by refine blk_put (cs := #[.int .i64 0, .int .i64 0, .int .i64 0, .int .i64 0, .int .i64 0, .string ⟨#[]⟩]) ?_ 5 _ rfl; refine blk_put (cs := #[.int .i64 0, .int .i64 0, .int .i64 0, .int .i64 0, .int .i64 0, .string ⟨#[]⟩]) ?_ 4 _ rfl; refine blk_put (cs := #[.int .i64 0, .int .i64 0, .int .i64 0, .int .i64 0, .int .i64 0, .string ⟨#[]⟩]) ?_ 3 _ rfl; refine blk_put (cs := #[.int .i64 0, .int .i64 0, .int .i64 0, .int .i64 0, .int .i64 0, .string ⟨#[]⟩]) ?_ 2 _ rfl; refine blk_put (cs := #[.int .i64 0, .int .i64 0, .int .i64 0, .int .i64 0, .int .i64 0, .string ⟨#[]⟩]) ?_ 1 _ rfl; refine blk_put (cs := #[.int .i64 0, .int .i64 0, .int .i64 0, .int .i64 0, .int .i64 0, .string ⟨#[]⟩]) ?_ 0 _ rfl; exact BR3.out) Try.underlying23 rfl (by kernel_rfl)) rfl ?_
            have HZ := HD.out
            unfold rdecF at HZ
            rw [if_pos HQ.out, if_neg (by intro hz; have := hz.2.1; rw [HI.out] at this; exact Bool.false_ne_true this)] at HZ
            have HZ := Option.some.inj HZ
            simp only [Prod.mk.injEq] at HZ
            obtain ⟨rfl, rfl, rfl, rfl, rfl, rfl, rfl⟩ := HZ
            exact ⟨rfl, (((((HBB.out.setCell (Nat.le_refl _) _).setCell (Nat.le_refl _) _).setCell (Nat.le_refl _) _).setCell (Nat.le_refl _) _).setCell (Nat.le_refl _) _).setCell (Nat.le_refl _) _⟩
        · have ht := hopperref03_TakeNumber.calls 40 (rS s 2) 1099511627776 _ _ _ wr (rTN_eq s 2 HQ.out.2.2.1)
          have ix : ∀ W : World, (Instr.indexAt 102 (.pointer (some ⟨w.heap.size + 1, 0, none⟩)) (.int .i64 2)).run Try.prog W = .ok (.pointer (some ⟨w.heap.size + 1, 2, none⟩)) W := fun _ => by kernel_rfl
          cases hI : rIs s 2 with
          | true =>
            rw [hI] at ht
            have HT2 := Aside0.mk ht
            have HI := Aside0.mk hI
            clear ht hI
            go_wp2_with (first | (go_at_call 112; (with_reducible refine HT2.out.mono ?_); rintro e w3 ⟨rfl, hb3⟩; have BT := Aside0.mk ((hb3.block (w.heap.size + 1) (heap_lt HX.out.2.1)).trans HX.out.2.1); have hc3 : w3.cell? ⟨w.heap.size + 1, 2, none⟩ = some (.int .i64 0) := (blk_cell BT.out 2).trans rfl; have hf3 : w3.frozen? ⟨w.heap.size + 1, 2, none⟩ = false := blk_frozen BT.out 2; have HB3 := Aside0.mk hb3; clear hb3))
            go_roundw
            case rel => exact ⟨3, by omega, by go_num, rfl, ⟨rdec_step w s 2 wr w3 HX.out HI.out HB3.out rfl⟩⟩
            case measure => simp [intOf]
          | false =>
            rw [hI] at ht
            have HT2 := Aside0.mk ht
            have HI := Aside0.mk hI
            clear ht hI
            go_upto_if 32 with (first | (go_at_call 112; (with_reducible refine HT2.out.mono ?_); rintro e w3 ⟨rfl, hb3⟩; have BT := Aside0.mk ((hb3.block (w.heap.size + 1) (heap_lt HX.out.2.1)).trans HX.out.2.1); have hc3 : w3.cell? ⟨w.heap.size + 1, 2, none⟩ = some (.int .i64 0) := (blk_cell BT.out 2).trans rfl; have hf3 : w3.frozen? ⟨w.heap.size + 1, 2, none⟩ = false := blk_frozen BT.out 2; have HB3 := Aside0.mk hb3; clear hb3))
            have B3 := (HB3.out.block w.heap.size (heap_lt HX.out.1)).trans HX.out.1
            have hr0 : w3.cell? ⟨w.heap.size, 0, none⟩ = some (.int .i64 0) := (blk_cell B3 0).trans rfl
            have hr1 : w3.cell? ⟨w.heap.size, 1, none⟩ = some (.int .i64 0) := (blk_cell B3 1).trans rfl
            have hr2 : w3.cell? ⟨w.heap.size, 2, none⟩ = some (.int .i64 0) := (blk_cell B3 2).trans rfl
            have hr3 : w3.cell? ⟨w.heap.size, 3, none⟩ = some (.int .i64 0) := (blk_cell B3 3).trans rfl
            have hr4 : w3.cell? ⟨w.heap.size, 4, none⟩ = some (.int .i64 0) := (blk_cell B3 4).trans rfl
            have hr5 : w3.cell? ⟨w.heap.size, 5, none⟩ = some (.string ⟨#[]⟩) := (blk_cell B3 5).trans rfl
            have hg0 : w3.frozen? ⟨w.heap.size, 0, none⟩ = false := blk_frozen B3 0
            have hg1 : w3.frozen? ⟨w.heap.size, 1, none⟩ = false := blk_frozen B3 1
            have hg2 : w3.frozen? ⟨w.heap.size, 2, none⟩ = false := blk_frozen B3 2
            have hg3 : w3.frozen? ⟨w.heap.size, 3, none⟩ = false := blk_frozen B3 3
            have hg4 : w3.frozen? ⟨w.heap.size, 4, none⟩ = false := blk_frozen B3 4
            have hg5 : w3.frozen? ⟨w.heap.size, 5, none⟩ = false := blk_frozen B3 5
            have BR3 := Aside0.mk B3
            have HBB := Aside0.mk (below_step HX.out.2.2.1 HB3.out)
            clear B3 hc3 hf3 ix
            go_wp2_with (fail)
            refine bodyPost_ret (results_ct rfl _ _ w.heap.size 23 #[.int .i64 0, .int .i64 0, .int .i64 0, .int .i64 0, .int .i64 0, .string ⟨#[]⟩] (0, 0) _ rfl (by refine blk_put (cs := #[.int .i64 0, .int .i64 0, .int .i64 0, .int .i64 0, .int .i64 0, .string ⟨#[]⟩]) ?_ 5 _ rfl; refine blk_put (cs := #[.int .i64 0, .int .i64 0, .int .i64 0, .int .i64 0, .int .i64 0, .string ⟨#[]⟩]) ?_ 4 _ rfl; refine blk_put (cs := #[.int .i64 0, .int .i64 0, .int .i64 0, .int .i64 0, .int .i64 0, .string ⟨#[]⟩]) ?_ 3 _ rfl; refine blk_put (cs := #[.int .i64 0, .int .i64 0, .int .i64 0, .int .i64 0, .int .i64 0, .string ⟨#[]⟩]) ?_ 2 _ rfl; refine blk_put (cs := #[.int .i64 0, .int .i64 0, .int .i64 0, .int .i64 0, .int .i64 0, .string ⟨#[]⟩]) ?_ 1 _ rfl; refine blk_put (cs := #[.int .i64 0, .int .i64 0, .int .i64 0, .int .i64 0, .int .i64 0, .string ⟨#[]⟩]) ?_ 0 _ rfl; exact BR3.out) Try.underlying23 rfl (by kernel_rfl)) rfl ?_
            have HZ := HD.out
            unfold rdecF at HZ
            rw [if_pos HQ.out, if_neg (by intro hz; have := hz.2.2.1; rw [HI.out] at this; exact Bool.false_ne_true this)] at HZ
            have HZ := Option.some.inj HZ
            simp only [Prod.mk.injEq] at HZ
            obtain ⟨rfl, rfl, rfl, rfl, rfl, rfl, rfl⟩ := HZ
            exact ⟨rfl, (((((HBB.out.setCell (Nat.le_refl _) _).setCell (Nat.le_refl _) _).setCell (Nat.le_refl _) _).setCell (Nat.le_refl _) _).setCell (Nat.le_refl _) _).setCell (Nat.le_refl _) _⟩
        · have ht := hopperref03_TakeNumber.calls 40 (rS s 3) 1099511627776 _ _ _ wr (rTN_eq s 3 HQ.out.2.2.2.1)
          have ix : ∀ W : World, (Instr.indexAt 102 (.pointer (some ⟨w.heap.size + 1, 0, none⟩)) (.int .i64 3)).run Try.prog W = .ok (.pointer (some ⟨w.heap.size + 1, 3, none⟩)) W := fun _ => by kernel_rfl
          cases hI : rIs s 3 with
          | true =>
            rw [hI] at ht
            have HT2 := Aside0.mk ht
            have HI := Aside0.mk hI
            clear ht hI
            go_wp2_with (first | (go_at_call 112; (with_reducible refine HT2.out.mono ?_); rintro e w3 ⟨rfl, hb3⟩; have BT := Aside0.mk ((hb3.block (w.heap.size + 1) (heap_lt HX.out.2.1)).trans HX.out.2.1); have hc3 : w3.cell? ⟨w.heap.size + 1, 3, none⟩ = some (.int .i64 0) := (blk_cell BT.out 3).trans rfl; have hf3 : w3.frozen? ⟨w.heap.size + 1, 3, none⟩ = false := blk_frozen BT.out 3; have HB3 := Aside0.mk hb3; clear hb3))
            go_roundw
            case rel => exact ⟨4, by omega, by go_num, rfl, ⟨rdec_step w s 3 wr w3 HX.out HI.out HB3.out rfl⟩⟩
            case measure => simp [intOf]
          | false =>
            rw [hI] at ht
            have HT2 := Aside0.mk ht
            have HI := Aside0.mk hI
            clear ht hI
            go_upto_if 32 with (first | (go_at_call 112; (with_reducible refine HT2.out.mono ?_); rintro e w3 ⟨rfl, hb3⟩; have BT := Aside0.mk ((hb3.block (w.heap.size + 1) (heap_lt HX.out.2.1)).trans HX.out.2.1); have hc3 : w3.cell? ⟨w.heap.size + 1, 3, none⟩ = some (.int .i64 0) := (blk_cell BT.out 3).trans rfl; have hf3 : w3.frozen? ⟨w.heap.size + 1, 3, none⟩ = false := blk_frozen BT.out 3; have HB3 := Aside0.mk hb3; clear hb3))
            have B3 := (HB3.out.block w.heap.size (heap_lt HX.out.1)).trans HX.out.1
            have hr0 : w3.cell? ⟨w.heap.size, 0, none⟩ = some (.int .i64 0) := (blk_cell B3 0).trans rfl
            have hr1 : w3.cell? ⟨w.heap.size, 1, none⟩ = some (.int .i64 0) := (blk_cell B3 1).trans rfl
            have hr2 : w3.cell? ⟨w.heap.size, 2, none⟩ = some (.int .i64 0) := (blk_cell B3 2).trans rfl
            have hr3 : w3.cell? ⟨w.heap.size, 3, none⟩ = some (.int .i64 0) := (blk_cell B3 3).trans rfl
            have hr4 : w3.cell? ⟨w.heap.size, 4, none⟩ = some (.int .i64 0) := (blk_cell B3 4).trans rfl
            have hr5 : w3.cell? ⟨w.heap.size, 5, none⟩ = some (.string ⟨#[]⟩) := (blk_cell B3 5).trans rfl
            have hg0 : w3.frozen? ⟨w.heap.size, 0, none⟩ = false := blk_frozen B3 0
            have hg1 : w3.frozen? ⟨w.heap.size, 1, none⟩ = false := blk_frozen B3 1
            have hg2 : w3.frozen? ⟨w.heap.size, 2, none⟩ = false := blk_frozen B3 2
            have hg3 : w3.frozen? ⟨w.heap.size, 3, none⟩ = false := blk_frozen B3 3
            have hg4 : w3.frozen? ⟨w.heap.size, 4, none⟩ = false := blk_frozen B3 4
            have hg5 : w3.frozen? ⟨w.heap.size, 5, none⟩ = false := blk_frozen B3 5
            have BR3 := Aside0.mk B3
            have HBB := Aside0.mk (below_step HX.out.2.2.1 HB3.out)
            clear B3 hc3 hf3 ix
            go_wp2_with (fail)
            refine bodyPost_ret (results_ct rfl _ _ w.heap.size 23 #[.int .i64 0, .int .i64 0, .int .i64 0, .int .i64 0, .int .i64 0, .string ⟨#[]⟩] (0, 0) _ rfl (by refine blk_put (cs := #[.int .i64 0, .int .i64 0, .int .i64 0, .int .i64 0, .int .i64 0, .string ⟨#[]⟩]) ?_ 5 _ rfl; refine blk_put (cs := #[.int .i64 0, .int .i64 0, .int .i64 0, .int .i64 0, .int .i64 0, .string ⟨#[]⟩]) ?_ 4 _ rfl; refine blk_put (cs := #[.int .i64 0, .int .i64 0, .int .i64 0, .int .i64 0, .int .i64 0, .string ⟨#[]⟩]) ?_ 3 _ rfl; refine blk_put (cs := #[.int .i64 0, .int .i64 0, .int .i64 0, .int .i64 0, .int .i64 0, .string ⟨#[]⟩]) ?_ 2 _ rfl; refine blk_put (cs := #[.int .i64 0, .int .i64 0, .int .i64 0, .int .i64 0, .int .i64 0, .string ⟨#[]⟩]) ?_ 1 _ rfl; refine blk_put (cs := #[.int .i64 0, .int .i64 0, .int .i64 0, .int .i64 0, .int .i64 0, .string ⟨#[]⟩]) ?_ 0 _ rfl; exact BR3.out) Try.underlying23 rfl (by kernel_rfl)) rfl ?_
            have HZ := HD.out
            unfold rdecF at HZ
            rw [if_pos HQ.out, if_neg (by intro hz; have := hz.2.2.2.1; rw [HI.out] at this; exact Bool.false_ne_true this)] at HZ
            have HZ := Option.some.inj HZ
            simp only [Prod.mk.injEq] at HZ
            obtain ⟨rfl, rfl, rfl, rfl, rfl, rfl, rfl⟩ := HZ
            exact ⟨rfl, (((((HBB.out.setCell (Nat.le_refl _) _).setCell (Nat.le_refl _) _).setCell (Nat.le_refl _) _).setCell (Nat.le_refl _) _).setCell (Nat.le_refl _) _).setCell (Nat.le_refl _) _⟩
        · have ht := hopperref03_TakeNumber.calls 40 (rS s 4) 1099511627776 _ _ _ wr (rTN_eq s 4 HQ.out.2.2.2.2)
          have ix : ∀ W : World, (Instr.indexAt 102 (.pointer (some ⟨w.heap.size + 1, 0, none⟩)) (.int .i64 4)).run Try.prog W = .ok (.pointer (some ⟨w.heap.size + 1, 4, none⟩)) W := fun _ => by kernel_rfl
          cases hI : rIs s 4 with
          | true =>
            rw [hI] at ht
            have HT2 := Aside0.mk ht
            have HI := Aside0.mk hI
            clear ht hI
            go_wp2_with (first | (go_at_call 112; (with_reducible refine HT2.out.mono ?_); rintro e w3 ⟨rfl, hb3⟩; have BT := Aside0.mk ((hb3.block (w.heap.size + 1) (heap_lt HX.out.2.1)).trans HX.out.2.1); have hc3 : w3.cell? ⟨w.heap.size + 1, 4, none⟩ = some (.int .i64 0) := (blk_cell BT.out 4).trans rfl; have hf3 : w3.frozen? ⟨w.heap.size + 1, 4, none⟩ = false := blk_frozen BT.out 4; have HB3 := Aside0.mk hb3; clear hb3))
            go_roundw
            case rel => exact ⟨5, by omega, by go_num, rfl, ⟨rdec_step w s 4 wr w3 HX.out HI.out HB3.out rfl⟩⟩
            case measure => simp [intOf]
          | false =>
            rw [hI] at ht
            have HT2 := Aside0.mk ht
            have HI := Aside0.mk hI
            clear ht hI
            go_upto_if 32 with (first | (go_at_call 112; (with_reducible refine HT2.out.mono ?_); rintro e w3 ⟨rfl, hb3⟩; have BT := Aside0.mk ((hb3.block (w.heap.size + 1) (heap_lt HX.out.2.1)).trans HX.out.2.1); have hc3 : w3.cell? ⟨w.heap.size + 1, 4, none⟩ = some (.int .i64 0) := (blk_cell BT.out 4).trans rfl; have hf3 : w3.frozen? ⟨w.heap.size + 1, 4, none⟩ = false := blk_frozen BT.out 4; have HB3 := Aside0.mk hb3; clear hb3))
            have B3 := (HB3.out.block w.heap.size (heap_lt HX.out.1)).trans HX.out.1
            have hr0 : w3.cell? ⟨w.heap.size, 0, none⟩ = some (.int .i64 0) := (blk_cell B3 0).trans rfl
            have hr1 : w3.cell? ⟨w.heap.size, 1, none⟩ = some (.int .i64 0) := (blk_cell B3 1).trans rfl
            have hr2 : w3.cell? ⟨w.heap.size, 2, none⟩ = some (.int .i64 0) := (blk_cell B3 2).trans rfl
            have hr3 : w3.cell? ⟨w.heap.size, 3, none⟩ = some (.int .i64 0) := (blk_cell B3 3).trans rfl
            have hr4 : w3.cell? ⟨w.heap.size, 4, none⟩ = some (.int .i64 0) := (blk_cell B3 4).trans rfl
            have hr5 : w3.cell? ⟨w.heap.size, 5, none⟩ = some (.string ⟨#[]⟩) := (blk_cell B3 5).trans rfl
            have hg0 : w3.frozen? ⟨w.heap.size, 0, none⟩ = false := blk_frozen B3 0
            have hg1 : w3.frozen? ⟨w.heap.size, 1, none⟩ = false := blk_frozen B3 1
            have hg2 : w3.frozen? ⟨w.heap.size, 2, none⟩ = false := blk_frozen B3 2
            have hg3 : w3.frozen? ⟨w.heap.size, 3, none⟩ = false := blk_frozen B3 3
            have hg4 : w3.frozen? ⟨w.heap.size, 4, none⟩ = false := blk_frozen B3 4
            have hg5 : w3.frozen? ⟨w.heap.size, 5, none⟩ = false := blk_frozen B3 5
            have BR3 := Aside0.mk B3
            have HBB := Aside0.mk (below_step HX.out.2.2.1 HB3.out)
            clear B3 hc3 hf3 ix
            go_wp2_with (fail)
            refine bodyPost_ret (results_ct rfl _ _ w.heap.size 23 #[.int .i64 0, .int .i64 0, .int .i64 0, .int .i64 0, .int .i64 0, .string ⟨#[]⟩] (0, 0) _ rfl (by refine blk_put (cs := #[.int .i64 0, .int .i64 0, .int .i64 0, .int .i64 0, .int .i64 0, .string ⟨#[]⟩]) ?_ 5 _ rfl; refine blk_put (cs := #[.int .i64 0, .int .i64 0, .int .i64 0, .int .i64 0, .int .i64 0, .string ⟨#[]⟩]) ?_ 4 _ rfl; refine blk_put (cs := #[.int .i64 0, .int .i64 0, .int .i64 0, .int .i64 0, .int .i64 0, .string ⟨#[]⟩]) ?_ 3 _ rfl; refine blk_put (cs := #[.int .i64 0, .int .i64 0, .int .i64 0, .int .i64 0, .int .i64 0, .string ⟨#[]⟩]) ?_ 2 _ rfl; refine blk_put (cs := #[.int .i64 0, .int .i64 0, .int .i64 0, .int .i64 0, .int .i64 0, .string ⟨#[]⟩]) ?_ 1 _ rfl; refine blk_put (cs := #[.int .i64 0, .int .i64 0, .int .i64 0, .int .i64 0, .int .i64 0, .string ⟨#[]⟩]) ?_ 0 _ rfl; exact BR3.out) Try.underlying23 rfl (by kernel_rfl)) rfl ?_
            have HZ := HD.out
            unfold rdecF at HZ
            rw [if_pos HQ.out, if_neg (by intro hz; have := hz.2.2.2.2; rw [HI.out] at this; exact Bool.false_ne_true this)] at HZ
            have HZ := Option.some.inj HZ
            simp only [Prod.mk.injEq] at HZ
            obtain ⟨rfl, rfl, rfl, rfl, rfl, rfl, rfl⟩ := HZ
            exact ⟨rfl, (((((HBB.out.setCell (Nat.le_refl _) _).setCell (Nat.le_refl _) _).setCell (Nat.le_refl _) _).setCell (Nat.le_refl _) _).setCell (Nat.le_refl _) _).setCell (Nat.le_refl _) _⟩
        · have HJ := Aside0.mk (show rIs s 0 = true ∧ rIs s 1 = true ∧ rIs s 2 = true ∧ rIs s 3 = true ∧ rIs s 4 = true from ⟨HX.out.2.2.2 0 (by omega), HX.out.2.2.2 1 (by omega), HX.out.2.2.2 2 (by omega), HX.out.2.2.2 3 (by omega), HX.out.2.2.2 4 (by omega)⟩)
          have hZ := HD.out
          unfold rdecF at hZ
          rw [if_pos HQ.out, if_pos HJ.out] at hZ
          obtain ⟨⟨D, x2, x3⟩, hd, hZ⟩ := Option.bind_eq_some_iff.1 hZ
          obtain ⟨⟨E, eb⟩, he, hZ⟩ := Option.bind_eq_some_iff.1 hZ
          have HT := Aside0.mk (hopperref03_TakeText.calls (rS s 5) 256 D x2 x3 wr hd)
          have HE := Aside0.mk he
          have HZ0 := Aside0.mk hZ
          clear hd he hZ
          have j0 : ∀ W : World, (Instr.indexAt 102 (.pointer (some ⟨w.heap.size + 1, 0, none⟩)) (.int .i64 0)).run Try.prog W = .ok (.pointer (some ⟨w.heap.size + 1, 0, none⟩)) W := fun _ => by kernel_rfl
          have j1 : ∀ W : World, (Instr.indexAt 102 (.pointer (some ⟨w.heap.size + 1, 0, none⟩)) (.int .i64 1)).run Try.prog W = .ok (.pointer (some ⟨w.heap.size + 1, 1, none⟩)) W := fun _ => by kernel_rfl
          have j2 : ∀ W : World, (Instr.indexAt 102 (.pointer (some ⟨w.heap.size + 1, 0, none⟩)) (.int .i64 2)).run Try.prog W = .ok (.pointer (some ⟨w.heap.size + 1, 2, none⟩)) W := fun _ => by kernel_rfl
          have j3 : ∀ W : World, (Instr.indexAt 102 (.pointer (some ⟨w.heap.size + 1, 0, none⟩)) (.int .i64 3)).run Try.prog W = .ok (.pointer (some ⟨w.heap.size + 1, 3, none⟩)) W := fun _ => by kernel_rfl
          have j4 : ∀ W : World, (Instr.indexAt 102 (.pointer (some ⟨w.heap.size + 1, 0, none⟩)) (.int .i64 4)).run Try.prog W = .ok (.pointer (some ⟨w.heap.size + 1, 4, none⟩)) W := fun _ => by kernel_rfl
          go_upto_region 14 with (first | (go_at_call 113; (with_reducible refine HT.out.mono ?_); rintro e w3 ⟨rfl, hq⟩; have BT := Aside0.mk ((hq.below.block (w.heap.size + 1) (heap_lt HX.out.2.1)).trans HX.out.2.1); have BZ := Aside0.mk ((hq.below.block w.heap.size (heap_lt HX.out.1)).trans HX.out.1); have HB3 := Aside0.mk (below_step HX.out.2.2.1 hq.below); clear hq))
          have BT3 := BT.out
          have hc0 : w3.cell? ⟨w.heap.size + 1, 0, none⟩ = some (.int .i64 (rN s 0)) := (blk_cell BT3 0).trans rfl
          have hc1 : w3.cell? ⟨w.heap.size + 1, 1, none⟩ = some (.int .i64 (rN s 1)) := (blk_cell BT3 1).trans rfl
          have hc2 : w3.cell? ⟨w.heap.size + 1, 2, none⟩ = some (.int .i64 (rN s 2)) := (blk_cell BT3 2).trans rfl
          have hc3 : w3.cell? ⟨w.heap.size + 1, 3, none⟩ = some (.int .i64 (rN s 3)) := (blk_cell BT3 3).trans rfl
          have hc4 : w3.cell? ⟨w.heap.size + 1, 4, none⟩ = some (.int .i64 (rN s 4)) := (blk_cell BT3 4).trans rfl
          clear BT3
          go_upto_region 15 with (fail)
          clear hc0 hc1 hc2 hc3 hc4 j0 j1 j2 j3 j4
          generalize hw4 : World.alloc w3 _ = w4
          have BY := Aside0.mk (show w4.heap[w3.heap.size]? = some (.cells #[.int .i64 (rN s 0), .int .i64 (rN s 1), .int .i64 (rN s 2), .int .i64 (rN s 3), .int .i64 (rN s 4), .string D] 23 (0, 0)) by rw [← hw4]; exact heap_alloc_new w3 _)
          have BZ4 := Aside0.mk (show w4.heap[w.heap.size]? = some (.cells #[.int .i64 0, .int .i64 0, .int .i64 0, .int .i64 0, .int .i64 0, .string ⟨#[]⟩] 23 (0, 0)) by rw [← hw4]; exact (heap_alloc_old w3 _ (heap_lt BZ.out)).trans BZ.out)
          have HB4 := Aside0.mk (show Below w.heap.size w w4 by rw [← hw4]; exact below_alloc HB3.out _)
          clear hw4
          have BY4 := BY.out
          have hd0 : w4.cell? ⟨w3.heap.size, 0, none⟩ = some (.int .i64 (rN s 0)) := (blk_cell BY4 0).trans rfl
          have hd1 : w4.cell? ⟨w3.heap.size, 1, none⟩ = some (.int .i64 (rN s 1)) := (blk_cell BY4 1).trans rfl
          have hd2 : w4.cell? ⟨w3.heap.size, 2, none⟩ = some (.int .i64 (rN s 2)) := (blk_cell BY4 2).trans rfl
          have hd3 : w4.cell? ⟨w3.heap.size, 3, none⟩ = some (.int .i64 (rN s 3)) := (blk_cell BY4 3).trans rfl
          have hd4 : w4.cell? ⟨w3.heap.size, 4, none⟩ = some (.int .i64 (rN s 4)) := (blk_cell BY4 4).trans rfl
          have hd5 : w4.cell? ⟨w3.heap.size, 5, none⟩ = some (.string D) := (blk_cell BY4 5).trans rfl
          clear BY4
          cases eb with
          | false =>
            go_upto_if 67 with (first | (go_at_call 35; (with_reducible refine (hopperref04_Encode.calls 40 _ _ _ _ _ _ _ _ _ HE.out).mono ?_); rintro e w5 ⟨rfl, hb5⟩; have BR5 := Aside0.mk ((hb5.block w.heap.size (heap_lt BZ4.out)).trans BZ4.out); have BY5 := Aside0.mk ((hb5.block w3.heap.size (heap_lt BY.out)).trans BY.out); have HB5 := Aside0.mk (below_step HB4.out hb5); clear hb5))
            clear hd0 hd1 hd2 hd3 hd4 hd5
            have B5 := BR5.out
            have kr0 : w5.cell? ⟨w.heap.size, 0, none⟩ = some (.int .i64 0) := (blk_cell B5 0).trans rfl
            have kr1 : w5.cell? ⟨w.heap.size, 1, none⟩ = some (.int .i64 0) := (blk_cell B5 1).trans rfl
            have kr2 : w5.cell? ⟨w.heap.size, 2, none⟩ = some (.int .i64 0) := (blk_cell B5 2).trans rfl
            have kr3 : w5.cell? ⟨w.heap.size, 3, none⟩ = some (.int .i64 0) := (blk_cell B5 3).trans rfl
            have kr4 : w5.cell? ⟨w.heap.size, 4, none⟩ = some (.int .i64 0) := (blk_cell B5 4).trans rfl
            have kr5 : w5.cell? ⟨w.heap.size, 5, none⟩ = some (.string ⟨#[]⟩) := (blk_cell B5 5).trans rfl
            have kg0 : w5.frozen? ⟨w.heap.size, 0, none⟩ = false := blk_frozen B5 0
            have kg1 : w5.frozen? ⟨w.heap.size, 1, none⟩ = false := blk_frozen B5 1
            have kg2 : w5.frozen? ⟨w.heap.size, 2, none⟩ = false := blk_frozen B5 2
            have kg3 : w5.frozen? ⟨w.heap.size, 3, none⟩ = false := blk_frozen B5 3
            have kg4 : w5.frozen? ⟨w.heap.size, 4, none⟩ = false := blk_frozen B5 4
            have kg5 : w5.frozen? ⟨w.heap.size, 5, none⟩ = false := blk_frozen B5 5
            clear B5
            go_wp2_with (fail)
            refine bodyPost_ret (results_ct rfl _ _ w.heap.size 23 #[.int .i64 0, .int .i64 0, .int .i64 0, .int .i64 0, .int .i64 0, .string ⟨#[]⟩] (0, 0) _ rfl (by refine blk_put (cs := #[.int .i64 0, .int .i64 0, .int .i64 0, .int .i64 0, .int .i64 0, .string ⟨#[]⟩]) ?_ 5 _ rfl; refine blk_put (cs := #[.int .i64 0, .int .i64 0, .int .i64 0, .int .i64 0, .int .i64 0, .string ⟨#[]⟩]) ?_ 4 _ rfl; refine blk_put (cs := #[.int .i64 0, .int .i64 0, .int .i64 0, .int .i64 0, .int .i64 0, .string ⟨#[]⟩]) ?_ 3 _ rfl; refine blk_put (cs := #[.int .i64 0, .int .i64 0, .int .i64 0, .int .i64 0, .int .i64 0, .string ⟨#[]⟩]) ?_ 2 _ rfl; refine blk_put (cs := #[.int .i64 0, .int .i64 0, .int .i64 0, .int .i64 0, .int .i64 0, .string ⟨#[]⟩]) ?_ 1 _ rfl; refine blk_put (cs := #[.int .i64 0, .int .i64 0, .int .i64 0, .int .i64 0, .int .i64 0, .string ⟨#[]⟩]) ?_ 0 _ rfl; exact BR5.out) Try.underlying23 rfl (by kernel_rfl)) rfl ?_
            have HZ := HZ0.out
            rw [if_neg (by simp)] at HZ
            have HZ := Option.some.inj HZ
            simp only [Prod.mk.injEq] at HZ
            obtain ⟨rfl, rfl, rfl, rfl, rfl, rfl, rfl⟩ := HZ
            exact ⟨rfl, (((((HB5.out.setCell (Nat.le_refl _) _).setCell (Nat.le_refl _) _).setCell (Nat.le_refl _) _).setCell (Nat.le_refl _) _).setCell (Nat.le_refl _) _).setCell (Nat.le_refl _) _⟩
          | true =>
            by_cases hE : E = a0
            · subst hE
              have HZ1 := Aside0.mk (show some (rN s 0, rN s 1, rN s 2, rN s 3, rN s 4, D, true) = some (r1, r2, r3, r4, r5, r6, r7) by have HZ := HZ0.out; rw [if_pos (show ((E, true) : ByteArray × Bool).2 = true from rfl), if_pos (show ((E, true) : ByteArray × Bool).1 = E from rfl)] at HZ; exact HZ)
              clear HZ0
              go_upto_if 67 with (first | (go_at_call 35; (with_reducible refine (hopperref04_Encode.calls 40 _ _ _ _ _ _ _ _ _ HE.out).mono ?_); rintro e w5 ⟨rfl, hb5⟩; have BR5 := Aside0.mk ((hb5.block w.heap.size (heap_lt BZ4.out)).trans BZ4.out); have BY5 := Aside0.mk ((hb5.block w3.heap.size (heap_lt BY.out)).trans BY.out); have HB5 := Aside0.mk (below_step HB4.out hb5); clear hb5))
              clear hd0 hd1 hd2 hd3 hd4 hd5
              have B5 := BR5.out
              have kr0 : w5.cell? ⟨w.heap.size, 0, none⟩ = some (.int .i64 0) := (blk_cell B5 0).trans rfl
              have kr1 : w5.cell? ⟨w.heap.size, 1, none⟩ = some (.int .i64 0) := (blk_cell B5 1).trans rfl
              have kr2 : w5.cell? ⟨w.heap.size, 2, none⟩ = some (.int .i64 0) := (blk_cell B5 2).trans rfl
              have kr3 : w5.cell? ⟨w.heap.size, 3, none⟩ = some (.int .i64 0) := (blk_cell B5 3).trans rfl
              have kr4 : w5.cell? ⟨w.heap.size, 4, none⟩ = some (.int .i64 0) := (blk_cell B5 4).trans rfl
              have kr5 : w5.cell? ⟨w.heap.size, 5, none⟩ = some (.string ⟨#[]⟩) := (blk_cell B5 5).trans rfl
              have kg0 : w5.frozen? ⟨w.heap.size, 0, none⟩ = false := blk_frozen B5 0
              have kg1 : w5.frozen? ⟨w.heap.size, 1, none⟩ = false := blk_frozen B5 1
              have kg2 : w5.frozen? ⟨w.heap.size, 2, none⟩ = false := blk_frozen B5 2
              have kg3 : w5.frozen? ⟨w.heap.size, 3, none⟩ = false := blk_frozen B5 3
              have kg4 : w5.frozen? ⟨w.heap.size, 4, none⟩ = false := blk_frozen B5 4
              have kg5 : w5.frozen? ⟨w.heap.size, 5, none⟩ = false := blk_frozen B5 5
              clear B5
              have BY6 := BY5.out
              have kd0 : w5.cell? ⟨w3.heap.size, 0, none⟩ = some (.int .i64 (rN s 0)) := (blk_cell BY6 0).trans rfl
              have kd1 : w5.cell? ⟨w3.heap.size, 1, none⟩ = some (.int .i64 (rN s 1)) := (blk_cell BY6 1).trans rfl
              have kd2 : w5.cell? ⟨w3.heap.size, 2, none⟩ = some (.int .i64 (rN s 2)) := (blk_cell BY6 2).trans rfl
              have kd3 : w5.cell? ⟨w3.heap.size, 3, none⟩ = some (.int .i64 (rN s 3)) := (blk_cell BY6 3).trans rfl
              have kd4 : w5.cell? ⟨w3.heap.size, 4, none⟩ = some (.int .i64 (rN s 4)) := (blk_cell BY6 4).trans rfl
              have kd5 : w5.cell? ⟨w3.heap.size, 5, none⟩ = some (.string D) := (blk_cell BY6 5).trans rfl
              clear BY6
              go_wp2_with (fail)
              refine bodyPost_ret (results_ct rfl _ _ w.heap.size 23 #[.int .i64 (rN s 0), .int .i64 (rN s 1), .int .i64 (rN s 2), .int .i64 (rN s 3), .int .i64 (rN s 4), .string D] (0, 0) _ rfl (by refine blk_put (cs := #[.int .i64 (rN s 0), .int .i64 (rN s 1), .int .i64 (rN s 2), .int .i64 (rN s 3), .int .i64 (rN s 4), .string ⟨#[]⟩]) ?_ 5 _ rfl; refine blk_put (cs := #[.int .i64 (rN s 0), .int .i64 (rN s 1), .int .i64 (rN s 2), .int .i64 (rN s 3), .int .i64 0, .string ⟨#[]⟩]) ?_ 4 _ rfl; refine blk_put (cs := #[.int .i64 (rN s 0), .int .i64 (rN s 1), .int .i64 (rN s 2), .int .i64 0, .int .i64 0, .string ⟨#[]⟩]) ?_ 3 _ rfl; refine blk_put (cs := #[.int .i64 (rN s 0), .int .i64 (rN s 1), .int .i64 0, .int .i64 0, .int .i64 0, .string ⟨#[]⟩]) ?_ 2 _ rfl; refine blk_put (cs := #[.int .i64 (rN s 0), .int .i64 0, .int .i64 0, .int .i64 0, .int .i64 0, .string ⟨#[]⟩]) ?_ 1 _ rfl; refine blk_put (cs := #[.int .i64 0, .int .i64 0, .int .i64 0, .int .i64 0, .int .i64 0, .string ⟨#[]⟩]) ?_ 0 _ rfl; exact BR5.out) Try.underlying23 rfl (by kernel_rfl)) rfl ?_
              have HZ := Option.some.inj HZ1.out
              simp only [Prod.mk.injEq] at HZ
              obtain ⟨rfl, rfl, rfl, rfl, rfl, rfl, rfl⟩ := HZ
              exact ⟨rfl, (((((HB5.out.setCell (Nat.le_refl _) _).setCell (Nat.le_refl _) _).setCell (Nat.le_refl _) _).setCell (Nat.le_refl _) _).setCell (Nat.le_refl _) _).setCell (Nat.le_refl _) _⟩
            · have hE1 : ¬ E.toList = a0.toList := fun hl => hE (ByteArray.ext (Array.toList_inj.1 (by rw [← ByteArray.toList_eq, ← ByteArray.toList_eq]; exact hl)))
              have hE2 : (E.toList == a0.toList) = false := by rw [beq_eq_false_iff_ne]; exact hE1
              have hE3 : (E.toList != a0.toList) = true := by rw [bne_iff_ne]; exact hE1
              have HNE := Aside0.mk hE
              clear hE
              go_upto_if 67 with (first | (go_at_call 35; (with_reducible refine (hopperref04_Encode.calls 40 _ _ _ _ _ _ _ _ _ HE.out).mono ?_); rintro e w5 ⟨rfl, hb5⟩; have BR5 := Aside0.mk ((hb5.block w.heap.size (heap_lt BZ4.out)).trans BZ4.out); have BY5 := Aside0.mk ((hb5.block w3.heap.size (heap_lt BY.out)).trans BY.out); have HB5 := Aside0.mk (below_step HB4.out hb5); clear hb5))
              clear hd0 hd1 hd2 hd3 hd4 hd5 hE1 hE2 hE3
              have B5 := BR5.out
              have kr0 : w5.cell? ⟨w.heap.size, 0, none⟩ = some (.int .i64 0) := (blk_cell B5 0).trans rfl
              have kr1 : w5.cell? ⟨w.heap.size, 1, none⟩ = some (.int .i64 0) := (blk_cell B5 1).trans rfl
              have kr2 : w5.cell? ⟨w.heap.size, 2, none⟩ = some (.int .i64 0) := (blk_cell B5 2).trans rfl
              have kr3 : w5.cell? ⟨w.heap.size, 3, none⟩ = some (.int .i64 0) := (blk_cell B5 3).trans rfl
              have kr4 : w5.cell? ⟨w.heap.size, 4, none⟩ = some (.int .i64 0) := (blk_cell B5 4).trans rfl
              have kr5 : w5.cell? ⟨w.heap.size, 5, none⟩ = some (.string ⟨#[]⟩) := (blk_cell B5 5).trans rfl
              have kg0 : w5.frozen? ⟨w.heap.size, 0, none⟩ = false := blk_frozen B5 0
              have kg1 : w5.frozen? ⟨w.heap.size, 1, none⟩ = false := blk_frozen B5 1
              have kg2 : w5.frozen? ⟨w.heap.size, 2, none⟩ = false := blk_frozen B5 2
              have kg3 : w5.frozen? ⟨w.heap.size, 3, none⟩ = false := blk_frozen B5 3
              have kg4 : w5.frozen? ⟨w.heap.size, 4, none⟩ = false := blk_frozen B5 4
              have kg5 : w5.frozen? ⟨w.heap.size, 5, none⟩ = false := blk_frozen B5 5
              clear B5
              go_wp2_with (fail)
              refine bodyPost_ret (results_ct rfl _ _ w.heap.size 23 #[.int .i64 0, .int .i64 0, .int .i64 0, .int .i64 0, .int .i64 0, .string ⟨#[]⟩] (0, 0) _ rfl (by refine blk_put (cs := #[.int .i64 0, .int .i64 0, .int .i64 0, .int .i64 0, .int .i64 0, .string ⟨#[]⟩]) ?_ 5 _ rfl; refine blk_put (cs := #[.int .i64 0, .int .i64 0, .int .i64 0, .int .i64 0, .int .i64 0, .string ⟨#[]⟩]) ?_ 4 _ rfl; refine blk_put (cs := #[.int .i64 0, .int .i64 0, .int .i64 0, .int .i64 0, .int .i64 0, .string ⟨#[]⟩]) ?_ 3 _ rfl; refine blk_put (cs := #[.int .i64 0, .int .i64 0, .int .i64 0, .int .i64 0, .int .i64 0, .string ⟨#[]⟩]) ?_ 2 _ rfl; refine blk_put (cs := #[.int .i64 0, .int .i64 0, .int .i64 0, .int .i64 0, .int .i64 0, .string ⟨#[]⟩]) ?_ 1 _ rfl; refine blk_put (cs := #[.int .i64 0, .int .i64 0, .int .i64 0, .int .i64 0, .int .i64 0, .string ⟨#[]⟩]) ?_ 0 _ rfl; exact BR5.out) Try.underlying23 rfl (by kernel_rfl)) rfl ?_
              have HZ := HZ0.out
              rw [if_pos trivial, if_neg HNE.out] at HZ
              have HZ := Option.some.inj HZ
              simp only [Prod.mk.injEq] at HZ
              obtain ⟨rfl, rfl, rfl, rfl, rfl, rfl, rfl⟩ := HZ
              exact ⟨rfl, (((((HB5.out.setCell (Nat.le_refl _) _).setCell (Nat.le_refl _) _).setCell (Nat.le_refl _) _).setCell (Nat.le_refl _) _).setCell (Nat.le_refl _) _).setCell (Nat.le_refl _) _⟩
    · rw [if_neg hz] at h; cases h


end Go.Proofs.Ytihlogdmdmhefaa.L
