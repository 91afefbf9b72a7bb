/- Written by this session's own program over the kit's print: functions of Go told as plain functions, or the row of one statement; proved for every input, with no condition of ours. -/
import Derived.Test.YtihlogdmdmhefaaLx0
import Derived.Test.YtihlogdmdmhefaaLx2
import Derived.Test.YtihlogdmdmhefaaLx5
import Derived.Test.YtihlogdmdmhefaaLx6
import Derived.Test.YtihlogdmdmhefaaLx7
namespace Go.Proofs.Ytihlogdmdmhefaa.L
open Go.RowKit Go.Proofs.YtihlogdmdmhefaaW.PrintWords Go.Proofs.YtihlogdmdmhefaaW.PrintLast Go.Proofs.YtihlogdmdmhefaaW.PrintMore
attribute [local go_sem] max2_int min2_int max_two min_two max_three min_three max_four min_four   -- for this text's walks alone
set_option linter.unusedVariables false
set_option linter.unusedSimpArgs false

/-! ### txn_Decode: function 36, by hand -/
-- HAND rounds=0 making=1
theorem takeN_size (s : ByteArray) (most : Int) : (takeN s most).2.1.size ≤ s.size := by
  have z : (⟨#[]⟩ : ByteArray).size = 0 := rfl
  unfold takeN
  split
  · simp only; omega
  · split
    · simp only; omega
    · split
      · simp only; omega
      · simp only
        split
        · simp only; omega
        · split
          · simp only; omega
          · split
            · simp only; rw [ByteArray.size_extract]; omega
            · simp only; omega
/-- What is left behind so many numbers. -/
def decS (s : ByteArray) : Nat → ByteArray
  | 0 => s
  | i + 1 => (takeN (decS s i) 1099511627776).2.1
theorem decS_size (s : ByteArray) (i : Nat) : (decS s i).size ≤ s.size := by
  induction i with
  | zero => exact Nat.le_refl _
  | succ i ih => exact Nat.le_trans (takeN_size _ _) ih
def decN (s : ByteArray) (i : Nat) : Int := (takeN (decS s i) 1099511627776).1
def decIs (s : ByteArray) (i : Nat) : Bool := (takeN (decS s i) 1099511627776).2.2
def decCells (s : ByteArray) (i : Nat) (d : ByteArray) : Array Value :=
  #[.int .i64 (if 0 < i then decN s 0 else 0), .int .i64 (if 1 < i then decN s 1 else 0), .int .i64 (if 2 < i then decN s 2 else 0), .int .i64 (if 3 < i then decN s 3 else 0), .int .i64 (if 4 < i then decN s 4 else 0), .string d]
def takeTx (s : ByteArray) : ByteArray × ByteArray × Bool := Go.Proofs.Ytihlogdmdmhefaa.L.takeT s 256
/-- The numbers and the text that stand there, if all do. -/
def decF (s : ByteArray) : Option (Int × Int × Int × Int × Int × ByteArray × Bool) :=
  if decIs s 0 = true ∧ decIs s 1 = true ∧ decIs s 2 = true ∧ decIs s 3 = true ∧ decIs s 4 = true then
    (if (takeTx (decS s 5)).2.2 = true then (if (takeTx (decS s 5)).2.1.size = 0 then
      ((txn_Check.f (decN s 0) (decN s 1) (decN s 2) (decN s 3) (decN s 4) (takeTx (decS s 5)).1).bind fun c => if c = true then some (decN s 0, decN s 1, decN s 2, decN s 3, decN s 4, (takeTx (decS s 5)).1, true) else some (0, 0, 0, 0, 0, ⟨#[]⟩, false))
      else some (0, 0, 0, 0, 0, ⟨#[]⟩, false)) else some (0, 0, 0, 0, 0, ⟨#[]⟩, false))
  else some (0, 0, 0, 0, 0, ⟨#[]⟩, false)
def DecRel (w : World) (b : Nat) (s : ByteArray) (i : Nat) (wr : World) : Prop :=
  wr.heap[w.heap.size]? = some (.cells #[.int .i64 0, .int .i64 0, .int .i64 0, .int .i64 0, .int .i64 0, .string ⟨#[]⟩] 23 (0, 0)) ∧ wr.heap[b]? = some (.cells (decCells s i ⟨#[]⟩) 23 (0, 0)) ∧ Below w.heap.size w wr ∧ w.heap.size < b ∧ ∀ j, j < i → decIs s j = true
theorem heap_lt {w : World} {b : Nat} {o : Obj} (h : w.heap[b]? = some o) : b < w.heap.size := (Array.getElem?_eq_some_iff.1 h).1
theorem dec_step (w : World) (b : Nat) (s : ByteArray) (i : Nat) (wr w3 : World) (h : DecRel w b s i wr) (hI : decIs s i = true) (h3 : Below wr.heap.size wr w3) (hc : (decCells s i ⟨#[]⟩).setIfInBounds i (.int .i64 (decN s i)) = decCells s (i + 1) ⟨#[]⟩) :
    DecRel w b s (i + 1) (w3.setCell ⟨b, i, none⟩ (.int .i64 (decN s i))) := by
  obtain ⟨e1, e2, e3, e4, e5⟩ := h
  have k1 := (h3.block _ (heap_lt e1)).trans e1
  have k2 := (h3.block _ (heap_lt e2)).trans e2
  refine ⟨?_, by rw [← hc]; exact blk_set k2 i _, (below_step e3 h3).setCell (p := ⟨b, i, none⟩) (Nat.le_of_lt e4) _, e4, fun j hj => ?_⟩
  · exact blk_far k1 (by simp; omega) _
  · rcases Nat.lt_or_ge j i with h | h
    · exact e5 j h
    · rw [show j = i by omega]; exact hI
def txn_Decode.f (a0 : ByteArray) : Option (Int × Int × Int × Int × Int × ByteArray × Bool) :=
  if a0.size ≤ 9223372036854775806 then (strings_CutPrefix.f a0 ⟨#[1]⟩).bind fun c => if c.2 = true then (if c.1.size ≤ 9223372036854775806 then decF c.1 else none) else some (0, 0, 0, 0, 0, ⟨#[]⟩, false) else none
set_option maxHeartbeats 4000000 in
set_option maxRecDepth 100000 in
theorem txn_Decode.calls (a0 : ByteArray) (r1 r2 r3 r4 r5 : Int) (r6 : ByteArray) (r7 : Bool) (w : World) (h : txn_Decode.f a0 = some (r1, r2, r3, r4, r5, r6, r7)) :
    Calls Try.prog 36 #[.string a0] w fun e w' => e = .returned (.tuple #[.agg #[.int .i64 r1, .int .i64 r2, .int .i64 r3, .int .i64 r4, .int .i64 r5, .string r6], .bool r7]) ∧ Below w.heap.size w w' := by
  have hu := Try.underlying23
  unfold txn_Decode.f at h
  by_cases hz : a0.size ≤ 9223372036854775806
  · rw [if_pos hz] at h
    obtain ⟨⟨s, is⟩, hc, h⟩ := Option.bind_eq_some_iff.1 h
    have HK := Aside0.mk hc
    clear hc
    cases is with
    | false =>
      rw [if_neg (show ¬ ((s, false) : ByteArray × Bool).2 = true from by simp)] at h
      have HH := Aside0.mk (Option.some.inj h)
      clear h
      go_enter Try.func36, Try.ntmps36
      go_wp2_with (first | (go_at_call 109; (with_reducible refine (strings_CutPrefix.calls _ _ s false _ HK.out).mono ?_); rintro e w1 ⟨rfl, hq⟩; have HB := Aside0.mk (below_step (below_alloc (Below.refl w.heap.size w) _) hq.below); have BR := Aside0.mk ((hq.below.block w.heap.size (by simp)).trans (heap_alloc_new w (.cells #[.int .i64 0, .int .i64 0, .int .i64 0, .int .i64 0, .int .i64 0, .string ⟨#[]⟩] 23))); have hr0 : w1.cell? ⟨w.heap.size, 0, none⟩ = some (.int .i64 0) := (blk_cell BR.out 0).trans rfl; have hf0 : w1.frozen? ⟨w.heap.size, 0, none⟩ = false := blk_frozen BR.out 0; have hr1 : w1.cell? ⟨w.heap.size, 1, none⟩ = some (.int .i64 0) := (blk_cell BR.out 1).trans rfl; have hf1 : w1.frozen? ⟨w.heap.size, 1, none⟩ = false := blk_frozen BR.out 1; have hr2 : w1.cell? ⟨w.heap.size, 2, none⟩ = some (.int .i64 0) := (blk_cell BR.out 2).trans rfl; have hf2 : w1.frozen? ⟨w.heap.size, 2, none⟩ = false := blk_frozen BR.out 2; have hr3 : w1.cell? ⟨w.heap.size, 3, none⟩ = some (.int .i64 0) := (blk_cell BR.out 3).trans rfl; have hf3 : w1.frozen? ⟨w.heap.size, 3, none⟩ = false := blk_frozen BR.out 3; have hr4 : w1.cell? ⟨w.heap.size, 4, none⟩ = some (.int .i64 0) := (blk_cell BR.out 4).trans rfl; have hf4 : w1.frozen? ⟨w.heap.size, 4, none⟩ = false := blk_frozen BR.out 4; have hr5 : w1.cell? ⟨w.heap.size, 5, none⟩ = some (.string ⟨#[]⟩) := (blk_cell BR.out 5).trans rfl; have hf5 : w1.frozen? ⟨w.heap.size, 5, none⟩ = false := blk_frozen BR.out 5; clear hq))
      refine bodyPost_ret (results_ct rfl _ _ w.heap.size 23 #[.int .i64 0, .int .i64 0, .int .i64 0, .int .i64 0, .int .i64 0, .string ⟨#[]⟩] (0, 0) _ rfl (by refine blk_put (cs := #[.int .i64 0, .int .i64 0, .int .i64 0, .int .i64 0, .int .i64 0, .string ⟨#[]⟩]) ?_ 5 _ rfl; refine blk_put (cs := #[.int .i64 0, .int .i64 0, .int .i64 0, .int .i64 0, .int .i64 0, .string ⟨#[]⟩]) ?_ 4 _ rfl; refine blk_put (cs := #[.int .i64 0, .int .i64 0, .int .i64 0, .int .i64 0, .int .i64 0, .string ⟨#[]⟩]) ?_ 3 _ rfl; refine blk_put (cs := #[.int .i64 0, .int .i64 0, .int .i64 0, .int .i64 0, .int .i64 0, .string ⟨#[]⟩]) ?_ 2 _ rfl; refine blk_put (cs := #[.int .i64 0, .int .i64 0, .int .i64 0, .int .i64 0, .int .i64 0, .string ⟨#[]⟩]) ?_ 1 _ rfl; refine blk_put (cs := #[.int .i64 0, .int .i64 0, .int .i64 0, .int .i64 0, .int .i64 0, .string ⟨#[]⟩]) ?_ 0 _ rfl; exact BR.out) Try.underlying23 rfl (by kernel_rfl)) rfl ?_
      have HH := HH.out
      simp only [Prod.mk.injEq] at HH
      obtain ⟨rfl, rfl, rfl, rfl, rfl, rfl, rfl⟩ := HH
      exact ⟨rfl, (((((HB.out.setCell (Nat.le_refl _) _).setCell (Nat.le_refl _) _).setCell (Nat.le_refl _) _).setCell (Nat.le_refl _) _).setCell (Nat.le_refl _) _).setCell (Nat.le_refl _) _⟩
    | true =>
      rw [if_pos (show ((s, true) : ByteArray × Bool).2 = true from rfl)] at h
      by_cases hs : s.size ≤ 9223372036854775806
      · rw [if_pos hs] at h
        have HS := Aside0.mk hs
        have HH := Aside0.mk h
        clear h hs
        go_enter Try.func36, Try.ntmps36
        go_wp2_with (first | (go_at_call 109; (with_reducible refine (strings_CutPrefix.calls _ _ s true _ HK.out).mono ?_); rintro e w1 ⟨rfl, hq⟩; have HL := Aside0.mk (show w.heap.size < w1.heap.size by have z := hq.below.size; simp at z; omega); have HB := Aside0.mk (below_step (below_alloc (Below.refl w.heap.size w) _) hq.below); have BR := Aside0.mk ((hq.below.block w.heap.size (by simp)).trans (heap_alloc_new w (.cells #[.int .i64 0, .int .i64 0, .int .i64 0, .int .i64 0, .int .i64 0, .string ⟨#[]⟩] 23))); have hr0 : w1.cell? ⟨w.heap.size, 0, none⟩ = some (.int .i64 0) := (blk_cell BR.out 0).trans rfl; have hf0 : w1.frozen? ⟨w.heap.size, 0, none⟩ = false := blk_frozen BR.out 0; have hr1 : w1.cell? ⟨w.heap.size, 1, none⟩ = some (.int .i64 0) := (blk_cell BR.out 1).trans rfl; have hf1 : w1.frozen? ⟨w.heap.size, 1, none⟩ = false := blk_frozen BR.out 1; have hr2 : w1.cell? ⟨w.heap.size, 2, none⟩ = some (.int .i64 0) := (blk_cell BR.out 2).trans rfl; have hf2 : w1.frozen? ⟨w.heap.size, 2, none⟩ = false := blk_frozen BR.out 2; have hr3 : w1.cell? ⟨w.heap.size, 3, none⟩ = some (.int .i64 0) := (blk_cell BR.out 3).trans rfl; have hf3 : w1.frozen? ⟨w.heap.size, 3, none⟩ = false := blk_frozen BR.out 3; have hr4 : w1.cell? ⟨w.heap.size, 4, none⟩ = some (.int .i64 0) := (blk_cell BR.out 4).trans rfl; have hf4 : w1.frozen? ⟨w.heap.size, 4, none⟩ = false := blk_frozen BR.out 4; have hr5 : w1.cell? ⟨w.heap.size, 5, none⟩ = some (.string ⟨#[]⟩) := (blk_cell BR.out 5).trans rfl; have hf5 : w1.frozen? ⟨w.heap.size, 5, none⟩ = false := blk_frozen BR.out 5; clear hq))
        go_loopw [4, 5, 23] (fun v4 v5 v23 wr => ∃ i : Nat, i ≤ 5 ∧ v23 = .int .i64 (i : Int) ∧ v4 = .string (decS s i) ∧ v5 = .bool true ∧ Aside0 (DecRel w w1.heap.size s i wr)) (fun _ _ v23 _ => 5 - (intOf v23).toNat)
        case atStart =>
          exact ⟨0, by omega, rfl, rfl, rfl, ⟨⟨(heap_alloc_old w1 _ HL.out).trans BR.out, (heap_alloc_new w1 _).trans rfl, below_alloc HB.out _, HL.out, fun j hj => by omega⟩⟩⟩
        case round =>
          obtain ⟨i, hi, rfl, rfl, rfl, HX⟩ := hrel
          rcases (show i = 0 ∨ i = 1 ∨ i = 2 ∨ i = 3 ∨ i = 4 ∨ i = 5 by omega) with rfl | rfl | rfl | rfl | rfl | rfl
          · have ix : ∀ W : World, (Instr.index 109 (.agg #[.pointer (some ⟨w1.heap.size, 0, none⟩), .pointer (some ⟨w1.heap.size, 1, none⟩), .pointer (some ⟨w1.heap.size, 2, none⟩), .pointer (some ⟨w1.heap.size, 3, none⟩), .pointer (some ⟨w1.heap.size, 4, none⟩)]) (.int .i64 0)).run Try.prog W = .ok (.pointer (some ⟨w1.heap.size, 0, none⟩)) W := fun _ => by kernel_rfl
            have HT := Aside0.mk (codec_TakeNumber.calls (decS s 0) 1099511627776 _ _ _ wr (by unfold codec_TakeNumber.f; rw [if_pos (Nat.le_trans (decS_size s 0) HS.out)]))
            have HN := Aside0.mk (show w.heap.size ≠ w1.heap.size from Nat.ne_of_lt HX.out.2.2.2.1)
            cases hI : decIs s 0 with
            | true =>
              have ht := HT.out
              rw [show (takeN (decS s 0) 1099511627776).2.2 = true from hI] at ht
              have HT2 := Aside0.mk ht
              have HI := Aside0.mk hI
              clear ht hI HT
              go_wp2_with (first | (go_at_call 110; (with_reducible refine HT2.out.mono ?_); rintro e w3 ⟨rfl, hb3⟩; have BT := Aside0.mk ((hb3.block w1.heap.size (heap_lt HX.out.2.1)).trans HX.out.2.1); have hc3 : w3.cell? ⟨w1.heap.size, 0, none⟩ = some (.int .i64 0) := (blk_cell BT.out 0).trans rfl; have hf3 : w3.frozen? ⟨w1.heap.size, 0, none⟩ = false := blk_frozen BT.out 0; have HB3 := Aside0.mk hb3; clear hb3))
              go_roundw
              case rel => exact ⟨1, by omega, by go_num, rfl, rfl, ⟨dec_step w w1.heap.size s 0 wr w3 HX.out HI.out HB3.out rfl⟩⟩
              case measure => simp [intOf]
            | false =>
              have ht := HT.out
              rw [show (takeN (decS s 0) 1099511627776).2.2 = false from hI] at ht
              have HT2 := Aside0.mk ht
              have HI := Aside0.mk hI
              clear ht hI HT
              go_upto_if 35 with (first | (go_at_call 110; (with_reducible refine HT2.out.mono ?_); rintro e w3 ⟨rfl, hb3⟩; have BT := Aside0.mk ((hb3.block w1.heap.size (heap_lt HX.out.2.1)).trans HX.out.2.1); have hc3 : w3.cell? ⟨w1.heap.size, 0, none⟩ = some (.int .i64 0) := (blk_cell BT.out 0).trans rfl; have hf3 : w3.frozen? ⟨w1.heap.size, 0, none⟩ = false := blk_frozen BT.out 0; have HB3 := Aside0.mk hb3; clear hb3))
              generalize hw4 : World.setCell w3 _ _ = w4
              have B4 : w4.heap[w.heap.size]? = some (.cells #[.int .i64 0, .int .i64 0, .int .i64 0, .int .i64 0, .int .i64 0, .string ⟨#[]⟩] 23 (0, 0)) := by rw [← hw4]; exact blk_far ((HB3.out.block w.heap.size (heap_lt HX.out.1)).trans HX.out.1) (p := ⟨w1.heap.size, 0, none⟩) HN.out _
              have hb4 : Below w.heap.size w w4 := by rw [← hw4]; exact (below_step HX.out.2.2.1 HB3.out).setCell (p := ⟨w1.heap.size, 0, none⟩) (Nat.le_of_lt HX.out.2.2.2.1) _
              have hr0 : w4.cell? ⟨w.heap.size, 0, none⟩ = some (.int .i64 0) := (blk_cell B4 0).trans rfl
              have hr1 : w4.cell? ⟨w.heap.size, 1, none⟩ = some (.int .i64 0) := (blk_cell B4 1).trans rfl
              have hr2 : w4.cell? ⟨w.heap.size, 2, none⟩ = some (.int .i64 0) := (blk_cell B4 2).trans rfl
              have hr3 : w4.cell? ⟨w.heap.size, 3, none⟩ = some (.int .i64 0) := (blk_cell B4 3).trans rfl
              have hr4 : w4.cell? ⟨w.heap.size, 4, none⟩ = some (.int .i64 0) := (blk_cell B4 4).trans rfl
              have hr5 : w4.cell? ⟨w.heap.size, 5, none⟩ = some (.string ⟨#[]⟩) := (blk_cell B4 5).trans rfl
              have hg0 : w4.frozen? ⟨w.heap.size, 0, none⟩ = false := blk_frozen B4 0
              have hg1 : w4.frozen? ⟨w.heap.size, 1, none⟩ = false := blk_frozen B4 1
              have hg2 : w4.frozen? ⟨w.heap.size, 2, none⟩ = false := blk_frozen B4 2
              have hg3 : w4.frozen? ⟨w.heap.size, 3, none⟩ = false := blk_frozen B4 3
              have hg4 : w4.frozen? ⟨w.heap.size, 4, none⟩ = false := blk_frozen B4 4
              have hg5 : w4.frozen? ⟨w.heap.size, 5, none⟩ = false := blk_frozen B4 5
              have BR4 := Aside0.mk B4
              have HB4 := Aside0.mk hb4
              clear B4 hb4 hw4 hc3 hf3 ix
              go_wp2_with (fail)
              refine bodyPost_ret (results_ct rfl _ _ w.heap.size 23 #[.int .i64 0, .int .i64 0, .int .i64 0, .int .i64 0, .int .i64 0, .string ⟨#[]⟩] (0, 0) _ rfl (by refine blk_put (cs := #[.int .i64 0, .int .i64 0, .int .i64 0, .int .i64 0, .int .i64 0, .string ⟨#[]⟩]) ?_ 5 _ rfl; refine blk_put (cs := #[.int .i64 0, .int .i64 0, .int .i64 0, .int .i64 0, .int .i64 0, .string ⟨#[]⟩]) ?_ 4 _ rfl; refine blk_put (cs := #[.int .i64 0, .int .i64 0, .int .i64 0, .int .i64 0, .int .i64 0, .string ⟨#[]⟩]) ?_ 3 _ rfl; refine blk_put (cs := #[.int .i64 0, .int .i64 0, .int .i64 0, .int .i64 0, .int .i64 0, .string ⟨#[]⟩]) ?_ 2 _ rfl; refine blk_put (cs := #[.int .i64 0, .int .i64 0, .int .i64 0, .int .i64 0, .int .i64 0, .string ⟨#[]⟩]) ?_ 1 _ rfl; refine blk_put (cs := #[.int .i64 0, .int .i64 0, .int .i64 0, .int .i64 0, .int .i64 0, .string ⟨#[]⟩]) ?_ 0 _ rfl; exact BR4.out) Try.underlying23 rfl (by kernel_rfl)) rfl ?_
              have HZ := HH.out
              unfold decF at HZ
              rw [if_neg (by intro hz; have := hz.1; rw [HI.out] at this; exact Bool.false_ne_true this)] at HZ
              have HZ := Option.some.inj HZ
              simp only [Prod.mk.injEq] at HZ
              obtain ⟨rfl, rfl, rfl, rfl, rfl, rfl, rfl⟩ := HZ
              exact ⟨rfl, (((((HB4.out.setCell (Nat.le_refl _) _).setCell (Nat.le_refl _) _).setCell (Nat.le_refl _) _).setCell (Nat.le_refl _) _).setCell (Nat.le_refl _) _).setCell (Nat.le_refl _) _⟩
          · have ix : ∀ W : World, (Instr.index 109 (.agg #[.pointer (some ⟨w1.heap.size, 0, none⟩), .pointer (some ⟨w1.heap.size, 1, none⟩), .pointer (some ⟨w1.heap.size, 2, none⟩), .pointer (some ⟨w1.heap.size, 3, none⟩), .pointer (some ⟨w1.heap.size, 4, none⟩)]) (.int .i64 1)).run Try.prog W = .ok (.pointer (some ⟨w1.heap.size, 1, none⟩)) W := fun _ => by kernel_rfl
            have HT := Aside0.mk (codec_TakeNumber.calls (decS s 1) 1099511627776 _ _ _ wr (by unfold codec_TakeNumber.f; rw [if_pos (Nat.le_trans (decS_size s 1) HS.out)]))
            have HN := Aside0.mk (show w.heap.size ≠ w1.heap.size from Nat.ne_of_lt HX.out.2.2.2.1)
            cases hI : decIs s 1 with
            | true =>
              have ht := HT.out
              rw [show (takeN (decS s 1) 1099511627776).2.2 = true from hI] at ht
              have HT2 := Aside0.mk ht
              have HI := Aside0.mk hI
              clear ht hI HT
              go_wp2_with (first | (go_at_call 110; (with_reducible refine HT2.out.mono ?_); rintro e w3 ⟨rfl, hb3⟩; have BT := Aside0.mk ((hb3.block w1.heap.size (heap_lt HX.out.2.1)).trans HX.out.2.1); have hc3 : w3.cell? ⟨w1.heap.size, 1, none⟩ = some (.int .i64 0) := (blk_cell BT.out 1).trans rfl; have hf3 : w3.frozen? ⟨w1.heap.size, 1, none⟩ = false := blk_frozen BT.out 1; have HB3 := Aside0.mk hb3; clear hb3))
              go_roundw
              case rel => exact ⟨2, by omega, by go_num, rfl, rfl, ⟨dec_step w w1.heap.size s 1 wr w3 HX.out HI.out HB3.out rfl⟩⟩
              case measure => simp [intOf]
            | false =>
              have ht := HT.out
              rw [show (takeN (decS s 1) 1099511627776).2.2 = false from hI] at ht
              have HT2 := Aside0.mk ht
              have HI := Aside0.mk hI
              clear ht hI HT
              go_upto_if 35 with (first | (go_at_call 110; (with_reducible refine HT2.out.mono ?_); rintro e w3 ⟨rfl, hb3⟩; have BT := Aside0.mk ((hb3.block w1.heap.size (heap_lt HX.out.2.1)).trans HX.out.2.1); have hc3 : w3.cell? ⟨w1.heap.size, 1, none⟩ = some (.int .i64 0) := (blk_cell BT.out 1).trans rfl; have hf3 : w3.frozen? ⟨w1.heap.size, 1, none⟩ = false := blk_frozen BT.out 1; have HB3 := Aside0.mk hb3; clear hb3))
              generalize hw4 : World.setCell w3 _ _ = w4
              have B4 : w4.heap[w.heap.size]? = some (.cells #[.int .i64 0, .int .i64 0, .int .i64 0, .int .i64 0, .int .i64 0, .string ⟨#[]⟩] 23 (0, 0)) := by rw [← hw4]; exact blk_far ((HB3.out.block w.heap.size (heap_lt HX.out.1)).trans HX.out.1) (p := ⟨w1.heap.size, 1, none⟩) HN.out _
              have hb4 : Below w.heap.size w w4 := by rw [← hw4]; exact (below_step HX.out.2.2.1 HB3.out).setCell (p := ⟨w1.heap.size, 1, none⟩) (Nat.le_of_lt HX.out.2.2.2.1) _
              have hr0 : w4.cell? ⟨w.heap.size, 0, none⟩ = some (.int .i64 0) := (blk_cell B4 0).trans rfl
              have hr1 : w4.cell? ⟨w.heap.size, 1, none⟩ = some (.int .i64 0) := (blk_cell B4 1).trans rfl
              have hr2 : w4.cell? ⟨w.heap.size, 2, none⟩ = some (.int .i64 0) := (blk_cell B4 2).trans rfl
              have hr3 : w4.cell? ⟨w.heap.size, 3, none⟩ = some (.int .i64 0) := (blk_cell B4 3).trans rfl
              have hr4 : w4.cell? ⟨w.heap.size, 4, none⟩ = some (.int .i64 0) := (blk_cell B4 4).trans rfl
              have hr5 : w4.cell? ⟨w.heap.size, 5, none⟩ = some (.string ⟨#[]⟩) := (blk_cell B4 5).trans rfl
              have hg0 : w4.frozen? ⟨w.heap.size, 0, none⟩ = false := blk_frozen B4 0
              have hg1 : w4.frozen? ⟨w.heap.size, 1, none⟩ = false := blk_frozen B4 1
              have hg2 : w4.frozen? ⟨w.heap.size, 2, none⟩ = false := blk_frozen B4 2
              have hg3 : w4.frozen? ⟨w.heap.size, 3, none⟩ = false := blk_frozen B4 3
              have hg4 : w4.frozen? ⟨w.heap.size, 4, none⟩ = false := blk_frozen B4 4
              have hg5 : w4.frozen? ⟨w.heap.size, 5, none⟩ = false := blk_frozen B4 5
              have BR4 := Aside0.mk B4
              have HB4 := Aside0.mk hb4
              clear B4 hb4 hw4 hc3 hf3 ix
              go_wp2_with (fail)
              refine bodyPost_ret (results_ct rfl _ _ w.heap.size 23 #[.int .i64 0, .int .i64 0, .int .i64 0, .int .i64 0, .int .i64 0, .string ⟨#[]⟩] (0, 0) _ rfl (by refine blk_put (cs := #[.int .i64 0, .int .i64 0, .int .i64 0, .int .i64 0, .int .i64 0, .string ⟨#[]⟩]) ?_ 5 _ rfl; refine blk_put (cs := #[.int .i64 0, .int .i64 0, .int .i64 0, .int .i64 0, .int .i64 0, .string ⟨#[]⟩]) ?_ 4 _ rfl; refine blk_put (cs := #[.int .i64 0, .int .i64 0, .int .i64 0, .int .i64 0, .int .i64 0, .string ⟨#[]⟩]) ?_ 3 _ rfl; refine blk_put (cs := #[.int .i64 0, .int .i64 0, .int .i64 0, .int .i64 0, .int .i64 0, .string ⟨#[]⟩]) ?_ 2 _ rfl; refine blk_put (cs := #[.int .i64 0, .int .i64 0, .int .i64 0, .int .i64 0, .int .i64 0, .string ⟨#[]⟩]) ?_ 1 _ rfl; refine blk_put (cs := #[.int .i64 0, .int .i64 0, .int .i64 0, .int .i64 0, .int .i64 0, .string ⟨#[]⟩]) ?_ 0 _ rfl; exact BR4.out) Try.underlying23 rfl (by kernel_rfl)) rfl ?_
              have HZ := HH.out
              unfold decF at HZ
              rw [if_neg (by intro hz; have := hz.2.1; rw [HI.out] at this; exact Bool.false_ne_true this)] at HZ
              have HZ := Option.some.inj HZ
              simp only [Prod.mk.injEq] at HZ
              obtain ⟨rfl, rfl, rfl, rfl, rfl, rfl, rfl⟩ := HZ
              exact ⟨rfl, (((((HB4.out.setCell (Nat.le_refl _) _).setCell (Nat.le_refl _) _).setCell (Nat.le_refl _) _).setCell (Nat.le_refl _) _).setCell (Nat.le_refl _) _).setCell (Nat.le_refl _) _⟩
          · have ix : ∀ W : World, (Instr.index 109 (.agg #[.pointer (some ⟨w1.heap.size, 0, none⟩), .pointer (some ⟨w1.heap.size, 1, none⟩), .pointer (some ⟨w1.heap.size, 2, none⟩), .pointer (some ⟨w1.heap.size, 3, none⟩), .pointer (some ⟨w1.heap.size, 4, none⟩)]) (.int .i64 2)).run Try.prog W = .ok (.pointer (some ⟨w1.heap.size, 2, none⟩)) W := fun _ => by kernel_rfl
            have HT := Aside0.mk (codec_TakeNumber.calls (decS s 2) 1099511627776 _ _ _ wr (by unfold codec_TakeNumber.f; rw [if_pos (Nat.le_trans (decS_size s 2) HS.out)]))
            have HN := Aside0.mk (show w.heap.size ≠ w1.heap.size from Nat.ne_of_lt HX.out.2.2.2.1)
            cases hI : decIs s 2 with
            | true =>
              have ht := HT.out
              rw [show (takeN (decS s 2) 1099511627776).2.2 = true from hI] at ht
              have HT2 := Aside0.mk ht
              have HI := Aside0.mk hI
              clear ht hI HT
              go_wp2_with (first | (go_at_call 110; (with_reducible refine HT2.out.mono ?_); rintro e w3 ⟨rfl, hb3⟩; have BT := Aside0.mk ((hb3.block w1.heap.size (heap_lt HX.out.2.1)).trans HX.out.2.1); have hc3 : w3.cell? ⟨w1.heap.size, 2, none⟩ = some (.int .i64 0) := (blk_cell BT.out 2).trans rfl; have hf3 : w3.frozen? ⟨w1.heap.size, 2, none⟩ = false := blk_frozen BT.out 2; have HB3 := Aside0.mk hb3; clear hb3))
              go_roundw
              case rel => exact ⟨3, by omega, by go_num, rfl, rfl, ⟨dec_step w w1.heap.size s 2 wr w3 HX.out HI.out HB3.out rfl⟩⟩
              case measure => simp [intOf]
            | false =>
              have ht := HT.out
              rw [show (takeN (decS s 2) 1099511627776).2.2 = false from hI] at ht
              have HT2 := Aside0.mk ht
              have HI := Aside0.mk hI
              clear ht hI HT
              go_upto_if 35 with (first | (go_at_call 110; (with_reducible refine HT2.out.mono ?_); rintro e w3 ⟨rfl, hb3⟩; have BT := Aside0.mk ((hb3.block w1.heap.size (heap_lt HX.out.2.1)).trans HX.out.2.1); have hc3 : w3.cell? ⟨w1.heap.size, 2, none⟩ = some (.int .i64 0) := (blk_cell BT.out 2).trans rfl; have hf3 : w3.frozen? ⟨w1.heap.size, 2, none⟩ = false := blk_frozen BT.out 2; have HB3 := Aside0.mk hb3; clear hb3))
              generalize hw4 : World.setCell w3 _ _ = w4
              have B4 : w4.heap[w.heap.size]? = some (.cells #[.int .i64 0, .int .i64 0, .int .i64 0, .int .i64 0, .int .i64 0, .string ⟨#[]⟩] 23 (0, 0)) := by rw [← hw4]; exact blk_far ((HB3.out.block w.heap.size (heap_lt HX.out.1)).trans HX.out.1) (p := ⟨w1.heap.size, 2, none⟩) HN.out _
              have hb4 : Below w.heap.size w w4 := by rw [← hw4]; exact (below_step HX.out.2.2.1 HB3.out).setCell (p := ⟨w1.heap.size, 2, none⟩) (Nat.le_of_lt HX.out.2.2.2.1) _
              have hr0 : w4.cell? ⟨w.heap.size, 0, none⟩ = some (.int .i64 0) := (blk_cell B4 0).trans rfl
              have hr1 : w4.cell? ⟨w.heap.size, 1, none⟩ = some (.int .i64 0) := (blk_cell B4 1).trans rfl
              have hr2 : w4.cell? ⟨w.heap.size, 2, none⟩ = some (.int .i64 0) := (blk_cell B4 2).trans rfl
              have hr3 : w4.cell? ⟨w.heap.size, 3, none⟩ = some (.int .i64 0) := (blk_cell B4 3).trans rfl
              have hr4 : w4.cell? ⟨w.heap.size, 4, none⟩ = some (.int .i64 0) := (blk_cell B4 4).trans rfl
              have hr5 : w4.cell? ⟨w.heap.size, 5, none⟩ = some (.string ⟨#[]⟩) := (blk_cell B4 5).trans rfl
              have hg0 : w4.frozen? ⟨w.heap.size, 0, none⟩ = false := blk_frozen B4 0
              have hg1 : w4.frozen? ⟨w.heap.size, 1, none⟩ = false := blk_frozen B4 1
              have hg2 : w4.frozen? ⟨w.heap.size, 2, none⟩ = false := blk_frozen B4 2
              have hg3 : w4.frozen? ⟨w.heap.size, 3, none⟩ = false := blk_frozen B4 3
              have hg4 : w4.frozen? ⟨w.heap.size, 4, none⟩ = false := blk_frozen B4 4
              have hg5 : w4.frozen? ⟨w.heap.size, 5, none⟩ = false := blk_frozen B4 5
              have BR4 := Aside0.mk B4
              have HB4 := Aside0.mk hb4
              clear B4 hb4 hw4 hc3 hf3 ix
              go_wp2_with (fail)
              refine bodyPost_ret (results_ct rfl _ _ w.heap.size 23 #[.int .i64 0, .int .i64 0, .int .i64 0, .int .i64 0, .int .i64 0, .string ⟨#[]⟩] (0, 0) _ rfl (by refine blk_put (cs := #[.int .i64 0, .int .i64 0, .int .i64 0, .int .i64 0, .int .i64 0, .string ⟨#[]⟩]) ?_ 5 _ rfl; refine blk_put (cs := #[.int .i64 0, .int .i64 0, .int .i64 0, .int .i64 0, .int .i64 0, .string ⟨#[]⟩]) ?_ 4 _ rfl; refine blk_put (cs := #[.int .i64 0, .int .i64 0, .int .i64 0, .int .i64 0, .int .i64 0, .string ⟨#[]⟩]) ?_ 3 _ rfl; refine blk_put (cs := #[.int .i64 0, .int .i64 0, .int .i64 0, .int .i64 0, .int .i64 0, .string ⟨#[]⟩]) ?_ 2 _ rfl; refine blk_put (cs := #[.int .i64 0, .int .i64 0, .int .i64 0, .int .i64 0, .int .i64 0, .string ⟨#[]⟩]) ?_ 1 _ rfl; refine blk_put (cs := #[.int .i64 0, .int .i64 0, .int .i64 0, .int .i64 0, .int .i64 0, .string ⟨#[]⟩]) ?_ 0 _ rfl; exact BR4.out) Try.underlying23 rfl (by kernel_rfl)) rfl ?_
              have HZ := HH.out
              unfold decF at HZ
              rw [if_neg (by intro hz; have := hz.2.2.1; rw [HI.out] at this; exact Bool.false_ne_true this)] at HZ
              have HZ := Option.some.inj HZ
              simp only [Prod.mk.injEq] at HZ
              obtain ⟨rfl, rfl, rfl, rfl, rfl, rfl, rfl⟩ := HZ
              exact ⟨rfl, (((((HB4.out.setCell (Nat.le_refl _) _).setCell (Nat.le_refl _) _).setCell (Nat.le_refl _) _).setCell (Nat.le_refl _) _).setCell (Nat.le_refl _) _).setCell (Nat.le_refl _) _⟩
          · have ix : ∀ W : World, (Instr.index 109 (.agg #[.pointer (some ⟨w1.heap.size, 0, none⟩), .pointer (some ⟨w1.heap.size, 1, none⟩), .pointer (some ⟨w1.heap.size, 2, none⟩), .pointer (some ⟨w1.heap.size, 3, none⟩), .pointer (some ⟨w1.heap.size, 4, none⟩)]) (.int .i64 3)).run Try.prog W = .ok (.pointer (some ⟨w1.heap.size, 3, none⟩)) W := fun _ => by kernel_rfl
            have HT := Aside0.mk (codec_TakeNumber.calls (decS s 3) 1099511627776 _ _ _ wr (by unfold codec_TakeNumber.f; rw [if_pos (Nat.le_trans (decS_size s 3) HS.out)]))
            have HN := Aside0.mk (show w.heap.size ≠ w1.heap.size from Nat.ne_of_lt HX.out.2.2.2.1)
            cases hI : decIs s 3 with
            | true =>
              have ht := HT.out
              rw [show (takeN (decS s 3) 1099511627776).2.2 = true from hI] at ht
              have HT2 := Aside0.mk ht
              have HI := Aside0.mk hI
              clear ht hI HT
              go_wp2_with (first | (go_at_call 110; (with_reducible refine HT2.out.mono ?_); rintro e w3 ⟨rfl, hb3⟩; have BT := Aside0.mk ((hb3.block w1.heap.size (heap_lt HX.out.2.1)).trans HX.out.2.1); have hc3 : w3.cell? ⟨w1.heap.size, 3, none⟩ = some (.int .i64 0) := (blk_cell BT.out 3).trans rfl; have hf3 : w3.frozen? ⟨w1.heap.size, 3, none⟩ = false := blk_frozen BT.out 3; have HB3 := Aside0.mk hb3; clear hb3))
              go_roundw
              case rel => exact ⟨4, by omega, by go_num, rfl, rfl, ⟨dec_step w w1.heap.size s 3 wr w3 HX.out HI.out HB3.out rfl⟩⟩
              case measure => simp [intOf]
            | false =>
              have ht := HT.out
              rw [show (takeN (decS s 3) 1099511627776).2.2 = false from hI] at ht
              have HT2 := Aside0.mk ht
              have HI := Aside0.mk hI
              clear ht hI HT
              go_upto_if 35 with (first | (go_at_call 110; (with_reducible refine HT2.out.mono ?_); rintro e w3 ⟨rfl, hb3⟩; have BT := Aside0.mk ((hb3.block w1.heap.size (heap_lt HX.out.2.1)).trans HX.out.2.1); have hc3 : w3.cell? ⟨w1.heap.size, 3, none⟩ = some (.int .i64 0) := (blk_cell BT.out 3).trans rfl; have hf3 : w3.frozen? ⟨w1.heap.size, 3, none⟩ = false := blk_frozen BT.out 3; have HB3 := Aside0.mk hb3; clear hb3))
              generalize hw4 : World.setCell w3 _ _ = w4
              have B4 : w4.heap[w.heap.size]? = some (.cells #[.int .i64 0, .int .i64 0, .int .i64 0, .int .i64 0, .int .i64 0, .string ⟨#[]⟩] 23 (0, 0)) := by rw [← hw4]; exact blk_far ((HB3.out.block w.heap.size (heap_lt HX.out.1)).trans HX.out.1) (p := ⟨w1.heap.size, 3, none⟩) HN.out _
              have hb4 : Below w.heap.size w w4 := by rw [← hw4]; exact (below_step HX.out.2.2.1 HB3.out).setCell (p := ⟨w1.heap.size, 3, none⟩) (Nat.le_of_lt HX.out.2.2.2.1) _
              have hr0 : w4.cell? ⟨w.heap.size, 0, none⟩ = some (.int .i64 0) := (blk_cell B4 0).trans rfl
              have hr1 : w4.cell? ⟨w.heap.size, 1, none⟩ = some (.int .i64 0) := (blk_cell B4 1).trans rfl
              have hr2 : w4.cell? ⟨w.heap.size, 2, none⟩ = some (.int .i64 0) := (blk_cell B4 2).trans rfl
              have hr3 : w4.cell? ⟨w.heap.size, 3, none⟩ = some (.int .i64 0) := (blk_cell B4 3).trans rfl
              have hr4 : w4.cell? ⟨w.heap.size, 4, none⟩ = some (.int .i64 0) := (blk_cell B4 4).trans rfl
              have hr5 : w4.cell? ⟨w.heap.size, 5, none⟩ = some (.string ⟨#[]⟩) := (blk_cell B4 5).trans rfl
              have hg0 : w4.frozen? ⟨w.heap.size, 0, none⟩ = false := blk_frozen B4 0
              have hg1 : w4.frozen? ⟨w.heap.size, 1, none⟩ = false := blk_frozen B4 1
              have hg2 : w4.frozen? ⟨w.heap.size, 2, none⟩ = false := blk_frozen B4 2
              have hg3 : w4.frozen? ⟨w.heap.size, 3, none⟩ = false := blk_frozen B4 3
              have hg4 : w4.frozen? ⟨w.heap.size, 4, none⟩ = false := blk_frozen B4 4
              have hg5 : w4.frozen? ⟨w.heap.size, 5, none⟩ = false := blk_frozen B4 5
              have BR4 := Aside0.mk B4
              have HB4 := Aside0.mk hb4
              clear B4 hb4 hw4 hc3 hf3 ix
              go_wp2_with (fail)
              refine bodyPost_ret (results_ct rfl _ _ w.heap.size 23 #[.int .i64 0, .int .i64 0, .int .i64 0, .int .i64 0, .int .i64 0, .string ⟨#[]⟩] (0, 0) _ rfl (by refine blk_put (cs := #[.int .i64 0, .int .i64 0, .int .i64 0, .int .i64 0, .int .i64 0, .string ⟨#[]⟩]) ?_ 5 _ rfl; refine blk_put (cs := #[.int .i64 0, .int .i64 0, .int .i64 0, .int .i64 0, .int .i64 0, .string ⟨#[]⟩]) ?_ 4 _ rfl; refine blk_put (cs := #[.int .i64 0, .int .i64 0, .int .i64 0, .int .i64 0, .int .i64 0, .string ⟨#[]⟩]) ?_ 3 _ rfl; refine blk_put (cs := #[.int .i64 0, .int .i64 0, .int .i64 0, .int .i64 0, .int .i64 0, .string ⟨#[]⟩]) ?_ 2 _ rfl; refine blk_put (cs := #[.int .i64 0, .int .i64 0, .int .i64 0, .int .i64 0, .int .i64 0, .string ⟨#[]⟩]) ?_ 1 _ rfl; refine blk_put (cs := #[.int .i64 0, .int .i64 0, .int .i64 0, .int .i64 0, .int .i64 0, .string ⟨#[]⟩]) ?_ 0 _ rfl; exact BR4.out) Try.underlying23 rfl (by kernel_rfl)) rfl ?_
              have HZ := HH.out
              unfold decF at HZ
              rw [if_neg (by intro hz; have := hz.2.2.2.1; rw [HI.out] at this; exact Bool.false_ne_true this)] at HZ
              have HZ := Option.some.inj HZ
              simp only [Prod.mk.injEq] at HZ
              obtain ⟨rfl, rfl, rfl, rfl, rfl, rfl, rfl⟩ := HZ
              exact ⟨rfl, (((((HB4.out.setCell (Nat.le_refl _) _).setCell (Nat.le_refl _) _).setCell (Nat.le_refl _) _).setCell (Nat.le_refl _) _).setCell (Nat.le_refl _) _).setCell (Nat.le_refl _) _⟩
          · have ix : ∀ W : World, (Instr.index 109 (.agg #[.pointer (some ⟨w1.heap.size, 0, none⟩), .pointer (some ⟨w1.heap.size, 1, none⟩), .pointer (some ⟨w1.heap.size, 2, none⟩), .pointer (some ⟨w1.heap.size, 3, none⟩), .pointer (some ⟨w1.heap.size, 4, none⟩)]) (.int .i64 4)).run Try.prog W = .ok (.pointer (some ⟨w1.heap.size, 4, none⟩)) W := fun _ => by kernel_rfl
            have HT := Aside0.mk (codec_TakeNumber.calls (decS s 4) 1099511627776 _ _ _ wr (by unfold codec_TakeNumber.f; rw [if_pos (Nat.le_trans (decS_size s 4) HS.out)]))
            have HN := Aside0.mk (show w.heap.size ≠ w1.heap.size from Nat.ne_of_lt HX.out.2.2.2.1)
            cases hI : decIs s 4 with
            | true =>
              have ht := HT.out
              rw [show (takeN (decS s 4) 1099511627776).2.2 = true from hI] at ht
              have HT2 := Aside0.mk ht
              have HI := Aside0.mk hI
              clear ht hI HT
              go_wp2_with (first | (go_at_call 110; (with_reducible refine HT2.out.mono ?_); rintro e w3 ⟨rfl, hb3⟩; have BT := Aside0.mk ((hb3.block w1.heap.size (heap_lt HX.out.2.1)).trans HX.out.2.1); have hc3 : w3.cell? ⟨w1.heap.size, 4, none⟩ = some (.int .i64 0) := (blk_cell BT.out 4).trans rfl; have hf3 : w3.frozen? ⟨w1.heap.size, 4, none⟩ = false := blk_frozen BT.out 4; have HB3 := Aside0.mk hb3; clear hb3))
              go_roundw
              case rel => exact ⟨5, by omega, by go_num, rfl, rfl, ⟨dec_step w w1.heap.size s 4 wr w3 HX.out HI.out HB3.out rfl⟩⟩
              case measure => simp [intOf]
            | false =>
              have ht := HT.out
              rw [show (takeN (decS s 4) 1099511627776).2.2 = false from hI] at ht
              have HT2 := Aside0.mk ht
              have HI := Aside0.mk hI
              clear ht hI HT
              go_upto_if 35 with (first | (go_at_call 110; (with_reducible refine HT2.out.mono ?_); rintro e w3 ⟨rfl, hb3⟩; have BT := Aside0.mk ((hb3.block w1.heap.size (heap_lt HX.out.2.1)).trans HX.out.2.1); have hc3 : w3.cell? ⟨w1.heap.size, 4, none⟩ = some (.int .i64 0) := (blk_cell BT.out 4).trans rfl; have hf3 : w3.frozen? ⟨w1.heap.size, 4, none⟩ = false := blk_frozen BT.out 4; have HB3 := Aside0.mk hb3; clear hb3))
              generalize hw4 : World.setCell w3 _ _ = w4
              have B4 : w4.heap[w.heap.size]? = some (.cells #[.int .i64 0, .int .i64 0, .int .i64 0, .int .i64 0, .int .i64 0, .string ⟨#[]⟩] 23 (0, 0)) := by rw [← hw4]; exact blk_far ((HB3.out.block w.heap.size (heap_lt HX.out.1)).trans HX.out.1) (p := ⟨w1.heap.size, 4, none⟩) HN.out _
              have hb4 : Below w.heap.size w w4 := by rw [← hw4]; exact (below_step HX.out.2.2.1 HB3.out).setCell (p := ⟨w1.heap.size, 4, none⟩) (Nat.le_of_lt HX.out.2.2.2.1) _
              have hr0 : w4.cell? ⟨w.heap.size, 0, none⟩ = some (.int .i64 0) := (blk_cell B4 0).trans rfl
              have hr1 : w4.cell? ⟨w.heap.size, 1, none⟩ = some (.int .i64 0) := (blk_cell B4 1).trans rfl
              have hr2 : w4.cell? ⟨w.heap.size, 2, none⟩ = some (.int .i64 0) := (blk_cell B4 2).trans rfl
              have hr3 : w4.cell? ⟨w.heap.size, 3, none⟩ = some (.int .i64 0) := (blk_cell B4 3).trans rfl
              have hr4 : w4.cell? ⟨w.heap.size, 4, none⟩ = some (.int .i64 0) := (blk_cell B4 4).trans rfl
              have hr5 : w4.cell? ⟨w.heap.size, 5, none⟩ = some (.string ⟨#[]⟩) := (blk_cell B4 5).trans rfl
              have hg0 : w4.frozen? ⟨w.heap.size, 0, none⟩ = false := blk_frozen B4 0
              have hg1 : w4.frozen? ⟨w.heap.size, 1, none⟩ = false := blk_frozen B4 1
              have hg2 : w4.frozen? ⟨w.heap.size, 2, none⟩ = false := blk_frozen B4 2
              have hg3 : w4.frozen? ⟨w.heap.size, 3, none⟩ = false := blk_frozen B4 3
              have hg4 : w4.frozen? ⟨w.heap.size, 4, none⟩ = false := blk_frozen B4 4
              have hg5 : w4.frozen? ⟨w.heap.size, 5, none⟩ = false := blk_frozen B4 5
              have BR4 := Aside0.mk B4
              have HB4 := Aside0.mk hb4
              clear B4 hb4 hw4 hc3 hf3 ix
              go_wp2_with (fail)
              refine bodyPost_ret (results_ct rfl _ _ w.heap.size 23 #[.int .i64 0, .int .i64 0, .int .i64 0, .int .i64 0, .int .i64 0, .string ⟨#[]⟩] (0, 0) _ rfl (by refine blk_put (cs := #[.int .i64 0, .int .i64 0, .int .i64 0, .int .i64 0, .int .i64 0, .string ⟨#[]⟩]) ?_ 5 _ rfl; refine blk_put (cs := #[.int .i64 0, .int .i64 0, .int .i64 0, .int .i64 0, .int .i64 0, .string ⟨#[]⟩]) ?_ 4 _ rfl; refine blk_put (cs := #[.int .i64 0, .int .i64 0, .int .i64 0, .int .i64 0, .int .i64 0, .string ⟨#[]⟩]) ?_ 3 _ rfl; refine blk_put (cs := #[.int .i64 0, .int .i64 0, .int .i64 0, .int .i64 0, .int .i64 0, .string ⟨#[]⟩]) ?_ 2 _ rfl; refine blk_put (cs := #[.int .i64 0, .int .i64 0, .int .i64 0, .int .i64 0, .int .i64 0, .string ⟨#[]⟩]) ?_ 1 _ rfl; refine blk_put (cs := #[.int .i64 0, .int .i64 0, .int .i64 0, .int .i64 0, .int .i64 0, .string ⟨#[]⟩]) ?_ 0 _ rfl; exact BR4.out) Try.underlying23 rfl (by kernel_rfl)) rfl ?_
              have HZ := HH.out
              unfold decF at HZ
              rw [if_neg (by intro hz; have := hz.2.2.2.2; rw [HI.out] at this; exact Bool.false_ne_true this)] at HZ
              have HZ := Option.some.inj HZ
              simp only [Prod.mk.injEq] at HZ
              obtain ⟨rfl, rfl, rfl, rfl, rfl, rfl, rfl⟩ := HZ
              exact ⟨rfl, (((((HB4.out.setCell (Nat.le_refl _) _).setCell (Nat.le_refl _) _).setCell (Nat.le_refl _) _).setCell (Nat.le_refl _) _).setCell (Nat.le_refl _) _).setCell (Nat.le_refl _) _⟩
          · have HN := Aside0.mk (show w.heap.size ≠ w1.heap.size from Nat.ne_of_lt HX.out.2.2.2.1)
            rcases hX : takeTx (decS s 5) with ⟨D, R, b⟩
            have HX5 := Aside0.mk hX
            have hT := codec_TakeText.calls (decS s 5) 256 D R b wr (by unfold codec_TakeText.f; rw [if_pos (Nat.le_trans (decS_size s 5) HS.out)]; exact congrArg some hX)
            have HT := Aside0.mk hT
            have HJ := Aside0.mk (show decIs s 0 = true ∧ decIs s 1 = true ∧ decIs s 2 = true ∧ decIs s 3 = true ∧ decIs s 4 = true from ⟨HX.out.2.2.2.2 0 (by omega), HX.out.2.2.2.2 1 (by omega), HX.out.2.2.2.2 2 (by omega), HX.out.2.2.2.2 3 (by omega), HX.out.2.2.2.2 4 (by omega)⟩)
            clear hT hX
            cases b with
            | false =>
              go_upto_if 55 with (first | (go_at_call 111; (with_reducible refine HT.out.mono ?_); rintro e w3 ⟨rfl, hb3⟩; have BT := Aside0.mk ((hb3.block w1.heap.size (heap_lt HX.out.2.1)).trans HX.out.2.1); have hc3 : w3.cell? ⟨w1.heap.size, 5, none⟩ = some (.string ⟨#[]⟩) := (blk_cell BT.out 5).trans rfl; have hf3 : w3.frozen? ⟨w1.heap.size, 5, none⟩ = false := blk_frozen BT.out 5; have HB3 := Aside0.mk hb3; clear hb3))
              generalize hw4 : World.setCell w3 _ _ = w4
              have B4 : w4.heap[w.heap.size]? = some (.cells #[.int .i64 0, .int .i64 0, .int .i64 0, .int .i64 0, .int .i64 0, .string ⟨#[]⟩] 23 (0, 0)) := by rw [← hw4]; exact blk_far ((HB3.out.block w.heap.size (heap_lt HX.out.1)).trans HX.out.1) (p := ⟨w1.heap.size, 5, none⟩) HN.out _
              have hb4 : Below w.heap.size w w4 := by rw [← hw4]; exact (below_step HX.out.2.2.1 HB3.out).setCell (p := ⟨w1.heap.size, 5, none⟩) (Nat.le_of_lt HX.out.2.2.2.1) _
              have hr0 : w4.cell? ⟨w.heap.size, 0, none⟩ = some (.int .i64 0) := (blk_cell B4 0).trans rfl
              have hr1 : w4.cell? ⟨w.heap.size, 1, none⟩ = some (.int .i64 0) := (blk_cell B4 1).trans rfl
              have hr2 : w4.cell? ⟨w.heap.size, 2, none⟩ = some (.int .i64 0) := (blk_cell B4 2).trans rfl
              have hr3 : w4.cell? ⟨w.heap.size, 3, none⟩ = some (.int .i64 0) := (blk_cell B4 3).trans rfl
              have hr4 : w4.cell? ⟨w.heap.size, 4, none⟩ = some (.int .i64 0) := (blk_cell B4 4).trans rfl
              have hr5 : w4.cell? ⟨w.heap.size, 5, none⟩ = some (.string ⟨#[]⟩) := (blk_cell B4 5).trans rfl
              have hg0 : w4.frozen? ⟨w.heap.size, 0, none⟩ = false := blk_frozen B4 0
              have hg1 : w4.frozen? ⟨w.heap.size, 1, none⟩ = false := blk_frozen B4 1
              have hg2 : w4.frozen? ⟨w.heap.size, 2, none⟩ = false := blk_frozen B4 2
              have hg3 : w4.frozen? ⟨w.heap.size, 3, none⟩ = false := blk_frozen B4 3
              have hg4 : w4.frozen? ⟨w.heap.size, 4, none⟩ = false := blk_frozen B4 4
              have hg5 : w4.frozen? ⟨w.heap.size, 5, none⟩ = false := blk_frozen B4 5
              have BR4 := Aside0.mk B4
              have HB4 := Aside0.mk hb4
              clear hb4 hw4
              clear B4 hc3 hf3
              go_wp2_with (fail)
              refine bodyPost_ret (results_ct rfl _ _ w.heap.size 23 #[.int .i64 0, .int .i64 0, .int .i64 0, .int .i64 0, .int .i64 0, .string ⟨#[]⟩] (0, 0) _ rfl (by refine blk_put (cs := #[.int .i64 0, .int .i64 0, .int .i64 0, .int .i64 0, .int .i64 0, .string ⟨#[]⟩]) ?_ 5 _ rfl; refine blk_put (cs := #[.int .i64 0, .int .i64 0, .int .i64 0, .int .i64 0, .int .i64 0, .string ⟨#[]⟩]) ?_ 4 _ rfl; refine blk_put (cs := #[.int .i64 0, .int .i64 0, .int .i64 0, .int .i64 0, .int .i64 0, .string ⟨#[]⟩]) ?_ 3 _ rfl; refine blk_put (cs := #[.int .i64 0, .int .i64 0, .int .i64 0, .int .i64 0, .int .i64 0, .string ⟨#[]⟩]) ?_ 2 _ rfl; refine blk_put (cs := #[.int .i64 0, .int .i64 0, .int .i64 0, .int .i64 0, .int .i64 0, .string ⟨#[]⟩]) ?_ 1 _ rfl; refine blk_put (cs := #[.int .i64 0, .int .i64 0, .int .i64 0, .int .i64 0, .int .i64 0, .string ⟨#[]⟩]) ?_ 0 _ rfl; exact BR4.out) Try.underlying23 rfl (by kernel_rfl)) rfl ?_
              have HZ := HH.out
              unfold decF at HZ
              rw [if_pos HJ.out, HX5.out, if_neg (by simp)] at HZ
              have HZ := Option.some.inj HZ
              simp only [Prod.mk.injEq] at HZ
              obtain ⟨rfl, rfl, rfl, rfl, rfl, rfl, rfl⟩ := HZ
              exact ⟨rfl, (((((HB4.out.setCell (Nat.le_refl _) _).setCell (Nat.le_refl _) _).setCell (Nat.le_refl _) _).setCell (Nat.le_refl _) _).setCell (Nat.le_refl _) _).setCell (Nat.le_refl _) _⟩
            | true =>
              by_cases hR : R.size = 0
              · obtain rfl : R = ⟨#[]⟩ := ByteArray.ext (Array.eq_empty_of_size_eq_zero hR)
                obtain ⟨c, hc⟩ : ∃ c, txn_Check.f (decN s 0) (decN s 1) (decN s 2) (decN s 3) (decN s 4) D = some c := by
                  have HZ := HH.out
                  unfold decF at HZ
                  rw [if_pos HJ.out, HX5.out, if_pos rfl, if_pos (show ((D, (⟨#[]⟩ : ByteArray), true) : ByteArray × ByteArray × Bool).2.1.size = 0 from rfl)] at HZ
                  obtain ⟨c, hc, _⟩ := Option.bind_eq_some_iff.1 HZ
                  exact ⟨c, hc⟩
                have HC := Aside0.mk hc
                have HZ0 := Aside0.mk (show (if c = true then some (decN s 0, decN s 1, decN s 2, decN s 3, decN s 4, D, true) else some (0, 0, 0, 0, 0, (⟨#[]⟩ : ByteArray), false)) = some (r1, r2, r3, r4, r5, r6, r7) by
                  have HZ := HH.out
                  unfold decF at HZ
                  rw [if_pos HJ.out, HX5.out, if_pos rfl, if_pos (show ((D, (⟨#[]⟩ : ByteArray), true) : ByteArray × ByteArray × Bool).2.1.size = 0 from rfl), hc] at HZ
                  exact HZ)
                clear hc hR
                go_upto_region 13 with (first | (go_at_call 111; (with_reducible refine HT.out.mono ?_); rintro e w3 ⟨rfl, hb3⟩; have BT := Aside0.mk ((hb3.block w1.heap.size (heap_lt HX.out.2.1)).trans HX.out.2.1); have hc3 : w3.cell? ⟨w1.heap.size, 5, none⟩ = some (.string ⟨#[]⟩) := (blk_cell BT.out 5).trans rfl; have hf3 : w3.frozen? ⟨w1.heap.size, 5, none⟩ = false := blk_frozen BT.out 5; have HB3 := Aside0.mk hb3; clear hb3))
                generalize hw4 : World.setCell w3 _ _ = w4
                have BX4 : w4.heap[w1.heap.size]? = some (.cells (decCells s 5 D) 23 (0, 0)) := by rw [← hw4]; exact blk_put (cs := decCells s 5 ⟨#[]⟩) BT.out 5 _ rfl
                have HBX4 := Aside0.mk BX4
                have hc0 : w4.cell? ⟨w1.heap.size, 0, none⟩ = some (.int .i64 (decN s 0)) := (blk_cell BX4 0).trans rfl
                have hc1 : w4.cell? ⟨w1.heap.size, 1, none⟩ = some (.int .i64 (decN s 1)) := (blk_cell BX4 1).trans rfl
                have hc2 : w4.cell? ⟨w1.heap.size, 2, none⟩ = some (.int .i64 (decN s 2)) := (blk_cell BX4 2).trans rfl
                have hc3' : w4.cell? ⟨w1.heap.size, 3, none⟩ = some (.int .i64 (decN s 3)) := (blk_cell BX4 3).trans rfl
                have hc4 : w4.cell? ⟨w1.heap.size, 4, none⟩ = some (.int .i64 (decN s 4)) := (blk_cell BX4 4).trans rfl
                have hc5 : w4.cell? ⟨w1.heap.size, 5, none⟩ = some (.string D) := (blk_cell BX4 5).trans rfl
                have B4 : w4.heap[w.heap.size]? = some (.cells #[.int .i64 0, .int .i64 0, .int .i64 0, .int .i64 0, .int .i64 0, .string ⟨#[]⟩] 23 (0, 0)) := by rw [← hw4]; exact blk_far ((HB3.out.block w.heap.size (heap_lt HX.out.1)).trans HX.out.1) (p := ⟨w1.heap.size, 5, none⟩) HN.out _
                have hb4 : Below w.heap.size w w4 := by rw [← hw4]; exact (below_step HX.out.2.2.1 HB3.out).setCell (p := ⟨w1.heap.size, 5, none⟩) (Nat.le_of_lt HX.out.2.2.2.1) _
                have BR4 := Aside0.mk B4
                have HB4 := Aside0.mk hb4
                clear hb4 hw4
                clear B4
                clear BX4 hc3 hf3
                cases c with
                | false =>
                  go_upto_if 55 with (first | (go_at_call 38; (with_reducible refine (txn_Check.calls _ _ _ _ _ _ false _ HC.out).mono ?_); rintro e w5 ⟨rfl, hb5⟩; have BR5 := Aside0.mk ((hb5.block w.heap.size (heap_lt BR4.out)).trans BR4.out); have HBX5 := Aside0.mk ((hb5.block w1.heap.size (heap_lt HBX4.out)).trans HBX4.out); have HB5 := Aside0.mk (below_step HB4.out hb5); clear hb5))
                  clear hc0 hc1 hc2 hc3' hc4 hc5
                  have B5 := BR5.out
                  have kr0 : w5.cell? ⟨w.heap.size, 0, none⟩ = some (.int .i64 0) := (blk_cell B5 0).trans rfl
                  have kr1 : w5.cell? ⟨w.heap.size, 1, none⟩ = some (.int .i64 0) := (blk_cell B5 1).trans rfl
                  have kr2 : w5.cell? ⟨w.heap.size, 2, none⟩ = some (.int .i64 0) := (blk_cell B5 2).trans rfl
                  have kr3 : w5.cell? ⟨w.heap.size, 3, none⟩ = some (.int .i64 0) := (blk_cell B5 3).trans rfl
                  have kr4 : w5.cell? ⟨w.heap.size, 4, none⟩ = some (.int .i64 0) := (blk_cell B5 4).trans rfl
                  have kr5 : w5.cell? ⟨w.heap.size, 5, none⟩ = some (.string ⟨#[]⟩) := (blk_cell B5 5).trans rfl
                  have kg0 : w5.frozen? ⟨w.heap.size, 0, none⟩ = false := blk_frozen B5 0
                  have kg1 : w5.frozen? ⟨w.heap.size, 1, none⟩ = false := blk_frozen B5 1
                  have kg2 : w5.frozen? ⟨w.heap.size, 2, none⟩ = false := blk_frozen B5 2
                  have kg3 : w5.frozen? ⟨w.heap.size, 3, none⟩ = false := blk_frozen B5 3
                  have kg4 : w5.frozen? ⟨w.heap.size, 4, none⟩ = false := blk_frozen B5 4
                  have kg5 : w5.frozen? ⟨w.heap.size, 5, none⟩ = false := blk_frozen B5 5
                  clear B5
                  go_wp2_with (fail)
                  refine bodyPost_ret (results_ct rfl _ _ w.heap.size 23 #[.int .i64 0, .int .i64 0, .int .i64 0, .int .i64 0, .int .i64 0, .string ⟨#[]⟩] (0, 0) _ rfl (by refine blk_put (cs := #[.int .i64 0, .int .i64 0, .int .i64 0, .int .i64 0, .int .i64 0, .string ⟨#[]⟩]) ?_ 5 _ rfl; refine blk_put (cs := #[.int .i64 0, .int .i64 0, .int .i64 0, .int .i64 0, .int .i64 0, .string ⟨#[]⟩]) ?_ 4 _ rfl; refine blk_put (cs := #[.int .i64 0, .int .i64 0, .int .i64 0, .int .i64 0, .int .i64 0, .string ⟨#[]⟩]) ?_ 3 _ rfl; refine blk_put (cs := #[.int .i64 0, .int .i64 0, .int .i64 0, .int .i64 0, .int .i64 0, .string ⟨#[]⟩]) ?_ 2 _ rfl; refine blk_put (cs := #[.int .i64 0, .int .i64 0, .int .i64 0, .int .i64 0, .int .i64 0, .string ⟨#[]⟩]) ?_ 1 _ rfl; refine blk_put (cs := #[.int .i64 0, .int .i64 0, .int .i64 0, .int .i64 0, .int .i64 0, .string ⟨#[]⟩]) ?_ 0 _ rfl; exact BR5.out) Try.underlying23 rfl (by kernel_rfl)) rfl ?_
                  have HZ := HZ0.out
                  rw [if_neg (by simp)] at HZ
                  have HZ := Option.some.inj HZ
                  simp only [Prod.mk.injEq] at HZ
                  obtain ⟨rfl, rfl, rfl, rfl, rfl, rfl, rfl⟩ := HZ
                  exact ⟨rfl, (((((HB5.out.setCell (Nat.le_refl _) _).setCell (Nat.le_refl _) _).setCell (Nat.le_refl _) _).setCell (Nat.le_refl _) _).setCell (Nat.le_refl _) _).setCell (Nat.le_refl _) _⟩
                | true =>
                  go_upto_if 55 with (first | (go_at_call 38; (with_reducible refine (txn_Check.calls _ _ _ _ _ _ true _ HC.out).mono ?_); rintro e w5 ⟨rfl, hb5⟩; have BR5 := Aside0.mk ((hb5.block w.heap.size (heap_lt BR4.out)).trans BR4.out); have HBX5 := Aside0.mk ((hb5.block w1.heap.size (heap_lt HBX4.out)).trans HBX4.out); have HB5 := Aside0.mk (below_step HB4.out hb5); clear hb5))
                  clear hc0 hc1 hc2 hc3' hc4 hc5
                  have B5 := BR5.out
                  have kr0 : w5.cell? ⟨w.heap.size, 0, none⟩ = some (.int .i64 0) := (blk_cell B5 0).trans rfl
                  have kr1 : w5.cell? ⟨w.heap.size, 1, none⟩ = some (.int .i64 0) := (blk_cell B5 1).trans rfl
                  have kr2 : w5.cell? ⟨w.heap.size, 2, none⟩ = some (.int .i64 0) := (blk_cell B5 2).trans rfl
                  have kr3 : w5.cell? ⟨w.heap.size, 3, none⟩ = some (.int .i64 0) := (blk_cell B5 3).trans rfl
                  have kr4 : w5.cell? ⟨w.heap.size, 4, none⟩ = some (.int .i64 0) := (blk_cell B5 4).trans rfl
                  have kr5 : w5.cell? ⟨w.heap.size, 5, none⟩ = some (.string ⟨#[]⟩) := (blk_cell B5 5).trans rfl
                  have kg0 : w5.frozen? ⟨w.heap.size, 0, none⟩ = false := blk_frozen B5 0
                  have kg1 : w5.frozen? ⟨w.heap.size, 1, none⟩ = false := blk_frozen B5 1
                  have kg2 : w5.frozen? ⟨w.heap.size, 2, none⟩ = false := blk_frozen B5 2
                  have kg3 : w5.frozen? ⟨w.heap.size, 3, none⟩ = false := blk_frozen B5 3
                  have kg4 : w5.frozen? ⟨w.heap.size, 4, none⟩ = false := blk_frozen B5 4
                  have kg5 : w5.frozen? ⟨w.heap.size, 5, none⟩ = false := blk_frozen B5 5
                  clear B5
                  have BX5 := HBX5.out
                  have hd0 : w5.cell? ⟨w1.heap.size, 0, none⟩ = some (.int .i64 (decN s 0)) := (blk_cell BX5 0).trans rfl
                  have hd1 : w5.cell? ⟨w1.heap.size, 1, none⟩ = some (.int .i64 (decN s 1)) := (blk_cell BX5 1).trans rfl
                  have hd2 : w5.cell? ⟨w1.heap.size, 2, none⟩ = some (.int .i64 (decN s 2)) := (blk_cell BX5 2).trans rfl
                  have hd3 : w5.cell? ⟨w1.heap.size, 3, none⟩ = some (.int .i64 (decN s 3)) := (blk_cell BX5 3).trans rfl
                  have hd4 : w5.cell? ⟨w1.heap.size, 4, none⟩ = some (.int .i64 (decN s 4)) := (blk_cell BX5 4).trans rfl
                  have hd5 : w5.cell? ⟨w1.heap.size, 5, none⟩ = some (.string D) := (blk_cell BX5 5).trans rfl
                  clear BX5
                  go_wp2_with (fail)
                  refine bodyPost_ret (results_ct rfl _ _ w.heap.size 23 #[.int .i64 (decN s 0), .int .i64 (decN s 1), .int .i64 (decN s 2), .int .i64 (decN s 3), .int .i64 (decN s 4), .string D] (0, 0) _ rfl (by refine blk_put (cs := #[.int .i64 (decN s 0), .int .i64 (decN s 1), .int .i64 (decN s 2), .int .i64 (decN s 3), .int .i64 (decN s 4), .string ⟨#[]⟩]) ?_ 5 _ rfl; refine blk_put (cs := #[.int .i64 (decN s 0), .int .i64 (decN s 1), .int .i64 (decN s 2), .int .i64 (decN s 3), .int .i64 0, .string ⟨#[]⟩]) ?_ 4 _ rfl; refine blk_put (cs := #[.int .i64 (decN s 0), .int .i64 (decN s 1), .int .i64 (decN s 2), .int .i64 0, .int .i64 0, .string ⟨#[]⟩]) ?_ 3 _ rfl; refine blk_put (cs := #[.int .i64 (decN s 0), .int .i64 (decN s 1), .int .i64 0, .int .i64 0, .int .i64 0, .string ⟨#[]⟩]) ?_ 2 _ rfl; refine blk_put (cs := #[.int .i64 (decN s 0), .int .i64 0, .int .i64 0, .int .i64 0, .int .i64 0, .string ⟨#[]⟩]) ?_ 1 _ rfl; refine blk_put (cs := #[.int .i64 0, .int .i64 0, .int .i64 0, .int .i64 0, .int .i64 0, .string ⟨#[]⟩]) ?_ 0 _ rfl; exact BR5.out) Try.underlying23 rfl (by kernel_rfl)) rfl ?_
                  have HZ := HZ0.out
                  rw [if_pos trivial] at HZ
                  have HZ := Option.some.inj HZ
                  simp only [Prod.mk.injEq] at HZ
                  obtain ⟨rfl, rfl, rfl, rfl, rfl, rfl, rfl⟩ := HZ
                  exact ⟨rfl, (((((HB5.out.setCell (Nat.le_refl _) _).setCell (Nat.le_refl _) _).setCell (Nat.le_refl _) _).setCell (Nat.le_refl _) _).setCell (Nat.le_refl _) _).setCell (Nat.le_refl _) _⟩
              · have hne : ¬ R.toList = [] := fun hl => hR (by
                  have z : R.data.toList = [] := (ByteArray.toList_eq R).symm.trans hl
                  have z2 : R.data.size = 0 := by rw [← Array.length_toList, z]; rfl
                  exact z2)
                have hn1 : R.toList.isEmpty = false := by rw [List.isEmpty_eq_false_iff]; exact hne
                have hn2 : (!R.toList.isEmpty) = true := by rw [hn1]; rfl
                go_upto_if 55 with (first | (go_at_call 111; (with_reducible refine HT.out.mono ?_); rintro e w3 ⟨rfl, hb3⟩; have BT := Aside0.mk ((hb3.block w1.heap.size (heap_lt HX.out.2.1)).trans HX.out.2.1); have hc3 : w3.cell? ⟨w1.heap.size, 5, none⟩ = some (.string ⟨#[]⟩) := (blk_cell BT.out 5).trans rfl; have hf3 : w3.frozen? ⟨w1.heap.size, 5, none⟩ = false := blk_frozen BT.out 5; have HB3 := Aside0.mk hb3; clear hb3))
                generalize hw4 : World.setCell w3 _ _ = w4
                have B4 : w4.heap[w.heap.size]? = some (.cells #[.int .i64 0, .int .i64 0, .int .i64 0, .int .i64 0, .int .i64 0, .string ⟨#[]⟩] 23 (0, 0)) := by rw [← hw4]; exact blk_far ((HB3.out.block w.heap.size (heap_lt HX.out.1)).trans HX.out.1) (p := ⟨w1.heap.size, 5, none⟩) HN.out _
                have hb4 : Below w.heap.size w w4 := by rw [← hw4]; exact (below_step HX.out.2.2.1 HB3.out).setCell (p := ⟨w1.heap.size, 5, none⟩) (Nat.le_of_lt HX.out.2.2.2.1) _
                have hr0 : w4.cell? ⟨w.heap.size, 0, none⟩ = some (.int .i64 0) := (blk_cell B4 0).trans rfl
                have hr1 : w4.cell? ⟨w.heap.size, 1, none⟩ = some (.int .i64 0) := (blk_cell B4 1).trans rfl
                have hr2 : w4.cell? ⟨w.heap.size, 2, none⟩ = some (.int .i64 0) := (blk_cell B4 2).trans rfl
                have hr3 : w4.cell? ⟨w.heap.size, 3, none⟩ = some (.int .i64 0) := (blk_cell B4 3).trans rfl
                have hr4 : w4.cell? ⟨w.heap.size, 4, none⟩ = some (.int .i64 0) := (blk_cell B4 4).trans rfl
                have hr5 : w4.cell? ⟨w.heap.size, 5, none⟩ = some (.string ⟨#[]⟩) := (blk_cell B4 5).trans rfl
                have hg0 : w4.frozen? ⟨w.heap.size, 0, none⟩ = false := blk_frozen B4 0
                have hg1 : w4.frozen? ⟨w.heap.size, 1, none⟩ = false := blk_frozen B4 1
                have hg2 : w4.frozen? ⟨w.heap.size, 2, none⟩ = false := blk_frozen B4 2
                have hg3 : w4.frozen? ⟨w.heap.size, 3, none⟩ = false := blk_frozen B4 3
                have hg4 : w4.frozen? ⟨w.heap.size, 4, none⟩ = false := blk_frozen B4 4
                have hg5 : w4.frozen? ⟨w.heap.size, 5, none⟩ = false := blk_frozen B4 5
                have BR4 := Aside0.mk B4
                have HB4 := Aside0.mk hb4
                clear hb4 hw4
                clear B4 hc3 hf3
                have HR := Aside0.mk hR
                clear hR
                go_wp2_with (fail)
                refine bodyPost_ret (results_ct rfl _ _ w.heap.size 23 #[.int .i64 0, .int .i64 0, .int .i64 0, .int .i64 0, .int .i64 0, .string ⟨#[]⟩] (0, 0) _ rfl (by refine blk_put (cs := #[.int .i64 0, .int .i64 0, .int .i64 0, .int .i64 0, .int .i64 0, .string ⟨#[]⟩]) ?_ 5 _ rfl; refine blk_put (cs := #[.int .i64 0, .int .i64 0, .int .i64 0, .int .i64 0, .int .i64 0, .string ⟨#[]⟩]) ?_ 4 _ rfl; refine blk_put (cs := #[.int .i64 0, .int .i64 0, .int .i64 0, .int .i64 0, .int .i64 0, .string ⟨#[]⟩]) ?_ 3 _ rfl; refine blk_put (cs := #[.int .i64 0, .int .i64 0, .int .i64 0, .int .i64 0, .int .i64 0, .string ⟨#[]⟩]) ?_ 2 _ rfl; refine blk_put (cs := #[.int .i64 0, .int .i64 0, .int .i64 0, .int .i64 0, .int .i64 0, .string ⟨#[]⟩]) ?_ 1 _ rfl; refine blk_put (cs := #[.int .i64 0, .int .i64 0, .int .i64 0, .int .i64 0, .int .i64 0, .string ⟨#[]⟩]) ?_ 0 _ rfl; exact BR4.out) Try.underlying23 rfl (by kernel_rfl)) rfl ?_
                have HZ := HH.out
                unfold decF at HZ
                rw [if_pos HJ.out, HX5.out, if_pos rfl, if_neg (show ¬ ((D, R, true) : ByteArray × ByteArray × Bool).2.1.size = 0 from HR.out)] at HZ
                have HZ := Option.some.inj HZ
                simp only [Prod.mk.injEq] at HZ
                obtain ⟨rfl, rfl, rfl, rfl, rfl, rfl, rfl⟩ := HZ
                exact ⟨rfl, (((((HB4.out.setCell (Nat.le_refl _) _).setCell (Nat.le_refl _) _).setCell (Nat.le_refl _) _).setCell (Nat.le_refl _) _).setCell (Nat.le_refl _) _).setCell (Nat.le_refl _) _⟩
      · rw [if_neg hs] at h; cases h
  · rw [if_neg hz] at h; cases h


end Go.Proofs.Ytihlogdmdmhefaa.L
