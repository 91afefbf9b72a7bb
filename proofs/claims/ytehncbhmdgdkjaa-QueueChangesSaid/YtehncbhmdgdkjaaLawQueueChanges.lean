/- Written by this session's own program over the kit's print: functions of Go told as plain functions, or the row of one statement; proved for every input, with no condition of ours. -/
import Derived.Test.YtehncbhmdgdkjaaRows
import Derived.Test.YtehncbhmdgdkjaaHead
import Derived.Test.YtehncbhmdgdkjaaQx15
import Derived.Test.YtehncbhmdgdkjaaPureQueueChanges
import Derived.Test.YtehncbhmdgdkjaaRow
import Derived.WalkKit
import Derived.ProofKit
import Derived.OpenShut
import Derived.ShutString
import Derived.ChangeOld
import Derived.Below
import Derived.SizedLaws
namespace Go.Proofs.Ytehncbhmdgdkjaa.queueChanges
open Go.ChangeShapes Go.WideShapes Go.ChangeAt Go.RowKit Go.Proofs.Ytehncbhmdgdkjaa.Q Go.Proofs.Ytehncbhmdgdkjaa.Row Go.Proofs.YtehncbhmdgdkjaaW.PrintWords
set_option linter.unusedVariables false
theorem own : ownKnob Try.prog.godebug = none := by kernel_rfl
theorem laidOut : laidOutB Try.prog = true := by kernel_rfl
theorem o24 (W : World) : Opens Try.prog W 24 k24 ok24 := by
  intro H enc base spare held fuel cs x h
  obtain ⟨xs, n, _, _, hl, hx, hf⟩ := DataW.trod_struct Try.underlying24 h
  have hl' : cs.length = k24.sz := hl.trans (by kernel_rfl)
  obtain ⟨y, hK, hok⟩ := of_at (f := fun x : S24 => (x.f0, x.f1, x.f2, x.f3, x.f4, x.f5)) (fun x => ⟨x.1, x.2.1, x.2.2.1, x.2.2.2.1, x.2.2.2.2.1, x.2.2.2.2.2⟩) (fun _ => rfl) hl' (at_pair (at_field (i := 0) (o := 0) (cs := cs) (xs := xs) (opens_int Try.underlying3) (by rw [hx]; exact (by decide)) (by kernel_rfl) (hf 0 _ rfl)) (at_pair (at_field (i := 1) (o := 1) (cs := cs) (xs := xs) (opens_int Try.underlying3) (by rw [hx]; exact (by decide)) (by kernel_rfl) (hf 1 _ rfl)) (at_pair (at_field (i := 2) (o := 2) (cs := cs) (xs := xs) (opens_int Try.underlying3) (by rw [hx]; exact (by decide)) (by kernel_rfl) (hf 2 _ rfl)) (at_pair (at_field (i := 3) (o := 3) (cs := cs) (xs := xs) (opens_int Try.underlying3) (by rw [hx]; exact (by decide)) (by kernel_rfl) (hf 3 _ rfl)) (at_pair (at_field (i := 4) (o := 4) (cs := cs) (xs := xs) (opens_int Try.underlying3) (by rw [hx]; exact (by decide)) (by kernel_rfl) (hf 4 _ rfl)) (at_field (i := 5) (o := 5) (cs := cs) (xs := xs) (opens_string Try.underlying9) (by rw [hx]; exact (by decide)) (by kernel_rfl) (hf 5 _ rfl)))))))
  exact ⟨y, hK, hok⟩
theorem o46 (W : World) : Opens Try.prog W 46 k46 ok46 := by
  intro H enc base spare held fuel cs x h
  obtain ⟨xs, n, _, _, hl, hx, hf⟩ := DataW.trod_struct Try.underlying46 h
  have hl' : cs.length = k46.sz := hl.trans (by kernel_rfl)
  obtain ⟨y, hK, hok⟩ := of_at (f := fun x : S46 => (x.f0, x.f1, x.f2)) (fun x => ⟨x.1, x.2.1, x.2.2⟩) (fun _ => rfl) hl' (at_pair (at_field (i := 0) (o := 0) (cs := cs) (xs := xs) (opens_int Try.underlying3) (by rw [hx]; exact (by decide)) (by kernel_rfl) (hf 0 _ rfl)) (at_pair (at_field (i := 1) (o := 1) (cs := cs) (xs := xs) (opens_int Try.underlying3) (by rw [hx]; exact (by decide)) (by kernel_rfl) (hf 1 _ rfl)) (at_field (i := 2) (o := 2) (cs := cs) (xs := xs) (opens_slice Try.underlying22 (by kernel_rfl) (o24 W)) (by rw [hx]; exact (by decide)) (by kernel_rfl) (hf 2 _ rfl))))
  exact ⟨y, hK, hok⟩
theorem o56 (W : World) : Opens Try.prog W 56 k56 ok56 := by
  intro H enc base spare held fuel cs x h
  obtain ⟨xs, n, _, _, hl, hx, hf⟩ := DataW.trod_array Try.underlying56 h
  have hl' : cs.length = k56.sz := hl.trans (by kernel_rfl)
  have hz : Try.prog.cellsOf 3 = 1 := by kernel_rfl
  have hf0 : DataW.trod enc Try.prog W base spare held n 3 ((cs.drop 0).take (Try.prog.cellsOf 3)) = xs[0]? := by have z := hf 0 (by decide); simp only [hz] at z ⊢; exact z
  have hf1 : DataW.trod enc Try.prog W base spare held n 3 ((cs.drop 1).take (Try.prog.cellsOf 3)) = xs[1]? := by have z := hf 1 (by decide); simp only [hz] at z ⊢; exact z
  have hf2 : DataW.trod enc Try.prog W base spare held n 3 ((cs.drop 2).take (Try.prog.cellsOf 3)) = xs[2]? := by have z := hf 2 (by decide); simp only [hz] at z ⊢; exact z
  obtain ⟨y, hK, hok⟩ := of_at (f := fun x : S56 => (x.f0, x.f1, x.f2)) (fun x => ⟨x.1, x.2.1, x.2.2⟩) (fun _ => rfl) hl' (at_pair (at_field (i := 0) (o := 0) (cs := cs) (xs := xs) (opens_int Try.underlying3) (by rw [hx]; exact (by decide)) (by kernel_rfl) (hf0)) (at_pair (at_field (i := 1) (o := 1) (cs := cs) (xs := xs) (opens_int Try.underlying3) (by rw [hx]; exact (by decide)) (by kernel_rfl) (hf1)) (at_field (i := 2) (o := 2) (cs := cs) (xs := xs) (opens_int Try.underlying3) (by rw [hx]; exact (by decide)) (by kernel_rfl) (hf2))))
  exact ⟨y, hK, hok⟩
set_option maxRecDepth 100000 in
theorem lifted (os : Os) (started : os.Started) (H : Type) (enc : TypeId × Value → H) :
    ReturnsInHanded {} Try.checked os 11 .any (Rows.queueChangesSpec.pre6 enc Try.prog Try.f11 Rows.queueChangesRow.domain false) (Rows.queueChangesSpec.post enc Try.prog Try.f11 false true false false) := by
  refine returnsInHanded_of_change_sized (C := Try.checked) own started (by kernel_rfl) Try.func11
    (ChangeSpec.witness6 (enc := enc) (C := Try.checked) false ⟨#[], #[.agg #[.int .i64 0, .int .i64 0, .slice none 0 0], .agg #[.int .i64 0, .int .i64 0, .int .i64 0, .int .i64 0, .int .i64 0, .string ByteArray.empty], .agg #[.int .i64 0, .int .i64 0, .int .i64 0]], []⟩ 8 (by kernel_rfl) (by kernel_rfl) (by kernel_rfl) (by kernel_rfl)) ?_
  intro W base args ds gs before hval0 hW hcnd hsz0 _
  have hval : ∀ (j : Nat) t v, Try.f11.params[j]? = some t → args[j]? = some v → Value.okWide Try.prog W .any base t v := hval0
  have hW' := hW
  obtain ⟨p, q, hA0, hV, rfl, hfz, hnd⟩ := hW
  have hA : DataW.TrodAll enc Try.prog W 0 (fun _ => true) true Try.f11.params.toList args.toList ds p := hA0
  rw [Try.params11] at hA hval
  obtain ⟨v0, vs0, d0, ds0, p0, q0, hargs, rfl, rfl, h0, r0⟩ := trodAll_cons hA
  obtain ⟨v1, vs1, d1, ds1, p1, q1, rfl, rfl, rfl, h1, r1⟩ := trodAll_cons r0
  obtain ⟨v2, vs2, d2, ds2, p2, q2, rfl, rfl, rfl, h2, r2⟩ := trodAll_cons r1
  obtain ⟨rfl, rfl, rfl⟩ := trodAll_nil r2
  obtain rfl : args = #[v0, v1, v2] := by cases args; simp_all
  obtain ⟨rfl, rfl⟩ := trodVars_none hV
  have k0 := h0
  have lt0 : ∀ x ∈ p0, x.block < W.heap.size := by obtain ⟨m, hm⟩ := k0; exact DataW.trod_lt m _ _ _ hm
  obtain ⟨cs0, rfl, hz0⟩ := okWide_struct Try.underlying46 (hval 0 46 v0 rfl rfl)
  obtain ⟨x0, hK0, ok0_⟩ : ∃ x, k46.K W x cs0.toList ∧ ok46 x := by obtain ⟨fuel, hf⟩ := h0; exact (o46 W) _ _ _ _ _ _ _ _ (by simpa [Value.cells] using hf)
  obtain ⟨A0_2, c0_2, he0, hc0_2, hr0_2⟩ := k46_open hK0
  obtain rfl := agg_of he0
  have k1 := h1
  have lt1 : ∀ x ∈ p1, x.block < W.heap.size := by obtain ⟨m, hm⟩ := k1; exact DataW.trod_lt m _ _ _ hm
  obtain ⟨cs1, rfl, hz1⟩ := okWide_struct Try.underlying24 (hval 1 24 v1 rfl rfl)
  obtain ⟨x1, hK1, ok1_⟩ : ∃ x, k24.K W x cs1.toList ∧ ok24 x := by obtain ⟨fuel, hf⟩ := h1; exact (o24 W) _ _ _ _ _ _ _ _ (by simpa [Value.cells] using hf)
  have he1 := k24_open hK1
  obtain rfl := agg_of he1
  have k2 := h2
  have lt2 : ∀ x ∈ p2, x.block < W.heap.size := by obtain ⟨m, hm⟩ := k2; exact DataW.trod_lt m _ _ _ hm
  obtain ⟨cs2, rfl, hz2⟩ := okWide_array Try.underlying56 (hval 2 56 v2 rfl rfl)
  obtain ⟨x2, hK2, ok2_⟩ : ∃ x, k56.K W x cs2.toList ∧ ok56 x := by obtain ⟨fuel, hf⟩ := h2; exact (o56 W) _ _ _ _ _ _ _ _ (by simpa [Value.cells] using hf)
  have he2 := k56_open hK2
  obtain rfl := agg_of he2
  clear hA0 hval0 hsz0
  obtain ⟨k, h⟩ := Pure.QueueChanges x0.f0 x0.f1 x0.f2 x1.f0 x1.f1 x1.f2 x1.f3 x1.f4 x1.f5 x2.f0 x2.f1 x2.f2 ok0_ ok1_ ok2_
  refine (hopperlaw05_QueueChanges.calls k x0.f0 x0.f1 A0_2 c0_2 x0.f2 x1.f0 x1.f1 x1.f2 x1.f3 x1.f4 x1.f5 x2.f0 x2.f1 x2.f2 true W hr0_2 hc0_2 h).mono fun e W' he => ?_
  obtain ⟨rfl, hb⟩ := he
  have bel : Below W.heap.size W W' := hb
  exact ⟨_, rfl, _, _, _, [], _, [], hW', trodAll_mk1 (shut_bool Try.underlying4 _), (trodAll_cons_mk (Below.trod laidOut (by kernel_rfl) (of_decide_eq_true (by kernel_rfl)) k0 bel lt0) (trodAll_cons_mk (Below.trod laidOut (by kernel_rfl) (of_decide_eq_true (by kernel_rfl)) k1 bel lt1) (trodAll_cons_mk (Below.trod laidOut (by kernel_rfl) (of_decide_eq_true (by kernel_rfl)) k2 bel lt2) trodAll_mk0))), rfl, bel.frame _, fun h => by cases h⟩
theorem closed : joinedFacts Try.pinned.checked.prog 11 Try.f11 Rows.queueChangesSpec Rows.queueChangesRow = true := by
  refine Head.closed_of (by with_unfolding_all rfl) ?_ Head.enter_ ?_ ?_ ?_ ?_ ?_ ?_
  · kernel_rfl
  · rw [show Try.pinned.checked.prog.liftsFinal = false from Head.lifts_]; rfl
  · rw [show Try.pinned.checked.prog.make = some .cut from Head.make_]; rfl
  · kernel_rfl
  · kernel_rfl
  · kernel_rfl
  · kernel_rfl
theorem over : Rows.queueChangesRow.holds Try.pinned (OpenSpec.ofChange Rows.queueChangesSpec) :=
  OpenClaim.holds_of_wide 11 Try.f11 rfl rfl rfl rfl rfl rfl rfl ⟨rfl, rfl, rfl, rfl, rfl⟩ rfl rfl rfl rfl rfl (by kernel_rfl) Try.func11 closed
    (of_decide_eq_true (by kernel_rfl)) (by unfold Func.isWrapper; first | (rw [if_pos (by decide +kernel)]; kernel_rfl) | (rw [if_neg (by decide +kernel)]; exact ⟨rfl, rfl⟩))
    (fun os started H enc _ => lifted os started H enc)
theorem proved : Rows.QueueChangesSaid := over
#print axioms proved
end Go.Proofs.Ytehncbhmdgdkjaa.queueChanges
namespace Go.Proofs.Ytehncbhmdgdkjaa
/-- The row, under a short name, for the claim. -/
theorem queueChanges_holds : Rows.QueueChangesSaid := queueChanges.proved
end Go.Proofs.Ytehncbhmdgdkjaa
