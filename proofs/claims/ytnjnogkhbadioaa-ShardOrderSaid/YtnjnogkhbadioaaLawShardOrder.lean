/- Written by this session's own program over the kit's print: functions of Go told as plain functions, or the row of one statement; proved for every input, with no condition of ours. -/
import Derived.Test.YtnjnogkhbadioaaRows
import Derived.Test.YtnjnogkhbadioaaHead
import Derived.Test.YtnjnogkhbadioaaDx15
import Derived.Test.YtnjnogkhbadioaaPureShardOrder
import Derived.Test.YtnjnogkhbadioaaRow
import Derived.WalkKit
import Derived.ProofKit
import Derived.OpenShut
import Derived.ShutString
import Derived.ChangeOld
import Derived.Below
import Derived.SizedLaws
namespace Go.Proofs.Ytnjnogkhbadioaa.shardOrder
open Go.ChangeShapes Go.WideShapes Go.ChangeAt Go.RowKit Go.Proofs.Ytnjnogkhbadioaa.D Go.Proofs.Ytnjnogkhbadioaa.Row Go.Proofs.YtnjnogkhbadioaaW.PrintWords
set_option linter.unusedVariables false
theorem own : ownKnob Try.prog.godebug = none := by kernel_rfl
theorem laidOut : laidOutB Try.prog = true := by kernel_rfl
theorem o32 (W : World) : Opens Try.prog W 32 k32 ok32 := by
  intro H enc base spare held fuel cs x h
  obtain ⟨xs, n, _, _, hl, hx, hf⟩ := DataW.trod_struct Try.underlying32 h
  have hl' : cs.length = k32.sz := hl.trans (by kernel_rfl)
  obtain ⟨y, hK, hok⟩ := of_at (f := fun x : S32 => (x.f0, x.f1, x.f2, x.f3, x.f4, x.f5)) (fun x => ⟨x.1, x.2.1, x.2.2.1, x.2.2.2.1, x.2.2.2.2.1, x.2.2.2.2.2⟩) (fun _ => rfl) hl' (at_pair (at_field (i := 0) (o := 0) (cs := cs) (xs := xs) (opens_int Try.underlying3) (by rw [hx]; exact (by decide)) (by kernel_rfl) (hf 0 _ rfl)) (at_pair (at_field (i := 1) (o := 1) (cs := cs) (xs := xs) (opens_int Try.underlying3) (by rw [hx]; exact (by decide)) (by kernel_rfl) (hf 1 _ rfl)) (at_pair (at_field (i := 2) (o := 2) (cs := cs) (xs := xs) (opens_int Try.underlying3) (by rw [hx]; exact (by decide)) (by kernel_rfl) (hf 2 _ rfl)) (at_pair (at_field (i := 3) (o := 3) (cs := cs) (xs := xs) (opens_int Try.underlying3) (by rw [hx]; exact (by decide)) (by kernel_rfl) (hf 3 _ rfl)) (at_pair (at_field (i := 4) (o := 4) (cs := cs) (xs := xs) (opens_int Try.underlying3) (by rw [hx]; exact (by decide)) (by kernel_rfl) (hf 4 _ rfl)) (at_field (i := 5) (o := 5) (cs := cs) (xs := xs) (opens_string Try.underlying9) (by rw [hx]; exact (by decide)) (by kernel_rfl) (hf 5 _ rfl)))))))
  exact ⟨y, hK, hok⟩
theorem o46 (W : World) : Opens Try.prog W 46 k46 ok46 := by
  intro H enc base spare held fuel cs x h
  obtain ⟨xs, n, _, _, hl, hx, hf⟩ := DataW.trod_struct Try.underlying46 h
  have hl' : cs.length = k46.sz := hl.trans (by kernel_rfl)
  obtain ⟨y, hK, hok⟩ := of_at (f := fun x : S46 => (x.f0, x.f1, x.f2)) (fun x => ⟨x.1, x.2.1, x.2.2⟩) (fun _ => rfl) hl' (at_pair (at_field (i := 0) (o := 0) (cs := cs) (xs := xs) (opens_int Try.underlying3) (by rw [hx]; exact (by decide)) (by kernel_rfl) (hf 0 _ rfl)) (at_pair (at_field (i := 1) (o := 1) (cs := cs) (xs := xs) (opens_int Try.underlying3) (by rw [hx]; exact (by decide)) (by kernel_rfl) (hf 1 _ rfl)) (at_field (i := 2) (o := 2) (cs := cs) (xs := xs) (opens_slice Try.underlying38 (by kernel_rfl) (o32 W)) (by rw [hx]; exact (by decide)) (by kernel_rfl) (hf 2 _ rfl))))
  exact ⟨y, hK, hok⟩
theorem o26 (W : World) : Opens Try.prog W 26 k26 ok26 := by
  intro H enc base spare held fuel cs x h
  obtain ⟨xs, n, _, _, hl, hx, hf⟩ := DataW.trod_struct Try.underlying26 h
  have hl' : cs.length = k26.sz := hl.trans (by kernel_rfl)
  obtain ⟨y, hK, hok⟩ := of_at (f := fun x : S26 => (x.f0, x.f1)) (fun x => ⟨x.1, x.2⟩) (fun _ => rfl) hl' (at_pair (at_field (i := 0) (o := 0) (cs := cs) (xs := xs) (opens_slice Try.underlying24 (by kernel_rfl) (o46 W)) (by rw [hx]; exact (by decide)) (by kernel_rfl) (hf 0 _ rfl)) (at_field (i := 1) (o := 1) (cs := cs) (xs := xs) (opens_int Try.underlying3) (by rw [hx]; exact (by decide)) (by kernel_rfl) (hf 1 _ rfl)))
  exact ⟨y, hK, hok⟩
set_option maxRecDepth 100000 in
theorem lifted (os : Os) (started : os.Started) (H : Type) (enc : TypeId × Value → H) :
    ReturnsInHanded {} Try.checked os 5 .any (Rows.shardOrderSpec.pre6 enc Try.prog Try.f5 Rows.shardOrderRow.domain false) (Rows.shardOrderSpec.post enc Try.prog Try.f5 false true false false) := by
  refine returnsInHanded_of_change_sized (C := Try.checked) own started (by kernel_rfl) Try.func5
    (ChangeSpec.witness6 (enc := enc) (C := Try.checked) false ⟨#[], #[.agg #[.slice none 0 0, .int .i64 0], .agg #[.int .i64 0, .int .i64 0, .slice none 0 0], .agg #[.int .i64 0, .int .i64 0, .slice none 0 0]], []⟩ 8 (by kernel_rfl) (by kernel_rfl) (by kernel_rfl) (by kernel_rfl)) ?_
  intro W base args ds gs before hval0 hW hcnd hsz0 _
  have hval : ∀ (j : Nat) t v, Try.f5.params[j]? = some t → args[j]? = some v → Value.okWide Try.prog W .any base t v := hval0
  have hW' := hW
  obtain ⟨p, q, hA0, hV, rfl, hfz, hnd⟩ := hW
  have hA : DataW.TrodAll enc Try.prog W 0 (fun _ => true) true Try.f5.params.toList args.toList ds p := hA0
  rw [Try.params5] at hA hval
  obtain ⟨v0, vs0, d0, ds0, p0, q0, hargs, rfl, rfl, h0, r0⟩ := trodAll_cons hA
  obtain ⟨v1, vs1, d1, ds1, p1, q1, rfl, rfl, rfl, h1, r1⟩ := trodAll_cons r0
  obtain ⟨v2, vs2, d2, ds2, p2, q2, rfl, rfl, rfl, h2, r2⟩ := trodAll_cons r1
  obtain ⟨rfl, rfl, rfl⟩ := trodAll_nil r2
  obtain rfl : args = #[v0, v1, v2] := by cases args; simp_all
  obtain ⟨rfl, rfl⟩ := trodVars_none hV
  have k0 := h0
  have lt0 : ∀ x ∈ p0, x.block < W.heap.size := by obtain ⟨m, hm⟩ := k0; exact DataW.trod_lt m _ _ _ hm
  obtain ⟨cs0, rfl, hz0⟩ := okWide_struct Try.underlying26 (hval 0 26 v0 rfl rfl)
  obtain ⟨x0, hK0, ok0_⟩ : ∃ x, k26.K W x cs0.toList ∧ ok26 x := by obtain ⟨fuel, hf⟩ := h0; exact (o26 W) _ _ _ _ _ _ _ _ (by simpa [Value.cells] using hf)
  obtain ⟨A0_0, c0_0, he0, hc0_0, hr0_0⟩ := k26_open hK0
  obtain rfl := agg_of he0
  have k1 := h1
  have lt1 : ∀ x ∈ p1, x.block < W.heap.size := by obtain ⟨m, hm⟩ := k1; exact DataW.trod_lt m _ _ _ hm
  obtain ⟨cs1, rfl, hz1⟩ := okWide_struct Try.underlying46 (hval 1 46 v1 rfl rfl)
  obtain ⟨x1, hK1, ok1_⟩ : ∃ x, k46.K W x cs1.toList ∧ ok46 x := by obtain ⟨fuel, hf⟩ := h1; exact (o46 W) _ _ _ _ _ _ _ _ (by simpa [Value.cells] using hf)
  obtain ⟨A1_2, c1_2, he1, hc1_2, hr1_2⟩ := k46_open hK1
  obtain rfl := agg_of he1
  have k2 := h2
  have lt2 : ∀ x ∈ p2, x.block < W.heap.size := by obtain ⟨m, hm⟩ := k2; exact DataW.trod_lt m _ _ _ hm
  obtain ⟨cs2, rfl, hz2⟩ := okWide_struct Try.underlying46 (hval 2 46 v2 rfl rfl)
  obtain ⟨x2, hK2, ok2_⟩ : ∃ x, k46.K W x cs2.toList ∧ ok46 x := by obtain ⟨fuel, hf⟩ := h2; exact (o46 W) _ _ _ _ _ _ _ _ (by simpa [Value.cells] using hf)
  obtain ⟨A2_2, c2_2, he2, hc2_2, hr2_2⟩ := k46_open hK2
  obtain rfl := agg_of he2
  clear hA0 hval0 hsz0
  obtain ⟨k, h⟩ := Pure.ShardOrder x0.f0 x0.f1 x1.f0 x1.f1 x1.f2 x2.f0 x2.f1 x2.f2 ok0_ ok1_ ok2_
  refine (hopperlaw11_ShardOrder.calls k A0_0 c0_0 x0.f0 x0.f1 x1.f0 x1.f1 A1_2 c1_2 x1.f2 x2.f0 x2.f1 A2_2 c2_2 x2.f2 true W hr0_0 hc0_0 hr1_2 hc1_2 hr2_2 hc2_2 h).mono fun e W' he => ?_
  obtain ⟨rfl, hb⟩ := he
  have bel : Below W.heap.size W W' := hb
  exact ⟨_, rfl, _, _, _, [], _, [], hW', trodAll_mk1 (shut_bool Try.underlying4 _), (trodAll_cons_mk (Below.trod laidOut (by kernel_rfl) (of_decide_eq_true (by kernel_rfl)) k0 bel lt0) (trodAll_cons_mk (Below.trod laidOut (by kernel_rfl) (of_decide_eq_true (by kernel_rfl)) k1 bel lt1) (trodAll_cons_mk (Below.trod laidOut (by kernel_rfl) (of_decide_eq_true (by kernel_rfl)) k2 bel lt2) trodAll_mk0))), rfl, bel.frame _, fun h => by cases h⟩
theorem closed : joinedFacts Try.pinned.checked.prog 5 Try.f5 Rows.shardOrderSpec Rows.shardOrderRow = true := by
  refine Head.closed_of (by with_unfolding_all rfl) ?_ Head.enter_ ?_ ?_ ?_ ?_ ?_ ?_
  · kernel_rfl
  · rw [show Try.pinned.checked.prog.liftsFinal = false from Head.lifts_]; rfl
  · rw [show Try.pinned.checked.prog.make = some .cut from Head.make_]; rfl
  · kernel_rfl
  · kernel_rfl
  · kernel_rfl
  · kernel_rfl
theorem over : Rows.shardOrderRow.holds Try.pinned (OpenSpec.ofChange Rows.shardOrderSpec) :=
  OpenClaim.holds_of_wide 5 Try.f5 rfl rfl rfl rfl rfl rfl rfl ⟨rfl, rfl, rfl, rfl, rfl⟩ rfl rfl rfl rfl rfl (by kernel_rfl) Try.func5 closed
    (of_decide_eq_true (by kernel_rfl)) (by unfold Func.isWrapper; first | (rw [if_pos (by decide +kernel)]; kernel_rfl) | (rw [if_neg (by decide +kernel)]; exact ⟨rfl, rfl⟩))
    (fun os started H enc _ => lifted os started H enc)
theorem proved : Rows.ShardOrderSaid := over
#print axioms proved
end Go.Proofs.Ytnjnogkhbadioaa.shardOrder
namespace Go.Proofs.Ytnjnogkhbadioaa
/-- The row, under a short name, for the claim. -/
theorem shardOrder_holds : Rows.ShardOrderSaid := shardOrder.proved
end Go.Proofs.Ytnjnogkhbadioaa
