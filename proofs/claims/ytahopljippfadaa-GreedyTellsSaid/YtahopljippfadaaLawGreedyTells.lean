/- Written by this session's own program over the kit's print: functions of Go told as plain functions, or the row of one statement; proved for every input, with no condition of ours. -/
import Derived.Test.YtahopljippfadaaRows
import Derived.Test.YtahopljippfadaaHead
import Derived.Test.YtahopljippfadaaDx17
import Derived.Test.YtahopljippfadaaPureGreedyTells
import Derived.Test.YtahopljippfadaaRow
import Derived.WalkKit
import Derived.ProofKit
import Derived.OpenShut
import Derived.ShutString
import Derived.ChangeOld
import Derived.Below
import Derived.SizedLaws
namespace Go.Proofs.Ytahopljippfadaa.greedyTells
open Go.ChangeShapes Go.WideShapes Go.ChangeAt Go.RowKit Go.Proofs.Ytahopljippfadaa.D Go.Proofs.Ytahopljippfadaa.Row Go.Proofs.YtahopljippfadaaW.PrintWords
set_option linter.unusedVariables false
theorem own : ownKnob Try.prog.godebug = none := by kernel_rfl
theorem laidOut : laidOutB Try.prog = true := by kernel_rfl
theorem o38 (W : World) : Opens Try.prog W 38 k38 ok38 := by
  intro H enc base spare held fuel cs x h
  obtain ⟨xs, n, _, _, hl, hx, hf⟩ := DataW.trod_struct Try.underlying38 h
  have hl' : cs.length = k38.sz := hl.trans (by kernel_rfl)
  obtain ⟨y, hK, hok⟩ := of_at (f := fun x : S38 => (x.f0, x.f1, x.f2, x.f3, x.f4, x.f5)) (fun x => ⟨x.1, x.2.1, x.2.2.1, x.2.2.2.1, x.2.2.2.2.1, x.2.2.2.2.2⟩) (fun _ => rfl) hl' (at_pair (at_field (i := 0) (o := 0) (cs := cs) (xs := xs) (opens_int Try.underlying3) (by rw [hx]; exact (by decide)) (by kernel_rfl) (hf 0 _ rfl)) (at_pair (at_field (i := 1) (o := 1) (cs := cs) (xs := xs) (opens_int Try.underlying3) (by rw [hx]; exact (by decide)) (by kernel_rfl) (hf 1 _ rfl)) (at_pair (at_field (i := 2) (o := 2) (cs := cs) (xs := xs) (opens_int Try.underlying3) (by rw [hx]; exact (by decide)) (by kernel_rfl) (hf 2 _ rfl)) (at_pair (at_field (i := 3) (o := 3) (cs := cs) (xs := xs) (opens_int Try.underlying3) (by rw [hx]; exact (by decide)) (by kernel_rfl) (hf 3 _ rfl)) (at_pair (at_field (i := 4) (o := 4) (cs := cs) (xs := xs) (opens_int Try.underlying3) (by rw [hx]; exact (by decide)) (by kernel_rfl) (hf 4 _ rfl)) (at_field (i := 5) (o := 5) (cs := cs) (xs := xs) (opens_string Try.underlying9) (by rw [hx]; exact (by decide)) (by kernel_rfl) (hf 5 _ rfl)))))))
  exact ⟨y, hK, hok⟩
theorem o35 (W : World) : Opens Try.prog W 35 k35 ok35 := by
  intro H enc base spare held fuel cs x h
  obtain ⟨xs, n, _, _, hl, hx, hf⟩ := DataW.trod_struct Try.underlying35 h
  have hl' : cs.length = k35.sz := hl.trans (by kernel_rfl)
  obtain ⟨y, hK, hok⟩ := of_at (f := fun x : S35 => (x.f0, x.f1, x.f2)) (fun x => ⟨x.1, x.2.1, x.2.2⟩) (fun _ => rfl) hl' (at_pair (at_field (i := 0) (o := 0) (cs := cs) (xs := xs) (opens_int Try.underlying3) (by rw [hx]; exact (by decide)) (by kernel_rfl) (hf 0 _ rfl)) (at_pair (at_field (i := 1) (o := 1) (cs := cs) (xs := xs) (opens_int Try.underlying3) (by rw [hx]; exact (by decide)) (by kernel_rfl) (hf 1 _ rfl)) (at_field (i := 2) (o := 2) (cs := cs) (xs := xs) (opens_slice Try.underlying23 (by kernel_rfl) (o38 W)) (by rw [hx]; exact (by decide)) (by kernel_rfl) (hf 2 _ rfl))))
  exact ⟨y, hK, hok⟩
set_option maxRecDepth 100000 in
theorem lifted (os : Os) (started : os.Started) (H : Type) (enc : TypeId × Value → H) :
    ReturnsInHanded {} Try.checked os 3 .any (Rows.greedyTellsSpec.pre6 enc Try.prog Try.f3 Rows.greedyTellsRow.domain false) (Rows.greedyTellsSpec.post enc Try.prog Try.f3 false true false false) := by
  refine returnsInHanded_of_change_sized (C := Try.checked) own started (by kernel_rfl) Try.func3
    (ChangeSpec.witness6 (enc := enc) (C := Try.checked) false ⟨#[], #[.slice none 0 0, .int .i64 0, .slice none 0 0], []⟩ 8 (by kernel_rfl) (by kernel_rfl) (by kernel_rfl) (by kernel_rfl)) ?_
  intro W base args ds gs before hval0 hW hcnd hsz0 _
  have hval : ∀ (j : Nat) t v, Try.f3.params[j]? = some t → args[j]? = some v → Value.okWide Try.prog W .any base t v := hval0
  have hW' := hW
  obtain ⟨p, q, hA0, hV, rfl, hfz, hnd⟩ := hW
  have hA : DataW.TrodAll enc Try.prog W 0 (fun _ => true) true Try.f3.params.toList args.toList ds p := hA0
  rw [Try.params3] at hA hval
  obtain ⟨v0, vs0, d0, ds0, p0, q0, hargs, rfl, rfl, h0, r0⟩ := trodAll_cons hA
  obtain ⟨v1, vs1, d1, ds1, p1, q1, rfl, rfl, rfl, h1, r1⟩ := trodAll_cons r0
  obtain ⟨v2, vs2, d2, ds2, p2, q2, rfl, rfl, rfl, h2, r2⟩ := trodAll_cons r1
  obtain ⟨rfl, rfl, rfl⟩ := trodAll_nil r2
  obtain rfl : args = #[v0, v1, v2] := by cases args; simp_all
  obtain ⟨rfl, rfl⟩ := trodVars_none hV
  have k0 := h0
  have lt0 : ∀ x ∈ p0, x.block < W.heap.size := by obtain ⟨m, hm⟩ := k0; exact DataW.trod_lt m _ _ _ hm
  obtain ⟨A0, len0, c0, rfl⟩ := okWide_slice Try.underlying22 (hval 0 22 v0 rfl rfl)
  obtain ⟨l0, hK0, ok0_⟩ : ∃ l, ((Kd.slice 35 k35)).K W l [.slice A0 len0 c0] ∧ (okL ok35) l := by obtain ⟨fuel, hf⟩ := h0; exact (opens_slice Try.underlying22 (by kernel_rfl) (o35 W)) _ _ _ _ _ _ _ _ (by simpa [Value.cells] using hf)
  obtain ⟨_, _, he0, hc0, hr0⟩ := hK0
  cases he0
  have k1 := h1
  have lt1 : ∀ x ∈ p1, x.block < W.heap.size := by obtain ⟨m, hm⟩ := k1; exact DataW.trod_lt m _ _ _ hm
  obtain ⟨a1, rfl, rfl, rfl, w1⟩ := open_int Try.underlying3 (hval 1 3 v1 rfl rfl) h1
  have k2 := h2
  have lt2 : ∀ x ∈ p2, x.block < W.heap.size := by obtain ⟨m, hm⟩ := k2; exact DataW.trod_lt m _ _ _ hm
  obtain ⟨A2, len2, c2, rfl⟩ := okWide_slice Try.underlying23 (hval 2 23 v2 rfl rfl)
  obtain ⟨l2, hK2, ok2_⟩ : ∃ l, ((Kd.slice 38 k38)).K W l [.slice A2 len2 c2] ∧ (okL ok38) l := by obtain ⟨fuel, hf⟩ := h2; exact (opens_slice Try.underlying23 (by kernel_rfl) (o38 W)) _ _ _ _ _ _ _ _ (by simpa [Value.cells] using hf)
  obtain ⟨_, _, he2, hc2, hr2⟩ := hK2
  cases he2
  clear hA0 hval0 hsz0
  obtain ⟨k, h⟩ := Pure.GreedyTells l0 a1 l2 ok0_ w1 ok2_
  refine (hopperlaw12_GreedyTells.calls k A0 c0 l0 a1 A2 c2 l2 true W hr0 hc0 hr2 hc2 h).mono fun e W' he => ?_
  obtain ⟨rfl, hb⟩ := he
  have bel : Below W.heap.size W W' := hb
  exact ⟨_, rfl, _, _, _, [], _, [], hW', trodAll_mk1 (shut_bool Try.underlying4 _), (trodAll_cons_mk (Below.trod laidOut (by kernel_rfl) (of_decide_eq_true (by kernel_rfl)) k0 bel lt0) (trodAll_cons_mk (Below.trod laidOut (by kernel_rfl) (of_decide_eq_true (by kernel_rfl)) k1 bel lt1) (trodAll_cons_mk (Below.trod laidOut (by kernel_rfl) (of_decide_eq_true (by kernel_rfl)) k2 bel lt2) trodAll_mk0))), rfl, bel.frame _, fun h => by cases h⟩
theorem closed : joinedFacts Try.pinned.checked.prog 3 Try.f3 Rows.greedyTellsSpec Rows.greedyTellsRow = true := by
  refine Head.closed_of (by with_unfolding_all rfl) ?_ Head.enter_ ?_ ?_ ?_ ?_ ?_ ?_
  · kernel_rfl
  · rw [show Try.pinned.checked.prog.liftsFinal = false from Head.lifts_]; rfl
  · rw [show Try.pinned.checked.prog.make = some .cut from Head.make_]; rfl
  · kernel_rfl
  · kernel_rfl
  · kernel_rfl
  · kernel_rfl
theorem over : Rows.greedyTellsRow.holds Try.pinned (OpenSpec.ofChange Rows.greedyTellsSpec) :=
  OpenClaim.holds_of_wide 3 Try.f3 rfl rfl rfl rfl rfl rfl rfl ⟨rfl, rfl, rfl, rfl, rfl⟩ rfl rfl rfl rfl rfl (by kernel_rfl) Try.func3 closed
    (of_decide_eq_true (by kernel_rfl)) (by unfold Func.isWrapper; first | (rw [if_pos (by decide +kernel)]; kernel_rfl) | (rw [if_neg (by decide +kernel)]; exact ⟨rfl, rfl⟩))
    (fun os started H enc _ => lifted os started H enc)
theorem proved : Rows.GreedyTellsSaid := over
#print axioms proved
end Go.Proofs.Ytahopljippfadaa.greedyTells
namespace Go.Proofs.Ytahopljippfadaa
/-- The row, under a short name, for the claim. -/
theorem greedyTells_holds : Rows.GreedyTellsSaid := greedyTells.proved
end Go.Proofs.Ytahopljippfadaa
