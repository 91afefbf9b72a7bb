/- Written by this session's own program over the kit's print: functions of Go told as plain functions, or the row of one statement; proved for every input, with no condition of ours. -/
import Derived.Test.YtfpomamhcjkoeabRows
import Derived.Test.YtfpomamhcjkoeabCx6
import Derived.Test.YtfpomamhcjkoeabPureCodecRow
import Derived.Test.YtfpomamhcjkoeabRow
import Derived.WalkKit
import Derived.ProofKit
import Derived.OpenShut
import Derived.ShutString
import Derived.ChangeOld
import Derived.Below
import Derived.SizedLaws
namespace Go.Proofs.Ytfpomamhcjkoeab.codecRow
open Go.ChangeShapes Go.WideShapes Go.ChangeAt Go.RowKit Go.Proofs.Ytfpomamhcjkoeab.C Go.Proofs.Ytfpomamhcjkoeab.Row Go.Proofs.YtfpomamhcjkoeabW.PrintWords
set_option linter.unusedVariables false
theorem own : ownKnob Try.prog.godebug = none := by kernel_rfl
theorem laidOut : laidOutB Try.prog = true := by kernel_rfl
set_option maxRecDepth 100000 in
theorem lifted (os : Os) (started : os.Started) (H : Type) (enc : TypeId × Value → H) :
    ReturnsInHanded {} Try.checked os 11 .any (Rows.codecRowSpec.pre6 enc Try.prog Try.f11 Rows.codecRowRow.domain false) (Rows.codecRowSpec.post enc Try.prog Try.f11 false true false false) := by
  refine returnsInHanded_of_change_sized (C := Try.checked) own started (by kernel_rfl) Try.func11
    (ChangeSpec.witness6 (enc := enc) (C := Try.checked) false ⟨#[], #[.slice none 0 0, .slice none 0 0], []⟩ 8 (by kernel_rfl) (by kernel_rfl) (by kernel_rfl) (by kernel_rfl)) ?_
  intro W base args ds gs before hval0 hW hcnd hsz0 _
  have hval : ∀ (j : Nat) t v, Try.f11.params[j]? = some t → args[j]? = some v → Value.okWide Try.prog W .any base t v := hval0
  have hW' := hW
  obtain ⟨p, q, hA0, hV, rfl, hfz, hnd⟩ := hW
  have hA : DataW.TrodAll enc Try.prog W 0 (fun _ => true) true Try.f11.params.toList args.toList ds p := hA0
  rw [Try.params11] at hA hval
  obtain ⟨v0, vs0, d0, ds0, p0, q0, hargs, rfl, rfl, h0, r0⟩ := trodAll_cons hA
  obtain ⟨v1, vs1, d1, ds1, p1, q1, rfl, rfl, rfl, h1, r1⟩ := trodAll_cons r0
  obtain ⟨rfl, rfl, rfl⟩ := trodAll_nil r1
  obtain rfl : args = #[v0, v1] := by cases args; simp_all
  obtain ⟨rfl, rfl⟩ := trodVars_none hV
  have k0 := h0
  have lt0 : ∀ x ∈ p0, x.block < W.heap.size := by obtain ⟨m, hm⟩ := k0; exact DataW.trod_lt m _ _ _ hm
  obtain ⟨A0, len0, c0, rfl⟩ := okWide_slice Try.underlying37 (hval 0 37 v0 rfl rfl)
  obtain ⟨l0, hK0, ok0_⟩ : ∃ l, ((Kd.slice 3 (Kd.int .i64))).K W l [.slice A0 len0 c0] ∧ (okL (okI .i64)) l := by obtain ⟨fuel, hf⟩ := h0; exact (opens_slice Try.underlying37 (by kernel_rfl) (opens_int Try.underlying3)) _ _ _ _ _ _ _ _ (by simpa [Value.cells] using hf)
  obtain ⟨_, _, he0, hc0, hr0⟩ := hK0
  cases he0
  have k1 := h1
  have lt1 : ∀ x ∈ p1, x.block < W.heap.size := by obtain ⟨m, hm⟩ := k1; exact DataW.trod_lt m _ _ _ hm
  obtain ⟨A1, len1, c1, rfl⟩ := okWide_slice Try.underlying50 (hval 1 50 v1 rfl rfl)
  obtain ⟨l1, hK1, ok1_⟩ : ∃ l, ((Kd.slice 9 Kd.string)).K W l [.slice A1 len1 c1] ∧ (okL okS) l := by obtain ⟨fuel, hf⟩ := h1; exact (opens_slice Try.underlying50 (by kernel_rfl) (opens_string Try.underlying9)) _ _ _ _ _ _ _ _ (by simpa [Value.cells] using hf)
  obtain ⟨_, _, he1, hc1, hr1⟩ := hK1
  cases he1
  clear hA0 hval0 hsz0
  obtain ⟨k, h⟩ := Pure.CodecRow l0 l1 ok0_ ok1_
  refine (hopperlaw03_CodecRow.calls k A0 c0 l0 A1 c1 l1 true W hr0 hc0 hr1 hc1 h).mono fun e W' he => ?_
  obtain ⟨rfl, hb⟩ := he
  have bel : Below W.heap.size W W' := hb
  exact ⟨_, rfl, _, _, _, [], _, [], hW', trodAll_mk1 (shut_bool Try.underlying4 _), (trodAll_cons_mk (Below.trod laidOut (by kernel_rfl) (of_decide_eq_true (by kernel_rfl)) k0 bel lt0) (trodAll_cons_mk (Below.trod laidOut (by kernel_rfl) (of_decide_eq_true (by kernel_rfl)) k1 bel lt1) trodAll_mk0)), rfl, bel.frame _, fun h => by cases h⟩
theorem over : Rows.codecRowRow.holds Try.pinned (OpenSpec.ofChange Rows.codecRowSpec) :=
  OpenClaim.holds_of_wide 11 Try.f11 rfl rfl rfl rfl rfl rfl rfl ⟨rfl, rfl, rfl, rfl, rfl⟩ rfl rfl rfl rfl rfl (by kernel_rfl) Try.func11 (by kernel_rfl)
    (of_decide_eq_true (by kernel_rfl)) (by unfold Func.isWrapper; first | (rw [if_pos (by decide +kernel)]; kernel_rfl) | (rw [if_neg (by decide +kernel)]; exact ⟨rfl, rfl⟩))
    (fun os started H enc _ => lifted os started H enc)
theorem proved : Rows.CodecRowSaid := over
#print axioms proved
end Go.Proofs.Ytfpomamhcjkoeab.codecRow
namespace Go.Proofs.Ytfpomamhcjkoeab
/-- The row, under a short name, for the claim. -/
theorem codecRow_holds : Rows.CodecRowSaid := codecRow.proved
end Go.Proofs.Ytfpomamhcjkoeab
