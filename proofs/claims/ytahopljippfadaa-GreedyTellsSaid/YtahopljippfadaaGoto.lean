/- A plain law on a scope that is left and re-entered by one label: what holds at each arrival at the label, and a measure that each pass lowers; no condition. -/
import Derived.WalkMore
import Derived.ScopeJumps
namespace Go.Proofs.Ytahopljippfadaa.Goto
set_option linter.unusedSimpArgs false
set_option linter.unusedVariables false
section
variable {P : Program} {a : Act} {w : World} {Q : Exit → Act → World → Prop}
theorem scope_label {c rest : Code} (l : Nat) (J : Act → World → Prop) (μ : Act → World → Nat) (hf : findLabel c l = some (Code.skip.seq rest))
    (pass : ∀ a w, J a w → rest.wp P (Exit.jump l (fun a' w' => J a' w' ∧ μ a' w' < μ a w) Q) a w)
    (first : ∀ L : Act → World → Prop, (∀ a w, J a w → L a w) → (∀ a w, L a w → rest.wp P (Exit.jump l J Q) a w) → c.wp P (Exit.jump l J Q) a w) : (Code.scope c).wp P Q a w := by
  refine wp_scope_jumps l J μ hf (first J (fun _ _ h => h) (fun a w h => wp_mono (pass a w h) ?_)) (fun a w h => wp_seq (wp_skip (pass a w h)))
  intro e a' w' h
  cases e with
  | goto l' => exact ⟨h.1, h.2.1⟩
  | normal => exact h
  | exit id => exact h
  | ret => exact h
  | panic ch => exact h
  | outgrown => exact h
end
end Go.Proofs.Ytahopljippfadaa.Goto
