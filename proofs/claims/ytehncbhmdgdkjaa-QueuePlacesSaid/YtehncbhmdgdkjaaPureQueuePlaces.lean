/- The plain statement behind the law QueuePlaces, proved for every input; no condition but the types' own bounds. -/
import Derived.Test.YtehncbhmdgdkjaaQueuePlace
import Derived.Test.YtehncbhmdgdkjaaQueueLive
import Derived.Test.YtehncbhmdgdkjaaQx37
namespace Go.Proofs.Ytehncbhmdgdkjaa.Pure
set_option linter.unusedSimpArgs false
set_option linter.unusedVariables false
open Go.RowKit Go.Proofs.Ytehncbhmdgdkjaa.Q Go.Proofs.Ytehncbhmdgdkjaa.QueueLaws Go.Proofs.Ytehncbhmdgdkjaa.SatLaws Go.Proofs.Ytehncbhmdgdkjaa.Row Go.Proofs.YtehncbhmdgdkjaaW.PrintWords Go.Proofs.YtehncbhmdgdkjaaW.PrintLast
theorem QueuePlaces_in (k : Nat) (s b : Int) (l : List Tx) (t : Tx) (per bump : Int) (h : l.length ≤ 30) (hk : 100 ≤ k) : hopperlaw05_QueuePlaces.j0 (k + 1) false s b l t.f0 t.f1 t.f2 t.f3 t.f4 t.f5 per bump = some true := by
  have hl := live k (by omega)
  unfold hopperlaw05_QueuePlaces.j0
  try dsimp only
  rw [if_neg (by decide), qplace_eq k s b l t per bump (by omega) (by omega), Option.bind_some, find_eq s b l t.f1 (by omega), Option.bind_some, qcheck_eq k s b l per (by omega) (by omega)]
  simp only [Option.bind_some, hl]
  have sp := place_spec s b l t per bump
  generalize placeQ s b l t per bump = p at sp ⊢
  obtain ⟨n, e⟩ := p
  dsimp only at sp ⊢
  rcases sp with ⟨rfl, h1, h2, h3, h4, h5⟩ | ⟨rfl, rfl | ⟨rfl, h1⟩ | ⟨rfl, o, ho⟩ | ⟨rfl, hf, h2⟩⟩
  · rcases h5 with ⟨o, ho, h6, _⟩ | ⟨hf, h6, _⟩
    · simp [tell, ho, h1, h6, h2, h4]
    · simp [tell, hf, h1, h6, h2, h4]
  · simp
  · simp [h1]
  · simp [tell, ho]
  · simp [tell, hf, h2]
theorem QueuePlaces : hopperlaw05_QueuePlaces.Pure := by
  intro s b l a0 a1 a2 a3 a4 a5 per bump hx _ _
  have hlen : l.length ≤ 9223372036854775807 := hx.2.2.1
  refine ⟨l.length + 2001, ?_⟩
  obtain ⟨c, hc, hf⟩ := small_eq (l.length + 2001) s b l hlen (by omega)
  have skip : hopperlaw05_QueuePlaces.j0 (l.length + 2000 + 1) true s b l a0 a1 a2 a3 a4 a5 per bump = some true := by
    unfold hopperlaw05_QueuePlaces.j0
    try dsimp only
    rw [if_pos rfl, live _ (by omega)]
    rfl
  unfold hopperlaw05_QueuePlaces.f
  rw [hc, Option.bind_some]
  cases c with
  | false => rw [if_neg (by decide)]; exact skip
  | true =>
    have h30 := hf rfl
    rw [if_pos rfl]
    unfold hopperref04_Small.f
    rw [Option.bind_some]
    by_cases hz : (a5.size : Int) ≤ 500
    · rw [decide_eq_true hz]
      exact QueuePlaces_in (l.length + 2000) s b l ⟨a0, a1, a2, a3, a4, a5⟩ per bump h30 (by omega)
    · rw [decide_eq_false hz]
      exact skip
end Go.Proofs.Ytehncbhmdgdkjaa.Pure
