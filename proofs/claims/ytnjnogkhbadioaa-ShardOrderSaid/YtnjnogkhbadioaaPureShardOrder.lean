/- The plain statement behind the law ShardOrder, proved for every input; no condition but the types' own bounds. -/
import Derived.Test.YtnjnogkhbadioaaShardLaws
import Derived.Test.YtnjnogkhbadioaaDx15
namespace Go.Proofs.Ytnjnogkhbadioaa.Pure
set_option linter.unusedSimpArgs false
set_option linter.unusedVariables false
open Go.RowKit Go.Proofs.Ytnjnogkhbadioaa.D Go.Proofs.Ytnjnogkhbadioaa.ShardLaws Go.Proofs.Ytnjnogkhbadioaa.Row Go.Proofs.YtnjnogkhbadioaaW.PrintWords Go.Proofs.YtnjnogkhbadioaaW.PrintLast
theorem ShardOrder_none (K : Nat) (l : List Ac) (v : Int) (a b : Ac) (y z : List Ac) (u vz vn : Int) (N : List Ac) (hN : N.length ≤ 1000) (hn : ∀ x ∈ N, x.f0 ≠ a.f0) (hy : y.length ≤ 1000) (hx : ∀ x ∈ y, x.f2.length ≤ 1000) (hK : 2002 ≤ K) (hvz : vz = u) (hvu : u = wrap64 (v + 2)) (hyz : a.f0 ≠ b.f0 → y = z) : ∀ (n i : Nat), i + n = N.length → hopperlaw11_ShardOrder.l1 (K + n + 1) (i : Int) l v a.f0 a.f1 a.f2 b.f0 b.f1 b.f2 y u z vz N vn = some true
  | 0, i, hi => by
    unfold hopperlaw11_ShardOrder.l1
    rw [if_neg (by omega)]
    by_cases e : a.f0 = b.f0
    · rw [if_pos e, if_pos hvu, live]; rfl
    · rw [if_neg e, ← hyz e, hvz, same11_eq _ _ _ hy hx (by omega), Option.bind_some, if_pos rfl, if_pos hvu, live]; rfl
  | n + 1, i, hi => by
    have hm := getD_mem N i (by omega)
    unfold hopperlaw11_ShardOrder.l1
    rw [if_pos (by omega), if_pos (by omega), if_neg (hn _ hm), step_ i (by omega)]
    exact ShardOrder_none K l v a b y z u vz vn N hN hn hy hx hK hvz hvu hyz n (i + 1) (by omega)
theorem ShardOrder_up (K : Nat) (l : List Ac) (v : Int) (a b : Ac) (hl : l.length ≤ 20) (hlx : ∀ x ∈ l, x.f2.length ≤ 20) (ha : a.f2.length ≤ 30) (hb : b.f2.length ≤ 30) (hv0 : 0 ≤ v) (hv1 : v ≤ 1099511627773) (hK : 3100 ≤ K) : ∀ (n i : Nat), 0 < i → i + n = l.length ∨ (n = 0 ∧ l.length ≤ i) → (∀ j, j + 1 < i → (h : j + 1 < l.length) → (l[j]'(by omega)).f0 < l[j + 1].f0) → hopperlaw11_ShardOrder.l0 (K + n + 1) (i : Int) l v a.f0 a.f1 a.f2 b.f0 b.f1 b.f2 = some true
  | 0, i, hi, hin, hs => by
    have hup : Up l := by
      have adj : ∀ (d j : Nat) (h : j + d + 1 < l.length), (l[j]'(by omega)).f0 < l[j + d + 1].f0 := fun d => by
        induction d with
        | zero => intro j h; exact hs j (by omega) h
        | succ d ih =>
          intro j h
          have h1 := ih j (by omega)
          have h2 := hs (j + d + 1) (by omega) (by omega)
          simp only [show j + (d + 1) + 1 = j + d + 1 + 1 by omega]
          omega
      refine List.pairwise_iff_getElem.2 fun p q hp hq hpq => ?_
      have := adj (q - p - 1) p (by omega)
      simp only [show p + (q - p - 1) + 1 = q by omega] at this
      exact this
    have l1 := setl_len l a
    have l2 := setl_len (setl l a) b
    have l3 := setl_len l b
    have l4 := setl_len (setl (setl l a) b) ⟨a.f0, 0, []⟩
    have hy : ∀ x ∈ setl (setl l a) b, x.f2.length ≤ 1000 := fun x hx => by
      rcases (setl_mem _ _ _).1 hx with ⟨h1, _⟩ | ⟨_, rfl⟩
      · rcases (setl_mem _ _ _).1 h1 with ⟨h1, _⟩ | ⟨_, rfl⟩
        · have := hlx x h1; omega
        · omega
      · omega
    unfold hopperlaw11_ShardOrder.l0
    rw [if_neg (by omega), set_eq l v _ _ _ (by omega), Option.bind_some]
    dsimp only
    rw [set_eq (setl l a) _ _ _ _ (by omega), Option.bind_some]
    dsimp only
    rw [set_eq l v _ _ _ (by omega), Option.bind_some]
    dsimp only
    rw [set_eq (setl l b) _ _ _ _ (by omega), Option.bind_some]
    dsimp only
    rw [set_eq (setl (setl l a) b) _ _ _ _ (by omega), Option.bind_some]
    dsimp only
    obtain ⟨k, rfl⟩ : ∃ k, K = k + (setl (setl (setl l a) b) ⟨a.f0, 0, []⟩).length + 1 := ⟨K - (setl (setl (setl l a) b) ⟨a.f0, 0, []⟩).length - 1, by omega⟩
    have hver : ver (ver v) = wrap64 (v + 2) := by
      have e1 : ver v = v + 1 := by unfold ver; rw [if_neg (by omega)]
      rw [e1]
      unfold ver
      rw [if_neg (by omega)]
      unfold wrap64
      omega
    exact ShardOrder_none k l v a b _ _ _ _ _ _ (by omega) (fun x hx => by
      rcases (setl_mem _ _ _).1 hx with ⟨_, h⟩ | ⟨h, _⟩
      · exact h
      · exact absurd ⟨rfl, rfl⟩ h) (by omega) hy (by omega) rfl hver (fun e => setl_comm l a b hup e) _ 0 (by omega)
  | n + 1, i, hi, hin, hs => by
    have hil : i < l.length := by omega
    unfold hopperlaw11_ShardOrder.l0
    rw [if_pos (by omega), back_ i hi (by omega), if_pos (by omega), if_pos (by omega), if_pos (by omega), rd_eq l (i - 1) (by omega), rd_eq l i hil]
    by_cases c : (l[i - 1]'(by omega)).f0 ≥ l[i].f0
    · rw [if_pos c, live]; rfl
    · rw [if_neg c, step_ i (by omega)]
      refine ShardOrder_up K l v a b hl hlx ha hb hv0 hv1 hK n (i + 1) (by omega) (by omega) (fun j hj hj2 => ?_)
      by_cases e : j + 1 < i
      · exact hs j e hj2
      · have e2 : j = i - 1 := by omega
        subst e2
        simp only [show i - 1 + 1 = i by omega]
        omega
theorem ShardOrder : hopperlaw11_ShardOrder.Pure := by
  intro l v a0 a1 la b0 b1 lb hx ha hb
  have hlen : l.length ≤ 9223372036854775807 := hx.1.1
  have hxs : ∀ x ∈ l, x.f2.length ≤ 9223372036854775807 := fun x h => (hx.1.2 x h).2.2.1
  have hla : la.length ≤ 9223372036854775807 := ha.2.2.1
  have hlb : lb.length ≤ 9223372036854775807 := hb.2.2.1
  obtain ⟨K, hK⟩ : ∃ K, K = l.length + most l + la.length + lb.length + 4000 := ⟨_, rfl⟩
  refine ⟨K, ?_⟩
  obtain ⟨p, hp, hpf⟩ := few11_eq K 20 l hlen hxs (by omega)
  obtain ⟨q, hq, hqf⟩ := small05_eq K a0 a1 la hla (by omega)
  obtain ⟨r, hr, hrf⟩ := small05_eq K b0 b1 lb hlb (by omega)
  have hj : ∀ l0 v0 a0 a1 a2 b0 b1 b2, hopperlaw11_ShardOrder.j0 K true l0 v0 a0 a1 a2 b0 b1 b2 = some true := fun _ _ _ _ _ _ _ _ => by
    obtain ⟨k, rfl⟩ : ∃ k, K = k + 1 := ⟨K - 1, by omega⟩
    unfold hopperlaw11_ShardOrder.j0
    dsimp only
    rw [if_pos rfl, live]; rfl
  unfold hopperlaw11_ShardOrder.f
  rw [hp, Option.bind_some]
  cases p with
  | false => rw [if_neg (by decide), hj]
  | true =>
    rw [if_pos rfl, hq, Option.bind_some]
    cases q with
    | false => rw [if_neg (by decide), hj]
    | true =>
      rw [if_pos rfl, hr, Option.bind_some]
      cases r with
      | false => rw [if_neg (by decide), hj]
      | true =>
        rw [if_pos rfl]
        by_cases hv : v < 0
        · rw [if_pos hv, hj]
        · rw [if_neg hv]
          by_cases hv2 : v > 1099511627773
          · rw [decide_eq_true hv2, hj]
          · rw [decide_eq_false hv2]
            obtain ⟨h1, h2⟩ := hpf rfl
            have h3 := hqf rfl
            have h4 := hrf rfl
            obtain ⟨k, hk⟩ : ∃ k, K = k + (l.length - 1) + 1 + 1 := ⟨K - (l.length - 1) - 2, by omega⟩
            rw [hk]
            unfold hopperlaw11_ShardOrder.j0
            dsimp only
            rw [if_neg (by decide)]
            exact ShardOrder_up k l v ⟨a0, a1, la⟩ ⟨b0, b1, lb⟩ (by omega) h2 h3 h4 (by omega) (by omega) (by omega) (l.length - 1) 1 (by omega) (by omega) (fun j hj hj2 => by omega)
end Go.Proofs.Ytnjnogkhbadioaa.Pure
