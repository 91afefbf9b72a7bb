/- Plain laws of the shard's layer, further: the last transactions of accounts, and the worst of these, by the program and by the document. -/
import Derived.Test.YtnjnogkhbadioaaShardLaws
import Derived.Test.YtnjnogkhbadioaaShardWst
import Derived.Test.YtnjnogkhbadioaaDx3
import Derived.Test.YtnjnogkhbadioaaDx5
namespace Go.Proofs.Ytnjnogkhbadioaa.ShardLaws
set_option linter.unusedSimpArgs false
set_option linter.unusedVariables false
open Go.RowKit Go.Proofs.Ytnjnogkhbadioaa.D Go.Proofs.YtnjnogkhbadioaaW.PrintWords Go.Proofs.YtnjnogkhbadioaaW.PrintLast
theorem rdL_eq (l : List Tx) (i : Nat) (h : i < l.length) : rd_T32 l (i : Int) = l[i] := by
  unfold rd_T32
  rw [Int.toNat_natCast, List.getD_eq_getElem?_getD, List.getElem?_eq_getElem h]
  rfl
def lasts (l : List Ac) : List Tx := l.filterMap fun a => a.f2.getLast?
theorem lasts_none (l : List Ac) (i : Nat) (h : i < l.length) (c : l[i].f2.length = 0) : lasts (l.drop i) = lasts (l.drop (i + 1)) := by
  have e : l[i].f2.getLast? = none := by rw [List.length_eq_zero_iff.1 c]; rfl
  unfold lasts
  rw [List.drop_eq_getElem_cons h, List.filterMap_cons, e]
theorem lasts_some (l : List Ac) (i : Nat) (h : i < l.length) (c : l[i].f2.length - 1 < l[i].f2.length) : lasts (l.drop i) = l[i].f2[l[i].f2.length - 1] :: lasts (l.drop (i + 1)) := by
  have e : l[i].f2.getLast? = some l[i].f2[l[i].f2.length - 1] := by rw [List.getLast?_eq_getElem?, List.getElem?_eq_getElem c]
  unfold lasts
  rw [List.drop_eq_getElem_cons h, List.filterMap_cons, e]
theorem lasts_len (l : List Ac) : (lasts l).length ≤ l.length := List.length_filterMap_le _ _
theorem slasts_from (K : Nat) (l : List Ac) (hl : l.length ≤ 1000) (hx : ∀ x ∈ l, x.f2.length ≤ 1000) : ∀ (n i : Nat) (acc : List Tx), i + n = l.length → acc.length ≤ i → shard_Lasts.l0 (K + n + 1) acc l (l.length : Int) (i : Int) = some (acc ++ lasts (l.drop i))
  | 0, i, acc, hn, ha => by
    unfold shard_Lasts.l0
    rw [if_neg (by omega), List.drop_eq_nil_of_le (by omega)]
    exact congrArg some (List.append_nil _).symm
  | n + 1, i, acc, hn, ha => by
    have hil : i < l.length := by omega
    have hm := hx _ (List.getElem_mem hil)
    unfold shard_Lasts.l0
    rw [if_pos (by omega), if_pos (by omega), if_pos (by omega), rd_eq l i hil]
    by_cases c : l[i].f2.length = 0
    · rw [if_neg (by omega), step_ i (by omega), show K + (n + 1) = K + n + 1 from rfl, slasts_from K l hl hx n (i + 1) acc (by omega) (by omega), lasts_none l i hil c]
    · rw [if_pos (by omega), back_ _ (by omega) (by omega), if_pos (by omega), if_pos (by omega), if_pos (by omega), rdL_eq l[i].f2 _ (by omega), step_ i (by omega), show K + (n + 1) = K + n + 1 from rfl, slasts_from K l hl hx n (i + 1) _ (by omega) (by rw [List.length_append, List.length_singleton]; omega), lasts_some l i hil (by omega), List.append_assoc]
      rfl
theorem slasts_eq (k : Nat) (l : List Ac) (hl : l.length ≤ 1000) (hx : ∀ x ∈ l, x.f2.length ≤ 1000) (hk : l.length + 1 ≤ k) : shard_Lasts.f k l = some (lasts l) := by
  have := slasts_from (k - (l.length + 1)) l hl hx l.length 0 [] (by omega) (Nat.le_refl _)
  rw [show k - (l.length + 1) + l.length + 1 = k by omega] at this
  exact this
/-- The answer: the worst one of a list, at its place. -/
def W (L : List Tx) (v : Nat) : Int × Int × Int × Int × Int × ByteArray × Bool := if L = [] then (0, 0, 0, 0, 0, ⟨#[]⟩, false) else ((L.getD v HeapLaws.d).f0, (L.getD v HeapLaws.d).f1, (L.getD v HeapLaws.d).f2, (L.getD v HeapLaws.d).f3, (L.getD v HeapLaws.d).f4, (L.getD v HeapLaws.d).f5, true)
theorem sworst_eq (k : Nat) (l : List Ac) (hl : l.length ≤ 1000) (hx : ∀ x ∈ l, x.f2.length ≤ 1000) (hk : 2000 ≤ k) : ∃ v, HeapLaws.Wst (lasts l) v ∧ shard_Worst.f k l = some (W (lasts l) v) := by
  have hL := lasts_len l
  obtain ⟨v, h1, h2⟩ := HeapLaws.worst_eq k (lasts l) (by omega) (by omega)
  refine ⟨v, h2, ?_⟩
  unfold shard_Worst.f
  rw [slasts_eq k l hl hx (by omega), Option.bind_some, h1, Option.bind_some]
  dsimp only
  by_cases e : lasts l = []
  · rw [if_neg (by rw [e]; decide), W, if_pos e]
  · have h0 := List.length_pos_iff.2 e
    have h3 := h2.2.1 e
    rw [if_pos (decide_eq_true (by omega)), if_pos (by omega), if_pos (by omega), W, if_neg e]
    rfl
end Go.Proofs.Ytnjnogkhbadioaa.ShardLaws
