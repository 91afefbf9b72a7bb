/- Plain laws of the shard's layer: few accounts; a list of accounts is the same as itself; what is set; no condition but the lists' lengths. -/
import Derived.Test.YtnjnogkhbadioaaRow
import Derived.Test.YtnjnogkhbadioaaDx2
import Derived.Test.YtnjnogkhbadioaaDx13
import Derived.Test.YtnjnogkhbadioaaDx14
import Derived.Test.YtnjnogkhbadioaaDx14
import Derived.Test.YtnjnogkhbadioaaDx7
import Derived.Test.YtnjnogkhbadioaaDx10
namespace Go.Proofs.Ytnjnogkhbadioaa.ShardLaws
set_option linter.unusedSimpArgs false
set_option linter.unusedVariables false
open Go.RowKit Go.Proofs.Ytnjnogkhbadioaa.D Go.Proofs.YtnjnogkhbadioaaW.PrintWords Go.Proofs.YtnjnogkhbadioaaW.PrintLast
abbrev Tx := S32
abbrev Ac := S46
theorem live : hopperlaw11_live.f = some true := rfl
theorem step_ (i : Nat) (h : i < 9223372036854775807) : wrap64 ((i : Int) + 1) = ((i + 1 : Nat) : Int) := by unfold wrap64; omega
theorem back_ (i : Nat) (h0 : 0 < i) (h : i ≤ 9223372036854775807) : wrap64 ((i : Int) - 1) = ((i - 1 : Nat) : Int) := by unfold wrap64; omega
theorem few04_from (k : Nat) (m : Int) : ∀ (n i : Nat) (l : List Tx), n = l.length - i → i ≤ l.length → l.length ≤ 9223372036854775807 → ∃ b, hopperref04_Few.l0 (k + n + 1) l m (i : Int) = some b ∧ (b = true → (l.length : Int) ≤ m)
  | 0, i, l, hn, hi, hl => by
    obtain rfl : i = l.length := by omega
    unfold hopperref04_Few.l0
    rw [if_neg (by omega)]
    exact ⟨_, rfl, fun h => by simpa using h⟩
  | n + 1, i, l, hn, hi, hl => by
    obtain ⟨b, h1, h2⟩ := few04_from k m n (i + 1) l (by omega) (by omega) hl
    unfold hopperref04_Few.l0
    rw [if_pos (by omega), if_pos (by omega), step_ i (by omega), show k + (n + 1) = k + n + 1 from rfl, h1]
    unfold hopperref04_Small.f
    rw [Option.bind_some]
    split
    · exact ⟨b, rfl, h2⟩
    · exact ⟨false, rfl, fun h => by cases h⟩
theorem few04_eq (k : Nat) (m : Int) (l : List Tx) (h : l.length ≤ 9223372036854775807) (hk : l.length + 1 ≤ k) : ∃ b, hopperref04_Few.f k l m = some b ∧ (b = true → (l.length : Int) ≤ m) := by
  obtain ⟨b, h1, h2⟩ := few04_from (k - (l.length + 1)) m l.length 0 l (by omega) (by omega) h
  rw [show k - (l.length + 1) + l.length + 1 = k by omega] at h1
  exact ⟨b, h1, h2⟩
/-- How many rounds accounts want. -/
def most (l : List Ac) : Nat := l.foldr (fun x n => max x.f2.length n) 0
theorem most_le : ∀ (l : List Ac) (x : Ac), x ∈ l → x.f2.length ≤ most l
  | y :: l, x, h => by
    rcases List.mem_cons.1 h with rfl | h
    · exact Nat.le_max_left _ _
    · exact Nat.le_trans (most_le l x h) (Nat.le_max_right _ _)
theorem getD_mem (l : List Ac) (i : Nat) (h : i < l.length) : rd_T46 l (i : Int) ∈ l := by
  unfold rd_T46
  rw [Int.toNat_natCast, List.getD_eq_getElem?_getD, List.getElem?_eq_getElem h]
  exact List.getElem_mem ..
theorem rd_eq (l : List Ac) (i : Nat) (h : i < l.length) : rd_T46 l (i : Int) = l[i] := by
  unfold rd_T46
  rw [Int.toNat_natCast, List.getD_eq_getElem?_getD, List.getElem?_eq_getElem h]
  rfl
theorem few11_from (k : Nat) (m : Int) (l : List Ac) (hl : l.length ≤ 9223372036854775807) (hx : ∀ x ∈ l, x.f2.length ≤ 9223372036854775807 ∧ x.f2.length + 1 ≤ k) : ∀ (n i : Nat), n = l.length - i → i ≤ l.length → ∃ b, hopperref11_Few.l0 (k + n + 1) l m (i : Int) = some b ∧ (b = true → (l.length : Int) ≤ m ∧ ∀ j, i ≤ j → (h : j < l.length) → l[j].f2.length ≤ 20)
  | 0, i, hn, hi => by
    obtain rfl : i = l.length := by omega
    unfold hopperref11_Few.l0
    rw [if_neg (by omega)]
    exact ⟨_, rfl, fun h => ⟨by simpa using h, fun j h1 h2 => by omega⟩⟩
  | n + 1, i, hn, hi => by
    obtain ⟨b, h1, h2⟩ := few11_from k m l hl hx n (i + 1) (by omega) (by omega)
    have hm := getD_mem l i (by omega)
    obtain ⟨c, h3, h4⟩ := few04_eq (k + n + 1) 20 (rd_T46 l (i : Int)).f2 (hx _ hm).1 (by have := (hx _ hm).2; omega)
    unfold hopperref11_Few.l0
    rw [if_pos (by omega), if_pos (by omega), step_ i (by omega), show k + (n + 1) = k + n + 1 from rfl, h3, Option.bind_some, h1]
    cases c with
    | false => exact ⟨false, by simp, fun h => by cases h⟩
    | true =>
      refine ⟨b, by simp, fun h => ⟨(h2 h).1, fun j j1 j2 => ?_⟩⟩
      by_cases e : j = i
      · subst e
        have := h4 rfl
        rw [rd_eq l j j2] at this
        omega
      · exact (h2 h).2 j (by omega) j2
theorem few11_eq (k : Nat) (m : Int) (l : List Ac) (h : l.length ≤ 9223372036854775807) (hx : ∀ x ∈ l, x.f2.length ≤ 9223372036854775807) (hk : l.length + most l + 2 ≤ k) : ∃ b, hopperref11_Few.f k l m = some b ∧ (b = true → (l.length : Int) ≤ m ∧ ∀ x ∈ l, x.f2.length ≤ 20) := by
  obtain ⟨b, h1, h2⟩ := few11_from (k - (l.length + 1)) m l h (fun x hxl => ⟨hx x hxl, by have := most_le l x hxl; omega⟩) l.length 0 (by omega) (by omega)
  rw [show k - (l.length + 1) + l.length + 1 = k by omega] at h1
  refine ⟨b, h1, fun hb => ⟨(h2 hb).1, fun x hxl => ?_⟩⟩
  obtain ⟨j, hj, rfl⟩ := List.getElem_of_mem hxl
  exact (h2 hb).2 j (Nat.zero_le _) hj
theorem small05_eq (k : Nat) (s b : Int) (l : List Tx) (h : l.length ≤ 9223372036854775807) (hk : l.length + 1 ≤ k) : ∃ c, hopperref05_Small.f k s b l = some c ∧ (c = true → l.length ≤ 30) := by
  obtain ⟨c, h1, h2⟩ := few04_eq k 30 l h hk
  refine ⟨c, ?_, fun hc => by have := h2 hc; omega⟩
  unfold hopperref05_Small.f
  rw [h1]
  rfl
theorem txs_from (K : Nat) (l : List Tx) (hl : l.length ≤ 1000) : ∀ (n i : Nat), i + n = l.length → hopperref04_Txs.l0 (K + n + 1) l l (i : Int) = some true
  | 0, i, hn => by
    unfold hopperref04_Txs.l0
    rw [if_neg (by omega)]
  | n + 1, i, hn => by
    unfold hopperref04_Txs.l0
    rw [if_pos (by omega), if_pos (by omega), if_pos (by omega), if_neg (by simp), step_ i (by omega)]
    exact txs_from K l hl n (i + 1) (by omega)
theorem txs_eq (k : Nat) (l : List Tx) (h : l.length ≤ 1000) (hk : l.length + 1 ≤ k) : hopperref04_Txs.f k l l = some true := by
  have := txs_from (k - (l.length + 1)) l h l.length 0 (by omega)
  rw [show k - (l.length + 1) + l.length + 1 = k by omega] at this
  unfold hopperref04_Txs.f
  rw [if_pos rfl]
  exact this
theorem same05_eq (k : Nat) (s b : Int) (l : List Tx) (h : l.length ≤ 1000) (hk : l.length + 1 ≤ k) : hopperref05_Same.f k s b l s b l = some true := by
  unfold hopperref05_Same.f
  rw [if_pos rfl, if_pos rfl, txs_eq k l h hk]
  rfl
theorem accounts_from (K : Nat) (l : List Ac) (hl : l.length ≤ 1000) (hx : ∀ x ∈ l, x.f2.length ≤ 1000 ∧ x.f2.length + 1 ≤ K) : ∀ (n i : Nat), i + n = l.length → hopperref11_Accounts.l0 (K + n + 1) l l (i : Int) = some true
  | 0, i, hn => by
    unfold hopperref11_Accounts.l0
    rw [if_neg (by omega)]
  | n + 1, i, hn => by
    have hm := getD_mem l i (by omega)
    unfold hopperref11_Accounts.l0
    rw [if_pos (by omega), if_pos (by omega), if_pos (by omega), show K + (n + 1) = K + n + 1 from rfl, same05_eq _ _ _ _ (hx _ hm).1 (by have := (hx _ hm).2; omega), Option.bind_some, step_ i (by omega)]
    simp only [if_true]
    exact accounts_from K l hl hx n (i + 1) (by omega)
theorem accounts_eq (k : Nat) (l : List Ac) (hl : l.length ≤ 1000) (hx : ∀ x ∈ l, x.f2.length ≤ 1000) (hk : l.length + 1002 ≤ k) : hopperref11_Accounts.f k l l = some true := by
  have := accounts_from (k - (l.length + 1)) l hl (fun x h => ⟨hx x h, by have := hx x h; omega⟩) l.length 0 (by omega)
  rw [show k - (l.length + 1) + l.length + 1 = k by omega] at this
  unfold hopperref11_Accounts.f
  rw [if_pos rfl]
  exact this
theorem same11_eq (k : Nat) (l : List Ac) (v : Int) (hl : l.length ≤ 1000) (hx : ∀ x ∈ l, x.f2.length ≤ 1000) (hk : l.length + 1002 ≤ k) : hopperref11_Same.f k l v l v = some true := by
  unfold hopperref11_Same.f
  rw [if_pos rfl, accounts_eq k l hl hx hk]
  rfl
/-- Do the senders rise? -/
def Up (l : List Ac) : Prop := l.Pairwise fun x y => x.f0 < y.f0
theorem up_ext : ∀ {l r : List Ac}, Up l → Up r → (∀ x, x ∈ l ↔ x ∈ r) → l = r
  | [], [], _, _, _ => rfl
  | [], y :: r, _, _, h => absurd ((h y).2 (List.mem_cons_self ..)) (by simp)
  | x :: l, [], _, _, h => absurd ((h x).1 (List.mem_cons_self ..)) (by simp)
  | x :: l, y :: r, hl, hr, h => by
    obtain ⟨l1, l2⟩ := List.pairwise_cons.1 hl
    obtain ⟨r1, r2⟩ := List.pairwise_cons.1 hr
    have e : x = y := by
      rcases List.mem_cons.1 ((h x).1 (List.mem_cons_self ..)) with e | e
      · exact e
      · rcases List.mem_cons.1 ((h y).2 (List.mem_cons_self ..)) with e2 | e2
        · exact e2.symm
        · have := r1 x e
          have := l1 y e2
          omega
    subst e
    rw [up_ext l2 r2 (fun z => ?_)]
    constructor
    · intro hz
      rcases List.mem_cons.1 ((h z).1 (List.mem_cons_of_mem _ hz)) with e | e
      · subst e; have := l1 z hz; omega
      · exact e
    · intro hz
      rcases List.mem_cons.1 ((h z).2 (List.mem_cons_of_mem _ hz)) with e | e
      · subst e; have := r1 z hz; omega
      · exact e
/-- An account at its place. -/
def ins (a : Ac) : List Ac → List Ac
  | [] => [a]
  | x :: l => if x.f0 > a.f0 then a :: x :: l else x :: ins a l
theorem laid_eq (a : Ac) : ∀ l : List Ac, shard_Set.laid l a = ins a l
  | [] => rfl
  | x :: l => by
    have ih := laid_eq a l
    unfold shard_Set.laid at ih ⊢
    rw [ins, List.findIdx_cons]
    by_cases c : x.f0 > a.f0
    · rw [if_pos c, decide_eq_true c]; rfl
    · rw [if_neg c, decide_eq_false c, ← ih]; rfl
theorem ins_mem (a x : Ac) : ∀ l : List Ac, x ∈ ins a l ↔ x = a ∨ x ∈ l
  | [] => by simp [ins]
  | y :: l => by
    rw [ins]
    split
    · simp
    · rw [List.mem_cons, ins_mem a x l, List.mem_cons]
      constructor
      · rintro (h | h | h)
        · exact Or.inr (Or.inl h)
        · exact Or.inl h
        · exact Or.inr (Or.inr h)
      · rintro (h | h | h)
        · exact Or.inr (Or.inl h)
        · exact Or.inl h
        · exact Or.inr (Or.inr h)
theorem ins_up (a : Ac) : ∀ l : List Ac, Up l → (∀ x ∈ l, x.f0 ≠ a.f0) → Up (ins a l)
  | [], _, _ => List.pairwise_singleton _ _
  | y :: l, h, hn => by
    obtain ⟨h1, h2⟩ := List.pairwise_cons.1 h
    rw [ins]
    split
    · rename_i c
      refine List.pairwise_cons.2 ⟨fun x hx => ?_, h⟩
      rcases List.mem_cons.1 hx with rfl | hx
      · omega
      · have := h1 x hx; omega
    · rename_i c
      refine List.pairwise_cons.2 ⟨fun x hx => ?_, ins_up a l h2 (fun x hx => hn x (List.mem_cons_of_mem _ hx))⟩
      rcases (ins_mem a x l).1 hx with rfl | hx
      · have := hn y (List.mem_cons_self ..); omega
      · exact h1 x hx
theorem ins_len (a : Ac) : ∀ l : List Ac, (ins a l).length = l.length + 1
  | [] => rfl
  | x :: l => by
    rw [ins]
    split
    · rfl
    · rw [List.length_cons, ins_len a l, List.length_cons]
/-- What is set. -/
def setl (l : List Ac) (a : Ac) : List Ac := if a.f1 = 0 ∧ a.f2.length = 0 then l.filter fun x => !(x.f0 == a.f0) else ins a (l.filter fun x => !(x.f0 == a.f0))
def ver (v : Int) : Int := if v < 0 ∨ 1099511627776 ≤ v then 0 else v + 1
theorem set_eq (l : List Ac) (v a0 a1 : Int) (la : List Tx) (h : l.length < 2513169434914) : shard_Set.f l v a0 a1 la = some (setl l ⟨a0, a1, la⟩, ver v) := by
  unfold shard_Set.f setl ver
  rw [if_pos h, laid_eq]
theorem setl_mem (l : List Ac) (a x : Ac) : x ∈ setl l a ↔ (x ∈ l ∧ x.f0 ≠ a.f0) ∨ (¬ (a.f1 = 0 ∧ a.f2.length = 0) ∧ x = a) := by
  have hf : x ∈ (l.filter fun x => !(x.f0 == a.f0)) ↔ x ∈ l ∧ x.f0 ≠ a.f0 := by simp [List.mem_filter]
  unfold setl
  by_cases e : a.f1 = 0 ∧ a.f2.length = 0
  · rw [if_pos e, hf]
    constructor
    · exact Or.inl
    · rintro (h | h)
      · exact h
      · exact absurd e h.1
  · rw [if_neg e, ins_mem, hf]
    constructor
    · rintro (h | h)
      · exact Or.inr ⟨e, h⟩
      · exact Or.inl h
    · rintro (h | h)
      · exact Or.inr h
      · exact Or.inl h.2
theorem setl_up (l : List Ac) (a : Ac) (h : Up l) : Up (setl l a) := by
  unfold setl
  have hf : Up (l.filter fun x => !(x.f0 == a.f0)) := List.Pairwise.filter _ h
  split
  · exact hf
  · exact ins_up a _ hf (fun x hx => by simpa using (List.mem_filter.1 hx).2)
theorem setl_len (l : List Ac) (a : Ac) : (setl l a).length ≤ l.length + 1 := by
  unfold setl
  have := List.length_filter_le (fun x : Ac => !(x.f0 == a.f0)) l
  split
  · omega
  · rw [ins_len]; omega
theorem setl_comm (l : List Ac) (a b : Ac) (h : Up l) (hab : a.f0 ≠ b.f0) : setl (setl l a) b = setl (setl l b) a := by
  refine up_ext (setl_up _ _ (setl_up _ _ h)) (setl_up _ _ (setl_up _ _ h)) fun x => ?_
  rw [setl_mem, setl_mem, setl_mem, setl_mem]
  constructor
  · rintro (⟨⟨h1, h2⟩ | ⟨h1, rfl⟩, h3⟩ | ⟨h1, rfl⟩)
    · exact Or.inl ⟨Or.inl ⟨h1, h3⟩, h2⟩
    · exact Or.inr ⟨h1, rfl⟩
    · exact Or.inl ⟨Or.inr ⟨h1, rfl⟩, fun e => hab e.symm⟩
  · rintro (⟨⟨h1, h2⟩ | ⟨h1, rfl⟩, h3⟩ | ⟨h1, rfl⟩)
    · exact Or.inl ⟨Or.inl ⟨h1, h3⟩, h2⟩
    · exact Or.inr ⟨h1, rfl⟩
    · exact Or.inl ⟨Or.inr ⟨h1, rfl⟩, hab⟩
end Go.Proofs.Ytnjnogkhbadioaa.ShardLaws
