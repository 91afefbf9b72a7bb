/- Plain laws of the shard's layer, further: the program's own copy; what is sorted is there; slots; no condition but the lists' lengths. -/
import Derived.Test.YtnjnogkhbadioaaShardLaws
import Derived.Test.YtnjnogkhbadioaaShardTxn
import Derived.Test.YtnjnogkhbadioaaDx16
import Derived.Test.YtnjnogkhbadioaaDx2
import Derived.Test.YtnjnogkhbadioaaDx7
namespace Go.Proofs.Ytnjnogkhbadioaa.ShardLaws
set_option linter.unusedSimpArgs false
set_option linter.unusedVariables false
open Go.RowKit Go.Proofs.Ytnjnogkhbadioaa.D Go.Proofs.YtnjnogkhbadioaaW.PrintWords Go.Proofs.YtnjnogkhbadioaaW.PrintLast
abbrev Sh := S26
abbrev Ow := S48
theorem rdS_eq (l : List Sh) (i : Nat) (h : i < l.length) : rd_T26 l (i : Int) = l[i] := by
  unfold rd_T26
  rw [Int.toNat_natCast, List.getD_eq_getElem?_getD, List.getElem?_eq_getElem h]
  rfl
theorem rdT_eq (l : List Tx) (i : Nat) (h : i < l.length) : rd_T32 l (i : Int) = l[i] := by
  unfold rd_T32
  rw [Int.toNat_natCast, List.getD_eq_getElem?_getD, List.getElem?_eq_getElem h]
  rfl
def own (l : List Sh) : List Ow := l.map fun s => ⟨s.f0, s.f1⟩
def all (l : List Sh) : List Ac := l.flatMap fun s => s.f0
theorem own_all (l : List Sh) : ((own l).flatMap fun s => s.f0) = all l := by
  unfold own all
  rw [List.flatMap_map]
theorem own_from (K : Nat) (l : List Sh) (hl : l.length ≤ 1000) : ∀ (n i : Nat) (acc : List Ow), i + n = l.length → acc.length = i → hopperlaw11_Own.l0 (K + n + 1) l acc (i : Int) = some (acc ++ own (l.drop i))
  | 0, i, acc, hn, ha => by
    unfold hopperlaw11_Own.l0
    rw [if_neg (by omega), List.drop_eq_nil_of_le (by omega)]
    exact congrArg some (List.append_nil _).symm
  | n + 1, i, acc, hn, ha => by
    have hil : i < l.length := by omega
    unfold hopperlaw11_Own.l0
    rw [if_pos (by omega), if_pos (by omega), if_pos (by omega), rdS_eq l i hil, step_ i (by omega), show K + (n + 1) = K + n + 1 from rfl, own_from K l hl n (i + 1) _ (by omega) (by simp [ha]), List.drop_eq_getElem_cons hil]
    simp only [own, List.map_cons, List.append_assoc, List.singleton_append]
theorem own_eq (k : Nat) (l : List Sh) (h : l.length ≤ 1000) (hk : l.length + 1 ≤ k) : hopperlaw11_Own.f k l = some (own l) := by
  have := own_from (k - (l.length + 1)) l h l.length 0 [] (by omega) rfl
  rw [show k - (l.length + 1) + l.length + 1 = k by omega] at this
  exact this
theorem lay1_perm (a : Ac) : ∀ l : List Ac, (shard_Join.lay1 a l).Perm (a :: l)
  | [] => List.Perm.refl _
  | b :: l => by
    rw [shard_Join.lay1]
    split
    · exact List.Perm.refl _
    · exact ((lay1_perm a l).cons b).trans (List.Perm.swap a b l)
theorem sort_perm : ∀ l : List Ac, (shard_Join.sort l).Perm l
  | [] => List.Perm.refl _
  | a :: l => (lay1_perm a _).trans ((sort_perm l).cons a)
theorem join_eq (l : List Sh) (h : (all l).length ≤ 1000000) : shard_Join.f (own l) = some (shard_Join.sort (all l)) := by
  unfold shard_Join.f
  rw [own_all, if_pos (by omega)]
theorem wrap_add (s t : Int) : wrap64 (wrap64 s + t) = wrap64 (s + t) := by unfold wrap64; omega
theorem wrap_add2 (s t : Int) : wrap64 (s + wrap64 t) = wrap64 (s + t) := by unfold wrap64; omega
theorem sat_some (x : Int) : ∃ m, sat_Slots.f x = some m := by
  unfold sat_Slots.f
  split
  · exact ⟨_, rfl⟩
  · split <;> exact ⟨_, rfl⟩
theorem tx_some (a b c d e : Int) (z : ByteArray) : ∃ m, txn_Slots.f a b c d e z = some m := by
  unfold txn_Slots.f
  rw [TxnLaws.encode, Option.bind_some]
  by_cases h : TxnLaws.Chk a b c d e z
  · rw [if_pos h]
    dsimp only
    rw [if_pos rfl]
    obtain ⟨m, hm⟩ := sat_some ((TxnLaws.enc a b c d e z).size : Int)
    rw [hm]
    exact ⟨m, rfl⟩
  · rw [if_neg h]
    exact ⟨0, if_neg (by decide)⟩
def tq (t : Tx) : Int := (txn_Slots.f t.f0 t.f1 t.f2 t.f3 t.f4 t.f5).getD 0
theorem tq_eq (t : Tx) : txn_Slots.f t.f0 t.f1 t.f2 t.f3 t.f4 t.f5 = some (tq t) := by
  obtain ⟨m, hm⟩ := tx_some t.f0 t.f1 t.f2 t.f3 t.f4 t.f5
  unfold tq
  rw [hm]
  rfl
theorem qslots_from (k : Nat) (l : List Tx) (hl : l.length ≤ 9223372036854775807) : ∀ (n i : Nat) (s : Int), i + n = l.length → queue_Slots.l0 (k + n + 1) (wrap64 s) l (l.length : Int) (i : Int) = some (wrap64 (s + ((l.drop i).map tq).sum))
  | 0, i, s, hn => by
    unfold queue_Slots.l0
    rw [if_neg (by omega), List.drop_eq_nil_of_le (by omega)]
    simp
  | n + 1, i, s, hn => by
    have hil : i < l.length := by omega
    unfold queue_Slots.l0
    rw [if_pos (by omega), if_pos (by omega), if_pos (by omega), tq_eq, Option.bind_some, step_ i (by omega), wrap_add, show k + (n + 1) = k + n + 1 from rfl, qslots_from k l hl n (i + 1) _ (by omega), rdT_eq l i hil, List.drop_eq_getElem_cons hil, List.map_cons, List.sum_cons, Int.add_assoc]
def aq (a : Ac) : Int := wrap64 (a.f2.map tq).sum
theorem qslots_eq (k : Nat) (s b : Int) (l : List Tx) (h : l.length ≤ 9223372036854775807) (hk : l.length + 1 ≤ k) : queue_Slots.f k s b l = some (wrap64 (l.map tq).sum) := by
  have := qslots_from (k - (l.length + 1)) l h l.length 0 0 (by omega)
  rw [show k - (l.length + 1) + l.length + 1 = k by omega, List.drop_zero, Int.zero_add, show wrap64 0 = 0 by unfold wrap64; omega] at this
  exact this
theorem sslots_from (k : Nat) (l : List Ac) (hl : l.length ≤ 9223372036854775807) (hx : ∀ x ∈ l, x.f2.length ≤ 9223372036854775807 ∧ x.f2.length + 1 ≤ k) : ∀ (n i : Nat) (s : Int), i + n = l.length → shard_Slots.l0 (k + n + 1) (wrap64 s) l (l.length : Int) (i : Int) = some (wrap64 (s + ((l.drop i).map aq).sum))
  | 0, i, s, hn => by
    unfold shard_Slots.l0
    rw [if_neg (by omega), List.drop_eq_nil_of_le (by omega)]
    simp
  | n + 1, i, s, hn => by
    have hil : i < l.length := by omega
    have hm := hx _ (getD_mem l i hil)
    unfold shard_Slots.l0
    rw [if_pos (by omega), if_pos (by omega), if_pos (by omega), qslots_eq (k + (n + 1)) _ _ _ hm.1 (by omega), Option.bind_some, step_ i (by omega), wrap_add, show k + (n + 1) = k + n + 1 from rfl, sslots_from k l hl hx n (i + 1) _ (by omega), rd_eq l i hil, List.drop_eq_getElem_cons hil, List.map_cons, List.sum_cons, Int.add_assoc]
    rfl
theorem sslots_eq (k : Nat) (l : List Ac) (v : Int) (m : Nat) (h : l.length ≤ 9223372036854775807) (hx : ∀ x ∈ l, x.f2.length ≤ 9223372036854775807 ∧ x.f2.length ≤ m) (hk : l.length + m + 2 ≤ k) : shard_Slots.f k l v = some (wrap64 (l.map aq).sum) := by
  have := sslots_from (k - (l.length + 1)) l h (fun x hxl => ⟨(hx x hxl).1, by have := (hx x hxl).2; omega⟩) l.length 0 0 (by omega)
  rw [show k - (l.length + 1) + l.length + 1 = k by omega, List.drop_zero, Int.zero_add, show wrap64 0 = 0 by unfold wrap64; omega] at this
  exact this
theorem sum_perm {l r : List Int} (h : l.Perm r) : l.sum = r.sum := by
  induction h with
  | nil => rfl
  | cons x _ ih => rw [List.sum_cons, List.sum_cons, ih]
  | swap x y l => rw [List.sum_cons, List.sum_cons, List.sum_cons, List.sum_cons]; omega
  | trans _ _ h1 h2 => exact h1.trans h2
theorem all_next (l : List Sh) (i : Nat) (h : i < l.length) : all (l.take (i + 1)) = all (l.take i) ++ l[i].f0 := by
  unfold all
  rw [List.take_add_one, List.getElem?_eq_getElem h, List.flatMap_append]
  simp
/-- How many rounds shards want. -/
def mosts (l : List Sh) : Nat := l.foldr (fun s n => max (s.f0.length + most s.f0) n) 0
theorem mosts_le : ∀ (l : List Sh) (s : Sh), s ∈ l → s.f0.length + most s.f0 ≤ mosts l
  | y :: l, x, h => by
    rcases List.mem_cons.1 h with rfl | h
    · exact Nat.le_max_left _ _
    · exact Nat.le_trans (mosts_le l x h) (Nat.le_max_right _ _)
/-- The shards ahead of i are few and small. -/
def Fews (l : List Sh) (i : Nat) : Prop := ∀ j, j < i → (h : j < l.length) → l[j].f0.length ≤ 20 ∧ ∀ x ∈ l[j].f0, x.f2.length ≤ 20
theorem fews_all (l : List Sh) : ∀ i, i ≤ l.length → Fews l i → (all (l.take i)).length ≤ 20 * i ∧ ∀ x ∈ all (l.take i), x.f2.length ≤ 20
  | 0, _, _ => by simp [all]
  | i + 1, hi, h => by
    obtain ⟨h1, h2⟩ := fews_all l i (by omega) (fun j hj => h j (by omega))
    obtain ⟨h3, h4⟩ := h i (by omega) (by omega)
    rw [all_next l i (by omega), List.length_append]
    refine ⟨by omega, fun x hx => ?_⟩
    rcases List.mem_append.1 hx with hx | hx
    · exact h2 x hx
    · exact h4 x hx
end Go.Proofs.Ytnjnogkhbadioaa.ShardLaws
