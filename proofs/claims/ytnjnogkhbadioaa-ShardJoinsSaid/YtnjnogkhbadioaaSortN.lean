/- Plain laws on a row of the call's own that is sorted: its cells ahead of the sort and behind it; no condition but the elements' size. -/
import Derived.Test.YtnjnogkhbadioaaSymK
import Derived.Test.YtnjnogkhbadioaaCopyM
namespace Go.Proofs.Ytnjnogkhbadioaa.SymK
set_option linter.unusedSimpArgs false
set_option linter.unusedVariables false
open Go.Shelf Go.RowKit Go.Lib Go.Sort Go.Proofs Go.Proofs.Ytnjnogkhbadioaa.StableK Go.Proofs.YtnjnogkhbadioaaW.PrintWords
variable {α : Type} [Inhabited α] {k : Nat} {enc : α → List Value}
theorem flat_list (hk : ∀ x, (enc x).length = k) (h0 : 0 < k) (d : Array α) : (flatK enc k d).toList = (d.toList.map enc).flatten := by
  have hr : ∀ r ∈ d.toList.map enc, r.length = k := fun r h => by
    obtain ⟨x, _, rfl⟩ := List.mem_map.1 h
    exact hk x
  have hl : (d.toList.map enc).flatten.length = d.size * k := by rw [CopyK.flat_length k _ hr, List.length_map, Array.length_toList]
  apply List.ext_getElem?
  intro t
  by_cases ht : t < d.size * k
  · have hq : t / k < d.size := (Nat.div_lt_iff_lt_mul h0).2 ht
    have hdm : t / k * k + t % k = t := by rw [Nat.mul_comm]; exact Nat.div_add_mod t k
    have hx : (d.toList.map enc)[t / k]? = some (enc d[t / k]!) := by
      rw [List.getElem?_map, List.getElem?_eq_getElem (by rw [Array.length_toList]; exact hq), getElem!_pos d _ hq]
      rfl
    have hf := CopyK.flat_at k _ hr (t / k) (t % k) _ hx (Nat.mod_lt _ h0)
    rw [hdm] at hf
    have hg := get_flatK enc k d t ht
    have hm : t % k < (enc d[t / k]!).length := by rw [hk]; exact Nat.mod_lt _ h0
    rw [hf, List.getElem?_eq_getElem hm, List.getElem?_eq_getElem (by rw [Array.length_toList, size_flatK]; exact ht)]
    rw [getElem!_pos (flatK enc k d) t (by rw [size_flatK]; exact ht), getElem!_pos (enc d[t / k]!) (t % k) hm] at hg
    rw [Array.getElem_toList, hg]
  · rw [List.getElem?_eq_none (by rw [Array.length_toList, size_flatK]; omega), List.getElem?_eq_none (by rw [hl]; omega)]
theorem blk_holds {w : World} {e : TypeId} {g n cap : Nat} {inner : List Value} (hB : CopyK.Blk w e k g n cap inner) (d : Array α) (hd : inner = (flatK enc k d).toList) : HoldsK enc k w g 0 d := by
  intro j hj
  have hq : inner[j]? = some (flatK enc k d)[j]! := by
    rw [hd, List.getElem?_eq_getElem (by rw [Array.length_toList]; exact hj), Array.getElem_toList, getElem!_pos _ j hj]
  rw [Nat.zero_add]
  exact ⟨hB.cell j _ hq, hB.free j⟩
theorem blk_sorted {w W : World} {e : TypeId} {g n cap : Nat} {inner : List Value} (hB : CopyK.Blk w e k g n cap inner) (d0 d : Array α) (hd0 : inner = (flatK enc k d0).toList) (hs : d.size = d0.size) (S : SWK enc k w g 0 d W) : CopyK.Blk W e k g n cap (flatK enc k d).toList ∧ w.grownBy W (some g) := by
  obtain ⟨m, os, rfl⟩ := S
  have hB1 : CopyK.Blk (Sort.ahead w m) e k g n cap inner := hB
  have hH : Holds id (Sort.ahead w m) g 0 (flatK enc k d0) := blk_holds hB1 d0 hd0
  have hl : (flatK enc k d).toList.length = (flatK enc k d0).size := by rw [Array.length_toList, size_flatK, size_flatK, hs]
  have hin : inner.length = n * k := hB.1
  have hz : (flatK enc k d0).size = n * k := by rw [← hin, hd0, Array.length_toList]
  have e1 : setMany (flatK enc k d0) 0 (flatK enc k d).toList = flatK enc k d := by
    refine ext_get! (by rw [size_setMany, size_flatK, size_flatK, hs]) fun t ht => ?_
    rw [size_setMany] at ht
    rw [get_setMany _ _ _ t ht, if_pos ⟨Nat.zero_le _, by omega⟩, Nat.sub_zero, get_toList]
  have e2 : putRowK enc k (Sort.ahead w m) g 0 d = (Sort.ahead w m).setCells g 0 (flatK enc k d).toList := by
    have := setCells_putRow (Sort.ahead w m) g 0 (flatK enc k d).toList 0 (flatK enc k d0) (by omega)
    rw [putRow_self id _ g 0 _ hH, e1] at this
    exact this.symm
  have hm := CopyK.Blk.mid hB1 0 (flatK enc k d).toList (by omega)
  rw [List.take_zero, List.nil_append, Nat.zero_add, List.drop_eq_nil_of_le (by omega), List.append_nil] at hm
  have hg : ∀ W1 : World, W1.grownBy (grow W1 os) none := fun W1 => ⟨rfl, rfl, rfl, by rw [size_grow]; exact Nat.le_add_right _ _, fun j hj _ => by
    show (W1.heap ++ os)[j]? = W1.heap[j]?
    rw [Array.getElem?_append_left hj]⟩
  obtain ⟨a, b, c, q⟩ := setCells_same g (flatK enc k d).toList 0 (Sort.ahead w m)
  have hgr : w.grownBy ((Sort.ahead w m).setCells g 0 (flatK enc k d).toList) (some g) := ⟨a, b, c, by rw [q]; exact Nat.le_refl _, fun j _ hj => setCells_far _ _ j (fun q => hj (by rw [q]))⟩
  unfold sortWorldK
  rw [e2]
  exact ⟨hm.grown (hg _) (by simp), hgr.trans (CopyK.grown_any (hg _) _)⟩
end Go.Proofs.Ytnjnogkhbadioaa.SymK
