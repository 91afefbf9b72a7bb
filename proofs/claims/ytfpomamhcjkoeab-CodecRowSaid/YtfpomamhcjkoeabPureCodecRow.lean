/- The plain statement behind the law CodecRow, proved for every input; no condition but the types' own bounds. -/
import Derived.Test.YtfpomamhcjkoeabCodecMore
import Derived.Test.YtfpomamhcjkoeabCx6
namespace Go.Proofs.Ytfpomamhcjkoeab.Pure
set_option linter.unusedSimpArgs false
set_option linter.unusedVariables false
open Go.RowKit Go.Proofs.Ytfpomamhcjkoeab.C Go.Proofs.Ytfpomamhcjkoeab.CodecLaws Go.Proofs.Ytfpomamhcjkoeab.Row Go.Proofs.YtfpomamhcjkoeabW.PrintWords Go.Proofs.YtfpomamhcjkoeabW.PrintLast
def catN : List Int → ByteArray
  | [] => ⟨#[]⟩
  | n :: r => numStr n ++ catN r
def catT : List ByteArray → ByteArray
  | [] => ⟨#[]⟩
  | t :: r => textStr t ++ catT r
theorem empty_app (s : ByteArray) : (⟨#[]⟩ : ByteArray) ++ s = s := by
  apply bytes_inj
  rw [bytes_append]
  rfl
theorem app_empty (s : ByteArray) : s ++ (⟨#[]⟩ : ByteArray) = s := by
  apply bytes_inj
  rw [bytes_append]
  simp [bytesOf]
theorem catN_snoc (l : List Int) (n : Int) : catN (l ++ [n]) = catN l ++ numStr n := by
  induction l with
  | nil => show numStr n ++ (⟨#[]⟩ : ByteArray) = (⟨#[]⟩ : ByteArray) ++ numStr n; rw [app_empty, empty_app]
  | cons x l ih => show numStr x ++ catN (l ++ [n]) = (numStr x ++ catN l) ++ numStr n; rw [ih, ByteArray.append_assoc]
theorem catT_snoc (l : List ByteArray) (t : ByteArray) : catT (l ++ [t]) = catT l ++ textStr t := by
  induction l with
  | nil => show textStr t ++ (⟨#[]⟩ : ByteArray) = (⟨#[]⟩ : ByteArray) ++ textStr t; rw [app_empty, empty_app]
  | cons x l ih => show textStr x ++ catT (l ++ [t]) = (textStr x ++ catT l) ++ textStr t; rw [ih, ByteArray.append_assoc]
def OkN (l : List Int) : Prop := ∀ n ∈ l, 0 ≤ n ∧ n ≤ 9223372036854775807
def OkT (l : List ByteArray) : Prop := ∀ t ∈ l, t.size ≤ 2000
theorem catN_size (l : List Int) (h : OkN l) : (catN l).size ≤ 9 * l.length := by
  induction l with
  | nil => exact Nat.le_refl _
  | cons x l ih =>
    have a := ih (fun n hn => h n (List.mem_cons_of_mem _ hn))
    have b := h x List.mem_cons_self
    have c := num_size x b.2 b.1
    show (numStr x ++ catN l).size ≤ _
    rw [ByteArray.size_append, List.length_cons]
    omega
theorem catT_size (l : List ByteArray) (h : OkT l) : (catT l).size ≤ 2002 * l.length := by
  induction l with
  | nil => exact Nat.le_refl _
  | cons x l ih =>
    have a := ih (fun n hn => h n (List.mem_cons_of_mem _ hn))
    have b := h x List.mem_cons_self
    have c := text_size x (by omega)
    show (textStr x ++ catT l).size ≤ _
    rw [ByteArray.size_append, List.length_cons]
    omega
theorem rd_mid (p : List Int) (x : Int) (r : List Int) : rd (p ++ x :: r) (p.length : Int) = x := by
  unfold rd
  simp [List.getD]
theorem rd_midT (p : List ByteArray) (x : ByteArray) (r : List ByteArray) : rdOf ByteArray.empty (p ++ x :: r) (p.length : Int) = x := by
  unfold rdOf
  simp [List.getD]
theorem next (n : Nat) (h : n ≤ 100) : wrap64 ((n : Int) + 1) = ((n + 1 : Nat) : Int) := by unfold wrap64; omega
theorem loop3 (l1 : List ByteArray) (h1 : l1.length ≤ 20) (ok : OkT l1) (k : Nat) : ∀ (r p : List ByteArray), l1 = p ++ r → hopperlaw03_CodecRow.l3 (r.length + k + 1) l1 (catT r) (p.length : Int) = some true := by
  intro r
  induction r with
  | nil =>
    intro p hp
    rw [List.append_nil] at hp
    subst hp
    rw [List.length_nil, Nat.zero_add, hopperlaw03_CodecRow.l3, if_neg (Int.lt_irrefl _), live]
    show (if (⟨#[]⟩ : ByteArray).toList = ([] : List UInt8) then ((some true).bind fun t204 => (some t204)) else none) = some true
    decide +kernel
  | cons x r ih =>
    intro p hp
    have hlen : l1.length = p.length + (r.length + 1) := by rw [hp, List.length_append, List.length_cons]
    have hx : x.size ≤ 2000 := ok x (by rw [hp]; simp)
    have okr : OkT r := fun t ht => ok t (by rw [hp]; simp [ht])
    have hs := catT_size r okr
    have ht := text_size x (by omega)
    have c1 : (p.length : Int) < (l1.length : Int) := by omega
    have c2 : (0 : Int) ≤ (p.length : Int) := by omega
    have sz : (textStr x ++ catT r).size ≤ 9223372036854775806 := by rw [ByteArray.size_append]; omega
    have tk := take_text x (catT r) 2000 (by omega)
    rw [if_neg (by omega)] at tk
    rw [List.length_cons, show r.length + 1 + k + 1 = (r.length + k + 1) + 1 by omega, hopperlaw03_CodecRow.l3, if_pos c1]
    show ((codec_TakeText.f (textStr x ++ catT r) 2000).bind _) = _
    rw [takesT _ _ sz, tk, Option.bind_some, if_pos rfl, if_pos c2, show rdOf ByteArray.empty l1 (p.length : Int) = x by rw [hp, rd_midT], if_pos rfl, next _ (by omega)]
    have e := ih (p ++ [x]) (by rw [hp]; simp)
    rw [List.length_append] at e
    exact e
theorem loop2 (l0 : List Int) (l1 : List ByteArray) (h0 : l0.length ≤ 20) (h1 : l1.length ≤ 20) (ok0 : OkN l0) (ok : OkT l1) (k : Nat) : ∀ (r p : List Int), l0 = p ++ r → hopperlaw03_CodecRow.l2 (r.length + (l1.length + k + 1) + 1) l0 l1 (catN r ++ catT l1) (p.length : Int) = some true := by
  intro r
  induction r with
  | nil =>
    intro p hp
    rw [List.append_nil] at hp
    subst hp
    rw [List.length_nil, Nat.zero_add, hopperlaw03_CodecRow.l2, if_neg (Int.lt_irrefl _)]
    show hopperlaw03_CodecRow.l3 _ _ ((⟨#[]⟩ : ByteArray) ++ catT l1) _ = _
    rw [empty_app]
    exact loop3 l1 h1 ok k l1 [] rfl
  | cons x r ih =>
    intro p hp
    have hlen : l0.length = p.length + (r.length + 1) := by rw [hp, List.length_append, List.length_cons]
    have hx := ok0 x (by rw [hp]; simp)
    have okr : OkN r := fun t ht => ok0 t (by rw [hp]; simp [ht])
    have hs := catN_size r okr
    have hs1 := catT_size l1 ok
    have ht := num_size x hx.2 hx.1
    have c1 : (p.length : Int) < (l0.length : Int) := by omega
    have c2 : (0 : Int) ≤ (p.length : Int) := by omega
    have sz : (numStr x ++ (catN r ++ catT l1)).size ≤ 9223372036854775806 := by rw [ByteArray.size_append, ByteArray.size_append]; omega
    have tk := take_num x x (catN r ++ catT l1) hx.1 hx.2
    rw [if_neg (by omega)] at tk
    have hrd : rd l0 (p.length : Int) = x := by rw [hp, rd_mid]
    have hcat : catN (x :: r) ++ catT l1 = numStr x ++ (catN r ++ catT l1) := by
      show (numStr x ++ catN r) ++ catT l1 = _
      rw [ByteArray.append_assoc]
    rw [hcat, List.length_cons, show r.length + 1 + (l1.length + k + 1) + 1 = (r.length + (l1.length + k + 1) + 1) + 1 by omega, hopperlaw03_CodecRow.l2, if_pos c1, if_pos c2, hrd, takes _ _ sz, tk, Option.bind_some, if_pos rfl, if_pos rfl, next _ (by omega)]
    have e := ih (p ++ [x]) (by rw [hp]; simp)
    rw [List.length_append] at e
    exact e
theorem loop1 (l0 : List Int) (l1 : List ByteArray) (h0 : l0.length ≤ 20) (h1 : l1.length ≤ 20) (ok0 : OkN l0) (k : Nat) : ∀ (r p : List ByteArray), l1 = p ++ r → OkT p → hopperlaw03_CodecRow.l1 (r.length + (l0.length + (l1.length + k + 1) + 1) + 1) l0 l1 (catN l0 ++ catT p) (p.length : Int) = some true := by
  intro r
  induction r with
  | nil =>
    intro p hp okp
    rw [List.append_nil] at hp
    subst hp
    rw [List.length_nil, Nat.zero_add, hopperlaw03_CodecRow.l1, if_neg (Int.lt_irrefl _)]
    exact loop2 l0 l1 h0 h1 ok0 okp k l0 [] rfl
  | cons x r ih =>
    intro p hp okp
    have hlen : l1.length = p.length + (r.length + 1) := by rw [hp, List.length_append, List.length_cons]
    have c1 : (p.length : Int) < (l1.length : Int) := by omega
    have c2 : (0 : Int) ≤ (p.length : Int) := by omega
    have hrd : rdOf ByteArray.empty l1 (p.length : Int) = x := by rw [hp, rd_midT]
    rw [List.length_cons, show r.length + 1 + (l0.length + (l1.length + k + 1) + 1) + 1 = (r.length + (l0.length + (l1.length + k + 1) + 1) + 1) + 1 by omega, hopperlaw03_CodecRow.l1, if_pos c1, if_pos c2, hrd]
    by_cases c3 : (x.size : Int) > 2000
    · rw [if_pos c3, live]
      rfl
    · have okx : OkT (p ++ [x]) := by
        intro t ht
        rcases List.mem_append.1 ht with h | h
        · exact okp t h
        · rw [List.mem_singleton.1 h]; omega
      have s0 := catN_size l0 ok0
      have s1 := catT_size p okp
      have s2 := text_size x (by omega)
      have sz : (catN l0 ++ catT p).size + (textStr x).size ≤ 9223372036854775807 := by rw [ByteArray.size_append]; omega
      have e := ih (p ++ [x]) (by rw [hp]; simp) okx
      rw [List.length_append, catT_snoc, ← ByteArray.append_assoc] at e
      rw [if_neg c3, text, Option.bind_some, if_pos sz, next _ (by omega)]
      exact e
theorem loop0 (l0 : List Int) (l1 : List ByteArray) (h0 : l0.length ≤ 20) (h1 : l1.length ≤ 20) (hi : ∀ n ∈ l0, n ≤ 9223372036854775807) (k : Nat) : ∀ (r p : List Int), l0 = p ++ r → OkN p → hopperlaw03_CodecRow.l0 (r.length + (l1.length + (l0.length + (l1.length + k + 1) + 1) + 1) + 1) l0 l1 (catN p) (p.length : Int) = some true := by
  intro r
  induction r with
  | nil =>
    intro p hp okp
    rw [List.append_nil] at hp
    subst hp
    rw [List.length_nil, Nat.zero_add, hopperlaw03_CodecRow.l0, if_neg (Int.lt_irrefl _)]
    have e := loop1 l0 l1 h0 h1 okp k l1 [] rfl (fun _ h => by cases h)
    have z : catT ([] : List ByteArray) = (⟨#[]⟩ : ByteArray) := rfl
    rw [z, app_empty] at e
    exact e
  | cons x r ih =>
    intro p hp okp
    have hlen : l0.length = p.length + (r.length + 1) := by rw [hp, List.length_append, List.length_cons]
    have c1 : (p.length : Int) < (l0.length : Int) := by omega
    have c2 : (0 : Int) ≤ (p.length : Int) := by omega
    have hrd : rd l0 (p.length : Int) = x := by rw [hp, rd_mid]
    have hx := hi x (by rw [hp]; simp)
    rw [List.length_cons, show r.length + 1 + (l1.length + (l0.length + (l1.length + k + 1) + 1) + 1) + 1 = (r.length + (l1.length + (l0.length + (l1.length + k + 1) + 1) + 1) + 1) + 1 by omega, hopperlaw03_CodecRow.l0, if_pos c1, if_pos c2, hrd]
    by_cases c3 : x < 0
    · rw [if_pos c3, live]
      rfl
    · have okx : OkN (p ++ [x]) := by
        intro t ht
        rcases List.mem_append.1 ht with h | h
        · exact okp t h
        · rw [List.mem_singleton.1 h]; exact ⟨by omega, hx⟩
      have s0 := catN_size p okp
      have s2 := num_size x hx (by omega)
      have sz : (catN p).size + (numStr x).size ≤ 9223372036854775807 := by omega
      have e := ih (p ++ [x]) (by rw [hp]; simp) okx
      rw [List.length_append, catN_snoc] at e
      rw [if_neg c3, number x hx, Option.bind_some, if_pos sz, next _ (by omega)]
      exact e
theorem CodecRow : hopperlaw03_CodecRow.Pure := by
  intro l0 l1 hl0 _
  have hi : ∀ n ∈ l0, n ≤ 9223372036854775807 := fun n hn => (bounds_i64 (hl0.2 n hn)).2
  refine ⟨l0.length + (l1.length + (l0.length + (l1.length + 0 + 1) + 1) + 1) + 1 + 1, ?_⟩
  unfold hopperlaw03_CodecRow.f
  have skip : ∀ k, hopperlaw03_CodecRow.j0 (k + 1) l0 l1 true = some true := by
    intro k
    simp only [hopperlaw03_CodecRow.j0]
    rw [if_pos trivial, live]
    rfl
  by_cases c1 : (l0.length : Int) > 20
  · rw [if_pos c1]; exact skip _
  · by_cases c2 : (l1.length : Int) > 20
    · rw [if_neg c1, decide_eq_true c2]; exact skip _
    · rw [if_neg c1, decide_eq_false c2]
      simp only [hopperlaw03_CodecRow.j0]
      rw [if_neg (by decide)]
      exact loop0 l0 l1 (by omega) (by omega) hi 0 l0 [] rfl (fun _ h => by cases h)
end Go.Proofs.Ytfpomamhcjkoeab.Pure
