/- What the head of the program's cut says, of the given program; no condition. -/
import Derived.Test.YtahopljippfadaaProg
import Derived.Test.YtahopljippfadaaChecked
import Derived.JoinedOf
import Derived.KernelRfl
namespace Go.Proofs.Ytahopljippfadaa.Head
open Go
set_option linter.unusedSimpArgs false
def headL : List Char := [104, 97, 114, 110, 101, 115, 115, 32, 56, 98, 99, 51, 55, 52, 102, 54, 51, 98, 55, 56, 50, 49, 100, 50, 49, 57, 50, 49, 49, 51, 50, 51, 102, 99, 53, 52, 53, 100, 50, 49, 101, 53, 99, 52, 52, 52, 54, 98, 99, 97, 101, 52, 51, 48, 100, 49, 54, 53, 54, 54, 48, 50, 102, 50, 102, 98, 57, 48, 101, 54, 52, 57, 32, 99, 117, 116, 32, 97, 116, 32, 104, 111, 112, 112, 101, 114, 47, 104, 111, 112, 112, 101, 114, 108, 97, 119, 49, 50, 46, 71, 114, 101, 101, 100, 121, 84, 101, 108, 108, 115, 32, 104, 111, 112, 112, 101, 114, 47, 104, 111, 112, 112, 101, 114, 108, 97, 119, 49, 50, 46, 71, 114, 101, 101, 100, 121, 84, 97, 107, 101, 115, 32, 104, 111, 112, 112, 101, 114, 47, 104, 111, 112, 112, 101, 114, 108, 97, 119, 49, 50, 46, 71, 114, 101, 101, 100, 121, 77, 111, 114, 101, 32, 104, 111, 112, 112, 101, 114, 47, 104, 111, 112, 112, 101, 114, 108, 97, 119, 49, 50, 46, 71, 114, 101, 101, 100, 121, 71, 97, 115, 32, 104, 111, 112, 112, 101, 114, 47, 104, 111, 112, 112, 101, 114, 108, 97, 119, 49, 50, 46, 71, 114, 101, 101, 100, 121, 72, 101, 97, 100, 115].map Char.ofNat
theorem head_is : Try.prog.initOrder = String.ofList headL := by kernel_rfl
theorem head_list : Try.prog.initOrder.toList = headL := by rw [head_is]; exact String.toList_ofList
theorem and_ {a b : Bool} (h : a = true) (k : b = true) : (a && b) = true := by rw [h, k]; rfl
def cutL : List Char := [99, 117, 116].map Char.ofNat
theorem first_ : (behindMainWord (wordsSigns headL)).head? = some cutL := by kernel_rfl
theorem words_ : ∃ r, behindMainWord (wordsSigns headL) = cutL :: r := by
  have h := first_
  cases hw : behindMainWord (wordsSigns headL) with
  | nil => rw [hw] at h; cases h
  | cons c r =>
    rw [hw] at h
    exact ⟨r, by rw [Option.some.inj h]⟩
theorem is_gc : (cutL == "gc".toList || cutL == "spec".toList) = false := by kernel_rfl
theorem is_cut : (cutL == "cut".toList) = true := by kernel_rfl
theorem is_carried : (cutL == "carried".toList) = false := by kernel_rfl
theorem strip_ (r : List (List Char)) : stripLifts liftWords (cutL :: r) = ([], cutL :: r) := by kernel_rfl
theorem later_ : Try.prog.laysLater = false := by kernel_rfl
theorem reflect_ : Try.prog.bearsReflect = false := by kernel_rfl
theorem door_ : Try.prog.doorFits [] = true := by kernel_rfl
theorem enter_of (P : Program) (r : List (List Char)) (h : behindMainWord (wordsSigns P.initOrder.toList) = cutL :: r) (h1 : P.laysLater = false) (h2 : P.bearsReflect = false) (h3 : P.doorFits [] = true) : P.mayEnter = true := by
  unfold Program.mayEnter
  rw [h]
  simp only [is_gc, is_carried, strip_, h1, h2, h3, List.head?_cons, Option.some_beq_some, is_cut, Bool.false_and, Bool.false_or, Bool.not_false, Bool.or_true, Bool.true_and, List.contains_nil, Bool.true_or]
theorem make_of (P : Program) (r : List (List Char)) (h : behindMainWord (wordsSigns P.initOrder.toList) = cutL :: r) : P.make = some .cut := by
  unfold Program.make
  rw [h]
  simp only [is_gc, is_cut, Bool.true_or, if_true, Bool.false_eq_true, if_false]
theorem lifts_of (P : Program) (r : List (List Char)) (h : behindMainWord (wordsSigns P.initOrder.toList) = cutL :: r) : P.liftsFinal = false := by
  unfold Program.liftsFinal Program.headLifts
  rw [h]
  simp only [strip_, List.head?_cons, Option.some_beq_some, is_carried, is_cut, Bool.false_and, Bool.false_or, if_true, List.contains_nil]
theorem words_of : ∃ r, behindMainWord (wordsSigns Try.prog.initOrder.toList) = cutL :: r := by rw [head_list]; exact words_
theorem enter_ : Try.prog.mayEnter = true := by obtain ⟨r, hr⟩ := words_of; exact enter_of _ r hr later_ reflect_ door_
theorem make_ : Try.prog.make = some .cut := by obtain ⟨r, hr⟩ := words_of; exact make_of _ r hr
theorem lifts_ : Try.prog.liftsFinal = false := by obtain ⟨r, hr⟩ := words_of; exact lifts_of _ r hr
/-- The closed facts of a row, the head's three apart. -/
theorem closed_of {x b e l m k p v f : Bool} (h : x = (b && e && l && m && k && p && v && f)) (hb : b = true) (he : e = true) (hl : l = true) (hm : m = true) (hk : k = true) (hp : p = true) (hv : v = true) (hf : f = true) : x = true := by
  rw [h, hb, he, hl, hm, hk, hp, hv, hf]
  rfl
end Go.Proofs.Ytahopljippfadaa.Head
