/- Written by this session's own program over the kit's print: functions of Go told as plain functions, or the row of one statement; proved for every input, with no condition of ours. -/
import Derived.Test.YtahopljippfadaaDx0
import Derived.Test.YtahopljippfadaaDx3
import Derived.Test.YtahopljippfadaaDx4
import Derived.Test.YtahopljippfadaaDx8
namespace Go.Proofs.Ytahopljippfadaa.D
open Go.RowKit Go.Proofs.YtahopljippfadaaW.PrintWords Go.Proofs.YtahopljippfadaaW.PrintLast Go.Proofs.YtahopljippfadaaW.PrintMore
attribute [local go_sem] max2_int min2_int max_two min_two max_three min_three max_four min_four   -- for this text's walks alone
set_option linter.unusedVariables false
set_option linter.unusedSimpArgs false

/-! ### greedy_Follows: function 18, by hand -/
-- HAND rounds=0 making=1
-- IMPORT Derived.Test.YtahopljippfadaaMapK
-- IMPORT Derived.RangeFuncNested
-- IMPORT Derived.RangeFuncBound
-- IMPORT Derived.RangeFuncCalls
-- IMPORT Derived.RangeFuncLeaves
-- IMPORT Derived.Shelf.Abstract
-- IMPORT Derived.Shelf.RegionOpen
-- IMPORT Derived.OwnWalkIn
-- IMPORT Derived.TacticsInMore
-- IMPORT Derived.LoopNIn
-- IMPORT Derived.LoopIn
-- IMPORT Derived.Sort.LoopGhostIn
-- IMPORT Derived.Maps.OwnIn
-- IMPORT Derived.Sort.CutIn
-- NEEDS hopper/greedy.lines
-- NEEDS slices.Backward[[]hopper/api.Account,hopper/api.Account]
/-- What has come when k are left: the places and the elements from the last one on. -/
def cameG {β : Type} (bs : List β) (k : Nat) : List (Int × β) := ((bs.zipIdx.map fun p => ((p.2 : Int), p.1)).drop k).reverse
theorem cameG_all {β : Type} (bs : List β) : cameG bs bs.length = [] := by
  unfold cameG
  rw [List.drop_eq_nil_of_le (by simp)]
  rfl
theorem cameG_next {β : Type} {bs : List β} {k : Nat} {a : β} (h : bs[k]? = some a) : cameG bs k = cameG bs (k + 1) ++ [((k : Int), a)] := by
  unfold cameG
  have he : (bs.zipIdx.map fun p => ((p.2 : Int), p.1))[k]? = some ((k : Int), a) := by
    rw [List.getElem?_map, List.getElem?_zipIdx, h]
    simp
  obtain ⟨hk2, e⟩ := List.getElem?_eq_some_iff.1 he
  rw [List.drop_eq_getElem_cons hk2, List.reverse_cons, e]
theorem cameG_len {β : Type} (bs : List β) (k : Nat) : (cameG bs k).length = bs.length - k := by simp [cameG]
theorem cameG_zero {β : Type} (bs : List β) : (cameG bs 0).map Prod.snd = bs.reverse := by
  unfold cameG
  rw [List.drop_zero, List.map_reverse, List.map_map]
  congr 1
  apply List.ext_getElem?
  intro j
  rw [List.getElem?_map, List.getElem?_zipIdx]
  cases bs[j]? <;> rfl
attribute [local go_sem] Oper.semAt_some
set_option maxRecDepth 100000 in
set_option maxHeartbeats 2000000 in
/-- Backward's closure, at whatever loop body that keeps what lay below n₀. -/
theorem bwd.closure {β : Type} (e_ : β → AcW) (F : Fence) (n : Nat) (h7 : F.fn 40) (hro : F.round = none) (hn : 1 ≤ n) (l Bs n₀ cap : Nat) (A : Option Addr) (bs : List β) (hreach : bs.length < 2513169434916) (J Jx : List (Int × β) → World → Prop)
    (hY : ∀ pre x W, J pre W → pre.length < bs.length → YieldAt F (n - 1) Try.prog l #[.int .i64 x.1, .agg (encBW (e_ x.2)).toArray] W fun e W' =>
      (e = .returned (.bool true) ∧ J (pre ++ [x]) W' ∧ KpB n₀ Bs W W') ∨ (e = .returned (.bool false) ∧ Jx (pre ++ [x]) W'))
    (W : World) (hBs : W.cell? ⟨Bs, 0, none⟩ = some (.slice A bs.length cap)) (hc : LieBW n₀ W A (bs.map e_)) (h0 : J [] W) :
    CallsIn F n Try.prog 40 #[.func (.yield l) #[] #[], .pointer (some ⟨Bs, 0, none⟩)] W fun e W' => (∃ v, e = .returned v) ∧
      ((∃ ys, ys = cameG bs 0 ∧ J ys W') ∨ (∃ pre, (∃ k, pre = cameG bs k) ∧ Jx pre W')) := by
  refine callsIn_of_wp Try.func40 rfl h7 ?_ hro
  simp only [Try.ntmps40, List.size_toArray, List.length_cons, List.length_nil, Nat.reduceAdd, Nat.reduceSub, Array.replicate_succ, Array.replicate_zero, List.push_toArray, List.append_toArray, List.nil_append, List.cons_append]
  gi_wp2
  gi_loopw [3] (fun i wr => ∃ k : Nat, k ≤ bs.length ∧ i = .int .i64 ((k : Int) - 1) ∧ Aside0 (J (cameG bs k) wr) ∧ Aside0 (KpB n₀ Bs W wr))
    (fun i _ => (intOf i + 1).toNat)
  case atStart => exact ⟨bs.length, Nat.le_refl _, rfl, ⟨by rw [cameG_all]; exact h0⟩, ⟨KpB.refl _ _ _⟩⟩
  case round =>
    obtain ⟨k, hk, rfl, hJs, hnx⟩ := hrel
    cases k with
    | zero =>
      have hge : ¬ ((0 : Nat) : Int) - 1 ≥ 0 := by omega
      gi_wp2
      go_end0
      exact ⟨⟨_, rfl⟩, .inl (by first | exact hJs.out | exact ⟨_, rfl, hJs.out⟩)⟩
    | succ k =>
      obtain ⟨x, hx⟩ : ∃ x, bs[k]? = some x := ⟨_, List.getElem?_eq_getElem (by omega)⟩
      rw [show (((k + 1 : Nat) : Int) - 1) = (k : Int) by omega]
      have hge : (k : Int) ≥ 0 := by omega
      have hk0 : (0 : Int) ≤ (k : Int) := by omega
      have hkl : (k : Int) < (bs.length : Int) := by omega
      have hcs := hnx.out.2 _ hBs
      rcases hc.below hnx.out.1 with hnil | ⟨ad, rfl, had, hcc⟩
      · rw [List.map_eq_nil_iff.1 hnil] at hx; cases hx
      obtain ⟨u0, u1, u2⟩ := hcc k (e_ x) (by rw [List.getElem?_map, hx]; rfl)
      have HX := Aside0.mk hx
      have hJ0 : J (cameG bs (k + 1)) wr := hJs.out
      obtain ⟨fn, tmps, assign, body, hy, hR⟩ := hY _ ((k : Int), x) wr hJ0 (by rw [cameG_len]; omega)
      simp only [encBW] at hy
      have HRR := Aside0.mk hR
      clear hcc hc hR hx hJs hJ0
      gi_wp2
      refine HRR.out.mono ?_
      rintro e W3 (⟨rfl, hJ3, hk3⟩ | ⟨rfl, hJx3⟩)
      · have HJ3 := Aside0.mk hJ3
        have HK3 := Aside0.mk hk3
        clear hJ3 hk3
        gi_wp2
        go_roundw
        case rel => exact ⟨k, by omega, rfl, ⟨by rw [cameG_next HX.out]; exact HJ3.out⟩, ⟨hnx.out.trans HK3.out⟩⟩
        case measure => simp only [intOf]; omega
      · have HJ3 := Aside0.mk hJx3
        clear hJx3
        gi_wp2
        refine bodyPost_ret (results_none rfl _ _ _) rfl ?_
        exact ⟨⟨_, rfl⟩, .inr ⟨_, ⟨k, (cameG_next HX.out).symm⟩, HJ3.out⟩⟩
set_option maxHeartbeats 1000000 in
/-- Backward: the slice is boxed; the function value holds the box. -/
theorem bwd.calls (F : Fence) (n : Nat) (h5 : F.fn 33) (hro : F.round = none) (a : Option Addr) (len cap : Nat) (w : World) :
    CallsIn F n Try.prog 33 #[.slice a len cap] w fun e w' => e = .returned (.func (.func 40) #[] #[.pointer (some ⟨w.heap.size, 0, none⟩)]) ∧ w' = w.alloc (.cells #[.slice a len cap] 22) := by
  refine callsIn_of_wp Try.func33 rfl h5 ?_ hro
  simp only [Try.ntmps33, List.size_toArray, List.length_cons, List.length_nil, Nat.reduceAdd, Nat.reduceSub, Array.replicate_succ, Array.replicate_zero, List.push_toArray, List.append_toArray, List.nil_append, List.cons_append]
  gi_wp2
  go_ret
  exact ⟨rfl, rfl⟩
/-- Backward hands back a value that hands on all accounts, from the last one on. -/
theorem bwd.stops {β : Type} (e_ : β → AcW) (F : Fence) (n : Nat) (h7 : F.fn 40) (hro : F.round = none) (hn : 1 ≤ n) (Bs n₀ cap : Nat) (A : Option Addr) (bs : List β) (hreach : bs.length < 2513169434916) (w : World) (hBn : Bs < w.heap.size) (hn₀ : n₀ ≤ w.heap.size)
    (hBs : w.cell? ⟨Bs, 0, none⟩ = some (.slice A bs.length cap)) (hc : LieBW n₀ w A (bs.map e_)) :
    SeqStopsK F n Try.prog 40 #[.pointer (some ⟨Bs, 0, none⟩)] (fun x : Int × β => #[Value.int .i64 x.1, .agg (encBW (e_ x.2)).toArray]) (KpB n₀ Bs) (fun ys => ys = cameG bs 0) (fun pre => ∃ k, pre = cameG bs k) bs.length w := fun l J Jx W hW _ _ hY h0 =>
  bwd.closure e_ F n h7 hro hn l Bs n₀ cap A bs hreach J Jx hY W ((hW.cell (p := ⟨Bs, 0, none⟩) hBn).trans hBs) (hc.below (hW.mono hn₀)) h0
/-- What a map by senders holds: who was laid, in order: a sender, and its row. -/
structure EntW where
  s : Int
  A : Option Addr
  c : Nat
  xs : List S38
def EntW.val (e : EntW) : Value := .slice e.A e.xs.length e.c
def EntW.pair (e : EntW) : Int × List S38 := (e.s, e.xs)
def datE (E : List EntW) : DataW Value := MapK.dat (E.map fun e => (e.s, e.val))
/-- Blocks of a world that hold transactions' cells. -/
def TxB (W : World) (k : Nat) : Prop := ∃ cells, W.heap[k]? = some (.cells cells 38 (0, 0))
def Ents (W : World) (E : List EntW) : Prop := ∀ e ∈ E, Kd.V k38 38 W 0 (TxB W) e.val e.xs
theorem V_txb {W W' : World} {v : Value} {xs : List S38} (h : Kd.V k38 38 W 0 (TxB W) v xs) (hm : ∀ k, TxB W k → W'.heap[k]? = W.heap[k]?) : Kd.V k38 38 W' 0 (TxB W') v xs :=
  Kd.V_mono (Kd.V_step h (fun k hk _ => hm k hk)) (fun k hk => by
    obtain ⟨cells, hc⟩ := hk
    exact ⟨cells, (hm k ⟨cells, hc⟩).trans hc⟩)
theorem txb_lt {W : World} {k : Nat} (h : TxB W k) : k < W.heap.size := by
  obtain ⟨cells, hc⟩ := h
  exact blk_lt hc
theorem Ents.below {W W' : World} {E : List EntW} (h : Ents W E) (hb : Below W.heap.size W W') : Ents W' E := fun e he => V_txb (h e he) (fun k hk => hb.block k (txb_lt hk))
theorem Ents.grown {W W' : World} {E : List EntW} {row : Option Nat} (h : Ents W E) (hg : W.grownBy W' row) (hr : ∀ r, row = some r → ∃ o : Obj, W.heap[r]? = some o ∧ o.isCells = false) : Ents W' E := fun e he => V_txb (h e he) (fun k hk => hg.block k (txb_lt hk) (fun q => by
  obtain ⟨o, ho, hc⟩ := hr k q.symm
  obtain ⟨cells, h2⟩ := hk
  rw [h2] at ho
  cases ho
  cases hc))
theorem txb_of_R {W : World} {base : Nat} {ok : Nat → Prop} {v : Value} {xs : List S38} (h : Kd.R k38 38 W base ok v xs) : Kd.V k38 38 W 0 (TxB W) v xs :=
  Kd.V_mono (Kd.R_V (Kd.R_bound h)) (fun k hk => by
    obtain ⟨_, _, _, q, hq, cells, hc⟩ := hk
    have : q = 38 := by
      rcases List.mem_cons.1 hq with e | e
      · exact e
      · exact absurd e (by rw [show (k38).E = [] from rfl]; exact List.not_mem_nil)
    subst this
    exact ⟨cells, hc⟩)
/-- What a sender has, of who was laid, in order. -/
def mineP (P : List (Int × List S38)) (s : Int) : List S38 := match P.reverse.find? (fun p => p.1 == s) with | some p => p.2 | none => []
theorem mine_at {W : World} {E : List EntW} (hE : Ents W E) (s : Int) : ∃ A c, (datE E).atKey (.int .i64 s) (.held (.slice none 0 0)) = .held (.slice A (mineP (E.map EntW.pair) s).length c) ∧ Kd.V k38 38 W 0 (TxB W) (.slice A (mineP (E.map EntW.pair) s).length c) (mineP (E.map EntW.pair) s) := by
  unfold datE mineP
  rw [MapK.dat_at, ← List.map_reverse, ← List.map_reverse, List.find?_map, List.find?_map]
  have e1 : ((fun a : Int × Value => a.1 == s) ∘ fun e : EntW => (e.s, e.val)) = fun e => e.s == s := rfl
  have e2 : ((fun p : Int × List S38 => p.1 == s) ∘ EntW.pair) = fun e => e.s == s := rfl
  rw [e1, e2]
  cases h : E.reverse.find? (fun e => e.s == s) with
  | none => exact ⟨none, 0, rfl, Kd.V_nil _ _ _ _ _⟩
  | some e => exact ⟨e.A, e.c, rfl, hE e (List.mem_reverse.1 (List.mem_of_find?_eq_some h))⟩
/-- The lines of accounts, each with its sender. -/
def readyL : List S35 → Option (List (Int × List S38))
  | [] => some []
  | a :: l => (greedy_ready.f a.f0 a.f1 a.f2).bind fun r => (readyL l).map fun P => (a.f0, r) :: P
def sameTx (x y : S38) : Bool := (x.f0 == y.f0 && (x.f1 == y.f1 && (x.f2 == y.f2 && (x.f3 == y.f3 && (x.f4 == y.f4 && (x.f5.toList == y.f5.toList))))))
theorem neq_six (x y : S38) (w : World) : (if x.f0 = y.f0 then if x.f1 = y.f1 then if x.f2 = y.f2 then if x.f3 = y.f3 then if x.f4 = y.f4 then if x.f5.toList = y.f5.toList then Result.ok (Next.value (Value.bool false)) w else Result.ok (Next.value (Value.bool true)) w else Result.ok (Next.value (Value.bool true)) w else Result.ok (Next.value (Value.bool true)) w else Result.ok (Next.value (Value.bool true)) w else Result.ok (Next.value (Value.bool true)) w else Result.ok (Next.value (Value.bool true)) w) = Result.ok (Next.value (Value.bool (!sameTx x y))) w := by
  unfold sameTx
  by_cases h0 : x.f0 = y.f0 <;> by_cases h1 : x.f1 = y.f1 <;> by_cases h2 : x.f2 = y.f2 <;> by_cases h3 : x.f3 = y.f3 <;> by_cases h4 : x.f4 = y.f4 <;> by_cases h5 : x.f5.toList = y.f5.toList <;> simp [h0, h1, h2, h3, h4, h5]
/-- Do transactions follow what senders have? -/
def follP : List (Int × List S38) → List S38 → Bool
  | _, [] => true
  | P, x :: t => match mineP P x.f0 with
    | [] => false
    | y :: ys => if sameTx y x = true then follP (P ++ [(x.f0, ys)]) t else false
def greedy_Follows.f (l : List S35) (t : List S38) : Option Bool :=
  if l.length < 1000000000000 ∧ t.length < 1000000000000 ∧ (l.all fun a => (Lit.int .i64 a.f0).wf) = true ∧ (t.all fun a => (Lit.int .i64 a.f0).wf) = true then (readyL l).map fun P => follP P.reverse t else none
/-- An account that came in, with its line. -/
structure AcX (w : World) where
  b : AcW
  xs : List S38
  r : List S38
  hm : b.m = xs.length
  hc : xs.length ≤ b.c
  hC : Kd.C k38 w b.A xs.length xs
  hr : greedy_ready.f b.s b.b xs = some r
theorem bx_of {w : World} {A : Option Addr} {l : List S35} {P : List (Int × List S38)} (h : Kd.C k35 w A l.length l) (hwf : ∀ a ∈ l, (Lit.int .i64 a.f0).wf = true) (hP : readyL l = some P) :
    ∃ bs : List (AcX w), bs.length = l.length ∧ bs.map (fun x => (x.b.s, x.r)) = P ∧ LieBW w.heap.size w A (bs.map AcX.b) := by
  have hat : ∀ (l : List S35) (P : List (Int × List S38)), readyL l = some P → P.length = l.length ∧ ∀ (i : Nat) (a : S35) (p : Int × List S38), l[i]? = some a → P[i]? = some p → p.1 = a.f0 ∧ greedy_ready.f a.f0 a.f1 a.f2 = some p.2 := by
    intro l
    induction l with
    | nil =>
      intro P hP
      obtain rfl := Option.some.inj hP
      exact ⟨rfl, fun i a p h => by simp at h⟩
    | cons x l ih =>
      intro P hP
      obtain ⟨r, hr, h2⟩ := Option.bind_eq_some_iff.1 hP
      obtain ⟨Q, hQ, rfl⟩ := Option.map_eq_some_iff.1 h2
      obtain ⟨i1, i2⟩ := ih Q hQ
      refine ⟨by rw [List.length_cons, List.length_cons, i1], fun i a p ha hp => ?_⟩
      cases i with
      | zero =>
        rw [List.getElem?_cons_zero] at ha hp
        obtain rfl := Option.some.inj ha
        obtain rfl := Option.some.inj hp
        exact ⟨rfl, hr⟩
      | succ i =>
        rw [List.getElem?_cons_succ] at ha hp
        exact i2 i a p ha hp
  obtain ⟨hl, hp⟩ := hat l P hP
  obtain ⟨bs, hbl, hbs⟩ := Row.listed (p := fun i (x : AcX w) => ∃ (ad : Addr) (a : S35) (p : Int × List S38), A = some ad ∧ l[i]? = some a ∧ P[i]? = some p ∧ x.b.s = a.f0 ∧ x.r = p.2 ∧ w.cell? (ad.add (i * 3)) = some (.int .i64 x.b.s) ∧ w.cell? ⟨(ad.add (i * 3)).block, (ad.add (i * 3)).off + 1, none⟩ = some (.int .i64 x.b.b) ∧ w.cell? ⟨(ad.add (i * 3)).block, (ad.add (i * 3)).off + 2, none⟩ = some (.slice x.b.A x.b.m x.b.c)) l.length (fun i hi => by
    have hiz : (i : Int) < (l.length : Int) := by omega
    obtain ⟨ad, A2, c2, hA, x0, x1, x2, hl2, hC2⟩ := at_T35 h (i : Int) (by omega) hiz
    have ha : l[i]? = some (rd_T35 l (i : Int)) := by
      unfold rd_T35
      rw [Int.toNat_natCast, List.getD_eq_getElem?_getD, List.getElem?_eq_getElem hi]
      rfl
    rw [Int.toNat_natCast] at x0 x1 x2
    generalize rd_T35 l (i : Int) = a at ha x0 x1 x2 hl2 hC2
    obtain ⟨p, hpi⟩ : ∃ p, P[i]? = some p := ⟨_, List.getElem?_eq_getElem (by omega)⟩
    obtain ⟨p1, p2⟩ := hp i a p ha hpi
    exact ⟨⟨⟨a.f0, a.f1, A2, a.f2.length, c2, hwf a (List.mem_of_getElem? ha)⟩, a.f2, p.2, rfl, hl2, hC2, p2⟩, ad, a, p, hA, ha, hpi, rfl, rfl, x0, x1, x2⟩)
  refine ⟨bs, hbl, ?_, ?_⟩
  · apply List.ext_getElem?
    intro i
    rw [List.getElem?_map]
    cases hb : bs[i]? with
    | none =>
      have := List.getElem?_eq_none_iff.1 hb
      rw [List.getElem?_eq_none (by omega)]
      rfl
    | some x =>
      obtain ⟨ad, a, p, _, ha, hpi, e1, e2, _⟩ := hbs i x hb
      rw [hpi, Option.map_some, e1, e2, ← (hp i a p ha hpi).1]
  · cases hbn : bs with
    | nil => exact .inl rfl
    | cons x0 br =>
      rw [← hbn]
      obtain ⟨ad, _, _, hA, _, _, _, _, c0, _⟩ := hbs 0 x0 (by rw [hbn]; rfl)
      refine .inr ⟨ad, hA, ?_, fun j b hb => ?_⟩
      · have := World.block_lt_of_cell? _ _ c0
        rwa [add_block] at this
      · rw [List.getElem?_map] at hb
        obtain ⟨x, hx, rfl⟩ := Option.map_eq_some_iff.1 hb
        obtain ⟨ad', _, _, hA', _, _, _, _, c0, c1, c2⟩ := hbs j x hx
        obtain rfl : ad = ad' := by rw [hA] at hA'; exact Option.some.inj hA'
        exact ⟨c0, c1, c2⟩
theorem greedy_Follows.blk {A B : World} {row : Option Nat} {g : Nat} {cs : Array Value} {t : TypeId} (hs : A.heap[g]? = some (.cells cs t (0, 0))) (hg : A.grownBy B row) (hr : ∀ r, row = some r → ∃ o : Obj, A.heap[r]? = some o ∧ o.isCells = false) : B.heap[g]? = some (.cells cs t (0, 0)) := by
  refine (hg.block g (Array.getElem?_eq_some_iff.1 hs).1 (fun e => ?_)).trans hs
  obtain ⟨o, ho, hc⟩ := hr g e.symm
  rw [hs] at ho
  cases ho
  cases hc
/-- A post that no panic meets. -/
def noPanic (Q : Exit → Act → World → Prop) : Exit → Act → World → Prop
  | .panic _, _, _ => False
  | e, a, w => Q e a w
theorem noPanic.out {Q : Exit → Act → World → Prop} {e : Exit} {a : Act} {w : World} (h : noPanic Q e a w) : Q e a w := by
  cases e <;> first | exact h | exact False.elim h
theorem noPanic.ret {Q : Exit → Act → World → Prop} {a : Act} {w : World} (h : Q .ret a w) : noPanic Q .ret a w := h
/-- What the walk holds while the accounts come. -/
def FolI (w : World) (B5 bM : Nat) (pre : List (Int × AcX w)) (W : World) : Prop := (W.heap[B5]? = some (.cells #[.map (some bM)] 62 (0, 0)) ∧ ∃ E : List EntW, W.ownsMap Try.prog 3 MapK.Rh bM pre.length (datE E) ∧ Ents W E ∧ E.map EntW.pair = pre.map fun x => (x.2.b.s, x.2.r)) ∧ Below w.heap.size w W
theorem FolI.step {w W w5 w6 : World} {B5 bM B Bs : Nat} {pre : List (Int × AcX w)} {x : Int × AcX w} {E : List EntW} {v5 : Value} (hm : W.heap[B5]? = some (.cells #[.map (some bM)] 62 (0, 0))) (hE : Ents W E) (hown : W.ownsMap Try.prog 3 MapK.Rh bM pre.length (datE E)) (hp : E.map EntW.pair = pre.map fun x => (x.2.b.s, x.2.r)) (hB : Below w.heap.size w W) (hbM : w.heap.size ≤ bM) (hBB : bM < B)
    (hb5 : Below W.heap.size W w5) (hR5 : Kd.R k38 38 w5 W.heap.size (fun _ => True) v5 x.2.r) (hown6 : w6.ownsMap Try.prog 3 MapK.Rh bM (pre.length + 1) ((datE E).put (.int .i64 x.2.b.s) (.held v5))) (hturn6 : w5.mapTurned w6 bM) : KeepsFrom B W w6 ∧ KpB w.heap.size Bs W w6 ∧ FolI w B5 bM (pre ++ [x]) w6 := by
  have hg := hturn6.grown
  have hne : ∀ r, some bM = some r → ∃ o : Obj, w5.heap[r]? = some o ∧ o.isCells = false := fun r e => by
    cases e
    obtain ⟨es, ck, h2, _⟩ := hown
    exact ⟨_, (hb5.block bM (blk_lt h2)).trans h2, rfl⟩
  have hb6 : Below w.heap.size W w6 := (hb5.mono hB.size).grown hg (Nat.le_trans hB.size hb5.size) (fun k e => by cases e; exact hbM)
  obtain ⟨A5, c5, rfl⟩ := Kd.R_slice hR5
  refine ⟨KeepsFrom.trans ⟨hb5.size, fun k o _ hk _ => (hb5.block k (blk_lt hk)).trans hk⟩ (KeepsFrom.of_grownBy hg (fun j e => by cases e; exact hBB)), ⟨hb6, fun v hv => cell_kept (on_ hb5 hv) hg hne⟩, ⟨⟨greedy_Follows.blk (blk_below hm hb5) hg hne, E ++ [⟨x.2.b.s, A5, c5, x.2.r⟩], ?_, fun e he => ?_, ?_⟩, hB.trans hb6⟩⟩
  · rw [List.length_append, List.length_singleton]
    unfold datE
    rw [List.map_append, List.map_cons, List.map_nil, MapK.dat_snoc]
    exact hown6
  · rcases List.mem_append.1 he with he | he
    · exact ((hE.below hb5).grown hg hne) e he
    · rw [List.mem_singleton] at he
      subst he
      have h1 : Ents w5 [⟨x.2.b.s, A5, c5, x.2.r⟩] := fun e he => by
        rw [List.mem_singleton] at he
        subst he
        exact txb_of_R hR5
      exact (h1.grown hg hne) _ (List.mem_singleton.2 rfl)
  · rw [List.map_append, List.map_append, hp]
    rfl
def greedy_Follows.T9 : Bool × List (List Nat × List Nat) := (true, [([], []), ([0], [0]), ([1], [1]), ([2], [2]), ([3], [3]), ([4, 3], [3, 4]), ([5, 3], [3, 5]), ([3], [3]), ([6, 7, 3], [3, 6, 7]), ([3, 8], [3, 8])])
def greedy_Follows.B9 : List Nat := [0, 1, 3, 7, 15, 31, 63, 15, 255, 511]
def greedy_Follows.T11 : Bool × List (List Nat × List Nat) := (true, [([], []), ([], []), ([1], [1]), ([], []), ([3], [3]), ([0, 2, 4, 0, 1, 2, 3, 4], [0, 2, 4])])
def greedy_Follows.B11 : List Nat := [0, 0, 2, 0, 8, 31]
theorem greedy_Follows.tab9 : rtab .any (opsOf Try.f18 9) = greedy_Follows.T9 := by kernel_rfl
theorem greedy_Follows.bits9 : waitsOk greedy_Follows.T9.2 greedy_Follows.B9 = true := by kernel_rfl
theorem greedy_Follows.tab11 : rtab .any (opsOf Try.f18 11) = greedy_Follows.T11 := by kernel_rfl
theorem greedy_Follows.bits11 : waitsOk greedy_Follows.T11.2 greedy_Follows.B11 = true := by kernel_rfl
set_option maxRecDepth 100000 in
set_option maxHeartbeats 8000000 in
theorem greedy_Follows.calls (A0 : Option Addr) (c0 : Nat) (l0 : List S35) (A1 : Option Addr) (c1 : Nat) (l1 : List S38) (r : Bool) (w : World) (hr0 : Kd.C k35 w A0 l0.length l0) (hc0 : l0.length ≤ c0) (hr1 : Kd.C k38 w A1 l1.length l1) (hc1 : l1.length ≤ c1) (h : greedy_Follows.f l0 l1 = some r) :
    Calls Try.prog 18 #[.slice A0 l0.length c0, .slice A1 l1.length c1] w fun e w' => e = .returned (.bool r) ∧ Below w.heap.size w w' := by
  unfold greedy_Follows.f at h
  by_cases hl : l0.length < 1000000000000 ∧ l1.length < 1000000000000 ∧ (l0.all fun a => (Lit.int .i64 a.f0).wf) = true ∧ (l1.all fun a => (Lit.int .i64 a.f0).wf) = true
  rotate_left
  · rw [if_neg hl] at h; cases h
  rw [if_pos hl] at h
  obtain ⟨P, hP, rfl⟩ := Option.map_eq_some_iff.1 h
  obtain ⟨hl0, hl1, hw0, hw1⟩ := hl
  obtain ⟨bs, hbl, hbP, hlie⟩ := bx_of hr0 (fun a ha => List.all_eq_true.1 hw0 a ha) hP
  rw [← hbl] at hl0 hc0 ⊢
  have HW1 := Aside0.mk (fun a ha => List.all_eq_true.1 hw1 a ha : ∀ a ∈ l1, (Lit.int .i64 a.f0).wf = true)
  have HR1 := Aside0.mk hr1
  have HL1 := Aside0.mk hl1
  have HL0 := Aside0.mk hl0
  have HBP := Aside0.mk hbP
  have HLI := Aside0.mk hlie
  clear hr0 hr1 h hP hw0 hw1 hbP hlie hbl
  refine (callsIn_wide (n := 6)).1 ?_
  have hro : Fence.wide.round = none := rfl
  have h1 : 1 ≤ 6 := by omega
  have hmm := @run_makeMap Try.prog
  have f55 : Fence.wide.fn 33 := trivial
  refine callsIn_of_wp_marks Try.func18 rfl trivial ?_ hro
  simp only [Try.ntmps18, List.size_toArray, List.length_cons, List.length_nil, Nat.reduceAdd, Nat.reduceSub, Array.replicate_succ, Array.replicate_zero, List.push_toArray, List.append_toArray, List.nil_append, List.cons_append]
  gi_wp2_with (gi_at_call 33; refine (api_Account.calls Fence.wide _ trivial hro _ _ _ _).mono ?_; rintro e w' ⟨rfl, rfl⟩)
  have hm0 := World.ownsMap_made w Try.prog 3 MapK.Rh
  have kM := World.alloc_heap_new (w.alloc (.map #[] 0)) (.cells #[.map (some w.heap.size)] 62)
  have kS := World.alloc_heap_new ((w.alloc (.map #[] 0)).alloc (.cells #[.map (some w.heap.size)] 62)) (.cells #[.slice A0 bs.length c0] 22)
  simp only [World.size_alloc] at kM kS
  have hB0 : Below w.heap.size w (((w.alloc (.map #[] 0)).alloc (.cells #[.map (some w.heap.size)] 62)).alloc (.cells #[.slice A0 bs.length c0] 22)) := (((Below.refl _ w).alloc (Nat.le_refl _) _).alloc (by simp) _).alloc (by simp; omega) _
  have hsz : (((w.alloc (.map #[] 0)).alloc (.cells #[.map (some w.heap.size)] 62)).alloc (.cells #[.slice A0 bs.length c0] 22)).heap.size = w.heap.size + 3 := by simp
  have hm1 := (hm0.alloc (.cells #[.map (some w.heap.size)] 62)).alloc (.cells #[.slice A0 bs.length c0] 22)
  have kM1 : (((w.alloc (.map #[] 0)).alloc (.cells #[.map (some w.heap.size)] 62)).alloc (.cells #[.slice A0 bs.length c0] 22)).heap[w.heap.size + 1]? = some (.cells #[.map (some w.heap.size)] 62 (0, 0)) := (heap_alloc_old _ _ (by simp)).trans kM
  obtain ⟨W0, hW0⟩ : ∃ W0, ((w.alloc (.map #[] 0)).alloc (.cells #[.map (some w.heap.size)] 62)).alloc (.cells #[.slice A0 bs.length c0] 22) = W0 := ⟨_, rfl⟩
  rw [hW0] at kM1 kS hB0 hsz hm1 ⊢
  clear hW0 kM hm0
  have cS : W0.cell? ⟨w.heap.size + 1 + 1, 0, none⟩ = some (.slice A0 bs.length c0) := (blk_cell kS 0).trans rfl
  have hFF : (bs.map AcX.b).length = bs.length := List.length_map ..
  have hne0 : ∀ (E : List EntW), E.length = 0 → E = [] := fun E h => List.length_eq_zero_iff.1 h
  refine wpIn_rangeFunc_ownH hro (by omega) (gf := 40) (lb := #[.pointer (some ⟨w.heap.size + 1 + 1, 0, none⟩)]) rfl trivial (enters_of Try.func40 (by kernel_rfl) rfl)
    (bwd.stops AcX.b Fence.wide _ trivial hro (by omega) (w.heap.size + 1 + 1) w.heap.size c0 A0 bs (by omega) W0 (by omega) (by omega) cS (HLI.out.below hB0)) KpB.trans (KpB.put (by omega)) (Below.refl _ _) (fun _ => rfl)
    (FolI w (w.heap.size + 1) w.heap.size)
    (fun _ _ _ => False)
    (OwnFrom.and (fun s A B row hs hg hr => ⟨greedy_Follows.blk hs.1 hg (fun r e => (hr r e).2), by
      obtain ⟨E, e1, e2, e3⟩ := hs.2
      exact ⟨E, e1.kept hg (fun e => by have := (hr _ e.symm).1; omega), e2.grown hg (fun r e => (hr r e).2), e3⟩⟩) (ownFrom_below (Nat.le_refl _) (by omega)))
    (fun _ _ _ _ _ hs _ _ => hs)
    ⟨⟨kM1, [], hm1, (fun e he => absurd he List.not_mem_nil), rfl⟩, hB0⟩
    (fun x a' W => ∃ Bx, w.heap.size + 1 < Bx ∧ W.heap[Bx]? = some (.cells #[.int .i64 x.2.b.s, .int .i64 x.2.b.b, .slice x.2.b.A x.2.b.m x.2.b.c] 35 (0, 0)) ∧ a' = { tmps := #[.slice A0 bs.length c0, .slice A1 l1.length c1, undef, undef, .bool false, .pointer (some ⟨w.heap.size + 1, 0, none⟩), undef, .pointer (some ⟨Bx, 0, none⟩), undef, undef, undef, .map (some w.heap.size), .slice A0 bs.length c0, .func (.func 40) #[] #[.pointer (some ⟨w.heap.size + 1 + 1, 0, none⟩)], .int .i64 x.1, .agg #[.int .i64 x.2.b.s, .int .i64 x.2.b.b, .slice x.2.b.A x.2.b.m x.2.b.c], undef, undef, undef, undef, undef, undef, undef, undef, undef, undef, undef, undef, undef, undef, undef, undef, undef, undef, undef, undef, undef, undef, undef, undef, undef, undef, undef, undef, undef, undef, undef], defers := [] })
    (fun x a' _ X Y row hs hg hr => by obtain ⟨Bx, h1, h2, h3⟩ := hs; exact ⟨Bx, h1, greedy_Follows.blk h2 hg (fun r e => (hr r e).2), h3⟩)
    ?assign ?body ?done ?stop
  case assign =>
    rintro l pre x W K ⟨⟨hm, E, hown, hE, hp⟩, hB⟩ hK
    have hlt : w.heap.size + 1 < W.heap.size := (Array.getElem?_eq_some_iff.1 hm).1
    simp only [encBW]
    gi_wp2
    exact hK _ _ ((KeepsOthers.alloc _ _).from _) ⟨(Below.refl _ W).alloc hB.size _, fun v hv => CopyK.grown_cell (World.grownBy_alloc W _ none) hv⟩ ⟨⟨(heap_alloc_old _ _ hlt).trans hm, E, hown.alloc _, hE.below (below_alloc (Below.refl _ _) _), hp⟩, hB.alloc hB.size _⟩ ⟨W.heap.size, hlt, World.alloc_heap_new W _, rfl⟩
  case body =>
    rintro l pre x a' W hl ⟨r, hr⟩ ⟨⟨hm, E, hown, hE, hp⟩, hB⟩ ⟨Bx, hBx, hX, rfl⟩ hlt
    have cM : W.cell? ⟨w.heap.size + 1, 0, none⟩ = some (.map (some w.heap.size)) := (blk_cell hm 0).trans rfl
    have d0 : W.cell? ⟨Bx, 0, none⟩ = some (.int .i64 x.2.b.s) := (blk_cell hX 0).trans rfl
    have d1 : W.cell? ⟨Bx, 1, none⟩ = some (.int .i64 x.2.b.b) := (blk_cell hX 1).trans rfl
    have d2 : W.cell? ⟨Bx, 2, none⟩ = some (.slice x.2.b.A x.2.b.m x.2.b.c) := (blk_cell hX 2).trans rfl
    have hmx : pre.length < maxLen := by unfold maxLen; omega
    have hd : 1 ≤ 6 - 1 - 1 := by omega
    have f34 : Fence.wide.fn 34 := trivial
    have hmix : Try.prog.follows .mixedOrders = true := by kernel_rfl
    have hC0 := Kd.C_below x.2.hC (hB.trans ((Below.refl _ W).mono hB.size))
    have hxm : x.2.b.m = x.2.xs.length := x.2.hm
    rw [hxm] at d2
    have HCR := Aside0.mk (fun (w5 : World) (hb : Below W.heap.size W w5) => greedy_ready.calls x.2.b.s x.2.b.b x.2.b.A x.2.b.c x.2.xs x.2.r w5 (Kd.C_below hC0 hb) x.2.hc x.2.hr)
    gi_wp2
    gi_region_with_o (gi_at_call 34; refine (CallsIn.inRound l (callsIn_wide.2 (HCR.out _ (below_drew (Below.refl _ _))))).mono ?_; rintro e w5 ⟨v5, rfl, hR5, hb5⟩; have cM5 := on_ hb5 cM; have d05 := on_ hb5 d0; obtain ⟨w6, hrun6, hown6, hturn6⟩ := (own_block (hown : World.ownsMap W.drew Try.prog 3 MapK.Rh w.heap.size pre.length (datE E)) (hb5.block _ (World.ownsMap.lt hown))).store (Maps.int_keyed Try.underlying3) Try.underlying62 hmx (Maps.keyOf_int_mk Try.underlying3 x.2.b.wf) (rfl : MapK.Rh v5 = some (.held v5, [])))
    all_goals gi_wp2
    all_goals exact FolI.step hm hE hown hp hB (Nat.le_refl _) (by omega) (below_step (below_drew (Below.refl W.heap.size W)) hb5) hR5 hown6 hturn6
  case done =>
    rintro D ys W hD rfl ⟨⟨hm, E, hown, hE, hp⟩, hB⟩ hK
    have hpr : E.map EntW.pair = P.reverse := by
      rw [hp, ← HBP.out, ← List.map_reverse, ← cameG_zero, List.map_map]
      rfl
    rw [cameG_len, Nat.sub_zero] at hown
    obtain ⟨b5, hb5⟩ : ∃ b, b = w.heap.size + 1 := ⟨_, rfl⟩
    obtain ⟨bM, hbM⟩ : ∃ b, b = w.heap.size := ⟨_, rfl⟩
    have HM := Aside0.mk (show W.heap[b5]? = some (.cells #[.map (some bM)] 62 (0, 0)) by rw [hb5, hbM]; exact hm)
    have HOW := Aside0.mk (show W.ownsMap Try.prog 3 MapK.Rh bM bs.length (datE E) by rw [hbM]; exact hown)
    have HE := Aside0.mk hE
    have HK := Aside0.mk hK
    have HB := Aside0.mk hB
    have HPR := Aside0.mk hpr
    have HBM := Aside0.mk hbM
    have HDL := Aside0.mk (show w.heap.size ≤ D by omega)
    clear hm hown hE hK hB hp hpr cS hm1 hB0 kM1 kS hD hsz HBP HLI
    simp only [Exit.inBlock, Exit.then]
    gi_step
    refine wpIn_wide.2 (wp_mono (Q := noPanic _) ?_ (fun e a w h => noPanic.out h))
    rw [← hb5]
    try rw [← hbM]
    clear hb5 hbM
    go_wp2
    go_loopg [9, 10, 23] l1.length (fun gg _ _ s23 wr => ∃ (i : Nat) (E : List EntW), i ≤ l1.length ∧ l1.length - i ≤ gg ∧ s23 = .int .i64 (i : Int) ∧ Aside0 (Below w.heap.size w wr) ∧ Aside0 (wr.heap[b5]? = some (.cells #[.map (some bM)] 62 (0, 0))) ∧ Aside0 (wr.ownsMap Try.prog 3 MapK.Rh bM (bs.length + i) (datE E)) ∧ Aside0 (Ents wr E) ∧ Aside0 (wr.heap[D]? = some (.deferred (some []))) ∧ Aside0 (follP (E.map EntW.pair) (l1.drop i) = follP P.reverse l1))
    case atStart => exact ⟨0, E, Nat.zero_le _, by omega, rfl, HB, HM, HOW, HE, HK, ⟨by rw [HPR.out, List.drop_zero]⟩⟩
    case round =>
      obtain ⟨i, E, hi, hg, rfl, BW, KM, OM, HE, HD, EQ⟩ := hrel
      by_cases hlt : i < l1.length
      · have hltz : (i : Int) < (l1.length : Int) := by omega
        have hi0 : (0 : Int) ≤ (i : Int) := by omega
        have hwi : wrap64 ((i : Int) + 1) = ((i + 1 : Nat) : Int) := by have := HL1.out; unfold wrap64; omega
        obtain ⟨ad, hA, x0, x1, x2, x3, x4, x5⟩ := at_T38 (Kd.C_below HR1.out BW.out) (i : Int) hi0 hltz
        subst hA
        rw [Int.toNat_natCast] at x0 x1 x2 x3 x4 x5
        have hxl : l1[i]? = some (rd_T38 l1 (i : Int)) := by
          unfold rd_T38
          rw [Int.toNat_natCast, List.getD_eq_getElem?_getD, List.getElem?_eq_getElem hlt]
          rfl
        generalize rd_T38 l1 (i : Int) = x at x0 x1 x2 x3 x4 x5 hxl
        have HXL := Aside0.mk hxl
        have HWX := Aside0.mk (HW1.out x (List.mem_of_getElem? hxl))
        clear hxl
        go_upto_region 8 with (fail)
        have hg9 : ∃ g9, g9 = wr.heap.size := ⟨_, rfl⟩
        obtain ⟨g9, hg9⟩ := hg9
        have K9 := heap_alloc_new wr (.cells #[.int .i64 x.f0, .int .i64 x.f1, .int .i64 x.f2, .int .i64 x.f3, .int .i64 x.f4, .string x.f5] 38)
        have HB4 := Aside0.mk (below_alloc (Below.refl wr.heap.size wr) (.cells #[.int .i64 x.f0, .int .i64 x.f1, .int .i64 x.f2, .int .i64 x.f3, .int .i64 x.f4, .string x.f5] 38))
        rw [← hg9] at K9 ⊢
        have K9 := Aside0.mk K9
        clear hg9 x0 x1 x2 x3 x4 x5
        generalize wr.alloc (.cells #[.int .i64 x.f0, .int .i64 x.f1, .int .i64 x.f2, .int .i64 x.f3, .int .i64 x.f4, .string x.f5] 38) = w4 at K9 HB4 ⊢
        have BW4 := Aside0.mk (below_step BW.out HB4.out)
        have KM4 := Aside0.mk (blk_below KM.out HB4.out)
        have OM4 := Aside0.mk (own_block OM.out (HB4.out.block bM OM.out.lt))
        have HE4 := Aside0.mk (HE.out.below HB4.out)
        have HD4 := Aside0.mk ((HB4.out.block D (blk_lt HD.out)).trans HD.out)
        have hdr : l1.drop i = x :: l1.drop (i + 1) := by
          obtain ⟨hk, e⟩ := List.getElem?_eq_some_iff.1 HXL.out
          rw [List.drop_eq_getElem_cons hk, e]
        rw [hdr, follP] at EQ
        clear BW KM OM HE HD HB4 hdr
        obtain ⟨v, ps, hrunL, hv⟩ := OM4.out.lookup (Maps.int_keyed Try.underlying3) Try.underlying62 (Try.zeroValue23 _) (zd := .held (.slice none 0 0)) (zp := []) rfl (Maps.keyOf_int_mk Try.underlying3 HWX.out)
        obtain ⟨Am, cm, hat, hV⟩ := mine_at HE4.out x.f0
        have hv2 : DataW.held v = .held (.slice Am (mineP (E.map EntW.pair) x.f0).length cm) := (congrArg Prod.fst (Option.some.inj hv)).trans hat
        injection hv2 with hv2
        subst hv2
        generalize mineP (E.map EntW.pair) x.f0 = M at hrunL hV EQ
        have hc5 : w4.cell? ⟨b5, 0, none⟩ = some (.map (some bM)) := e_ KM4 0
        have hf0 : w4.cell? ⟨g9, 0, none⟩ = some (.int .i64 x.f0) := e_ K9 0
        have HV := Aside0.mk hV
        have hmix : Try.prog.follows .mixedOrders = true := by kernel_rfl
        clear hv hat hV ps
        go_upto_region 9 with (fail)
        have BWd := Aside0.mk (below_drew BW4.out)
        have HDd := Aside0.mk (show w4.drew.heap[D]? = some (.deferred (some [])) from HD4.out)
        have KMd := Aside0.mk (show w4.drew.heap[b5]? = some (.cells #[.map (some bM)] 62 (0, 0)) from KM4.out)
        have K9d := Aside0.mk (show w4.drew.heap[g9]? = some (.cells #[.int .i64 x.f0, .int .i64 x.f1, .int .i64 x.f2, .int .i64 x.f3, .int .i64 x.f4, .string x.f5] 38 (0, 0)) from K9.out)
        have OMd := Aside0.mk (show w4.drew.ownsMap Try.prog 3 MapK.Rh bM (bs.length + i) (datE E) from own_block OM4.out rfl)
        have HEd := Aside0.mk (HE4.out.below (below_drew (Below.refl _ _)))
        have HVd := Aside0.mk (V_txb HV.out (fun k hk => (below_drew (Below.refl w4.heap.size w4)).block k (txb_lt hk)))
        clear hrunL hc5 hf0 hmix BW4 HD4 KM4 K9 OM4 HE4 HV
        cases M with
        | nil =>
          have HS : True := trivial
          refine start_ (n := 10) (S := fun w' => True) (ds := []) #[false, false, false, false, false, false, false, false, false, false] (by kernel_rfl) rfl rfl HS (fun hHeld => ?_); refine with_tabW greedy_Follows.tab9 greedy_Follows.bits9 (fun HT_ HW_ => ?_)
          generalize w4.drew = w5 at BWd HDd KMd K9d OMd HEd HVd hHeld ⊢
          refine pq_ 0 31 HT_ ?_
          refine pq_ 1 32 HT_ ?_
          refine pq_ 2 33 HT_ ?_
          refine pq_ 3 34 HT_ ?_
          refine pu_ 4 35 HT_ ?_
          refine pu_ 5 36 HT_ ?_
          refine pu_ 6 37 HT_ ?_
          refine pu_ 7 38 HT_ ?_
          refine pu_ 8 39 HT_ ?_
          refine pq_ 9 40 HT_ ?_
          refine done_ (done_of HT_.out (by kernel_rfl)) ?_
          clear hHeld HT_ HW_
          simp only at EQ
          go_wp2
          refine noPanic.ret ?_
          refine ⟨by simp, .inl ⟨_, _, rfl, run_takeDeferred HDd.out, ?_⟩⟩
          exact ⟨_, results_tmp rfl _ _ _, by rw [← EQ.out]; rfl, BWd.out.trans (belowK_b (w := w) (Nat.le_refl _) w5 D _ _ HDL.out HDd.out rfl rfl)⟩
        | cons y ys =>
          have hpos : (0 : Int) < ((y :: ys).length : Int) := by rw [List.length_cons]; omega
          obtain ⟨ad2, hA2, t0, t1, t2, t3, t4, t5⟩ := at_T38 (Kd.V_reads' HVd.out).2.2 0 (by decide) hpos
          subst hA2
          rw [show rd_T38 (y :: ys) 0 = y from rfl] at t0 t1 t2 t3 t4 t5
          simp only [show (0 : Int).toNat * 6 = 0 from rfl, Addr.add_zero'] at t0 t1 t2 t3 t4 t5
          have HS := Aside0.mk (show (fun w' : World => w'.cell? ad2 = some (.int .i64 y.f0) ∧ w'.cell? ⟨ad2.block, ad2.off + 1, none⟩ = some (.int .i64 y.f1) ∧ w'.cell? ⟨ad2.block, ad2.off + 2, none⟩ = some (.int .i64 y.f2) ∧ w'.cell? ⟨ad2.block, ad2.off + 3, none⟩ = some (.int .i64 y.f3) ∧ w'.cell? ⟨ad2.block, ad2.off + 4, none⟩ = some (.int .i64 y.f4) ∧ w'.cell? ⟨ad2.block, ad2.off + 5, none⟩ = some (.string y.f5) ∧ w'.cell? ⟨g9, 0, none⟩ = some (.int .i64 x.f0) ∧ w'.cell? ⟨g9, 1, none⟩ = some (.int .i64 x.f1) ∧ w'.cell? ⟨g9, 2, none⟩ = some (.int .i64 x.f2) ∧ w'.cell? ⟨g9, 3, none⟩ = some (.int .i64 x.f3) ∧ w'.cell? ⟨g9, 4, none⟩ = some (.int .i64 x.f4) ∧ w'.cell? ⟨g9, 5, none⟩ = some (.string x.f5)) w4.drew from ⟨t0, t1, t2, t3, t4, t5, e_ K9d 0, e_ K9d 1, e_ K9d 2, e_ K9d 3, e_ K9d 4, e_ K9d 5⟩)
          clear t0 t1 t2 t3 t4 t5
          have hcap := (Kd.V_reads' HVd.out).2.1
          obtain ⟨N, hN⟩ : ∃ N, N = (y :: ys).length := ⟨_, rfl⟩
          rw [← hN] at HVd hcap ⊢
          have HN := Aside0.mk (show N = ys.length + 1 from hN)
          have hlz : ((N : Int) == 0) = false := by
            rw [HN.out]
            exact beq_eq_false_iff_ne.2 (by omega)
          have hlz2 : (0 : Int) < (N : Int) := by rw [HN.out]; omega
          have hlz3 : 0 < N := by rw [HN.out]; omega
          have hlz4 : (1 : Int) ≤ (N : Int) := by rw [HN.out]; omega
          clear hN
          refine start_ (n := 10) (S := fun w' => w'.cell? ad2 = some (.int .i64 y.f0) ∧ w'.cell? ⟨ad2.block, ad2.off + 1, none⟩ = some (.int .i64 y.f1) ∧ w'.cell? ⟨ad2.block, ad2.off + 2, none⟩ = some (.int .i64 y.f2) ∧ w'.cell? ⟨ad2.block, ad2.off + 3, none⟩ = some (.int .i64 y.f3) ∧ w'.cell? ⟨ad2.block, ad2.off + 4, none⟩ = some (.int .i64 y.f4) ∧ w'.cell? ⟨ad2.block, ad2.off + 5, none⟩ = some (.string y.f5) ∧ w'.cell? ⟨g9, 0, none⟩ = some (.int .i64 x.f0) ∧ w'.cell? ⟨g9, 1, none⟩ = some (.int .i64 x.f1) ∧ w'.cell? ⟨g9, 2, none⟩ = some (.int .i64 x.f2) ∧ w'.cell? ⟨g9, 3, none⟩ = some (.int .i64 x.f3) ∧ w'.cell? ⟨g9, 4, none⟩ = some (.int .i64 x.f4) ∧ w'.cell? ⟨g9, 5, none⟩ = some (.string x.f5)) (ds := []) #[false, false, false, false, false, false, false, false, false, false] (by kernel_rfl) rfl rfl HS.out (fun hHeld => ?_); refine with_tabW greedy_Follows.tab9 greedy_Follows.bits9 (fun HT_ HW_ => ?_)
          generalize w4.drew = w5 at BWd HDd KMd K9d OMd HEd HVd HS hHeld ⊢
          refine pq_ 0 31 HT_ ?_
          refine pq_ 1 32 HT_ ?_
          refine pq_ 2 33 HT_ ?_
          refine pq_ 3 34 HT_ ?_
          refine pq_ 4 35 HT_ ?_
          refine pq_ 5 36 HT_ ?_
          refine tk_ 6 37 HT_ HW_ hHeld ?_
          refine tk_ 7 38 HT_ HW_ hHeld ?_
          refine pq_ 8 39 (v := .bool (!sameTx y x)) HT_ ?_ (hy := Or.inl ⟨by rfl, by intro w1; go_simp; exact neq_six y x w1⟩)
          refine pq_ 9 40 HT_ ?_
          refine done_ (done_of HT_.out (by kernel_rfl)) ?_
          clear hHeld HT_ HW_ HS
          simp only at EQ
          generalize sameTx y x = sb at EQ ⊢
          cases sb with
          | false =>
            rw [if_neg (by decide)] at EQ
            go_wp2
            refine noPanic.ret ?_
            refine ⟨by simp, .inl ⟨_, _, rfl, run_takeDeferred HDd.out, ?_⟩⟩
            exact ⟨_, results_tmp rfl _ _ _, by rw [← EQ.out]; rfl, BWd.out.trans (belowK_b (w := w) (Nat.le_refl _) w5 D _ _ HDL.out HDd.out rfl rfl)⟩
          | true =>
            rw [if_pos rfl] at EQ
            go_upto_region 11 with (fail)
            have HS := Aside0.mk (show w5.drew.cell? ⟨b5, 0, none⟩ = some (.map (some bM)) ∧ w5.drew.cell? ⟨g9, 0, none⟩ = some (.int .i64 x.f0) from ⟨e_ KMd 0, e_ K9d 0⟩)
            have BW6 := Aside0.mk (below_drew BWd.out)
            have HD6 := Aside0.mk (show w5.drew.heap[D]? = some (.deferred (some [])) from HDd.out)
            have KM6 := Aside0.mk (show w5.drew.heap[b5]? = some (.cells #[.map (some bM)] 62 (0, 0)) from KMd.out)
            have OM6 := Aside0.mk (show w5.drew.ownsMap Try.prog 3 MapK.Rh bM (bs.length + i) (datE E) from own_block OMd.out rfl)
            have HE6 := Aside0.mk (HEd.out.below (below_drew (Below.refl _ _)))
            have HV6 := Aside0.mk (V_txb HVd.out (fun k hk => (below_drew (Below.refl w5.heap.size w5)).block k (txb_lt hk)))
            clear BWd HDd KMd K9d OMd HEd HVd
            refine start_ (n := 6) (S := fun w' => w'.cell? ⟨b5, 0, none⟩ = some (.map (some bM)) ∧ w'.cell? ⟨g9, 0, none⟩ = some (.int .i64 x.f0)) (ds := [5]) #[false, false, false, false, false, false] (by kernel_rfl) rfl rfl HS.out (fun hHeld => ?_); refine with_tabW greedy_Follows.tab11 greedy_Follows.bits11 (fun HT_ HW_ => ?_)
            generalize w5.drew = w6 at BW6 HD6 KM6 OM6 HE6 HV6 HS hHeld ⊢
            have hmx : bs.length + i < maxLen := by have := HL0.out; have := HL1.out; unfold maxLen; omega
            obtain ⟨w7, hrun7, hown7, hturn7⟩ := OM6.out.store (Maps.int_keyed Try.underlying3) Try.underlying62 hmx (Maps.keyOf_int_mk Try.underlying3 HWX.out) (rfl : MapK.Rh (.slice (if cm = 1 then some ad2 else some ⟨ad2.block, ad2.off + 6, none⟩) (N - 1) (cm - 1)) = some (.held (.slice (if cm = 1 then some ad2 else some ⟨ad2.block, ad2.off + 6, none⟩) (N - 1) (cm - 1)), []))
            refine tk_ 0 41 HT_ HW_ hHeld ?_
            refine pq_ 1 42 HT_ ?_
            refine tk_ 2 43 HT_ HW_ hHeld ?_
            refine pq_ 3 44 HT_ ?_
            refine pq_ 4 45 HT_ ?_
            refine last_ (i := 5) (N := none) #[true, true, true, true, true, true] rfl rfl (one_of HT_.out (by kernel_rfl)) (by decide) (fun K hK => ?_)
            refine skip_ (w1 := w7) (by rfl) rfl (by go_simp) ?_
            refine hK.out _ _ ?_
            refine done_ (done_of HT_.out (by kernel_rfl)) ?_
            clear hK K hHeld HT_ HW_ HS hrun7
            have hg7 := hturn7.grown
            have hne7 : ∀ r, some bM = some r → ∃ o : Obj, w6.heap[r]? = some o ∧ o.isCells = false := fun r e => by
              cases e
              obtain ⟨es, ck, h2, _⟩ := OM6.out
              exact ⟨_, h2, rfl⟩
            have hneD : some D ≠ some bM := fun e => by
              obtain ⟨o, ho, _⟩ := hne7 D e.symm
              cases e
              obtain ⟨es, ck, h2, _⟩ := OM6.out
              rw [HD6.out] at h2
              cases h2
            have hV7 : Kd.V k38 38 w6 0 (TxB w6) (.slice (if cm = 1 then some ad2 else some ⟨ad2.block, ad2.off + 6, none⟩) ys.length (cm - 1)) ys := by
              have h1 := Kd.V_at HV6.out
              rw [h1.1] at hcap
              have h2 := Kd.F_cut (m := 1) h1.2.2 (by rw [List.length_cons]; omega) hcap
              exact Kd.V_mk (by rw [List.length_cons] at hcap; omega) h2
            have BW7 := Aside0.mk (BW6.out.grown hg7 (below_size BW6.out) (fun k e => by cases e; exact Nat.le_of_eq HBM.out.symm))
            have HD7 := Aside0.mk ((hg7.block D (blk_lt HD6.out) hneD).trans HD6.out)
            have KM7 := Aside0.mk (greedy_Follows.blk KM6.out hg7 hne7)
            have HE7 := Aside0.mk (show Ents w7 (E ++ [⟨x.f0, (if cm = 1 then some ad2 else some ⟨ad2.block, ad2.off + 6, none⟩), cm - 1, ys⟩]) from fun e he => by
              rcases List.mem_append.1 he with he | he
              · exact (HE6.out.grown hg7 hne7) e he
              · rw [List.mem_singleton] at he
                subst he
                have h1 : Ents w6 [⟨x.f0, (if cm = 1 then some ad2 else some ⟨ad2.block, ad2.off + 6, none⟩), cm - 1, ys⟩] := fun e he => by
                  rw [List.mem_singleton] at he
                  subst he
                  exact hV7
                exact (h1.grown hg7 hne7) _ (List.mem_singleton.2 rfl))
            have OM7 := Aside0.mk (show w7.ownsMap Try.prog 3 MapK.Rh bM (bs.length + (i + 1)) (datE (E ++ [⟨x.f0, (if cm = 1 then some ad2 else some ⟨ad2.block, ad2.off + 6, none⟩), cm - 1, ys⟩])) by
              unfold datE
              rw [List.map_append, List.map_cons, List.map_nil, MapK.dat_snoc]
              have e : N - 1 = ys.length := by rw [HN.out]; rfl
              rw [e] at hown7
              exact hown7)
            have EQ7 := Aside0.mk (show follP ((E ++ [(⟨x.f0, (if cm = 1 then some ad2 else some ⟨ad2.block, ad2.off + 6, none⟩), cm - 1, ys⟩ : EntW)]).map EntW.pair) (l1.drop (i + 1)) = follP P.reverse l1 by rw [List.map_append]; exact EQ.out)
            clear hown7 hturn7 hg7 hne7 hneD hV7 BW6 HD6 KM6 OM6 HE6 HV6 EQ hcap
            generalize (if cm = 1 then some ad2 else some (⟨ad2.block, ad2.off + 6, none⟩ : Addr)) = A3 at OM7 HE7 EQ7 ⊢
            go_wp2
            go_roundg (l1.length - (i + 1))
            case measure => omega
            case rel => exact ⟨i + 1, _, by omega, by omega, by first | rfl | rw [hwi] | go_num, BW7, KM7, OM7, HE7, HD7, EQ7⟩
      · have hltz : ¬ (i : Int) < (l1.length : Int) := by omega
        rw [List.drop_eq_nil_of_le (by omega), follP] at EQ
        go_wp2
        refine noPanic.ret ?_
        refine ⟨by simp, .inl ⟨_, _, rfl, run_takeDeferred HD.out, ?_⟩⟩
        exact ⟨_, results_tmp rfl _ _ _, by rw [← EQ.out]; rfl, BW.out.trans (belowK_b (w := w) (Nat.le_refl _) wr D _ _ HDL.out HD.out rfl rfl)⟩
  case stop =>
    rintro D c pre W _ _ h _
    exact h.elim


/-! ### hopperlaw12_tx: function 24 -/
def hopperlaw12_tx.f (a0 : Int) (a1 : Int) (a2 : Int) (a3 : Int) : Option (Int × Int × Int × Int × Int × ByteArray) := some (a0, a1, a2, 1000, a3, (⟨#[]⟩ : ByteArray))
set_option maxHeartbeats 8000000 in
set_option maxRecDepth 100000 in
theorem hopperlaw12_tx.calls (a0 : Int) (a1 : Int) (a2 : Int) (a3 : Int) (r1 : Int) (r2 : Int) (r3 : Int) (r4 : Int) (r5 : Int) (r6 : ByteArray) (w : World) (h : hopperlaw12_tx.f a0 a1 a2 a3 = some (r1, r2, r3, r4, r5, r6)) :
    Calls Try.prog 24 #[.int .i64 a0, .int .i64 a1, .int .i64 a2, .int .i64 a3] w fun e w' => e = .returned (.agg #[.int .i64 r1, .int .i64 r2, .int .i64 r3, .int .i64 r4, .int .i64 r5, .string r6]) ∧ Below w.heap.size w w' := by
  have hu38 := Try.underlying38
  have HB := Aside0.mk (Below.refl w.heap.size w)
  have H : (some (a0, a1, a2, 1000, a3, (⟨#[]⟩ : ByteArray))) = some (r1, r2, r3, r4, r5, r6) := h
  clear h
  simp only [Option.some.injEq, Prod.mk.injEq] at H
  obtain ⟨rfl, rfl, rfl, rfl, rfl, rfl⟩ := H
  go_enter Try.func24, Try.ntmps24
  go_wp2_with (first | ((with_reducible refine gate_dst (N := 8) rfl ?_); refine box_event ?hg (N := 8) ?hd (cs := #[.int .i64 0, .int .i64 0, .int .i64 0, .int .i64 0, .int .i64 0, .string (⟨#[]⟩ : ByteArray)]) (t := 38) ?hr ?_; (case hd => rfl); (case hg => rfl); (case hr => first | (go_simp; done) | (go_simp; rfl)); intro gb151 hg w5 hbox hb; have n0_ := Aside0.mk (below_step (by repeat (first | (with_reducible first | exact HB.out | apply below_alloc | apply pw_below_drewN | apply below_drew1) | exact HB.out)) hb); have n1_ := Aside0.mk (hbox); have n2_ := Aside0.mk ((by rw [hg]; exact (below_size (by repeat (first | (with_reducible first | exact HB.out | apply below_alloc | apply pw_below_drewN | apply below_drew1) | exact HB.out))) : w.heap.size ≤ gb151)); have n3_ := Aside0.mk ((by rw [hg]; exact (below_size (by repeat (first | (with_reducible first | exact HB.out | apply below_alloc | apply pw_below_drewN | apply below_drew1) | exact HB.out))) : w.heap.size ≤ gb151)); clear HB; have HB := n0_; have BK151 := n1_; have GW151 := n2_; have GE151 := n3_; clear n0_ n1_ n2_ n3_; clear hb hbox hg; have hcz6_0 : w5.cell? ⟨gb151, 0, none⟩ = some (.int .i64 0) := (blk_cell BK151.out 0).trans rfl; have hcz6_1 : w5.cell? ⟨gb151, 1, none⟩ = some (.int .i64 0) := (blk_cell BK151.out 1).trans rfl; have hcz6_2 : w5.cell? ⟨gb151, 2, none⟩ = some (.int .i64 0) := (blk_cell BK151.out 2).trans rfl; have hcz6_3 : w5.cell? ⟨gb151, 3, none⟩ = some (.int .i64 0) := (blk_cell BK151.out 3).trans rfl; have hcz6_4 : w5.cell? ⟨gb151, 4, none⟩ = some (.int .i64 0) := (blk_cell BK151.out 4).trans rfl; have hcz6_5 : w5.cell? ⟨gb151, 5, none⟩ = some (.string (⟨#[]⟩ : ByteArray)) := (blk_cell BK151.out 5).trans rfl; have hfz6_0 := blk_frozen BK151.out 0; have hfz6_1 := blk_frozen BK151.out 1; have hfz6_2 := blk_frozen BK151.out 2; have hfz6_3 := blk_frozen BK151.out 3; have hfz6_4 := blk_frozen BK151.out 4; have hfz6_5 := blk_frozen BK151.out 5))
  refine bodyPost_ret (results_cell_row rfl _ _ gb151 38 #[.int .i64 a0, .int .i64 a1, .int .i64 a2, .int .i64 1000, .int .i64 a3, .string (⟨#[]⟩ : ByteArray)] (0, 0) _ rfl (by (with_reducible repeat (first | refine blk_drewN ?_ _ | refine blk_drew ?_ | refine blk_alloc ?_ _)); refine blk_put (cs := #[.int .i64 a0, .int .i64 a1, .int .i64 a2, .int .i64 1000, .int .i64 a3, .string (⟨#[]⟩ : ByteArray)]) ?_ 5 _ rfl; (with_reducible repeat (first | refine blk_drewN ?_ _ | refine blk_drew ?_ | refine blk_alloc ?_ _)); refine blk_put (cs := #[.int .i64 a0, .int .i64 a1, .int .i64 a2, .int .i64 1000, .int .i64 0, .string (⟨#[]⟩ : ByteArray)]) ?_ 4 _ rfl; (with_reducible repeat (first | refine blk_drewN ?_ _ | refine blk_drew ?_ | refine blk_alloc ?_ _)); refine blk_put (cs := #[.int .i64 a0, .int .i64 a1, .int .i64 a2, .int .i64 0, .int .i64 0, .string (⟨#[]⟩ : ByteArray)]) ?_ 3 _ rfl; (with_reducible repeat (first | refine blk_drewN ?_ _ | refine blk_drew ?_ | refine blk_alloc ?_ _)); refine blk_put (cs := #[.int .i64 a0, .int .i64 a1, .int .i64 0, .int .i64 0, .int .i64 0, .string (⟨#[]⟩ : ByteArray)]) ?_ 2 _ rfl; (with_reducible repeat (first | refine blk_drewN ?_ _ | refine blk_drew ?_ | refine blk_alloc ?_ _)); refine blk_put (cs := #[.int .i64 a0, .int .i64 0, .int .i64 0, .int .i64 0, .int .i64 0, .string (⟨#[]⟩ : ByteArray)]) ?_ 1 _ rfl; (with_reducible repeat (first | refine blk_drewN ?_ _ | refine blk_drew ?_ | refine blk_alloc ?_ _)); refine blk_put (cs := #[.int .i64 0, .int .i64 0, .int .i64 0, .int .i64 0, .int .i64 0, .string (⟨#[]⟩ : ByteArray)]) ?_ 0 _ rfl; (with_reducible repeat (first | refine blk_drewN ?_ _ | refine blk_drew ?_ | refine blk_alloc ?_ _)); exact BK151.out) Try.underlying38 rfl (by kernel_rfl)) rfl ?_
  exact ⟨by first | rfl | (simp [errW_none, errW_some] <;> rfl) | (simp [*, errW_none, errW_some] <;> rfl), by repeat (first | (with_reducible first | exact HB.out | apply below_alloc | apply pw_below_drewN | apply below_drew1 | refine below_set ?_ GE151.out) | exact HB.out)⟩

end Go.Proofs.Ytahopljippfadaa.D
