/- Written by this session's own program over the kit's print: functions of Go told as plain functions, or the row of one statement; proved for every input, with no condition of ours. -/
import Derived.Test.YtnjnogkhbadioaaDx0
namespace Go.Proofs.Ytnjnogkhbadioaa.D
open Go.RowKit Go.Proofs.YtnjnogkhbadioaaW.PrintWords Go.Proofs.YtnjnogkhbadioaaW.PrintLast Go.Proofs.YtnjnogkhbadioaaW.PrintMore
attribute [local go_sem] max2_int min2_int max_two min_two max_three min_three max_four min_four   -- for this text's walks alone
set_option linter.unusedVariables false
set_option linter.unusedSimpArgs false

/-! ### api_Account_55: function 55, by hand -/
-- HAND rounds=0 making=0 opaque
-- IMPORT Derived.Test.YtnjnogkhbadioaaMapK
-- IMPORT Derived.RangeFuncNested
-- IMPORT Derived.RangeFuncBound
-- IMPORT Derived.RangeFuncCalls
-- IMPORT Derived.RangeFuncLeaves
-- IMPORT Derived.Shelf.Abstract
-- IMPORT Derived.Shelf.RegionOpen
-- IMPORT Derived.OwnWalkIn
-- IMPORT Derived.TacticsInMore
-- IMPORT Derived.LoopNIn
-- IMPORT Derived.LoopIn
/-- An account's three cells, of a sender that is within its kind's range. -/
structure BW where
  s : Int
  b : Int
  A : Option Addr
  m : Nat
  c : Nat
  wf : (Lit.int .i64 s).wf = true
def encBW (a : BW) : List Value := [.int .i64 a.s, .int .i64 a.b, .slice a.A a.m a.c]
/-- The accounts bs lie from A on, in a block below n₀. -/
def LieBW (n₀ : Nat) (W : World) (A : Option Addr) (bs : List BW) : Prop := bs = [] ∨ ∃ ad, A = some ad ∧ ad.block < n₀ ∧ ∀ (j : Nat) (a : BW), bs[j]? = some a → W.cell? (ad.add (j * 3)) = some (.int .i64 a.s) ∧ W.cell? ⟨(ad.add (j * 3)).block, (ad.add (j * 3)).off + 1, none⟩ = some (.int .i64 a.b) ∧ W.cell? ⟨(ad.add (j * 3)).block, (ad.add (j * 3)).off + 2, none⟩ = some (.slice a.A a.m a.c)
theorem LieBW.below {n₀ : Nat} {W W' : World} {A : Option Addr} {bs : List BW} (h : LieBW n₀ W A bs) (hb : Below n₀ W W') : LieBW n₀ W' A bs := by
  rcases h with rfl | ⟨ad, e, hl, hc⟩
  · exact .inl rfl
  · have hk : ∀ (q : Addr) (v : Value), q.block = ad.block → W.cell? q = some v → W'.cell? q = some v := fun q v hq hv => (hb.cell (p := q) (by rw [hq]; exact hl)).trans hv
    exact .inr ⟨ad, e, hl, fun j a ha => ⟨hk _ _ (add_block _ _) (hc j a ha).1, hk _ _ (add_block _ _) (hc j a ha).2.1, hk _ _ (add_block _ _) (hc j a ha).2.2⟩⟩
/-- What has come when k are left: the places and the accounts from the last one on. -/
def cameBW (bs : List BW) (k : Nat) : List (Int × BW) := ((bs.zipIdx.map fun p => ((p.2 : Int), p.1)).drop k).reverse
theorem cameBW_all (bs : List BW) : cameBW bs bs.length = [] := by
  unfold cameBW
  rw [List.drop_eq_nil_of_le (by simp)]
  rfl
theorem cameBW_next {bs : List BW} {k : Nat} {a : BW} (h : bs[k]? = some a) : cameBW bs k = cameBW bs (k + 1) ++ [((k : Int), a)] := by
  unfold cameBW
  have hk := (List.getElem?_eq_some_iff.1 h).1
  have he : (bs.zipIdx.map fun p => ((p.2 : Int), p.1))[k]? = some ((k : Int), a) := by
    rw [List.getElem?_map, List.getElem?_zipIdx, h]
    simp
  obtain ⟨hk2, e⟩ := List.getElem?_eq_some_iff.1 he
  rw [List.drop_eq_getElem_cons hk2, List.reverse_cons, e]
theorem cameBW_len (bs : List BW) (k : Nat) : (cameBW bs k).length = bs.length - k := by simp [cameBW]
theorem cameBW_zero (bs : List BW) : (cameBW bs 0).map Prod.snd = bs.reverse := by
  unfold cameBW
  rw [List.drop_zero, List.map_reverse, List.map_map]
  congr 1
  apply List.ext_getElem?
  intro j
  rw [List.getElem?_map, List.getElem?_zipIdx]
  cases bs[j]? <;> rfl
/-- What a round that goes on keeps: whatever lay below n₀, and the cell of the slice's box. -/
def KpB (n₀ Bs : Nat) (W W' : World) : Prop := Below n₀ W W' ∧ ∀ v, W.cell? ⟨Bs, 0, none⟩ = some v → W'.cell? ⟨Bs, 0, none⟩ = some v
theorem KpB.refl (n₀ Bs : Nat) (W : World) : KpB n₀ Bs W W := ⟨Below.refl _ _, fun _ h => h⟩
theorem KpB.trans {n₀ Bs : Nat} {A B C : World} (h : KpB n₀ Bs A B) (g : KpB n₀ Bs B C) : KpB n₀ Bs A C := ⟨h.1.trans g.1, fun v hv => g.2 v (h.2 v hv)⟩
theorem KpB.put {n₀ Bs : Nat} {w : World} (hn : n₀ ≤ w.heap.size) (W : World) (l : Nat) (o o' : Obj) (hl : w.heap.size ≤ l) (h : W.heap[l]? = some o) (hc : o.isCells = false) (hw : o.isWalk = false) : KpB n₀ Bs W (W.putObj l o') := by
  refine ⟨belowK_b hn W l o o' hl h hc hw, fun v hv => ?_⟩
  have hne : Bs ≠ l := by
    rintro rfl
    simp only [World.cell?, h] at hv
    cases o <;> simp_all [Obj.isCells]
  exact cell_kept hv (grownBy_putObj' W l o') (fun r e => by cases e; exact ⟨_, h, hc⟩)
attribute [local go_sem] Oper.semAt_some
set_option maxRecDepth 100000 in
set_option maxHeartbeats 2000000 in
/-- Backward's closure, at whatever loop body that keeps what lay below n₀. -/
theorem api_Account_55.closure (F : Fence) (n : Nat) (h7 : F.fn 71) (hro : F.round = none) (hn : 1 ≤ n) (l Bs n₀ cap : Nat) (A : Option Addr) (bs : List BW) (hreach : bs.length < 2513169434916) (J Jx : List (Int × BW) → World → Prop)
    (hY : ∀ pre x W, J pre W → pre.length < bs.length → YieldAt F (n - 1) Try.prog l #[.int .i64 x.1, .agg (encBW x.2).toArray] W fun e W' =>
      (e = .returned (.bool true) ∧ J (pre ++ [x]) W' ∧ KpB n₀ Bs W W') ∨ (e = .returned (.bool false) ∧ Jx (pre ++ [x]) W'))
    (W : World) (hBs : W.cell? ⟨Bs, 0, none⟩ = some (.slice A bs.length cap)) (hc : LieBW n₀ W A bs) (h0 : J [] W) :
    CallsIn F n Try.prog 71 #[.func (.yield l) #[] #[], .pointer (some ⟨Bs, 0, none⟩)] W fun e W' => (∃ v, e = .returned v) ∧
      ((∃ ys, ys = cameBW bs 0 ∧ J ys W') ∨ (∃ pre, (∃ k, pre = cameBW bs k) ∧ Jx pre W')) := by
  refine callsIn_of_wp Try.func71 rfl h7 ?_ hro
  simp only [Try.ntmps71, List.size_toArray, List.length_cons, List.length_nil, Nat.reduceAdd, Nat.reduceSub, Array.replicate_succ, Array.replicate_zero, List.push_toArray, List.append_toArray, List.nil_append, List.cons_append]
  gi_wp2
  gi_loopw [3] (fun i wr => ∃ k : Nat, k ≤ bs.length ∧ i = .int .i64 ((k : Int) - 1) ∧ Aside0 (J (cameBW bs k) wr) ∧ Aside0 (KpB n₀ Bs W wr))
    (fun i _ => (intOf i + 1).toNat)
  case atStart => exact ⟨bs.length, Nat.le_refl _, rfl, ⟨by rw [cameBW_all]; exact h0⟩, ⟨KpB.refl _ _ _⟩⟩
  case round =>
    obtain ⟨k, hk, rfl, hJs, hnx⟩ := hrel
    cases k with
    | zero =>
      have hge : ¬ ((0 : Nat) : Int) - 1 ≥ 0 := by omega
      gi_wp2
      go_end0
      exact ⟨⟨_, rfl⟩, .inl (by first | exact hJs.out | exact ⟨_, rfl, hJs.out⟩)⟩
    | succ k =>
      obtain ⟨x, hx⟩ : ∃ x, bs[k]? = some x := ⟨_, List.getElem?_eq_getElem (by omega)⟩
      rw [show (((k + 1 : Nat) : Int) - 1) = (k : Int) by omega]
      have hge : (k : Int) ≥ 0 := by omega
      have hk0 : (0 : Int) ≤ (k : Int) := by omega
      have hkl : (k : Int) < (bs.length : Int) := by omega
      have hcs := hnx.out.2 _ hBs
      rcases hc.below hnx.out.1 with hnil | ⟨ad, rfl, had, hcc⟩
      · rw [hnil] at hx; cases hx
      obtain ⟨u0, u1, u2⟩ := hcc k x hx
      have HX := Aside0.mk hx
      have hJ0 : J (cameBW bs (k + 1)) wr := hJs.out
      obtain ⟨fn, tmps, assign, body, hy, hR⟩ := hY _ ((k : Int), x) wr hJ0 (by rw [cameBW_len]; omega)
      simp only [encBW] at hy
      have HRR := Aside0.mk hR
      clear hcc hc hR hx hJs hJ0
      gi_wp2
      refine HRR.out.mono ?_
      rintro e W3 (⟨rfl, hJ3, hk3⟩ | ⟨rfl, hJx3⟩)
      · have HJ3 := Aside0.mk hJ3
        have HK3 := Aside0.mk hk3
        clear hJ3 hk3
        gi_wp2
        go_roundw
        case rel => exact ⟨k, by omega, rfl, ⟨by rw [cameBW_next HX.out]; exact HJ3.out⟩, ⟨hnx.out.trans HK3.out⟩⟩
        case measure => simp only [intOf]; omega
      · have HJ3 := Aside0.mk hJx3
        clear hJx3
        gi_wp2
        refine bodyPost_ret (results_none rfl _ _ _) rfl ?_
        exact ⟨⟨_, rfl⟩, .inr ⟨_, ⟨k, (cameBW_next HX.out).symm⟩, HJ3.out⟩⟩
set_option maxHeartbeats 1000000 in
/-- Backward: the slice is boxed; the function value holds the box. -/
theorem api_Account_55.calls (F : Fence) (n : Nat) (h5 : F.fn 55) (hro : F.round = none) (a : Option Addr) (len cap : Nat) (w : World) :
    CallsIn F n Try.prog 55 #[.slice a len cap] w fun e w' => e = .returned (.func (.func 71) #[] #[.pointer (some ⟨w.heap.size, 0, none⟩)]) ∧ w' = w.alloc (.cells #[.slice a len cap] 24) := by
  refine callsIn_of_wp Try.func55 rfl h5 ?_ hro
  simp only [Try.ntmps55, List.size_toArray, List.length_cons, List.length_nil, Nat.reduceAdd, Nat.reduceSub, Array.replicate_succ, Array.replicate_zero, List.push_toArray, List.append_toArray, List.nil_append, List.cons_append]
  gi_wp2
  go_ret
  exact ⟨rfl, rfl⟩
/-- Backward hands back a value that hands on all accounts, from the last one on. -/
theorem api_Account_55.stops (F : Fence) (n : Nat) (h7 : F.fn 71) (hro : F.round = none) (hn : 1 ≤ n) (Bs n₀ cap : Nat) (A : Option Addr) (bs : List BW) (hreach : bs.length < 2513169434916) (w : World) (hBn : Bs < w.heap.size) (hn₀ : n₀ ≤ w.heap.size)
    (hBs : w.cell? ⟨Bs, 0, none⟩ = some (.slice A bs.length cap)) (hc : LieBW n₀ w A bs) :
    SeqStopsK F n Try.prog 71 #[.pointer (some ⟨Bs, 0, none⟩)] (fun x : Int × BW => #[Value.int .i64 x.1, .agg (encBW x.2).toArray]) (KpB n₀ Bs) (fun ys => ys = cameBW bs 0) (fun pre => ∃ k, pre = cameBW bs k) bs.length w := fun l J Jx W hW _ _ hY h0 =>
  api_Account_55.closure F n h7 hro hn l Bs n₀ cap A bs hreach J Jx hY W ((hW.cell (p := ⟨Bs, 0, none⟩) hBn).trans hBs) (hc.below (hW.mono hn₀)) h0


/-! ### shard_book: function 43, by hand -/
-- HAND rounds=0 making=0 opaque
-- IMPORT Derived.Maps.OwnIn
-- NEEDS slices.Backward[[]hopper/api.Account,hopper/api.Account]
attribute [local go_sem] Oper.semAt_some
/-- What a map of accounts by their senders is. -/
def datBW (l : List BW) : DataW Value := MapK.dat (l.map fun a => (a.s, .agg (encBW a).toArray))
theorem shard_book.blk {A B : World} {row : Option Nat} {g : Nat} {cs : Array Value} {t : TypeId} (hs : A.heap[g]? = some (.cells cs t (0, 0))) (hg : A.grownBy B row) (hr : ∀ r, row = some r → ∃ o : Obj, A.heap[r]? = some o ∧ o.isCells = false) : B.heap[g]? = some (.cells cs t (0, 0)) := by
  refine (hg.block g (Array.getElem?_eq_some_iff.1 hs).1 (fun e => ?_)).trans hs
  obtain ⟨o, ho, hc⟩ := hr g e.symm
  rw [hs] at ho
  cases ho
  cases hc
set_option maxRecDepth 100000 in
set_option maxHeartbeats 4000000 in
/-- Accounts by their senders: the first one of each. -/
theorem shard_book.calls (A : Option Addr) (cap : Nat) (bs : List BW) (hreach : bs.length < 2513169434916) (w : World) (hc : LieBW w.heap.size w A bs) :
    Calls Try.prog 43 #[.slice A bs.length cap] w fun e w' => e = .returned (.map (some w.heap.size)) ∧ w'.ownsMap Try.prog 3 MapK.Rh w.heap.size bs.length (datBW bs.reverse) ∧ Below w.heap.size w w' := by
  refine (callsIn_wide (n := 6)).1 ?_
  have hro : Fence.wide.round = none := rfl
  have h1 : 1 ≤ 6 := by omega
  have f55 : Fence.wide.fn 55 := trivial
  have hmm := @run_makeMap Try.prog
  refine callsIn_of_wp_marks Try.func43 rfl trivial ?_ hro
  simp only [Try.ntmps43, List.size_toArray, List.length_cons, List.length_nil, Nat.reduceAdd, Nat.reduceSub, Array.replicate_succ, Array.replicate_zero, List.push_toArray, List.append_toArray, List.nil_append, List.cons_append]
  gi_wp2_with (gi_at_call 55; refine (api_Account_55.calls Fence.wide _ trivial hro _ _ _ _).mono ?_; rintro e w' ⟨rfl, rfl⟩)
  have hm0 := World.ownsMap_made w Try.prog 3 MapK.Rh
  have kM := World.alloc_heap_new (w.alloc (.map #[] 0)) (.cells #[.map (some w.heap.size)] 71)
  have kS := World.alloc_heap_new ((w.alloc (.map #[] 0)).alloc (.cells #[.map (some w.heap.size)] 71)) (.cells #[.slice A bs.length cap] 24)
  simp only [World.size_alloc] at kM kS
  have hB0 : Below w.heap.size w (((w.alloc (.map #[] 0)).alloc (.cells #[.map (some w.heap.size)] 71)).alloc (.cells #[.slice A bs.length cap] 24)) := (((Below.refl _ w).alloc (Nat.le_refl _) _).alloc (by simp) _).alloc (by simp; omega) _
  have hsz : (((w.alloc (.map #[] 0)).alloc (.cells #[.map (some w.heap.size)] 71)).alloc (.cells #[.slice A bs.length cap] 24)).heap.size = w.heap.size + 3 := by simp
  have hm1 := (hm0.alloc (.cells #[.map (some w.heap.size)] 71)).alloc (.cells #[.slice A bs.length cap] 24)
  have kM1 : (((w.alloc (.map #[] 0)).alloc (.cells #[.map (some w.heap.size)] 71)).alloc (.cells #[.slice A bs.length cap] 24)).heap[w.heap.size + 1]? = some (.cells #[.map (some w.heap.size)] 71 (0, 0)) := (heap_alloc_old _ _ (by simp)).trans kM
  obtain ⟨W0, hW0⟩ : ∃ W0, ((w.alloc (.map #[] 0)).alloc (.cells #[.map (some w.heap.size)] 71)).alloc (.cells #[.slice A bs.length cap] 24) = W0 := ⟨_, rfl⟩
  rw [hW0] at kM1 kS hB0 hsz hm1 ⊢
  clear hW0 kM hm0
  have cS : W0.cell? ⟨w.heap.size + 1 + 1, 0, none⟩ = some (.slice A bs.length cap) := (blk_cell kS 0).trans rfl
  refine wpIn_rangeFunc_ownH hro (by omega) (gf := 71) (lb := #[.pointer (some ⟨w.heap.size + 1 + 1, 0, none⟩)]) rfl trivial (enters_of Try.func71 (by kernel_rfl) rfl)
    (api_Account_55.stops Fence.wide _ trivial hro (by omega) (w.heap.size + 1 + 1) w.heap.size cap A bs hreach W0 (by omega) (by omega) cS (hc.below hB0)) KpB.trans (KpB.put (by omega)) (Below.refl _ _) (fun _ => rfl)
    (fun pre W => (W.heap[w.heap.size + 1]? = some (.cells #[.map (some w.heap.size)] 71 (0, 0)) ∧ W.ownsMap Try.prog 3 MapK.Rh w.heap.size pre.length (datBW (pre.map Prod.snd))) ∧ Below w.heap.size w W)
    (fun _ _ _ => False)
    (OwnFrom.and (fun s A B row hs hg hr => ⟨shard_book.blk hs.1 hg (fun r e => (hr r e).2), hs.2.kept hg (fun e => by have := (hr _ e.symm).1; omega)⟩) (ownFrom_below (Nat.le_refl _) (by omega)))
    (fun _ _ _ _ _ hs _ _ => hs)
    ⟨⟨kM1, hm1⟩, hB0⟩
    (fun x a' W => ∃ Bx, w.heap.size + 1 < Bx ∧ W.heap[Bx]? = some (.cells #[.int .i64 x.2.s, .int .i64 x.2.b, .slice x.2.A x.2.m x.2.c] 46 (0, 0)) ∧ a' = { tmps := #[.slice A bs.length cap, undef, .map none, .pointer (some ⟨w.heap.size + 1, 0, none⟩), undef, .pointer (some ⟨Bx, 0, none⟩), .map (some w.heap.size), .slice A bs.length cap, .func (.func 71) #[] #[.pointer (some ⟨w.heap.size + 1 + 1, 0, none⟩)], .int .i64 x.1, .agg #[.int .i64 x.2.s, .int .i64 x.2.b, .slice x.2.A x.2.m x.2.c], undef, undef, undef, undef, undef], defers := [] })
    (fun x a' _ X Y row hs hg hr => by obtain ⟨Bx, h1, h2, h3⟩ := hs; exact ⟨Bx, h1, shard_book.blk h2 hg (fun r e => (hr r e).2), h3⟩)
    ?assign ?body ?done ?stop
  case assign =>
    rintro l pre x W K ⟨⟨hm, hown⟩, hB⟩ hK
    have hlt : w.heap.size + 1 < W.heap.size := (Array.getElem?_eq_some_iff.1 hm).1
    simp only [encBW]
    gi_wp2
    exact hK _ _ ((KeepsOthers.alloc _ _).from _) ⟨(Below.refl _ W).alloc hB.size _, fun v hv => CopyK.grown_cell (World.grownBy_alloc W _ none) hv⟩ ⟨⟨(heap_alloc_old _ _ hlt).trans hm, hown.alloc _⟩, hB.alloc hB.size _⟩ ⟨W.heap.size, hlt, World.alloc_heap_new W _, rfl⟩
  case body =>
    rintro l pre x a' W hl ⟨r, hr⟩ ⟨⟨hm, hown⟩, hB⟩ ⟨Bx, hBx, hX, rfl⟩ hlt
    have cM : W.cell? ⟨w.heap.size + 1, 0, none⟩ = some (.map (some w.heap.size)) := (blk_cell hm 0).trans rfl
    have c0 : W.cell? ⟨Bx, 0, none⟩ = some (.int .i64 x.2.s) := (blk_cell hX 0).trans rfl
    have c1 : W.cell? ⟨Bx, 1, none⟩ = some (.int .i64 x.2.b) := (blk_cell hX 1).trans rfl
    have c2 : W.cell? ⟨Bx, 2, none⟩ = some (.slice x.2.A x.2.m x.2.c) := (blk_cell hX 2).trans rfl
    have hmx : pre.length < maxLen := by unfold maxLen; omega
    gi_wp2_with (gi_at_mapUpdate; refine wpListIn_mapUpdate_own _ rfl _ _ _ 71 rfl 3 46 (Maps.int_keyed Try.underlying3) Try.underlying71 MapK.Rh w.heap.size pre.length _ rfl hown hmx _ _ _ rfl rfl (Maps.keyOf_int_mk Try.underlying3 x.2.wf) _ [] rfl ?_; intro w1 hown1 hgrow1)
    obtain ⟨es, ck, hh, _⟩ := hown
    have hne : ∀ r, some w.heap.size = some r → ∃ o : Obj, W.heap[r]? = some o ∧ o.isCells = false := fun r e => by cases e; exact ⟨_, hh, rfl⟩
    exact ⟨KeepsFrom.of_grownBy hgrow1 (fun j e => by cases e; omega), ⟨(Below.refl _ W).grown hgrow1 hB.size (fun k e => by cases e; exact Nat.le_refl _), fun v hv => cell_kept hv hgrow1 hne⟩,
      ⟨shard_book.blk hm hgrow1 hne, by rw [List.map_append, List.length_append]; unfold datBW; rw [List.map_append, List.map_cons, List.map_nil, List.map_cons, List.map_nil, MapK.dat_snoc]; exact hown1⟩, hB.grown hgrow1 hB.size (fun k e => by cases e; exact Nat.le_refl _)⟩
  case done =>
    rintro D ys W hD rfl ⟨⟨hm, hown⟩, hB⟩ hK
    have cM : W.cell? ⟨w.heap.size + 1, 0, none⟩ = some (.map (some w.heap.size)) := (blk_cell hm 0).trans rfl
    gi_wp2
    refine ⟨by simp, .inl ⟨_, _, rfl, run_takeDeferred hK, ?_⟩⟩
    refine ⟨_, results_tmp rfl _ _ _, rfl, ?_, hB.trans (belowK_b (w := w) (Nat.le_refl _) W D _ _ (by omega) hK rfl rfl)⟩
    rw [cameBW_zero, cameBW_len, Nat.sub_zero] at hown
    exact hown.kept (grownBy_putObj' _ D _) (fun e => by cases e; omega)
  case stop =>
    rintro D c pre W _ _ h _
    exact h.elim


/-! ### shard_Get: function 25, by hand -/
-- HAND rounds=0 making=1 share=0.0 rsh=2:V
-- IMPORT Derived.Test.YtnjnogkhbadioaaRowN
-- NEEDS slices.Backward[[]hopper/api.Account,hopper/api.Account]
-- NEEDS hopper/shard.book
/-- Pairs of accounts' kind are accounts' cells, where each sender is within its kind's range. -/
theorem shard_Get.bws {w : World} {ok : Nat → Prop} : ∀ {Z : List (S46 × List Value)}, RowN.Prs k46 w ok Z → (Z.map Prod.fst).all (fun x => (Lit.int .i64 x.f0).wf) = true → ∃ Y : List (S46 × BW), Z = Y.map (fun a => (a.1, encBW a.2)) ∧ ∀ a ∈ Y, a.2.s = a.1.f0 ∧ a.2.b = a.1.f1 ∧ a.2.m = a.1.f2.length ∧ a.1.f2.length ≤ a.2.c ∧ Kd.F k32 w ok a.2.A a.1.f2.length a.1.f2
  | [], _, _ => ⟨[], rfl, fun a ha => by cases ha⟩
  | z :: Z, h, hw => by
    rw [List.map_cons, List.all_cons, Bool.and_eq_true] at hw
    obtain ⟨Y, rfl, hY⟩ := shard_Get.bws (fun y hy => h y (List.mem_cons_of_mem _ hy) : RowN.Prs k46 w ok Z) hw.2
    obtain ⟨A, c, e, h1, h2⟩ := k46_openF (h z (List.mem_cons_self ..)).2
    refine ⟨(z.1, ⟨z.1.f0, z.1.f1, A, z.1.f2.length, c, hw.1⟩) :: Y, by rw [List.map_cons]; congr 1; exact Prod.ext rfl e, fun a ha => ?_⟩
    rcases List.mem_cons.1 ha with rfl | ha
    · exact ⟨rfl, rfl, rfl, h1, h2⟩
    · exact hY a ha
theorem shard_Get.lie {w : World} {A : Option Addr} {Y : List (S46 × BW)} (hs : 0 < Y.length → ∃ ad, A = some ad) (hc : ∀ ad, A = some ad → ∀ j u, ((Y.map fun a => (a.1, encBW a.2)).map Prod.snd).flatten[j]? = some u → w.cell? (ad.add j) = some u) : LieBW w.heap.size w A (Y.map Prod.snd) := by
  by_cases h0 : Y = []
  · subst h0; exact .inl rfl
  · have hp : 0 < Y.length := List.length_pos_iff.2 h0
    obtain ⟨ad, rfl⟩ := hs hp
    have hl : ∀ r ∈ (Y.map fun a => (a.1, encBW a.2)).map Prod.snd, r.length = 3 := fun r hr => by
      rw [List.map_map] at hr
      obtain ⟨a, _, rfl⟩ := List.mem_map.1 hr
      rfl
    have hcc : ∀ (j i : Nat) (a : BW) (u : Value), (Y.map Prod.snd)[j]? = some a → i < 3 → (encBW a)[i]? = some u → w.cell? (ad.add (j * 3 + i)) = some u := fun j i a u ha hi hu => by
      refine hc ad rfl (j * 3 + i) u ?_
      rw [CopyK.flat_at 3 _ hl j i (encBW a) ?_ hi]
      · exact hu
      · rw [List.map_map, List.getElem?_map]
        rw [List.getElem?_map] at ha
        cases hy : Y[j]? with
        | none => rw [hy] at ha; cases ha
        | some y => rw [hy] at ha; obtain rfl := Option.some.inj ha; rfl
    refine .inr ⟨ad, rfl, ?_, fun j a ha => ⟨hcc j 0 a _ ha (by omega) rfl, by rw [← add_field _ _ 1 (by omega)]; exact hcc j 1 a _ ha (by omega) rfl, by rw [← add_field _ _ 2 (by omega)]; exact hcc j 2 a _ ha (by omega) rfl⟩⟩
    obtain ⟨y, hy⟩ : ∃ y, (Y.map Prod.snd)[0]? = some y := ⟨_, List.getElem?_eq_getElem (by rw [List.length_map]; exact hp)⟩
    have := World.block_lt_of_cell? w _ (hcc 0 0 y _ hy (by omega) rfl)
    rwa [add_block] at this
def shard_Get.f (l0_0 : List S46) (a0_1 : Int) (a1 : Int) : Option (Int × Int × List S32) :=
  if l0_0.length < 2513169434916 ∧ l0_0.all (fun x => (Lit.int .i64 x.f0).wf) = true ∧ (Lit.int .i64 a1).wf = true then some (match l0_0.find? (fun x => x.f0 == a1) with | some a => (a.f0, a.f1, a.f2) | none => (a1, 0, [])) else none
theorem shard_Get.find : ∀ (Y : List (S46 × BW)) (k : Int), (∀ a ∈ Y, a.2.s = a.1.f0) → (∃ a ∈ Y, (Y.map Prod.fst).find? (fun x => x.f0 == k) = some a.1 ∧ ((Y.map Prod.snd).map fun a => (a.s, Value.agg (encBW a).toArray)).find? (fun a => a.1 == k) = some (a.2.s, .agg (encBW a.2).toArray) ∧ a.1.f0 = k) ∨ ((Y.map Prod.fst).find? (fun x => x.f0 == k) = none ∧ ((Y.map Prod.snd).map fun a => (a.s, Value.agg (encBW a).toArray)).find? (fun a => a.1 == k) = none)
  | [], k, _ => .inr ⟨rfl, rfl⟩
  | a :: Y, k, h => by
    have ha := h a (List.mem_cons_self ..)
    rw [List.map_cons, List.map_cons, List.map_cons, List.find?_cons, List.find?_cons]
    dsimp only
    rw [ha]
    by_cases e : a.1.f0 = k
    · rw [show (a.1.f0 == k) = true from beq_iff_eq.2 e]
      exact .inl ⟨a, List.mem_cons_self .., rfl, by rw [ha], e⟩
    · rw [show (a.1.f0 == k) = false from beq_eq_false_iff_ne.2 e]
      rcases shard_Get.find Y k (fun y hy => h y (List.mem_cons_of_mem _ hy)) with ⟨b, hb, h1⟩ | h1
      · exact .inl ⟨b, List.mem_cons_of_mem _ hb, h1⟩
      · exact .inr h1
set_option maxHeartbeats 8000000 in
set_option maxRecDepth 100000 in
theorem shard_Get.calls (P0_0_ : Nat → Prop) (A0_0 : Option Addr) (c0_0 : Nat) (l0_0 : List S46) (a0_1 : Int) (a1 : Int) (r1 : Int) (r2 : Int) (r3 : List S32) (w : World) (hs0_0 : Kd.V k46 46 w w.heap.size (fun k_ => P0_0_ k_) (.slice A0_0 l0_0.length c0_0) l0_0) (h : shard_Get.f l0_0 a0_1 a1 = some (r1, r2, r3)) :
    Calls Try.prog 25 #[.agg #[.slice A0_0 l0_0.length c0_0, .int .i64 a0_1], .int .i64 a1] w fun e w' => ∃ v2_ : Value, e = .returned (.agg #[.int .i64 r1, .int .i64 r2, v2_]) ∧ Kd.V k32 32 w' w.heap.size (fun k_ => (P0_0_ k_ ∨ w.heap.size ≤ k_)) v2_ r3 ∧ Below w.heap.size w w' := by
  unfold shard_Get.f at h
  by_cases hl : l0_0.length < 2513169434916 ∧ l0_0.all (fun x => (Lit.int .i64 x.f0).wf) = true ∧ (Lit.int .i64 a1).wf = true
  · rw [if_pos hl] at h
    obtain ⟨Z, hZx, hZn, hZ, hZs, hZc⟩ := RowN.of_V hs0_0
    obtain ⟨Y, rfl, hY⟩ := shard_Get.bws hZ.bound (by rw [hZx]; exact hl.2.1)
    have hfs : (Y.map fun a => (a.1, encBW a.2)).map Prod.fst = Y.map Prod.fst := by rw [List.map_map]; rfl
    rw [hfs] at hZx
    rw [List.length_map] at hZn
    have hlie := shard_Get.lie (Y := Y) (fun hp => hZs (by omega)) hZc
    have hwf := hl.2.2
    have hlen : (Y.map Prod.snd).length = l0_0.length := by rw [List.length_map, hZn]
    have hbk : ∀ W : World, Below w.heap.size w W → Calls Try.prog 43 #[.slice A0_0 l0_0.length c0_0] W fun e w' => e = .returned (.map (some W.heap.size)) ∧ w'.ownsMap Try.prog 3 MapK.Rh W.heap.size l0_0.length (datBW (Y.map Prod.snd).reverse) ∧ Below W.heap.size W w' := fun W hW => by
      have := shard_book.calls A0_0 c0_0 (Y.map Prod.snd) (by rw [hlen]; exact hl.1) W (by
        rcases hlie.below hW with q | ⟨ad, e, q, q2⟩
        · exact .inl q
        · exact .inr ⟨ad, e, by have := hW.size; omega, q2⟩)
      rwa [hlen] at this
    have hlook : ∀ z : Value, (∃ a ∈ Y, (r1, r2, r3) = (a.1.f0, a.1.f1, a.1.f2) ∧ (datBW (Y.map Prod.snd).reverse).atKey (.int .i64 a1) (.held z) = .held (.agg #[.int .i64 a.1.f0, .int .i64 a.1.f1, .slice a.2.A a.1.f2.length a.2.c]) ∧ Maps.has (datBW (Y.map Prod.snd).reverse) (.int .i64 a1) = true) ∨ ((r1, r2, r3) = (a1, 0, []) ∧ (datBW (Y.map Prod.snd).reverse).atKey (.int .i64 a1) (.held z) = .held z ∧ Maps.has (datBW (Y.map Prod.snd).reverse) (.int .i64 a1) = false) := fun z => by
      have hat : (datBW (Y.map Prod.snd).reverse).atKey (.int .i64 a1) (.held z) = match ((Y.map Prod.snd).map fun a => (a.s, Value.agg (encBW a).toArray)).find? (fun a => a.1 == a1) with | some a => .held a.2 | none => .held z := by
        have := MapK.dat_at a1 (.held z) ((Y.map Prod.snd).reverse.map fun a => (a.s, .agg (encBW a).toArray))
        rw [show ((Y.map Prod.snd).reverse.map fun a => (a.s, Value.agg (encBW a).toArray)).reverse = (Y.map Prod.snd).map fun a => (a.s, Value.agg (encBW a).toArray) by rw [← List.map_reverse, List.reverse_reverse]] at this
        exact this
      have hha : Maps.has (datBW (Y.map Prod.snd).reverse) (.int .i64 a1) = _ := MapK.dat_has a1 ((Y.map Prod.snd).reverse.map fun a : BW => (a.s, .agg (encBW a).toArray))
      have hr := Option.some.inj h
      rw [← hZx] at hr
      rw [hat, hha]
      rcases shard_Get.find Y a1 (fun a ha => (hY a ha).1) with ⟨a, ha, e1, e2, e3⟩ | ⟨e1, e2⟩
      · rw [e1] at hr
        rw [e2]
        obtain ⟨g1, g2, g3, _⟩ := hY a ha
        refine .inl ⟨a, ha, hr.symm, by simp only [encBW, g1, g2, g3], ?_⟩
        rw [List.any_eq_true]
        exact ⟨(a.2.s, .agg (encBW a.2).toArray), List.mem_map.2 ⟨a.2, List.mem_reverse.2 (List.mem_map_of_mem ha), rfl⟩, by simp [g1, e3]⟩
      · rw [e1] at hr
        rw [e2]
        refine .inr ⟨hr.symm, rfl, ?_⟩
        rw [List.any_eq_false]
        intro p hp
        obtain ⟨b, hb, rfl⟩ := List.mem_map.1 hp
        have := List.find?_eq_none.1 e2 (b.s, .agg (encBW b).toArray) (List.mem_map.2 ⟨b, List.mem_reverse.1 hb, rfl⟩)
        simpa using this
    have HLK := Aside0.mk hlook
    have HBK := Aside0.mk hbk
    have HY := Aside0.mk hY
    have HWF := Aside0.mk hwf
    clear hlook hbk hY hwf hlen hlie hfs hZx hZn hZ hZs hZc h hl hs0_0
    have hz : (Try.prog.info? 46).map (fun i => i.zero) = some (some (.agg #[(.int .i64 0), (.int .i64 0), (.slice none 0 0)])) := by kernel_rfl
    go_enter Try.func25, Try.ntmps25
    go_upto_region 1 with (fail)
    have K1 := heap_alloc_new (w.alloc (.cells #[.slice A0_0 l0_0.length c0_0, .int .i64 a0_1] 48)) (.cells #[.int .i64 0, .int .i64 0, .slice none 0 0] 46)
    have K0 := (heap_alloc_old (w.alloc (.cells #[.slice A0_0 l0_0.length c0_0, .int .i64 a0_1] 48)) (.cells #[.int .i64 0, .int .i64 0, .slice none 0 0] 46) (by simp : w.heap.size < _)).trans (heap_alloc_new w _)
    have HB := below_alloc (below_alloc (Below.refl w.heap.size w) (.cells #[.slice A0_0 l0_0.length c0_0, .int .i64 a0_1] 48)) (.cells #[.int .i64 0, .int .i64 0, .slice none 0 0] 46)
    have HS : ((w.alloc (.cells #[.slice A0_0 l0_0.length c0_0, .int .i64 a0_1] 48)).alloc (.cells #[.int .i64 0, .int .i64 0, .slice none 0 0] 46)).heap.size = w.heap.size + 2 := by simp
    rw [World.size_alloc] at K1
    generalize World.alloc (World.alloc w _) _ = w2 at K0 K1 HB HS ⊢
    replace K1 := Aside0.mk K1
    replace HB := Aside0.mk HB
    replace HS := Aside0.mk HS
    have c0 : w2.cell? ⟨w.heap.size, 0, none⟩ = some (.slice A0_0 l0_0.length c0_0) := (blk_cell K0 0).trans rfl
    clear K0 hz
    rcases HLK.out (.agg #[(.int .i64 0), (.int .i64 0), (.slice none 0 0)]) with ⟨a, ha, hr, hat, hhas⟩ | ⟨hr, hat, hhas⟩
    · have HA := Aside0.mk (HY.out a ha)
      have HRR := Aside0.mk hr
      replace hat := Aside0.mk hat
      replace hhas := Aside0.mk hhas
      clear hr ha HLK
      go_upto_region 2 with (first
        | (at_lookup; refine wpList_lookup_own_ok _ rfl _ _ 71 rfl 3 46 (Maps.int_keyed Try.underlying3) Try.underlying71 MapK.Rh (Try.zeroValue46 _) (.held (.agg #[(.int .i64 0), (.int .i64 0), (.slice none 0 0)])) [] rfl w2.heap.size l0_0.length _ rfl hown _ _ rfl (Maps.keyOf_int_mk Try.underlying3 HWF.out) ?_; intro v ps hv; have hv' := congrArg Prod.fst (Option.some.inj hv); rw [hat.out] at hv'; injection hv' with hv'; subst hv'; rw [hhas.out]; clear hv)
        | (go_at_call 43; (with_reducible refine (HBK.out _ HB.out).mono ?_); rintro e w3 ⟨rfl, hown, hb⟩; have K1b := Aside0.mk (blk_below K1.out hb); have HB3 := Aside0.mk (below_step HB.out hb); have HS3 := Aside0.mk hb.size; clear hb))
      have KL := Aside0.mk (heap_alloc_new w3 (.cells #[.int .i64 a.1.f0, .int .i64 a.1.f1, .slice a.2.A a.1.f2.length a.2.c] 46))
      have HBA := Aside0.mk (below_alloc (Below.refl w3.heap.size w3) (.cells #[.int .i64 a.1.f0, .int .i64 a.1.f1, .slice a.2.A a.1.f2.length a.2.c] 46))
      have hn5 : w.heap.size + 1 ≠ w3.heap.size := by have := HS.out; have := HS3.out; omega
      generalize w3.alloc (.cells #[.int .i64 a.1.f0, .int .i64 a.1.f1, .slice a.2.A a.1.f2.length a.2.c] 46) = w4 at KL HBA ⊢
      have K1c := Aside0.mk (blk_below K1b.out HBA.out)
      have HB4 := Aside0.mk (below_step HB3.out HBA.out)
      clear K1b HB3 hown
      generalize w3.heap.size = b5 at KL hn5 ⊢
      have d0 : w4.cell? ⟨b5, 0, none⟩ = some (.int .i64 a.1.f0) := (blk_cell KL.out 0).trans rfl
      have d1 : w4.cell? ⟨b5, 1, none⟩ = some (.int .i64 a.1.f1) := (blk_cell KL.out 1).trans rfl
      have d2 : w4.cell? ⟨b5, 2, none⟩ = some (.slice a.2.A a.1.f2.length a.2.c) := (blk_cell KL.out 2).trans rfl
      have g0 : w4.cell? ⟨w.heap.size + 1, 0, none⟩ = some (.int .i64 0) := (blk_cell K1c.out 0).trans rfl
      have g1 : w4.cell? ⟨w.heap.size + 1, 1, none⟩ = some (.int .i64 0) := (blk_cell K1c.out 1).trans rfl
      have g2 : w4.cell? ⟨w.heap.size + 1, 2, none⟩ = some (.slice none 0 0) := (blk_cell K1c.out 2).trans rfl
      have z0 := blk_frozen K1c.out 0
      have z1 := blk_frozen K1c.out 1
      have z2 := blk_frozen K1c.out 2
      go_wp2
      refine bodyPost_ret (results_cell_row rfl _ _ (w.heap.size + 1) 46 #[.int .i64 a.1.f0, .int .i64 a.1.f1, .slice a.2.A a.1.f2.length a.2.c] (0, 0) _ rfl (by refine blk_put (cs := #[.int .i64 a.1.f0, .int .i64 a.1.f1, .slice none 0 0]) ?_ 2 _ rfl; refine blk_put (cs := #[.int .i64 a.1.f0, .int .i64 0, .slice none 0 0]) ?_ 1 _ rfl; refine blk_put (cs := #[.int .i64 0, .int .i64 0, .slice none 0 0]) ?_ 0 _ rfl; exact K1c.out) Try.underlying46 rfl (by kernel_rfl)) rfl ?_
      have hle : w.heap.size ≤ w.heap.size + 1 := by omega
      have HE := HRR.out
      simp only [Prod.mk.injEq] at HE
      obtain ⟨rfl, rfl, rfl⟩ := HE
      have HBF := ((HB4.out.setCell (p := ⟨w.heap.size + 1, 0, none⟩) hle (.int .i64 a.1.f0)).setCell (p := ⟨w.heap.size + 1, 1, none⟩) hle (.int .i64 a.1.f1)).setCell (p := ⟨w.heap.size + 1, 2, none⟩) hle (.slice a.2.A a.1.f2.length a.2.c)
      exact ⟨_, rfl, Kd.V_mk HA.out.2.2.2.1 (Kd.F_mono (Kd.F_below HA.out.2.2.2.2 HBF) (fun k hk => Or.inl hk.1)), HBF⟩
    · have HRR := Aside0.mk hr
      replace hat := Aside0.mk hat
      replace hhas := Aside0.mk hhas
      clear hr HLK
      go_upto_region 2 with (first
        | (at_lookup; refine wpList_lookup_own_ok _ rfl _ _ 71 rfl 3 46 (Maps.int_keyed Try.underlying3) Try.underlying71 MapK.Rh (Try.zeroValue46 _) (.held (.agg #[(.int .i64 0), (.int .i64 0), (.slice none 0 0)])) [] rfl w2.heap.size l0_0.length _ rfl hown _ _ rfl (Maps.keyOf_int_mk Try.underlying3 HWF.out) ?_; intro v ps hv; have hv' := congrArg Prod.fst (Option.some.inj hv); rw [hat.out] at hv'; injection hv' with hv'; subst hv'; rw [hhas.out]; clear hv)
        | (go_at_call 43; (with_reducible refine (HBK.out _ HB.out).mono ?_); rintro e w3 ⟨rfl, hown, hb⟩; have K1b := Aside0.mk (blk_below K1.out hb); have HB3 := Aside0.mk (below_step HB.out hb); have HS3 := Aside0.mk hb.size; clear hb))
      have KL := Aside0.mk (heap_alloc_new w3 (.cells #[.int .i64 0, .int .i64 0, .slice none 0 0] 46))
      have HBA := Aside0.mk (below_alloc (Below.refl w3.heap.size w3) (.cells #[.int .i64 0, .int .i64 0, .slice none 0 0] 46))
      have hn5 : w.heap.size + 1 ≠ w3.heap.size := by have := HS.out; have := HS3.out; omega
      generalize w3.alloc (.cells #[.int .i64 0, .int .i64 0, .slice none 0 0] 46) = w4 at KL HBA ⊢
      have K1c := Aside0.mk (blk_below K1b.out HBA.out)
      have HB4 := Aside0.mk (below_step HB3.out HBA.out)
      clear K1b HB3 hown
      generalize w3.heap.size = b5 at KL hn5 ⊢
      have d0 : w4.cell? ⟨b5, 0, none⟩ = some (.int .i64 0) := (blk_cell KL.out 0).trans rfl
      have d1 : w4.cell? ⟨b5, 1, none⟩ = some (.int .i64 0) := (blk_cell KL.out 1).trans rfl
      have d2 : w4.cell? ⟨b5, 2, none⟩ = some (.slice none 0 0) := (blk_cell KL.out 2).trans rfl
      have g0 : w4.cell? ⟨w.heap.size + 1, 0, none⟩ = some (.int .i64 0) := (blk_cell K1c.out 0).trans rfl
      have g1 : w4.cell? ⟨w.heap.size + 1, 1, none⟩ = some (.int .i64 0) := (blk_cell K1c.out 1).trans rfl
      have g2 : w4.cell? ⟨w.heap.size + 1, 2, none⟩ = some (.slice none 0 0) := (blk_cell K1c.out 2).trans rfl
      have z0 := blk_frozen K1c.out 0
      have z1 := blk_frozen K1c.out 1
      have z2 := blk_frozen K1c.out 2
      go_wp2
      refine bodyPost_ret (results_cell_row rfl _ _ (w.heap.size + 1) 46 #[.int .i64 a1, .int .i64 0, .slice none 0 0] (0, 0) _ rfl (by refine blk_put (cs := #[.int .i64 a1, .int .i64 0, .slice none 0 0]) ?_ 2 _ rfl; refine blk_put (cs := #[.int .i64 a1, .int .i64 0, .slice none 0 0]) ?_ 1 _ rfl; refine blk_put (cs := #[.int .i64 0, .int .i64 0, .slice none 0 0]) ?_ 0 _ rfl; exact K1c.out) Try.underlying46 rfl (by kernel_rfl)) rfl ?_
      have hle : w.heap.size ≤ w.heap.size + 1 := by omega
      have HE := HRR.out
      simp only [Prod.mk.injEq] at HE
      have HBF := ((HB4.out.setCell (p := ⟨w.heap.size + 1, 0, none⟩) hle (.int .i64 a1)).setCell (p := ⟨w.heap.size + 1, 1, none⟩) hle (.int .i64 0)).setCell (p := ⟨w.heap.size + 1, 2, none⟩) hle (.slice none 0 0)
      obtain ⟨rfl, rfl, rfl⟩ := HE
      exact ⟨_, rfl, Kd.V_nil _ _ _ _ _, HBF⟩
  · rw [if_neg hl] at h; cases h


/-! ### queue_in: function 56 -/
def queue_in.f (a0 : Int) (a1 : Int) (a2 : Int) : Option (Bool) := if a0 ≥ a1 then (some (decide (a0 ≤ a2))) else (some false)
set_option maxHeartbeats 8000000 in
set_option maxRecDepth 100000 in
theorem queue_in.calls (a0 : Int) (a1 : Int) (a2 : Int) (r : Bool) (w : World) (h : queue_in.f a0 a1 a2 = some r) :
    Calls Try.prog 56 #[.int .i64 a0, .int .i64 a1, .int .i64 a2] w fun e w' => e = .returned (.bool r) ∧ Drawn0 w w' := by
  have H : (if a0 ≥ a1 then (some (decide (a0 ≤ a2))) else (some false)) = some r := h
  clear h
  by_cases c4 : a0 ≥ a1
  · rw [if_pos c4] at H
    have c4b0 : decide (a1 ≤ a0) = true := decide_eq_true c4
    clear c4
    obtain rfl := Option.some.inj H
    go_enter Try.func56, Try.ntmps56
    go_wp2
    go_ret
    exact ⟨by first | rfl | (simp; done) | (simp [*]; done), by repeat (first | exact Drawn0.refl _ | apply Drawn0.step)⟩
  · rw [if_neg c4] at H
    have c4b0 : decide (a1 ≤ a0) = false := decide_eq_false c4
    clear c4
    obtain rfl := Option.some.inj H
    go_enter Try.func56, Try.ntmps56
    go_wp2
    go_ret
    exact ⟨by first | rfl | (simp; done) | (simp [*]; done), by repeat (first | exact Drawn0.refl _ | apply Drawn0.step)⟩

end Go.Proofs.Ytnjnogkhbadioaa.D
