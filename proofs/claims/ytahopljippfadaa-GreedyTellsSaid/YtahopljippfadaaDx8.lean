/- Written by this session's own program over the kit's print: functions of Go told as plain functions, or the row of one statement; proved for every input, with no condition of ours. -/
import Derived.Test.YtahopljippfadaaDx0
import Derived.Test.YtahopljippfadaaDx4
import Derived.Test.YtahopljippfadaaDx5
namespace Go.Proofs.Ytahopljippfadaa.D
open Go.RowKit Go.Proofs.YtahopljippfadaaW.PrintWords Go.Proofs.YtahopljippfadaaW.PrintLast Go.Proofs.YtahopljippfadaaW.PrintMore
attribute [local go_sem] max2_int min2_int max_two min_two max_three min_three max_four min_four   -- for this text's walks alone
set_option linter.unusedVariables false
set_option linter.unusedSimpArgs false

/-! ### greedy_Template: function 16, by hand -/
-- HAND rounds=0 making=1
-- NEEDS (*hopper/greedy.block).take
/-- How many are left. -/
def workG (X : List (List S38)) : Nat := (X.map List.length).sum
/-- Who has a place is taken, the best one first. -/
def tmplL : Nat → Int → List (List S38) → List Bool → List S38 → Option (List S38)
  | 0, _, _, _, _ => none
  | n + 1, gas, X, L, U => if PlK.cnt L = 0 then some U else (bestL X L X.length 0 (-1)).bind fun k => if k < 0 then none else tmplL n (takeP gas X L U k.toNat).1 (takeP gas X L U k.toNat).2.1 (takeP gas X L U k.toNat).2.2.1 (takeP gas X L U k.toNat).2.2.2
def placedG (X : List (List S38)) : List Bool := X.map fun x => !x.isEmpty
def greedy_Template.f (l : List S35) (gas : Int) : Option (List S38) :=
  if gas < 0 then some [] else if l.length < 1000000000000 ∧ (l.all fun a => (Lit.int .i64 a.f0).wf) = true then (linesF [] l).bind fun X => if workG X + X.length < 1000000000000 then tmplL (workG X + X.length + 1) gas X (placedG X) [] else none else none
theorem bestL_spec (X : List (List S38)) (L : List Bool) : ∀ (n i : Nat) (k r : Int), bestL X L n i k = some r → r = k ∨ (0 ≤ r ∧ r.toNat < i + n ∧ L.getD r.toNat false = true)
  | 0, i, k, r, h => .inl (Option.some.inj h).symm
  | n + 1, i, k, r, h => by
    rw [bestL] at h
    have hrec : ∀ k' : Int, bestL X L n (i + 1) k' = some r → r = k' ∨ (0 ≤ r ∧ r.toNat < i + (n + 1) ∧ L.getD r.toNat false = true) := fun k' h' => by
      rcases bestL_spec X L n (i + 1) k' r h' with q | ⟨q1, q2, q3⟩
      · exact .inl q
      · exact .inr ⟨q1, by omega, q3⟩
    by_cases hL : L.getD i false = true
    · rw [if_pos hL] at h
      have hi : ∀ r' : Int, r' = (i : Int) → (0 ≤ r' ∧ r'.toNat < i + (n + 1) ∧ L.getD r'.toNat false = true) := fun r' q => by
        subst q
        exact ⟨by omega, by omega, by rw [Int.toNat_natCast]; exact hL⟩
      by_cases hk : k < 0
      · rw [if_pos hk] at h
        rcases hrec _ h with q | q
        · exact .inr (hi r q)
        · exact .inr q
      · rw [if_neg hk] at h
        obtain ⟨b, _, h⟩ := Option.bind_eq_some_iff.1 h
        rcases hrec _ h with q | q
        · cases b with
          | true => exact .inr (hi r q)
          | false => exact .inl q
        · exact .inr q
    · rw [if_neg hL] at h
      exact hrec _ h
/-- Whoever has a place has one left. -/
def SomeX (X : List (List S38)) (L : List Bool) : Prop := ∀ i x, X[i]? = some x → L.getD i false = true → x ≠ []
theorem set_false_getD (L : List Bool) (k i : Nat) (h : (L.set k false).getD i false = true) : i ≠ k ∧ L.getD i false = true := by
  rw [List.getD_eq_getElem?_getD, List.getElem?_set] at h
  by_cases e : k = i
  · rw [if_pos e] at h
    split at h <;> simp at h
  · rw [if_neg e] at h
    exact ⟨fun q => e q.symm, by rw [List.getD_eq_getElem?_getD]; exact h⟩
theorem takeP_some {gas gas' : Int} {X X' : List (List S38)} {L L' : List Bool} {U U' : List S38} {k : Nat} (h : (gas', X', L', U') = takeP gas X L U k) (hS : SomeX X L) : SomeX X' L' ∧ L'.length = L.length ∧ U'.length ≤ U.length + 1 := by
  unfold takeP at h
  split at h
  · injection h with _ h
    injection h with h1 h
    injection h with h2 h3
    subst h1 h2 h3
    exact ⟨fun i x hx hl => hS i x hx (set_false_getD L k i hl).2, List.length_set, Nat.le_succ _⟩
  · injection h with _ h
    injection h with h1 h
    injection h with h2 h3
    subst h1 h2 h3
    refine ⟨fun i x hx hl => ?_, by split <;> simp, by simp⟩
    rw [List.getElem?_set] at hx
    by_cases e : k = i
    · rw [if_pos e] at hx
      split at hx
      · obtain rfl := Option.some.inj hx
        intro q
        rw [q] at hl
        rw [if_pos List.length_nil] at hl
        exact (set_false_getD L k i hl).1 e.symm
      · cases hx
    · rw [if_neg e] at hx
      split at hl
      · exact hS i x hx (set_false_getD L k i hl).2
      · exact hS i x hx hl
set_option maxHeartbeats 8000000 in
set_option maxRecDepth 100000 in
theorem greedy_Template.calls (A0 : Option Addr) (c0 : Nat) (l0 : List S35) (gas : Int) (r : List S38) (w : World) (hr0 : Kd.C k35 w A0 l0.length l0) (hc0 : l0.length ≤ c0) (h : greedy_Template.f l0 gas = some r) :
    Calls Try.prog 16 #[.slice A0 l0.length c0, .int .i64 gas] w fun e w' => ∃ v0_ : Value, e = .returned (v0_) ∧ Kd.R k38 38 w' w.heap.size (fun _ => True) v0_ r ∧ Below w.heap.size w w' := by
  unfold greedy_Template.f at h
  by_cases hgas : gas < 0
  · rw [if_pos hgas] at h
    obtain rfl := Option.some.inj h
    go_enter Try.func16, Try.ntmps16
    go_wp2
    go_ret
    exact ⟨_, rfl, Kd.R_nil _ _ _ _ _, Below.refl _ _⟩
  rw [if_neg hgas] at h
  by_cases hl : l0.length < 1000000000000 ∧ (l0.all fun a => (Lit.int .i64 a.f0).wf) = true
  rotate_left
  · rw [if_neg hl] at h; cases h
  rw [if_pos hl] at h
  obtain ⟨X, hX, h⟩ := Option.bind_eq_some_iff.1 h
  by_cases hw : workG X + X.length < 1000000000000
  rotate_left
  · rw [if_neg hw] at h; cases h
  rw [if_pos hw] at h
  have HC := Aside0.mk (greedy_lines.calls A0 c0 l0 X w hr0 hc0 hl.1 (fun a ha => List.all_eq_true.1 hl.2 a ha) hX)
  have HW := Aside0.mk hw
  have HT := Aside0.mk h
  have HMM := Aside0.mk (fun w : World => World.ownsMap_made w Try.prog 3 MapK.Rh)
  have hmm := @run_makeMap Try.prog
  clear h hl hX hw hr0 hc0
  go_enter Try.func16, Try.ntmps16
  go_upto_region 4 with (go_at_call 27; refine HC.out.mono ?_; rintro e w1 ⟨v, Y, F, rfl, hRO, hLI, hNF, hY, hb⟩; have RO := Aside0.mk hRO; have LI := Aside0.mk hLI; have HY := Aside0.mk hY; have HB := Aside0.mk hb; clear hRO hLI hNF hY hb; obtain ⟨A, c, hv⟩ := Kd.R_slice RO.out; subst hv)
  have hlenY : (Y.map LineW.g).length = Y.length := List.length_map ..
  rw [hlenY] at RO
  have hXl : Y.length = X.length := by rw [← HY.out, List.length_map]
  have HN := Aside0.mk (show Y.length < 1000000000000 by have := HW.out; omega)
  have ha1 := below_alloc (Below.refl w1.heap.size w1) (.map #[] 0)
  have hs1 : (w1.alloc (.map #[] 0)).heap.size = w1.heap.size + 1 := World.size_alloc _ _
  have ha2 := below_alloc (Below.refl (w1.alloc (.map #[] 0)).heap.size (w1.alloc (.map #[] 0))) (.cells #[.int .i64 gas, .slice A Y.length c, .map (some w1.heap.size), .slice none 0 0] 57)
  have hbk := blk_new (w1.alloc (.map #[] 0)) (.cells #[.int .i64 gas, .slice A Y.length c, .map (some w1.heap.size), .slice none 0 0] 57 (0, 0))
  rw [hs1] at hbk
  have HBt := Aside0.mk (show Bt w.heap.size F ((w1.alloc (.map #[] 0)).alloc (.cells #[.int .i64 gas, .slice A Y.length c, .map (some w1.heap.size), .slice none 0 0] 57)) (w1.heap.size + 1) gas A c w1.heap.size 0 (.slice none 0 0) (.slice none 0 0) (.map []) Y [] [] from
    ⟨hbk, Kd.R_below (Kd.R_below RO.out ha1) ha2, (LI.out.below ha1).below ha2, own_block (HMM.out w1) (ha2.block w1.heap.size (by rw [hs1]; exact Nat.lt_succ_self _)), PlK.Pl.nil _, Kd.R_nil _ _ _ _ _, fun q => by have := (LI.out.ff _ q).2.1; omega, fun q => by have := (LI.out.ff _ q).2.1; omega, by have := below_size HB.out; omega, below_size HB.out⟩)
  have BW0 := Aside0.mk (below_step (below_step HB.out ha1) ha2)
  clear hmm HMM ha1 hs1 ha2 hbk RO LI HB HC hlenY
  generalize (w1.alloc (.map #[] 0)).alloc (.cells #[.int .i64 gas, .slice A Y.length c, .map (some w1.heap.size), .slice none 0 0] 57) = w3 at HBt BW0 ⊢
  obtain ⟨bM, hbM⟩ : ∃ b, b = w1.heap.size := ⟨_, rfl⟩
  obtain ⟨gB, hgB⟩ : ∃ b, b = w1.heap.size + 1 := ⟨_, rfl⟩
  rw [← hgB, ← hbM] at HBt
  rw [← hgB]
  try rw [← hbM]
  clear hbM hgB
  have b1 := e_ (Aside0.mk HBt.out.box) 1
  have HXl := Aside0.mk hXl
  clear hXl
  go_wp2
  clear b1
  go_loopg [6, 7, 21] Y.length (fun gg _ _ s21 wr => ∃ (i n : Nat) (D : DataW Value), i ≤ Y.length ∧ n ≤ i ∧ Y.length - i ≤ gg ∧ s21 = .int .i64 (i : Int) ∧ Aside0 (Below w.heap.size w wr) ∧ Aside0 (Bt w.heap.size F wr gB gas A c bM n (.slice none 0 0) (.slice none 0 0) D Y (placedG ((Y.take i).map LineW.xs)) []))
  case atStart => exact ⟨0, 0, _, Nat.zero_le _, Nat.le_refl _, by omega, rfl, BW0, HBt⟩
  case round =>
    obtain ⟨i, n, D, hi, hni, hg, rfl, BW, BT⟩ := hrel
    by_cases hlt : i < Y.length
    · have hltz : (i : Int) < (Y.length : Int) := by omega
      have hi0 : (0 : Int) ≤ (i : Int) := by omega
      have hwi : wrap64 ((i : Int) + 1) = ((i + 1 : Nat) : Int) := by have := HN.out; unfold wrap64; omega
      obtain ⟨g, cap, hv, _, _, _⟩ := Kd.R_form BT.out.row (by rw [List.length_map]; omega)
      injection hv with hA hn_ hc
      clear hn_
      subst hA hc
      obtain ⟨y, hy⟩ : ∃ y, Y[i]? = some y := ⟨_, List.getElem?_eq_getElem hlt⟩
      have p0 : wr.cell? ⟨g, i, none⟩ = some (.pointer (some ⟨y.g, 0, none⟩)) := by
        have := (Kd.R_celln (d := 0) BT.out.row (i : Int) hi0 (by omega)).1
        rw [Int.toNat_natCast] at this
        rw [this]
        have e : rdOf 0 (Y.map LineW.g) (i : Int) = y.g := by
          unfold rdOf
          rw [Int.toNat_natCast, List.getD_eq_getElem?_getD, List.getElem?_map, hy]
          rfl
        rw [e]
        rfl
      have hyg : (Y.map LineW.g).getD i 0 = y.g := by rw [List.getD_eq_getElem?_getD, List.getElem?_map, hy]; rfl
      have q0 : wr.cell? ⟨y.g, 0, none⟩ = some (.slice y.A y.xs.length y.c) := (blk_cell (BT.out.lines.at_ y (List.mem_of_getElem? hy)).2.1 0).trans rfl
      have b2 := e_ (Aside0.mk BT.out.box) 2
      have htk : placedG ((Y.take (i + 1)).map LineW.xs) = placedG ((Y.take i).map LineW.xs) ++ [!y.xs.isEmpty] := by
        unfold placedG
        rw [List.take_add_one, hy, Option.toList_some, List.map_append, List.map_append]
        rfl
      have hpl : (placedG ((Y.take i).map LineW.xs)).length = i := by
        unfold placedG
        rw [List.length_map, List.length_map, List.length_take, Nat.min_eq_left hi]
      have hwfi : (Lit.int .i64 (i : Int)).wf = true := by
        have e : wrap64 (i : Int) = (i : Int) := by have := HN.out; unfold wrap64; omega
        rw [← e]
        exact wrap64_wf _
      have hmx : n < maxLen := by have := HN.out; unfold maxLen; omega
      have HTK := Aside0.mk htk
      have HPL := Aside0.mk hpl
      have HWI := Aside0.mk hwfi
      have HYG := Aside0.mk hyg
      clear htk hpl hwfi hyg hy
      by_cases hx : y.xs = []
      · have hx0 : y.xs.length = 0 := by rw [hx]; rfl
        have HX := Aside0.mk hx
        rw [hx0] at q0
        clear hx hx0
        go_wp2
        go_roundg (Y.length - (i + 1))
        case measure => omega
        case rel => exact ⟨i + 1, n, D, by omega, by omega, by omega, by first | rfl | rw [hwi] | go_num, BW, ⟨by rw [HTK.out, HX.out]; exact BT.out.skip⟩⟩
      · have hx0 : (y.xs.length : Int) > 0 := by have := List.length_pos_iff.2 hx; omega
        have HX := Aside0.mk (show (!y.xs.isEmpty) = true by cases h : y.xs <;> simp_all)
        clear hx
        go_wp2_with (at_mapUpdate; refine wpList_mapUpdate_own _ rfl _ _ _ 55 rfl 3 50 (Maps.int_keyed Try.underlying3) Try.underlying55 MapK.Rh bM n _ rfl BT.out.map_ hmx _ _ _ rfl rfl (Maps.keyOf_int_mk Try.underlying3 HWI.out) _ [] rfl ?_; intro w5 hown5 hgrow5; have OM5 := Aside0.mk hown5; have HG5 := Aside0.mk hgrow5; clear hown5 hgrow5)
        go_roundg (Y.length - (i + 1))
        case measure => omega
        case rel =>
          have hm2 : w5.ownsMap Try.prog 3 MapK.Rh bM (n + 1) (D.put (.int .i64 ((placedG ((Y.take i).map LineW.xs)).length : Int)) (.held (encL ((Y.map LineW.g).getD (placedG ((Y.take i).map LineW.xs)).length 0)))) := by
            rw [HPL.out, HYG.out]
            exact OM5.out
          have HP := BT.out.put HG5.out hm2
          exact ⟨i + 1, n + 1, D.put (.int .i64 ((placedG ((Y.take i).map LineW.xs)).length : Int)) (.held (encL ((Y.map LineW.g).getD (placedG ((Y.take i).map LineW.xs)).length 0))), by omega, by omega, by omega, by first | rfl | rw [hwi] | go_num, ⟨BW.out.grown HG5.out (below_size BW.out) (fun k e => by cases e; exact BT.out.lo.2)⟩, ⟨by rw [HTK.out, HX.out]; exact HP⟩⟩
    · have hltz : ¬ (i : Int) < (Y.length : Int) := by omega
      obtain rfl : i = Y.length := by omega
      rw [List.take_length, HY.out] at BT
      go_wp2
      have hsx : SomeX X (placedG X) := fun i x hx hl => by
        unfold placedG at hl
        rw [List.getD_eq_getElem?_getD, List.getElem?_map, hx] at hl
        intro q
        rw [q] at hl
        cases hl
      have HSX := Aside0.mk hsx
      have hpx : (placedG X).length = X.length := List.length_map ..
      have HPX := Aside0.mk hpx
      clear hsx hpx
      have HNY := Aside0.mk HN.out
      clear hi hni hg hltz hlt
      go_loopg [] (workG X + X.length + 1) (fun gg wr => ∃ (m : Nat) (gas' : Int) (n : Nat) (v : Value) (D : DataW Value) (Z : List LineW) (L : List Bool) (U : List S38), m ≤ gg ∧ Aside0 (Below w.heap.size w wr) ∧ Aside0 (Bt w.heap.size F wr gB gas' A c bM n v v D Z L U) ∧ Aside0 (Z.length = Y.length) ∧ Aside0 (L.length = Y.length) ∧ Aside0 (SomeX (Z.map LineW.xs) L) ∧ Aside0 (U.length + m < 1000000000000 + 1) ∧ Aside0 (tmplL m gas' (Z.map LineW.xs) L U = some r))
      case atStart => exact ⟨workG X + X.length + 1, gas, n, _, D, Y, placedG X, [], Nat.le_refl _, BW, BT, ⟨rfl⟩, ⟨HPX.out.trans HXl.out.symm⟩, ⟨HY.out ▸ HSX.out⟩, ⟨by have := HW.out; simp only [List.length_nil]; omega⟩, ⟨HY.out ▸ HT.out⟩⟩
      case round =>
        obtain ⟨m, gas', n, v, D, Z, L, U, hm, BW, BT, HZ, HL, HS, HU, EQ⟩ := hrel
        cases m with
        | zero => cases EQ.out
        | succ m =>
          rw [tmplL] at EQ
          have hsz := BT.out.pl.size_
          have b2 := e_ (Aside0.mk BT.out.box) 2
          by_cases hc : PlK.cnt L = 0
          · rw [if_pos hc] at EQ
            have hs0 : Maps.size D = 0 := hsz.trans hc
            have b3 := e_ (Aside0.mk BT.out.box) 3
            obtain ⟨A3, c3, hv⟩ := Kd.R_slice BT.out.tak
            subst hv
            clear hsz hc
            go_wp2_with (at_len; refine wpList_len_own _ rfl _ 55 rfl 3 50 Try.underlying55 MapK.Rh bM n D rfl BT.out.map_ ?_; rw [hs0])
            go_ret
            obtain rfl := Option.some.inj EQ.out
            exact ⟨_, rfl, Kd.R_mono BT.out.tak (fun _ _ => trivial), BW.out⟩
          · rw [if_neg hc] at EQ
            have hs0 : ((Maps.size D : Nat) : Int) > 0 := by rw [hsz]; omega
            obtain ⟨k, hk, EQ2⟩ := Option.bind_eq_some_iff.1 EQ.out
            by_cases hk0 : k < 0
            · rw [if_pos hk0] at EQ2
              cases EQ2
            rw [if_neg hk0] at EQ2
            obtain ⟨kn, rfl⟩ : ∃ kn : Nat, k = (kn : Int) := ⟨k.toNat, by omega⟩
            rw [Int.toNat_natCast] at EQ2
            have hk2 : kn < Z.length ∧ L.getD kn false = true := by
              rcases bestL_spec _ _ _ _ _ _ hk with q | ⟨_, q2, q3⟩
              · omega
              · rw [Int.toNat_natCast] at q2 q3
                rw [List.length_map] at q2
                exact ⟨by omega, q3⟩
            obtain ⟨y, hy⟩ : ∃ y, Z[kn]? = some y := ⟨_, List.getElem?_eq_getElem hk2.1⟩
            have hyx : y.xs ≠ [] := HS.out kn y.xs (by rw [List.getElem?_map, hy]; rfl) hk2.2
            rw [List.length_map] at hk
            have hZ9 : Z.length < 1000000000000 := by rw [HZ.out]; exact HNY.out
            have HCB := Aside0.mk (greedy_block_best.calls w.heap.size F gB gas' A c bM n v D Z L wr kn (BT.out.bk (HL.out.trans HZ.out.symm) (fun i y h1 h2 => HS.out i y.xs (by rw [List.getElem?_map, h1]; rfl) h2)) hZ9 hk)
            have HE2 := Aside0.mk EQ2
            have HY2 := Aside0.mk hy
            have HYX := Aside0.mk hyx
            have HZ9 := Aside0.mk hZ9
            clear hk hk0 hk2 hy hyx EQ2 EQ hsz hc hZ9
            go_wp2_with (first
              | (at_len; refine wpList_len_own _ rfl _ 55 rfl 3 50 Try.underlying55 MapK.Rh bM n D rfl BT.out.map_ ?_)
              | (go_at_call 31; refine HCB.out.mono ?_; rintro e w5 ⟨rfl, hb5⟩; have BT5 := Aside0.mk (BT.out.below hb5); have BW5 := Aside0.mk (below_step BW.out hb5); clear hb5)
              | (go_at_call 30; refine (greedy_block_take.calls w.heap.size F gB gas' A c bM n v D Z L U w5 kn y BT5.out HZ9.out (by have := HU.out; omega) HY2.out HYX.out).mono ?_; rintro e w6 ⟨rfl, hb6, v6, D6, Z6, gas6, L6, U6, hBT6, hzg, htk⟩; have BT6 := Aside0.mk hBT6; have BW6 := Aside0.mk (BW5.out.trans hb6); have HZG := Aside0.mk hzg; have HTK := Aside0.mk htk; clear hBT6 hb6 hzg htk))
            have hzl : Z6.length = Z.length := by
              have := congrArg List.length HZG.out
              rwa [List.length_map, List.length_map] at this
            obtain ⟨s1, s2, s3⟩ := takeP_some HTK.out HS.out
            have HZ6 := Aside0.mk (hzl.trans HZ.out)
            have HL6 := Aside0.mk (s2.trans HL.out)
            have HS6 := Aside0.mk s1
            have HU6 := Aside0.mk (show U6.length + m < 1000000000000 + 1 by have := HU.out; omega)
            rw [← HTK.out] at HE2
            clear hzl s1 s2 s3
            go_roundg m
            case measure => omega
            case rel => exact ⟨m, gas6, n, v6, D6, Z6, L6, U6, Nat.le_refl _, BW6, BT6, HZ6, HL6, HS6, HU6, HE2⟩


/-! ### api_Account: function 33, by hand -/
-- HAND rounds=0 making=0 opaque
-- IMPORT Derived.Test.YtahopljippfadaaMapK
-- IMPORT Derived.RangeFuncNested
-- IMPORT Derived.RangeFuncBound
-- IMPORT Derived.RangeFuncCalls
-- IMPORT Derived.RangeFuncLeaves
-- IMPORT Derived.Shelf.Abstract
-- IMPORT Derived.Shelf.RegionOpen
-- IMPORT Derived.OwnWalkIn
-- IMPORT Derived.TacticsInMore
-- IMPORT Derived.LoopNIn
-- IMPORT Derived.LoopIn
/-- An account's three cells, of a sender that is within its kind's range. -/
structure AcW where
  s : Int
  b : Int
  A : Option Addr
  m : Nat
  c : Nat
  wf : (Lit.int .i64 s).wf = true
def encBW (a : AcW) : List Value := [.int .i64 a.s, .int .i64 a.b, .slice a.A a.m a.c]
/-- The accounts bs lie from A on, in a block below n₀. -/
def LieBW (n₀ : Nat) (W : World) (A : Option Addr) (bs : List AcW) : Prop := bs = [] ∨ ∃ ad, A = some ad ∧ ad.block < n₀ ∧ ∀ (j : Nat) (a : AcW), bs[j]? = some a → W.cell? (ad.add (j * 3)) = some (.int .i64 a.s) ∧ W.cell? ⟨(ad.add (j * 3)).block, (ad.add (j * 3)).off + 1, none⟩ = some (.int .i64 a.b) ∧ W.cell? ⟨(ad.add (j * 3)).block, (ad.add (j * 3)).off + 2, none⟩ = some (.slice a.A a.m a.c)
theorem LieBW.below {n₀ : Nat} {W W' : World} {A : Option Addr} {bs : List AcW} (h : LieBW n₀ W A bs) (hb : Below n₀ W W') : LieBW n₀ W' A bs := by
  rcases h with rfl | ⟨ad, e, hl, hc⟩
  · exact .inl rfl
  · have hk : ∀ (q : Addr) (v : Value), q.block = ad.block → W.cell? q = some v → W'.cell? q = some v := fun q v hq hv => (hb.cell (p := q) (by rw [hq]; exact hl)).trans hv
    exact .inr ⟨ad, e, hl, fun j a ha => ⟨hk _ _ (add_block _ _) (hc j a ha).1, hk _ _ (add_block _ _) (hc j a ha).2.1, hk _ _ (add_block _ _) (hc j a ha).2.2⟩⟩
/-- What has come when k are left: the places and the accounts from the last one on. -/
def cameBW (bs : List AcW) (k : Nat) : List (Int × AcW) := ((bs.zipIdx.map fun p => ((p.2 : Int), p.1)).drop k).reverse
theorem cameBW_all (bs : List AcW) : cameBW bs bs.length = [] := by
  unfold cameBW
  rw [List.drop_eq_nil_of_le (by simp)]
  rfl
theorem cameBW_next {bs : List AcW} {k : Nat} {a : AcW} (h : bs[k]? = some a) : cameBW bs k = cameBW bs (k + 1) ++ [((k : Int), a)] := by
  unfold cameBW
  have hk := (List.getElem?_eq_some_iff.1 h).1
  have he : (bs.zipIdx.map fun p => ((p.2 : Int), p.1))[k]? = some ((k : Int), a) := by
    rw [List.getElem?_map, List.getElem?_zipIdx, h]
    simp
  obtain ⟨hk2, e⟩ := List.getElem?_eq_some_iff.1 he
  rw [List.drop_eq_getElem_cons hk2, List.reverse_cons, e]
theorem cameBW_len (bs : List AcW) (k : Nat) : (cameBW bs k).length = bs.length - k := by simp [cameBW]
/-- What a round that goes on keeps: whatever lay below n₀, and the cell of the slice's box. -/
def KpB (n₀ Bs : Nat) (W W' : World) : Prop := Below n₀ W W' ∧ ∀ v, W.cell? ⟨Bs, 0, none⟩ = some v → W'.cell? ⟨Bs, 0, none⟩ = some v
theorem KpB.refl (n₀ Bs : Nat) (W : World) : KpB n₀ Bs W W := ⟨Below.refl _ _, fun _ h => h⟩
theorem KpB.trans {n₀ Bs : Nat} {A B C : World} (h : KpB n₀ Bs A B) (g : KpB n₀ Bs B C) : KpB n₀ Bs A C := ⟨h.1.trans g.1, fun v hv => g.2 v (h.2 v hv)⟩
theorem KpB.put {n₀ Bs : Nat} {w : World} (hn : n₀ ≤ w.heap.size) (W : World) (l : Nat) (o o' : Obj) (hl : w.heap.size ≤ l) (h : W.heap[l]? = some o) (hc : o.isCells = false) (hw : o.isWalk = false) : KpB n₀ Bs W (W.putObj l o') := by
  refine ⟨belowK_b hn W l o o' hl h hc hw, fun v hv => ?_⟩
  have hne : Bs ≠ l := by
    rintro rfl
    simp only [World.cell?, h] at hv
    cases o <;> simp_all [Obj.isCells]
  exact cell_kept hv (grownBy_putObj' W l o') (fun r e => by cases e; exact ⟨_, h, hc⟩)
attribute [local go_sem] Oper.semAt_some
set_option maxRecDepth 100000 in
set_option maxHeartbeats 2000000 in
/-- Backward's closure, at whatever loop body that keeps what lay below n₀. -/
theorem api_Account.closure (F : Fence) (n : Nat) (h7 : F.fn 40) (hro : F.round = none) (hn : 1 ≤ n) (l Bs n₀ cap : Nat) (A : Option Addr) (bs : List AcW) (hreach : bs.length < 2513169434916) (J Jx : List (Int × AcW) → World → Prop)
    (hY : ∀ pre x W, J pre W → pre.length < bs.length → YieldAt F (n - 1) Try.prog l #[.int .i64 x.1, .agg (encBW x.2).toArray] W fun e W' =>
      (e = .returned (.bool true) ∧ J (pre ++ [x]) W' ∧ KpB n₀ Bs W W') ∨ (e = .returned (.bool false) ∧ Jx (pre ++ [x]) W'))
    (W : World) (hBs : W.cell? ⟨Bs, 0, none⟩ = some (.slice A bs.length cap)) (hc : LieBW n₀ W A bs) (h0 : J [] W) :
    CallsIn F n Try.prog 40 #[.func (.yield l) #[] #[], .pointer (some ⟨Bs, 0, none⟩)] W fun e W' => (∃ v, e = .returned v) ∧
      ((∃ ys, ys = cameBW bs 0 ∧ J ys W') ∨ (∃ pre, (∃ k, pre = cameBW bs k) ∧ Jx pre W')) := by
  refine callsIn_of_wp Try.func40 rfl h7 ?_ hro
  simp only [Try.ntmps40, List.size_toArray, List.length_cons, List.length_nil, Nat.reduceAdd, Nat.reduceSub, Array.replicate_succ, Array.replicate_zero, List.push_toArray, List.append_toArray, List.nil_append, List.cons_append]
  gi_wp2
  gi_loopw [3] (fun i wr => ∃ k : Nat, k ≤ bs.length ∧ i = .int .i64 ((k : Int) - 1) ∧ Aside0 (J (cameBW bs k) wr) ∧ Aside0 (KpB n₀ Bs W wr))
    (fun i _ => (intOf i + 1).toNat)
  case atStart => exact ⟨bs.length, Nat.le_refl _, rfl, ⟨by rw [cameBW_all]; exact h0⟩, ⟨KpB.refl _ _ _⟩⟩
  case round =>
    obtain ⟨k, hk, rfl, hJs, hnx⟩ := hrel
    cases k with
    | zero =>
      have hge : ¬ ((0 : Nat) : Int) - 1 ≥ 0 := by omega
      gi_wp2
      go_end0
      exact ⟨⟨_, rfl⟩, .inl (by first | exact hJs.out | exact ⟨_, rfl, hJs.out⟩)⟩
    | succ k =>
      obtain ⟨x, hx⟩ : ∃ x, bs[k]? = some x := ⟨_, List.getElem?_eq_getElem (by omega)⟩
      rw [show (((k + 1 : Nat) : Int) - 1) = (k : Int) by omega]
      have hge : (k : Int) ≥ 0 := by omega
      have hk0 : (0 : Int) ≤ (k : Int) := by omega
      have hkl : (k : Int) < (bs.length : Int) := by omega
      have hcs := hnx.out.2 _ hBs
      rcases hc.below hnx.out.1 with hnil | ⟨ad, rfl, had, hcc⟩
      · rw [hnil] at hx; cases hx
      obtain ⟨u0, u1, u2⟩ := hcc k x hx
      have HX := Aside0.mk hx
      have hJ0 : J (cameBW bs (k + 1)) wr := hJs.out
      obtain ⟨fn, tmps, assign, body, hy, hR⟩ := hY _ ((k : Int), x) wr hJ0 (by rw [cameBW_len]; omega)
      simp only [encBW] at hy
      have HRR := Aside0.mk hR
      clear hcc hc hR hx hJs hJ0
      gi_wp2
      refine HRR.out.mono ?_
      rintro e W3 (⟨rfl, hJ3, hk3⟩ | ⟨rfl, hJx3⟩)
      · have HJ3 := Aside0.mk hJ3
        have HK3 := Aside0.mk hk3
        clear hJ3 hk3
        gi_wp2
        go_roundw
        case rel => exact ⟨k, by omega, rfl, ⟨by rw [cameBW_next HX.out]; exact HJ3.out⟩, ⟨hnx.out.trans HK3.out⟩⟩
        case measure => simp only [intOf]; omega
      · have HJ3 := Aside0.mk hJx3
        clear hJx3
        gi_wp2
        refine bodyPost_ret (results_none rfl _ _ _) rfl ?_
        exact ⟨⟨_, rfl⟩, .inr ⟨_, ⟨k, (cameBW_next HX.out).symm⟩, HJ3.out⟩⟩
set_option maxHeartbeats 1000000 in
/-- Backward: the slice is boxed; the function value holds the box. -/
theorem api_Account.calls (F : Fence) (n : Nat) (h5 : F.fn 33) (hro : F.round = none) (a : Option Addr) (len cap : Nat) (w : World) :
    CallsIn F n Try.prog 33 #[.slice a len cap] w fun e w' => e = .returned (.func (.func 40) #[] #[.pointer (some ⟨w.heap.size, 0, none⟩)]) ∧ w' = w.alloc (.cells #[.slice a len cap] 22) := by
  refine callsIn_of_wp Try.func33 rfl h5 ?_ hro
  simp only [Try.ntmps33, List.size_toArray, List.length_cons, List.length_nil, Nat.reduceAdd, Nat.reduceSub, Array.replicate_succ, Array.replicate_zero, List.push_toArray, List.append_toArray, List.nil_append, List.cons_append]
  gi_wp2
  go_ret
  exact ⟨rfl, rfl⟩
/-- Backward hands back a value that hands on all accounts, from the last one on. -/
theorem api_Account.stops (F : Fence) (n : Nat) (h7 : F.fn 40) (hro : F.round = none) (hn : 1 ≤ n) (Bs n₀ cap : Nat) (A : Option Addr) (bs : List AcW) (hreach : bs.length < 2513169434916) (w : World) (hBn : Bs < w.heap.size) (hn₀ : n₀ ≤ w.heap.size)
    (hBs : w.cell? ⟨Bs, 0, none⟩ = some (.slice A bs.length cap)) (hc : LieBW n₀ w A bs) :
    SeqStopsK F n Try.prog 40 #[.pointer (some ⟨Bs, 0, none⟩)] (fun x : Int × AcW => #[Value.int .i64 x.1, .agg (encBW x.2).toArray]) (KpB n₀ Bs) (fun ys => ys = cameBW bs 0) (fun pre => ∃ k, pre = cameBW bs k) bs.length w := fun l J Jx W hW _ _ hY h0 =>
  api_Account.closure F n h7 hro hn l Bs n₀ cap A bs hreach J Jx hY W ((hW.cell (p := ⟨Bs, 0, none⟩) hBn).trans hBs) (hc.below (hW.mono hn₀)) h0


end Go.Proofs.Ytahopljippfadaa.D
