/- Written by this session's own program over the kit's print: functions of Go told as plain functions, or the row of one statement; proved for every input, with no condition of ours. -/
import Derived.Test.YtahopljippfadaaDx0
import Derived.Test.YtahopljippfadaaDx3
namespace Go.Proofs.Ytahopljippfadaa.D
open Go.RowKit Go.Proofs.YtahopljippfadaaW.PrintWords Go.Proofs.YtahopljippfadaaW.PrintLast Go.Proofs.YtahopljippfadaaW.PrintMore
attribute [local go_sem] max2_int min2_int max_two min_two max_three min_three max_four min_four   -- for this text's walks alone
set_option linter.unusedVariables false
set_option linter.unusedSimpArgs false

/-! ### greedy_lines: function 27, by hand -/
-- HAND rounds=0 making=0 opaque
-- IMPORT Derived.Test.YtahopljippfadaaCopyM
-- IMPORT Derived.Test.YtahopljippfadaaMapK
-- NEEDS hopper/greedy.ready
/-- A line: its block, its slice, what it has left. -/
structure LineW where
  g : Nat
  A : Option Addr
  c : Nat
  xs : List S38
/-- Lines, each in a block of its own; F: the blocks of their rows. -/
structure Lines (base : Nat) (F : Nat → Prop) (W : World) (Y : List LineW) : Prop where
  nd : (Y.map LineW.g).Nodup
  at_ : ∀ y ∈ Y, base ≤ y.g ∧ W.heap[y.g]? = some (.cells #[.slice y.A y.xs.length y.c] 52 (0, 0)) ∧ Kd.V k38 38 W 0 F (.slice y.A y.xs.length y.c) y.xs
  ff : ∀ k, F k → base ≤ k ∧ k < W.heap.size ∧ ∀ y ∈ Y, k ≠ y.g
theorem Lines.nil (base : Nat) (W : World) : Lines base (fun _ => False) W [] := ⟨List.nodup_nil, fun y hy => absurd hy List.not_mem_nil, fun k hk => False.elim hk⟩
theorem Lines.step {base : Nat} {F : Nat → Prop} {W W' : World} {Y : List LineW} (h : Lines base F W Y) (hs : W.heap.size ≤ W'.heap.size) (hm : ∀ k, k < W.heap.size → (F k ∨ ∃ y ∈ Y, k = y.g) → W'.heap[k]? = W.heap[k]?) : Lines base F W' Y :=
  ⟨h.nd, fun y hy => ⟨(h.at_ y hy).1, (hm y.g (blk_lt (h.at_ y hy).2.1) (.inr ⟨y, hy, rfl⟩)).trans (h.at_ y hy).2.1, Kd.V_step (h.at_ y hy).2.2 (fun k hk hlt => hm k hlt (.inl hk))⟩, fun k hk => ⟨(h.ff k hk).1, Nat.lt_of_lt_of_le (h.ff k hk).2.1 hs, (h.ff k hk).2.2⟩⟩
theorem Lines.below {base : Nat} {F : Nat → Prop} {W W' : World} {Y : List LineW} (h : Lines base F W Y) (hb : Below W.heap.size W W') : Lines base F W' Y := h.step (below_size hb) (fun k hk _ => hb.block k hk)
theorem Lines.grown {base : Nat} {F : Nat → Prop} {W W' : World} {Y : List LineW} {row : Option Nat} (h : Lines base F W Y) (hg : W.grownBy W' row) (hne : ∀ k, row = some k → ¬ F k ∧ ∀ y ∈ Y, k ≠ y.g) : Lines base F W' Y :=
  h.step hg.size (fun k hk hf => hg.block k hk (fun e => by
    obtain ⟨h1, h2⟩ := hne k e.symm
    rcases hf with hf | ⟨y, hy, rfl⟩
    · exact h1 hf
    · exact h2 y hy rfl))
theorem Lines.add {base n : Nat} {F : Nat → Prop} {W W1 : World} {Y : List LineW} {A : Option Addr} {c : Nat} {xs : List S38} (h : Lines base F W Y) (hb : Below W.heap.size W W1) (hbase : base ≤ W.heap.size) (hR : Kd.R k38 38 W1 W.heap.size (fun _ => True) (.slice A n c) xs) :
    Lines base (fun k => F k ∨ (W.heap.size ≤ k ∧ k < W1.heap.size)) (W1.alloc (.cells #[.slice A n c] 52)) (Y ++ [⟨W1.heap.size, A, c, xs⟩]) := by
  have hsz := below_size hb
  have hal := below_alloc (Below.refl W1.heap.size W1) (.cells #[.slice A n c] 52)
  obtain rfl : n = xs.length := (Kd.R_reads' hR).1
  have h1 := (h.below hb).below hal
  refine ⟨?_, fun y hy => ?_, fun k hk => ?_⟩
  · rw [List.map_append, List.nodup_append]
    refine ⟨h.nd, (by simp : [W1.heap.size].Nodup), fun a ha b hb2 => ?_⟩
    obtain ⟨y, hy, rfl⟩ := List.mem_map.1 ha
    rw [List.map_singleton, List.mem_singleton] at hb2
    subst hb2
    have := blk_lt (h.at_ y hy).2.1
    show y.g ≠ W1.heap.size
    omega
  · rcases List.mem_append.1 hy with hy | hy
    · exact ⟨(h1.at_ y hy).1, (h1.at_ y hy).2.1, Kd.V_mono (h1.at_ y hy).2.2 (fun k hk => .inl hk)⟩
    · rw [List.mem_singleton] at hy
      subst hy
      exact ⟨Nat.le_trans hbase hsz, heap_alloc_new W1 _, Kd.V_below (Kd.V_mono (Kd.R_V (Kd.R_bound hR)) (fun k hk => .inr ⟨hk.2.1, hk.2.2.1⟩)) hal⟩
  · have hsa : (W1.alloc (.cells #[.slice A xs.length c] 52)).heap.size = W1.heap.size + 1 := World.size_alloc _ _
    rw [hsa]
    rcases hk with hk | hk
    · obtain ⟨a, b, d⟩ := h.ff k hk
      refine ⟨a, by omega, fun y hy => ?_⟩
      rcases List.mem_append.1 hy with hy | hy
      · exact d y hy
      · rw [List.mem_singleton] at hy
        subst hy
        show k ≠ W1.heap.size
        omega
    · refine ⟨by omega, by omega, fun y hy => ?_⟩
      rcases List.mem_append.1 hy with hy | hy
      · have := blk_lt (h.at_ y hy).2.1
        omega
      · rw [List.mem_singleton] at hy
        subst hy
        show k ≠ W1.heap.size
        omega
/-- The lines of accounts, the first one of each sender, in order; S: the senders that have come. -/
def linesF : List Int → List S35 → Option (List (List S38))
  | _, [] => some []
  | S, a :: l => if S.contains a.f0 = true then linesF (a.f0 :: S) l else (greedy_ready.f a.f0 a.f1 a.f2).bind fun r => (linesF (a.f0 :: S) l).bind fun t => some (r :: t)
/-- A pointer to a line. -/
def encL (g : Nat) : Value := .pointer (some ⟨g, 0, none⟩)
theorem encL1 (g : Nat) : (encL g).oneCell' = true := rfl
theorem own_block {P : Program} {k : TypeId} {w w' : World} {b n : Nat} {D : DataW Value} (h : w.ownsMap P k MapK.Rh b n D) (e : w'.heap[b]? = w.heap[b]?) : w'.ownsMap P k MapK.Rh b n D := by
  obtain ⟨es, ck, h1, h2⟩ := h
  exact ⟨es, ck, e.trans h1, h2⟩
theorem greedy_lines.look {P : Program} {w : World} {ops : Array Oper} {rest : List Oper} {o : Oper} {a : Act} {Q : Exit → Act → World → Prop} (hg : o.guard = none) (m x : Operand) (t : TypeId) (hop : o.op = Op.lookup t m x false) (k e : TypeId) (K : Maps.Keyed P k) (ht : P.underlying t = some (.map k e)) {z : Value} (hz : (zeroValue e).run P w = .ok z w) (b n : Nat) (D : DataW Value) (hm : a.eval m = .map (some b)) (hown : w.ownsMap P k MapK.Rh b n D) (key : Value) (kl : Lit) (hx : a.eval x = key) (hkey : keyOf P k key = some kl) (hK : ∀ v, DataW.held v = D.atKey kl (.held z) → wpList P ops Q rest (a.put o.dst v) w) : wpList P ops Q (o :: rest) a w := by
  refine wpList_plain hg fun K' hK' => ?_
  obtain ⟨v, ps, hrun, hv⟩ := hown.lookup K ht hz (zd := .held z) (zp := []) rfl hkey
  unfold Oper.wp
  simp [execOp, hop, hm, hx, hrun, Result.andThen]
  exact hK' _ _ (hK v (congrArg Prod.fst (Option.some.inj hv)))
theorem greedy_lines.seen (l : List S35) (s : Int) : (MapK.dat (l.map fun a => (a.f0, .bool true))).atKey (.int .i64 s) (.held (.bool false)) = .held (.bool ((l.map fun a => a.f0).reverse.contains s)) := by
  rw [MapK.dat_at]
  cases h : ((l.map fun a => (a.f0, Value.bool true)).reverse.find? fun a => a.1 == s) with
  | none =>
    have : (l.map fun a => a.f0).reverse.contains s = false := by
      rw [Bool.eq_false_iff]
      intro hc
      rw [List.contains_iff_mem, List.mem_reverse] at hc
      obtain ⟨a, ha, rfl⟩ := List.mem_map.1 hc
      have := List.find?_eq_none.1 h (a.f0, .bool true) (List.mem_reverse.2 (List.mem_map.2 ⟨a, ha, rfl⟩))
      simp at this
    rw [this]
  | some p =>
    have hp := List.mem_of_find?_eq_some h
    rw [List.mem_reverse] at hp
    obtain ⟨a, ha, rfl⟩ := List.mem_map.1 hp
    have he := List.find?_some h
    have e : a.f0 = s := by simpa using he
    have : (l.map fun a => a.f0).reverse.contains s = true := by
      rw [List.contains_iff_mem, List.mem_reverse]
      exact List.mem_map.2 ⟨a, ha, e⟩
    rw [this]
set_option maxHeartbeats 8000000 in
set_option maxRecDepth 100000 in
/-- The lines of accounts. -/
theorem greedy_lines.calls (A : Option Addr) (c : Nat) (l : List S35) (R : List (List S38)) (w : World) (hr : Kd.C k35 w A l.length l) (hc : l.length ≤ c) (hl : l.length < 1000000000000) (hwf : ∀ a ∈ l, (Lit.int .i64 a.f0).wf = true) (h : linesF [] l = some R) :
    Calls Try.prog 27 #[.slice A l.length c] w fun e w' => ∃ (v : Value) (Y : List LineW) (F : Nat → Prop), e = .returned v ∧ Kd.R (Kd.scalar encL encL1) 50 w' w.heap.size (fun _ => True) v (Y.map LineW.g) ∧ Lines w.heap.size F w' Y ∧ (∀ k, v.ownBlock = some k → ¬ F k) ∧ Y.map LineW.xs = R ∧ Below w.heap.size w w' := by
  have H0 := Aside0.mk hr
  have H1 := Aside0.mk hc
  have H2 := Aside0.mk hl
  have H3 := Aside0.mk hwf
  have H4 := Aside0.mk h
  have hm0 := World.ownsMap_made w Try.prog 3 MapK.Rh
  have HM := Aside0.mk hm0
  clear hr hc hl hwf h hm0
  have hmm := @run_makeMap Try.prog
  go_enter Try.func27, Try.ntmps27
  go_upto_region 3 with (fail)
  have HB := Aside0.mk (below_alloc (Below.refl w.heap.size w) (.map #[] 0))
  generalize w.alloc (.map #[] 0) = w1 at HM HB ⊢
  clear hmm
  obtain ⟨bM, hbM⟩ : ∃ b, b = w.heap.size := ⟨_, rfl⟩
  rw [← hbM] at HM ⊢
  have HE := Aside0.mk hbM
  clear hbM
  go_wp2
  go_loopg [4, 6, 10] l.length (fun gg s4 _ s10 wr => ∃ (i : Nat) (Y : List LineW) (F : Nat → Prop) (rest : List (List S38)), i ≤ l.length ∧ Y.length ≤ i ∧ l.length - i ≤ gg ∧ s10 = .int .i64 (i : Int) ∧ Aside0 (Below w.heap.size w wr) ∧ Aside0 (wr.ownsMap Try.prog 3 MapK.Rh bM i (MapK.dat ((l.take i).map fun a => (a.f0, .bool true)))) ∧ Aside0 (Kd.R (Kd.scalar encL encL1) 50 wr w.heap.size (fun k => k ≠ bM) s4 (Y.map LineW.g)) ∧ Aside0 (Lines w.heap.size F wr Y) ∧ Aside0 (∀ k, s4.ownBlock = some k → ¬ F k) ∧ Aside0 (¬ F bM) ∧ Aside0 (linesF ((l.take i).map fun a => a.f0).reverse (l.drop i) = some rest) ∧ Aside0 (Y.map LineW.xs ++ rest = R))
  case atStart => exact ⟨0, [], fun _ => False, R, Nat.zero_le _, Nat.le_refl _, by omega, rfl, HB, HM, ⟨Kd.R_nil _ _ _ _ _⟩, ⟨Lines.nil _ _⟩, ⟨fun k hk => by cases hk⟩, ⟨fun h => h⟩, H4, ⟨rfl⟩⟩
  case round =>
    obtain ⟨i, Y, F, rest, hi, hyi, hg, rfl, BW, OM, RO, LI, NF, NM, LF, EQ⟩ := hrel
    by_cases hlt : i < l.length
    · have hltz : (i : Int) < (l.length : Int) := by omega
      have hi0 : (0 : Int) ≤ (i : Int) := by omega
      obtain ⟨ad, A2, c2, hA, x0, x1, x2, hl2, hC2⟩ := at_T35 (Kd.C_below H0.out BW.out) (i : Int) hi0 hltz
      subst hA
      rw [Int.toNat_natCast] at x0 x1 x2
      have hxl : l[i]? = some (rd_T35 l (i : Int)) := by
        unfold rd_T35
        rw [Int.toNat_natCast, List.getD_eq_getElem?_getD, List.getElem?_eq_getElem hlt]
        rfl
      generalize rd_T35 l (i : Int) = x at x0 x1 x2 hl2 hC2 hxl
      have HXL := Aside0.mk hxl
      have HL2 := Aside0.mk hl2
      have HC2 := Aside0.mk hC2
      have hwi : wrap64 ((i : Int) + 1) = ((i + 1 : Nat) : Int) := by have := H2.out; unfold wrap64; omega
      have hz : (Try.prog.info? 35).map (fun i => i.zero) = some (some (.agg #[(.int .i64 0), (.int .i64 0), (.slice none 0 0)])) := by kernel_rfl
      clear hxl hl2 hC2
      go_upto_region 6 with ((with_reducible refine gate_dst (N := 6) rfl ?_); refine box_event ?hg (N := 6) ?hd (cs := #[.int .i64 0, .int .i64 0, .slice none 0 0]) (t := 35) ?hr ?_; (case hd => rfl); (case hg => rfl); (case hr => first | (go_simp; done) | (go_simp; rfl)); intro g6 hg6 w3 hbox hb3; have KB := Aside0.mk hbox; have KG := Aside0.mk hg6; have HB3 := Aside0.mk hb3; clear hbox hg6 hb3; obtain ⟨z0, z1, z2⟩ := c3_ KB; obtain ⟨f0, f1, f2⟩ := z3_ KB)
      have K6 := Aside0.mk (b3_ (a0 := .int .i64 x.f0) (a1 := .int .i64 x.f1) (a2 := .slice A2 x.f2.length c2) KB.out)
      have hge : wr.heap.size ≤ g6 := Nat.le_of_eq KG.out.symm
      have HB4 := Aside0.mk (((HB3.out.setCell (p := ⟨g6, 0, none⟩) hge (.int .i64 x.f0)).setCell (p := ⟨g6, 1, none⟩) hge (.int .i64 x.f1)).setCell (p := ⟨g6, 2, none⟩) hge (.slice A2 x.f2.length c2))
      clear z0 z1 z2 f0 f1 f2 KB HB3 hz hge
      generalize ((w3.setCell ⟨g6, 0, none⟩ (.int .i64 x.f0)).setCell ⟨g6, 1, none⟩ (.int .i64 x.f1)).setCell ⟨g6, 2, none⟩ (.slice A2 x.f2.length c2) = w4 at K6 HB4 ⊢
      have OM4 := Aside0.mk (own_block OM.out (HB4.out.block bM OM.out.lt))
      have RO4 := Aside0.mk (Kd.R_below RO.out HB4.out)
      have LI4 := Aside0.mk (LI.out.below HB4.out)
      have BW4 := Aside0.mk (below_step BW.out HB4.out)
      have HC4 := Aside0.mk (Kd.C_below HC2.out HB4.out)
      have HWX := Aside0.mk (H3.out x (List.mem_of_getElem? HXL.out))
      have hdr : l.drop i = x :: l.drop (i + 1) := by
        obtain ⟨hk, e⟩ := List.getElem?_eq_some_iff.1 HXL.out
        rw [List.drop_eq_getElem_cons hk, e]
      have htk : l.take (i + 1) = l.take i ++ [x] := by rw [List.take_add_one, HXL.out]; rfl
      have HTK := Aside0.mk htk
      rw [hdr, linesF] at LF
      clear OM RO LI BW HC2 HB4 hdr htk x0 x1 x2
      have hmx : i < maxLen := by have := H2.out; unfold maxLen; omega
      obtain ⟨d0, d1, d2⟩ := c3_ K6
      cases hS : ((l.take i).map fun a => a.f0).reverse.contains x.f0 with
      | true =>
        rw [hS, if_pos rfl] at LF
        have HS := Aside0.mk hS
        clear hS
        go_upto_region 9 with (first
          | (at_lookup; refine greedy_lines.look rfl _ _ 71 rfl 3 4 (Maps.int_keyed Try.underlying3) Try.underlying71 (Try.zeroValue4 _) bM i _ rfl OM4.out _ _ rfl (Maps.keyOf_int_mk Try.underlying3 HWX.out) ?_; intro v hv; rw [greedy_lines.seen, HS.out] at hv; injection hv with hv; subst hv)
          | (at_mapUpdate; refine wpList_mapUpdate_own _ rfl _ _ _ 71 rfl 3 4 (Maps.int_keyed Try.underlying3) Try.underlying71 MapK.Rh bM i _ rfl OM4.out hmx _ _ _ rfl rfl (Maps.keyOf_int_mk Try.underlying3 HWX.out) _ [] rfl ?_; intro w5 hown5 hgrow5; have OM5 := Aside0.mk hown5; have HG5 := Aside0.mk hgrow5; clear hown5 hgrow5))
        have HLR := Aside0.mk (fun k (e : some bM = some k) => (by
          cases e
          exact ⟨NM.out, fun y hy q => by
            have h1 := (LI4.out.at_ y hy).2.1
            obtain ⟨es, ck, h2, _⟩ := OM4.out
            rw [q, h1] at h2
            cases h2⟩ : ¬ F k ∧ ∀ y ∈ Y, k ≠ y.g))
        have OM6 := Aside0.mk (show w5.ownsMap Try.prog 3 MapK.Rh bM (i + 1) (MapK.dat ((l.take (i + 1)).map fun a => (a.f0, .bool true))) by rw [HTK.out, List.map_append, List.map_cons, List.map_nil, MapK.dat_snoc]; exact OM5.out)
        clear OM5
        go_wp2
        go_roundg (l.length - (i + 1))
        case measure => omega
        case rel =>
          exact ⟨i + 1, Y, F, rest, by omega, by omega, by omega, by first | rfl | rw [hwi] | go_num, ⟨BW4.out.grown HG5.out (below_size BW4.out) (fun k e => by cases e; exact Nat.le_of_eq HE.out.symm)⟩, OM6, ⟨Kd.R_grown RO4.out HG5.out (fun k hk e => hk (Option.some.inj e))⟩, ⟨LI4.out.grown HG5.out HLR.out⟩, NF, NM, ⟨by rw [HTK.out, List.map_append, List.reverse_append]; exact LF.out⟩, EQ⟩
      | false =>
        rw [hS, if_neg (by decide)] at LF
        have HS := Aside0.mk hS
        clear hS
        obtain ⟨r, hr5, LF2⟩ := Option.bind_eq_some_iff.1 LF.out
        obtain ⟨t2, ht2, hrest⟩ := Option.bind_eq_some_iff.1 LF2
        obtain rfl := Option.some.inj hrest
        have HR5 := Aside0.mk hr5
        have HT2 := Aside0.mk ht2
        clear hr5 ht2 hrest LF LF2
        have i50 : (Try.prog.info? 50).map (fun i => (i.zero, i.size, i.bytes)) = some (some (.pointer none), 1, 8) := by kernel_rfl
        have I50 := Aside0.mk i50
        clear i50
        go_upto_region 8 with (first
          | (at_lookup; refine greedy_lines.look rfl _ _ 71 rfl 3 4 (Maps.int_keyed Try.underlying3) Try.underlying71 (Try.zeroValue4 _) bM i _ rfl OM4.out _ _ rfl (Maps.keyOf_int_mk Try.underlying3 HWX.out) ?_; intro v hv; rw [greedy_lines.seen, HS.out] at hv; injection hv with hv; subst hv)
          | (go_at_call 34; refine (greedy_ready.calls x.f0 x.f1 A2 c2 x.f2 r w4 HC4.out HL2.out HR5.out).mono ?_; rintro e w5 ⟨v5, rfl, hR5, hb5⟩; obtain ⟨A5, c5, rfl⟩ := Kd.R_slice hR5; have RR := Aside0.mk hR5; have HB5 := Aside0.mk hb5; clear hR5 hb5; have OM5 := Aside0.mk (own_block OM4.out (HB5.out.block bM OM4.out.lt)); have RO5 := Aside0.mk (Kd.R_below RO4.out HB5.out); have BW5 := Aside0.mk (below_step BW4.out HB5.out); have K65 := Aside0.mk (blk_below K6.out HB5.out); have hsz5 := Aside0.mk (World.size_alloc w5 (.cells #[.slice A5 r.length c5] 52)))
          | (at_builtin; refine Kd.R_append (Kd.scalar encL encL1) (w0 := w) (W := w5.alloc (.cells #[.slice A5 r.length c5] 52)) w.heap.size rfl (.tmp 19) (.tmp 24) 48 50 (.pointer none) 8 rfl Try.underlying48 I50.out rfl (by decide) (by omega) u4 (Y.map LineW.g) w5.heap.size [encL w5.heap.size] (fun k => k ≠ bM) (fun _ => False) rfl ?hx ?aP (fun _ hk => hk.elim) ?aF ?aO ?aB ?aS ?aL ?_; (case hx => (rw [hsz5.out]; rfl)); (case aP => rfl); (case aF => (intro k hk; rw [hsz5.out] at hk; have := OM5.out.lt; omega)); (case aO => exact Kd.R_alloc RO5.out _); (case aB => exact below_alloc BW5.out _); (case aS => exact below_size (below_alloc BW5.out _)); (case aL => (rw [List.length_map]; have := H2.out; omega)); intro v8 w8 hr8 hb8 hg8 hat8; have RO8 := Aside0.mk hr8; have BW8 := Aside0.mk hb8; have HG8 := Aside0.mk hg8; have HAT := Aside0.mk hat8; clear hr8 hb8 hg8 hat8))
        have hlt4 : ∀ k, u4.ownBlock = some k → k < w4.heap.size := Kd.R_lt RO4.out
        have hty4 : ∀ k, u4.ownBlock = some k → ∃ cells, w4.heap[k]? = some (.cells cells 50 (0, 0)) := Kd.R_typed RO4.out
        have hs45 := below_size HB5.out
        have LI6 := Aside0.mk (Lines.add LI4.out HB5.out (below_size BW4.out) RR.out)
        have hne8 : ∀ k, u4.ownBlock = some k → ¬ (F k ∨ (w4.heap.size ≤ k ∧ k < w5.heap.size)) ∧ ∀ y ∈ Y ++ [⟨w5.heap.size, A5, c5, r⟩], k ≠ y.g := fun k e => by
          have h1 := hlt4 k e
          refine ⟨fun q => by
            rcases q with q | q
            · exact NF.out k e q
            · omega, fun y hy q => ?_⟩
          rcases List.mem_append.1 hy with hy | hy
          · obtain ⟨cs, h2⟩ := hty4 k e
            rw [q, (LI4.out.at_ y hy).2.1] at h2
            cases h2
          · rw [List.mem_singleton] at hy
            subst hy
            have : k = w5.heap.size := q
            omega
        have LI8 := Aside0.mk (LI6.out.grown HG8.out hne8)
        have OM8 := Aside0.mk ((OM5.out.alloc (.cells #[.slice A5 r.length c5] 52)).kept HG8.out (fun e => (RO4.out.1 bM e.symm) rfl))
        have NF8 := Aside0.mk (fun k (e : v8.ownBlock = some k) => (by
          rcases HAT.out with q | ⟨b, q, hb⟩
          · exact (hne8 k (q.symm.trans e)).1
          · rw [q] at e
            cases e
            rw [hsz5.out] at hb
            rintro (z | z)
            · have := (LI4.out.ff k z).2.1
              omega
            · omega : ¬ (F k ∨ (w4.heap.size ≤ k ∧ k < w5.heap.size))))
        have NM8 := Aside0.mk (fun z => (by
          rcases z with z | z
          · exact NM.out z
          · have := OM4.out.lt
            omega) : ¬ (F bM ∨ (w4.heap.size ≤ bM ∧ bM < w5.heap.size)))
        have K68 := Aside0.mk ((HG8.out.block g6 (blk_lt (blk_alloc K65.out _)) (fun e => by
          obtain ⟨cs, h2⟩ := hty4 g6 e.symm
          rw [K6.out] at h2
          cases h2)).trans (blk_alloc K65.out _))
        clear hlt4 hty4 hs45 hne8 LI6 HG8 HAT K65 RO5 BW5 OM5 d0 d1 d2 hsz5
        obtain ⟨d0, d1, d2⟩ := c3_ K68
        go_upto_region 9 with (at_mapUpdate; refine wpList_mapUpdate_own _ rfl _ _ _ 71 rfl 3 4 (Maps.int_keyed Try.underlying3) Try.underlying71 MapK.Rh bM i _ rfl OM8.out hmx _ _ _ rfl rfl (Maps.keyOf_int_mk Try.underlying3 HWX.out) _ [] rfl ?_; intro w9 hown9 hgrow9; have OM9 := Aside0.mk hown9; have HG9 := Aside0.mk hgrow9; clear hown9 hgrow9)
        have HLR := Aside0.mk (fun k (e : some bM = some k) => (by
          cases e
          exact ⟨NM8.out, fun y hy q => by
            have h1 := (LI8.out.at_ y hy).2.1
            obtain ⟨es, ck, h2, _⟩ := OM8.out
            rw [q, h1] at h2
            cases h2⟩ : ¬ (F k ∨ (w4.heap.size ≤ k ∧ k < w5.heap.size)) ∧ ∀ y ∈ Y ++ [⟨w5.heap.size, A5, c5, r⟩], k ≠ y.g))
        have OM6 := Aside0.mk (show w9.ownsMap Try.prog 3 MapK.Rh bM (i + 1) (MapK.dat ((l.take (i + 1)).map fun a => (a.f0, .bool true))) by rw [HTK.out, List.map_append, List.map_cons, List.map_nil, MapK.dat_snoc]; exact OM9.out)
        have hRO : Kd.R (Kd.scalar encL encL1) 50 w8 w.heap.size (fun k => k ≠ bM) v8 ((Y ++ [(⟨w5.heap.size, A5, c5, r⟩ : LineW)]).map LineW.g) := by rw [List.map_append]; exact RO8.out
        have RO9 := Aside0.mk hRO
        have hlen : (Y ++ [(⟨w5.heap.size, A5, c5, r⟩ : LineW)]).length ≤ i + 1 := by rw [List.length_append, List.length_singleton]; omega
        have HEQ := Aside0.mk (show (Y ++ [(⟨w5.heap.size, A5, c5, r⟩ : LineW)]).map LineW.xs ++ t2 = R by rw [List.map_append, List.append_assoc]; exact EQ.out)
        clear OM9 d0 d1 d2 hRO
        go_wp2
        go_roundg (l.length - (i + 1))
        case measure => omega
        case rel =>
          exact ⟨i + 1, Y ++ [(⟨w5.heap.size, A5, c5, r⟩ : LineW)], fun k => F k ∨ (w4.heap.size ≤ k ∧ k < w5.heap.size), t2, by omega, hlen, by omega, by first | rfl | rw [hwi] | go_num, ⟨BW8.out.grown HG9.out (below_size BW8.out) (fun k e => by cases e; exact Nat.le_of_eq HE.out.symm)⟩, OM6, ⟨Kd.R_grown RO9.out HG9.out (fun k hk e => hk (Option.some.inj e))⟩, ⟨LI8.out.grown HG9.out HLR.out⟩, NF8, NM8, ⟨by rw [HTK.out, List.map_append, List.reverse_append]; exact HT2.out⟩, HEQ⟩
    · have hin : i = l.length := by omega
      have hltz : ¬ (i : Int) < (l.length : Int) := by omega
      go_wp2
      go_ret
      refine ⟨_, rfl, Y, Kd.R_mono RO.out (fun _ _ => trivial), F, LI.out, NF.out, ?_, BW.out⟩
      have h1 := LF.out
      rw [List.drop_eq_nil_of_le (by omega)] at h1
      have h2 := EQ.out
      rw [show rest = [] from (Option.some.inj h1).symm, List.append_nil] at h2
      exact h2


/-! ### greedy_Heads: function 14, by hand -/
-- HAND rounds=0 making=1
-- NEEDS hopper/greedy.lines
/-- The heads of accounts' lines. -/
def headsF (R : List (List S38)) : List S38 := R.filterMap List.head?
def greedy_Heads.f (l : List S35) : Option (List S38) := if l.length < 1000000000000 ∧ (l.all fun a => (Lit.int .i64 a.f0).wf) = true then (linesF [] l).map headsF else none
theorem linesF_len : ∀ (l : List S35) (S : List Int) (R : List (List S38)), linesF S l = some R → R.length ≤ l.length
  | [], S, R, h => by
    obtain rfl := Option.some.inj h
    exact Nat.le_refl _
  | a :: l, S, R, h => by
    rw [linesF] at h
    split at h
    · exact Nat.le_trans (linesF_len l _ R h) (Nat.le_succ _)
    · obtain ⟨r, _, h⟩ := Option.bind_eq_some_iff.1 h
      obtain ⟨t, ht, h⟩ := Option.bind_eq_some_iff.1 h
      obtain rfl := Option.some.inj h
      exact Nat.succ_le_succ (linesF_len l _ t ht)
set_option maxHeartbeats 8000000 in
set_option maxRecDepth 100000 in
theorem greedy_Heads.calls (A0 : Option Addr) (c0 : Nat) (l0 : List S35) (r : List S38) (w : World) (hr0 : Kd.C k35 w A0 l0.length l0) (hc0 : l0.length ≤ c0) (h : greedy_Heads.f l0 = some r) :
    Calls Try.prog 14 #[.slice A0 l0.length c0] w fun e w' => ∃ v0_ : Value, e = .returned (v0_) ∧ Kd.R k38 38 w' w.heap.size (fun _ => True) v0_ r ∧ Below w.heap.size w w' := by
  unfold greedy_Heads.f at h
  by_cases hl : l0.length < 1000000000000 ∧ (l0.all fun a => (Lit.int .i64 a.f0).wf) = true
  rotate_left
  · rw [if_neg hl] at h; cases h
  rw [if_pos hl] at h
  obtain ⟨R, hR, hr⟩ := Option.map_eq_some_iff.1 h
  have H0 := Aside0.mk hr0
  have H1 := Aside0.mk hc0
  have HC := Aside0.mk (greedy_lines.calls A0 c0 l0 R w hr0 hc0 hl.1 (fun a ha => List.all_eq_true.1 hl.2 a ha) hR)
  have HN := Aside0.mk (Nat.lt_of_le_of_lt (linesF_len _ _ _ hR) hl.1)
  have HR := Aside0.mk hr
  clear h hl hR hr hr0 hc0
  go_enter Try.func14, Try.ntmps14
  go_wp2_with (go_at_call 27; refine HC.out.mono ?_; rintro e w1 ⟨v, Y, F, rfl, hRO, hLI, hNF, hY, hb⟩; have RO := Aside0.mk hRO; have LI := Aside0.mk hLI; have HY := Aside0.mk hY; have HB := Aside0.mk hb; clear hRO hLI hNF hY hb; obtain ⟨A, c, hv⟩ := Kd.R_slice RO.out; subst hv)
  have hlenY : (Y.map LineW.g).length = Y.length := List.length_map ..
  have hYl : Y.length = R.length := by rw [← HY.out, List.length_map]
  have HN2 := Aside0.mk (show Y.length < 1000000000000 by rw [hYl]; exact HN.out)
  rw [hlenY] at RO
  clear HC HN hYl
  go_loopg [3, 5, 9] Y.length (fun gg s3 _ s9 wr => ∃ (i : Nat) (acc : List S38), i ≤ Y.length ∧ acc.length ≤ i ∧ Y.length - i ≤ gg ∧ s9 = .int .i64 (i : Int) ∧ Aside0 (Below w1.heap.size w1 wr) ∧ Aside0 (Kd.R k38 38 wr w1.heap.size (fun _ => True) s3 acc) ∧ Aside0 (acc ++ headsF ((Y.drop i).map LineW.xs) = r))
  case atStart => exact ⟨0, [], Nat.zero_le _, Nat.le_refl _, by omega, rfl, ⟨Below.refl _ _⟩, ⟨Kd.R_nil _ _ _ _ _⟩, ⟨by rw [List.drop_zero, HY.out]; exact HR.out⟩⟩
  case round =>
    obtain ⟨i, acc, hi, hacc, hg, rfl, BW, AC, EQ⟩ := hrel
    by_cases hlt : i < Y.length
    · have hltz : (i : Int) < (Y.length : Int) := by omega
      have hi0 : (0 : Int) ≤ (i : Int) := by omega
      obtain ⟨g, cap, hv, _, _, _⟩ := Kd.R_form RO.out (by rw [hlenY]; omega)
      injection hv with hA hn_ hc
      clear hn_
      subst hA hc
      obtain ⟨y, hy⟩ : ∃ y, Y[i]? = some y := ⟨_, List.getElem?_eq_getElem hlt⟩
      have hym := List.mem_of_getElem? hy
      have hc1 : w1.cell? ⟨g, i, none⟩ = some (.pointer (some ⟨y.g, 0, none⟩)) := by
        have := (Kd.R_celln (d := 0) RO.out (i : Int) hi0 (by omega)).1
        rw [Int.toNat_natCast] at this
        rw [this]
        have e : rdOf 0 (Y.map LineW.g) (i : Int) = y.g := by
          unfold rdOf
          rw [Int.toNat_natCast, List.getD_eq_getElem?_getD, List.getElem?_map, hy]
          rfl
        rw [e]
        rfl
      have p0 := on_ BW.out hc1
      have q0 : wr.cell? ⟨y.g, 0, none⟩ = some (.slice y.A y.xs.length y.c) := on_ BW.out ((blk_cell (LI.out.at_ y hym).2.1 0).trans rfl)
      have HV := Aside0.mk (Kd.V_below (LI.out.at_ y hym).2.2 BW.out)
      have hdr : Y.drop i = y :: Y.drop (i + 1) := by
        obtain ⟨hk, e⟩ := List.getElem?_eq_some_iff.1 hy
        rw [List.drop_eq_getElem_cons hk, e]
      rw [hdr, List.map_cons] at EQ
      have hwi : wrap64 ((i : Int) + 1) = ((i + 1 : Nat) : Int) := by have := HN2.out; unfold wrap64; omega
      clear hc1 hym hdr hy hlenY
      cases hx : y.xs with
      | nil =>
        rw [hx] at q0 EQ
        rw [List.length_nil] at q0
        have HX := Aside0.mk hx
        clear hx
        go_wp2
        go_roundg (Y.length - (i + 1))
        case measure => omega
        case rel => exact ⟨i + 1, acc, by omega, by omega, by omega, by first | rfl | rw [hwi] | go_num, BW, AC, EQ⟩
      | cons t ts =>
        have h0 : (0 : Int) < (y.xs.length : Int) := by rw [hx, List.length_cons]; omega
        have h00 : 0 < y.xs.length := by omega
        obtain ⟨ad, hA, t0, t1, t2, t3, t4, t5⟩ := at_T38 (Kd.V_reads' HV.out).2.2 0 (by decide) h0
        rw [hA] at q0
        have ht : rd_T38 y.xs 0 = t := by
          unfold rd_T38
          rw [hx]
          rfl
        rw [ht] at t0 t1 t2 t3 t4 t5
        simp only [show (0 : Int).toNat * 6 = 0 from rfl, Addr.add_zero'] at t0 t1 t2 t3 t4 t5
        have EQ2 := Aside0.mk (show (acc ++ [t]) ++ headsF ((Y.drop (i + 1)).map LineW.xs) = r by
          have := EQ.out
          rw [hx] at this
          rw [List.append_assoc]
          exact this)
        have hgt : (y.xs.length : Int) > 0 := h0
        clear hx ht hA EQ
        go_wp2_with (at_builtin; refine Kd.R_append k38 (w0 := w1) w1.heap.size rfl (.tmp 19) (.tmp 26) 23 38 (.agg #[(.int .i64 0), (.int .i64 0), (.int .i64 0), (.int .i64 0), (.int .i64 0), (.string ⟨#[]⟩)]) 56 rfl Try.underlying23 info38 rfl (by decide) (by omega) u3 acc t [.int .i64 t.f0, .int .i64 t.f1, .int .i64 t.f2, .int .i64 t.f3, .int .i64 t.f4, .string t.f5] (fun _ => True) (fun _ => False) rfl (by first | (go_simp; done) | (go_simp; rfl)) ?aP (fun _ hk => hk.elim) ?aF ?aO ?aB ?aS ?aL ?_; (case aP => exact k38_mkM _ _ _ t); (case aF => exact fun _ _ => trivial); (case aO => exact AC.out); (case aB => exact BW.out); (case aS => exact below_size BW.out); (case aL => (have := HN2.out; omega)); intro v8 w8 hr8 hb8 hg8 hat8; have AC8 := Aside0.mk hr8; have BW8 := Aside0.mk hb8; clear hr8 hb8 hg8 hat8)
        go_roundg (Y.length - (i + 1))
        case measure => omega
        case rel => exact ⟨i + 1, acc ++ [t], by omega, by rw [List.length_append, List.length_singleton]; omega, by omega, by first | rfl | rw [hwi] | go_num, BW8, AC8, EQ2⟩
    · have hltz : ¬ (i : Int) < (Y.length : Int) := by omega
      clear hlenY
      go_wp2
      go_ret
      refine ⟨_, rfl, Kd.R_lower (Kd.R_mono (show Kd.R k38 38 wr w1.heap.size (fun _ => True) _ r from ?_) (fun _ h => h)) (below_size HB.out), below_step HB.out BW.out⟩
      have h1 := EQ.out
      rw [List.drop_eq_nil_of_le (by omega)] at h1
      rw [← h1]
      exact (List.append_nil acc).symm ▸ AC.out


end Go.Proofs.Ytahopljippfadaa.D
